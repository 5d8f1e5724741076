/-
  Plain functions and their walks. Written by wip/tools/lift.py.
-/
import Derived.Test.YtpkjdjnakplnjaaGreatPS
namespace Go.Pm
open Go.Am IntKind
open Go.Proofs
set_option maxRecDepth 100000
attribute [local irreducible] pw pwx pw1 pwg qv qz qf
attribute [-simp] List.map_set
set_option linter.unusedSimpArgs false
set_option linter.unusedVariables false
noncomputable section
structure Group where
 P : Int
 Q : Int
 G : Int
structure l1Cur where
 code : (List Int)
 at_ : Int
 seed : Int
structure Dealing where
 Commits : (List Int)
 Shares : (List Int)
structure Cipher where
 A : Int
 B : Int
structure Proof where
 Commits : (List Int)
 Challenges : (List Int)
 Responses : (List Int)
structure Partial where
 Index : Int
 Value : Int
 Pi : Proof
structure KeyGen where
 Qualified : (List Int)
 Key : Int
 Commits : (List Int)
 Shares : (List Int)
structure Fault where
 Dealer : Int
 Trustee : Int
 Delta : Int
 Answers : Bool
structure l3State where
 s : Int
 t : Int
structure EqualLog where
 G1 : Int
 Y1 : Int
 G2 : Int
 Y2 : Int
def zfb (x : Int) : List PV := [.int .u8 x]
@[go_sem] theorem zDP {x : Int} : zfb x = [.int .u8 x] := (rfl)
@[go_sem] theorem zq9 {l : List Int} : List.map (List.map drop ∘ zfb) l = l.map zfb := by refine List.map_congr_left fun x _ => ?_; simp [go_sem]
@[go_sem] theorem zy9 {l : List Int} : List.map (List.map drop) (l.map zfb) = l.map zfb := by rw [List.map_map]; exact zq9
@[go_sem] theorem zAg {l : List Int} {i : Nat} {a : Int} : (l.map zfb).set i [.int .u8 a] = (l.set i a).map zfb := by rw [List.map_set]; rfl
def zah (x : Int) : List PV := [.int .i64 x]
@[go_sem] theorem zB4 {x : Int} : zah x = [.int .i64 x] := (rfl)
@[go_sem] theorem zpz {l : List Int} : List.map (List.map drop ∘ zah) l = l.map zah := by refine List.map_congr_left fun x _ => ?_; simp [go_sem]
@[go_sem] theorem zxL {l : List Int} : List.map (List.map drop) (l.map zah) = l.map zah := by rw [List.map_map]; exact zpz
@[go_sem] theorem zzP {l : List Int} {i : Nat} {a : Int} : (l.map zah).set i [.int .i64 a] = (l.set i a).map zah := by rw [List.map_set]; rfl
def zdy (x : List Int) : List PV := [.sl false 1 (x.map zah)]
@[go_sem] theorem zzK {x : (List Int)} : zdy x = [.sl false 1 (x.map zah)] := (rfl)
@[go_sem] theorem zoG {l : List (List Int)} : List.map (List.map drop ∘ zdy) l = l.map zdy := by refine List.map_congr_left fun x _ => ?_; simp [go_sem]
@[go_sem] theorem zxp {l : List (List Int)} : List.map (List.map drop) (l.map zdy) = l.map zdy := by rw [List.map_map]; exact zoG
@[go_sem] theorem zyL {l : List (List Int)} {i : Nat} {a : (List Int)} : (l.map zdy).set i [.sl false 1 (a.map zah)] = (l.set i a).map zdy := by rw [List.map_set]; rfl
def zgS (x : List Int) : List PV := [.sl true 1 (x.map zah)]
@[go_sem] theorem zz3 {x : (List Int)} : zgS x = [.sl true 1 (x.map zah)] := (rfl)
@[go_sem] theorem zoC {l : List (List Int)} : List.map (List.map drop ∘ zgS) l = l.map zdy := by refine List.map_congr_left fun x _ => ?_; simp [go_sem]
@[go_sem] theorem zwK {l : List (List Int)} : List.map (List.map drop) (l.map zgS) = l.map zdy := by rw [List.map_map]; exact zoC
@[go_sem] theorem zyz {l : List (List Int)} {i : Nat} {a : (List Int)} : (l.map zgS).set i [.sl true 1 (a.map zah)] = (l.set i a).map zgS := by rw [List.map_set]; rfl
def zeZ (x : Fault) : List PV := [.int .i64 x.Dealer, .int .i64 x.Trustee, .int .i64 x.Delta, .bool x.Answers]
@[go_sem] theorem zy5 {x : Fault} : zeZ x = [.int .i64 x.Dealer, .int .i64 x.Trustee, .int .i64 x.Delta, .bool x.Answers] := (rfl)
@[go_sem] theorem znA {l : List Fault} : List.map (List.map drop ∘ zeZ) l = l.map zeZ := by refine List.map_congr_left fun x _ => ?_; simp [go_sem]
@[go_sem] theorem zwa {l : List Fault} : List.map (List.map drop) (l.map zeZ) = l.map zeZ := by rw [List.map_map]; exact znA
@[go_sem] theorem zxV {l : List Fault} {i : Nat} {Dealer : Int} {Trustee : Int} {Delta : Int} {Answers : Bool} : (l.map zeZ).set i [.int .i64 Dealer, .int .i64 Trustee, .int .i64 Delta, .bool Answers] = (l.set i (Fault.mk Dealer Trustee Delta Answers)).map zeZ := by rw [List.map_set]; rfl
def zbr (x : Dealing) : List PV := [.sl false 1 (x.Commits.map zah), .sl false 1 (x.Shares.map zah)]
@[go_sem] theorem zuT {x : Dealing} : zbr x = [.sl false 1 (x.Commits.map zah), .sl false 1 (x.Shares.map zah)] := (rfl)
@[go_sem] theorem zkD {l : List Dealing} : List.map (List.map drop ∘ zbr) l = l.map zbr := by refine List.map_congr_left fun x _ => ?_; simp [go_sem]
@[go_sem] theorem zst {l : List Dealing} : List.map (List.map drop) (l.map zbr) = l.map zbr := by rw [List.map_map]; exact zkD
@[go_sem] theorem zty {l : List Dealing} {i : Nat} {Commits : (List Int)} {Shares : (List Int)} : (l.map zbr).set i [.sl false 1 (Commits.map zah), .sl false 1 (Shares.map zah)] = (l.set i (Dealing.mk Commits Shares)).map zbr := by rw [List.map_set]; rfl
def zdC (x : Dealing) : List PV := [.sl true 1 (x.Commits.map zah), .sl true 1 (x.Shares.map zah)]
@[go_sem] theorem zuU {x : Dealing} : zdC x = [.sl true 1 (x.Commits.map zah), .sl true 1 (x.Shares.map zah)] := (rfl)
@[go_sem] theorem zky {l : List Dealing} : List.map (List.map drop ∘ zdC) l = l.map zbr := by refine List.map_congr_left fun x _ => ?_; simp [go_sem]
@[go_sem] theorem zsv {l : List Dealing} : List.map (List.map drop) (l.map zdC) = l.map zbr := by rw [List.map_map]; exact zky
@[go_sem] theorem ztN {l : List Dealing} {i : Nat} {Commits : (List Int)} {Shares : (List Int)} : (l.map zdC).set i [.sl true 1 (Commits.map zah), .sl true 1 (Shares.map zah)] = (l.set i (Dealing.mk Commits Shares)).map zdC := by rw [List.map_set]; rfl
def zhL (x : Bool) : List PV := [.bool x]
@[go_sem] theorem zEO {x : Bool} : zhL x = [.bool x] := (rfl)
@[go_sem] theorem zsI {l : List Bool} : List.map (List.map drop ∘ zhL) l = l.map zhL := by refine List.map_congr_left fun x _ => ?_; simp [go_sem]
@[go_sem] theorem zz2 {l : List Bool} : List.map (List.map drop) (l.map zhL) = l.map zhL := by rw [List.map_map]; exact zsI
@[go_sem] theorem zDM {l : List Bool} {i : Nat} {a : Bool} : (l.map zhL).set i [.bool a] = (l.set i a).map zhL := by rw [List.map_set]; rfl
def zaY (x : Partial) : List PV := [.int .i64 x.Index, .int .i64 x.Value, .sl false 1 (x.Pi.Commits.map zah), .sl false 1 (x.Pi.Challenges.map zah), .sl false 1 (x.Pi.Responses.map zah)]
@[go_sem] theorem zw9 {x : Partial} : zaY x = [.int .i64 x.Index, .int .i64 x.Value, .sl false 1 (x.Pi.Commits.map zah), .sl false 1 (x.Pi.Challenges.map zah), .sl false 1 (x.Pi.Responses.map zah)] := (rfl)
@[go_sem] theorem zl6 {l : List Partial} : List.map (List.map drop ∘ zaY) l = l.map zaY := by refine List.map_congr_left fun x _ => ?_; simp [go_sem]
@[go_sem] theorem zuS {l : List Partial} : List.map (List.map drop) (l.map zaY) = l.map zaY := by rw [List.map_map]; exact zl6
@[go_sem] theorem zva {l : List Partial} {i : Nat} {Index : Int} {Value : Int} {PiCommits : (List Int)} {PiChallenges : (List Int)} {PiResponses : (List Int)} : (l.map zaY).set i [.int .i64 Index, .int .i64 Value, .sl false 1 (PiCommits.map zah), .sl false 1 (PiChallenges.map zah), .sl false 1 (PiResponses.map zah)] = (l.set i (Partial.mk Index Value (Proof.mk PiCommits PiChallenges PiResponses))).map zaY := by rw [List.map_set]; rfl
@[go_sem] theorem zwB {l : List Partial} {i : Nat} {Index : Int} {Value : Int} {Pi : Proof} : (l.map zaY).set i [.int .i64 Index, .int .i64 Value, .sl false 1 (Pi.Commits.map zah), .sl false 1 (Pi.Challenges.map zah), .sl false 1 (Pi.Responses.map zah)] = (l.set i (Partial.mk Index Value Pi)).map zaY := by rw [List.map_set]; rfl
def zce (x : Partial) : List PV := [.int .i64 x.Index, .int .i64 x.Value, .sl true 1 (x.Pi.Commits.map zah), .sl true 1 (x.Pi.Challenges.map zah), .sl true 1 (x.Pi.Responses.map zah)]
@[go_sem] theorem ztF {x : Partial} : zce x = [.int .i64 x.Index, .int .i64 x.Value, .sl true 1 (x.Pi.Commits.map zah), .sl true 1 (x.Pi.Challenges.map zah), .sl true 1 (x.Pi.Responses.map zah)] := (rfl)
@[go_sem] theorem zko {l : List Partial} : List.map (List.map drop ∘ zce) l = l.map zaY := by refine List.map_congr_left fun x _ => ?_; simp [go_sem]
@[go_sem] theorem zrh {l : List Partial} : List.map (List.map drop) (l.map zce) = l.map zaY := by rw [List.map_map]; exact zko
@[go_sem] theorem zsV {l : List Partial} {i : Nat} {Index : Int} {Value : Int} {PiCommits : (List Int)} {PiChallenges : (List Int)} {PiResponses : (List Int)} : (l.map zce).set i [.int .i64 Index, .int .i64 Value, .sl true 1 (PiCommits.map zah), .sl true 1 (PiChallenges.map zah), .sl true 1 (PiResponses.map zah)] = (l.set i (Partial.mk Index Value (Proof.mk PiCommits PiChallenges PiResponses))).map zce := by rw [List.map_set]; rfl
@[go_sem] theorem ztb {l : List Partial} {i : Nat} {Index : Int} {Value : Int} {Pi : Proof} : (l.map zce).set i [.int .i64 Index, .int .i64 Value, .sl true 1 (Pi.Commits.map zah), .sl true 1 (Pi.Challenges.map zah), .sl true 1 (Pi.Responses.map zah)] = (l.set i (Partial.mk Index Value Pi)).map zce := by rw [List.map_set]; rfl
def zdd (x : Cipher) : List PV := [.int .i64 x.A, .int .i64 x.B]
@[go_sem] theorem zxP {x : Cipher} : zdd x = [.int .i64 x.A, .int .i64 x.B] := (rfl)
@[go_sem] theorem zmN {l : List Cipher} : List.map (List.map drop ∘ zdd) l = l.map zdd := by refine List.map_congr_left fun x _ => ?_; simp [go_sem]
@[go_sem] theorem zvc {l : List Cipher} : List.map (List.map drop) (l.map zdd) = l.map zdd := by rw [List.map_map]; exact zmN
@[go_sem] theorem zwF {l : List Cipher} {i : Nat} {A : Int} {B : Int} : (l.map zdd).set i [.int .i64 A, .int .i64 B] = (l.set i (Cipher.mk A B)).map zdd := by rw [List.map_set]; rfl
def zcs (x : List Partial) : List PV := [.sl false 5 (x.map zaY)]
@[go_sem] theorem zwf {x : (List Partial)} : zcs x = [.sl false 5 (x.map zaY)] := (rfl)
@[go_sem] theorem zlO {l : List (List Partial)} : List.map (List.map drop ∘ zcs) l = l.map zcs := by refine List.map_congr_left fun x _ => ?_; simp [go_sem]
@[go_sem] theorem ztS {l : List (List Partial)} : List.map (List.map drop) (l.map zcs) = l.map zcs := by rw [List.map_map]; exact zlO
@[go_sem] theorem zv5 {l : List (List Partial)} {i : Nat} {a : (List Partial)} : (l.map zcs).set i [.sl false 5 (a.map zaY)] = (l.set i a).map zcs := by rw [List.map_set]; rfl
def zeo (x : List Partial) : List PV := [.sl true 5 (x.map zaY)]
@[go_sem] theorem zwk {x : (List Partial)} : zeo x = [.sl true 5 (x.map zaY)] := (rfl)
@[go_sem] theorem zlH {l : List (List Partial)} : List.map (List.map drop ∘ zeo) l = l.map zcs := by refine List.map_congr_left fun x _ => ?_; simp [go_sem]
@[go_sem] theorem ztY {l : List (List Partial)} : List.map (List.map drop) (l.map zeo) = l.map zcs := by rw [List.map_map]; exact zlH
@[go_sem] theorem zvU {l : List (List Partial)} {i : Nat} {a : (List Partial)} : (l.map zeo).set i [.sl true 5 (a.map zaY)] = (l.set i a).map zeo := by rw [List.map_set]; rfl
def vA (x : List Int) : PV := .sl false 1 (x.map zfb)
@[go_sem] theorem zOZ {x : (List Int)} : vA x = .sl false 1 (x.map zfb) := (rfl)
def vB (x0 : List Int) (x1 : Int) (x2 : Int) : PV := .bx [.sl false 1 (x0.map zfb), .int .i64 x1, .int .u64 x2]
@[go_sem] theorem zOP {x0 : (List Int)} {x1 : Int} {x2 : Int} : vB x0 x1 x2 = .bx [.sl false 1 (x0.map zfb), .int .i64 x1, .int .u64 x2] := (rfl)
def vC (x : List Int) : PV := .sl false 1 (x.map zah)
@[go_sem] theorem zPx {x : (List Int)} : vC x = .sl false 1 (x.map zah) := (rfl)
def vD (x : List Int) : PV := .sl true 1 (x.map zah)
@[go_sem] theorem zON {x : (List Int)} : vD x = .sl true 1 (x.map zah) := (rfl)
def vE (x : Group) : PV := .agg [.int .i64 x.P, .int .i64 x.Q, .int .i64 x.G]
@[go_sem] theorem zOr {x : Group} : vE x = .agg [.int .i64 x.P, .int .i64 x.Q, .int .i64 x.G] := (rfl)
def vF (x : Dealing) : PV := .agg [.sl true 1 (x.Commits.map zah), .sl true 1 (x.Shares.map zah)]
@[go_sem] theorem zOv {x : Dealing} : vF x = .agg [.sl true 1 (x.Commits.map zah), .sl true 1 (x.Shares.map zah)] := (rfl)
def vG (x : (List (List Int))) : PV := .sl true 1 (x.map zgS)
@[go_sem] theorem zPg {x : (List (List Int))} : vG x = .sl true 1 (x.map zgS) := (rfl)
def vH (x : (List (List Int))) : PV := .sl false 1 (x.map zdy)
@[go_sem] theorem zO1 {x : (List (List Int))} : vH x = .sl false 1 (x.map zdy) := (rfl)
def vI (x : List Fault) : PV := .sl false 4 (x.map zeZ)
@[go_sem] theorem zOU {x : (List Fault)} : vI x = .sl false 4 (x.map zeZ) := (rfl)
def vJ (x : List Dealing) : PV := .sl true 2 (x.map zbr)
@[go_sem] theorem zN7 {x : (List Dealing)} : vJ x = .sl true 2 (x.map zbr) := (rfl)
def vK (x : List Dealing) : PV := .sl true 2 (x.map zdC)
@[go_sem] theorem zPD {x : (List Dealing)} : vK x = .sl true 2 (x.map zdC) := (rfl)
def vL (x : List Bool) : PV := .sl true 1 (x.map zhL)
@[go_sem] theorem zOd {x : (List Bool)} : vL x = .sl true 1 (x.map zhL) := (rfl)
def vM (x : Dealing) : PV := .agg [.sl false 1 (x.Commits.map zah), .sl false 1 (x.Shares.map zah)]
@[go_sem] theorem zNQ {x : Dealing} : vM x = .agg [.sl false 1 (x.Commits.map zah), .sl false 1 (x.Shares.map zah)] := (rfl)
def vN (x : (List (List Int))) : PV := .sl true 1 (x.map zdy)
@[go_sem] theorem zN6 {x : (List (List Int))} : vN x = .sl true 1 (x.map zdy) := (rfl)
def vO (x : List Dealing) : PV := .sl false 2 (x.map zbr)
@[go_sem] theorem zOM {x : (List Dealing)} : vO x = .sl false 2 (x.map zbr) := (rfl)
def vP (x : KeyGen) : PV := .agg [.sl false 1 (x.Qualified.map zah), .int .i64 x.Key, .sl false 1 (x.Commits.map zah), .sl false 1 (x.Shares.map zah)]
@[go_sem] theorem zOn {x : KeyGen} : vP x = .agg [.sl false 1 (x.Qualified.map zah), .int .i64 x.Key, .sl false 1 (x.Commits.map zah), .sl false 1 (x.Shares.map zah)] := (rfl)
def vQ (x : Cipher) : PV := .agg [.int .i64 x.A, .int .i64 x.B]
@[go_sem] theorem zOw {x : Cipher} : vQ x = .agg [.int .i64 x.A, .int .i64 x.B] := (rfl)
def vR (x0 : Int) (x1 : Int) : PV := .bx [.int .i64 x0, .int .i64 x1]
@[go_sem] theorem zPZ {x0 : Int} {x1 : Int} : vR x0 x1 = .bx [.int .i64 x0, .int .i64 x1] := (rfl)
def vS (x : Proof) : PV := .agg [.sl true 1 (x.Commits.map zah), .sl true 1 (x.Challenges.map zah), .sl true 1 (x.Responses.map zah)]
@[go_sem] theorem zOH {x : Proof} : vS x = .agg [.sl true 1 (x.Commits.map zah), .sl true 1 (x.Challenges.map zah), .sl true 1 (x.Responses.map zah)] := (rfl)
def vT (x : Partial) : PV := .agg [.int .i64 x.Index, .int .i64 x.Value, .sl true 1 (x.Pi.Commits.map zah), .sl true 1 (x.Pi.Challenges.map zah), .sl true 1 (x.Pi.Responses.map zah)]
@[go_sem] theorem zOy {x : Partial} : vT x = .agg [.int .i64 x.Index, .int .i64 x.Value, .sl true 1 (x.Pi.Commits.map zah), .sl true 1 (x.Pi.Challenges.map zah), .sl true 1 (x.Pi.Responses.map zah)] := (rfl)
def vU (x : Proof) : PV := .agg [.sl false 1 (x.Commits.map zah), .sl false 1 (x.Challenges.map zah), .sl false 1 (x.Responses.map zah)]
@[go_sem] theorem zOA {x : Proof} : vU x = .agg [.sl false 1 (x.Commits.map zah), .sl false 1 (x.Challenges.map zah), .sl false 1 (x.Responses.map zah)] := (rfl)
def vV (x : List Partial) : PV := .sl true 5 (x.map zce)
@[go_sem] theorem zPU {x : (List Partial)} : vV x = .sl true 5 (x.map zce) := (rfl)
def vW (x : List Partial) : PV := .sl true 5 (x.map zaY)
@[go_sem] theorem zPE {x : (List Partial)} : vW x = .sl true 5 (x.map zaY) := (rfl)
def vX (x : List Cipher) : PV := .sl true 2 (x.map zdd)
@[go_sem] theorem zPC {x : (List Cipher)} : vX x = .sl true 2 (x.map zdd) := (rfl)
def vY (x : (List (List Partial))) : PV := .sl true 1 (x.map zeo)
@[go_sem] theorem zOc {x : (List (List Partial))} : vY x = .sl true 1 (x.map zeo) := (rfl)
def vZ (x : List Cipher) : PV := .sl false 2 (x.map zdd)
@[go_sem] theorem zOo {x : (List Cipher)} : vZ x = .sl false 2 (x.map zdd) := (rfl)
def vAA (x : (List (List Partial))) : PV := .sl false 1 (x.map zcs)
@[go_sem] theorem zMM {x : (List (List Partial))} : vAA x = .sl false 1 (x.map zcs) := (rfl)
def vAB (x : List Partial) : PV := .sl false 5 (x.map zaY)
@[go_sem] theorem zML {x : (List Partial)} : vAB x = .sl false 5 (x.map zaY) := (rfl)
def vAC (x : Partial) : PV := .agg [.int .i64 x.Index, .int .i64 x.Value, .sl false 1 (x.Pi.Commits.map zah), .sl false 1 (x.Pi.Challenges.map zah), .sl false 1 (x.Pi.Responses.map zah)]
@[go_sem] theorem zMy {x : Partial} : vAC x = .agg [.int .i64 x.Index, .int .i64 x.Value, .sl false 1 (x.Pi.Commits.map zah), .sl false 1 (x.Pi.Challenges.map zah), .sl false 1 (x.Pi.Responses.map zah)] := (rfl)
def vAD (x : EqualLog) : PV := .agg [.int .i64 x.G1, .int .i64 x.Y1, .int .i64 x.G2, .int .i64 x.Y2]
@[go_sem] theorem zMG {x : EqualLog} : vAD x = .agg [.int .i64 x.G1, .int .i64 x.Y1, .int .i64 x.G2, .int .i64 x.Y2] := (rfl)
@[go_sem] def zBw : List DE := [d0 0 [0], d0 1 [4], d0 2 [5], d0 3 [6], d0 4 [0], d0 5 [8], d0 6 [9], d0 7 [10], d0 8 [11], d0 9 [7, 12]]
@[go_sem] def zB9 : List DE := [d0 0 [0], d0 1 [14], d0 2 [15], d0 3 [16], d0 4 [0], d0 5 [18], d0 6 [19], d0 7 [20], d0 8 [17, 21], d0 9 [22], d0 10 [23], d0 11 [24]]
@[go_sem] def zA3 : List DE := [d0 0 [0], d0 1 [44], d0 2 [45], d0 3 [46], d0 4 [0], d0 5 [48], d0 6 [49], d0 7 [50], d0 8 [51], d0 9 [47, 52]]
def zb6 (a0c0 : List Int) (a0c1 : Int) (a0c2 : Int) : Option (Int × (List Int × Int × Int)) :=
 ((if decide (a0c1 < (a0c0.length : Int)) = true then (
 (ix a0c0 a0c1).bind fun x5 =>
 some (i64.wrap x5)) else (
 some 0) : Option Int).bind fun x3 =>
 if decide ((i64.wrap (a0c1 + 1)) ≤ (a0c0.length : Int)) = true then (
 some (x3, (a0c0, i64.wrap (a0c1 + 1), u64.wrap ((u64.wrap ((u64.wrap (a0c2 * 6364136223846793005)) + (u64.wrap x3))) + 1442695040888963407)))) else (
 some (i64.wrap (u64.wrap ((BitVec.ofInt u64.bits ((u64.wrap ((u64.wrap ((u64.wrap (a0c2 * 6364136223846793005)) + (u64.wrap x3))) + 1442695040888963407)).fdiv 1099511627776) &&& BitVec.ofInt u64.bits 255).toNat)), (a0c0, i64.wrap (a0c1 + 1), u64.wrap ((u64.wrap ((u64.wrap (a0c2 * 6364136223846793005)) + (u64.wrap x3))) + 1442695040888963407)))))
theorem zgp : ∀ {a0c0} {a0c1} {a0c2} {r}, zb6 a0c0 a0c1 a0c2 = some r → PCalls Tryz.prog 90 [(.io, vB a0c0 a0c1 a0c2)] (Eo (.int .i64 r.1) [vB r.2.1 r.2.2.1 r.2.2.2]) := by
 intro a0c0 a0c1 a0c2 r hr
 apply pF 62 [0] [] [] [.tmp 2] hr zFe Tryz.func90
 intro Φ hΦ hF g
 unfold zb6 at hF
 iterate 2 refine wW ?_
 refine wX zBw follows ?_
 try simp [go_sem, g]
 try intros
 refine wK [0, 3, 13] ?_
 refine wJ hF (fun x3 => [(0, .v (vB a0c0 a0c1 a0c2)), (3, .v (.int .i64 x3))]) (fun x3 hF => ?_) fun _ hj1 hF => ?_
 ·refine wW ?_
  refine wK [0, 3] ?_
  refine wX zA3 follows ?_
  try simp [go_sem, g]
  try intros
  refine wK [0, 3, 53] ?_
  refine wI hF (fun h6 hF => ?_) (fun h6 hF => ?_)
  ·exact wl hΦ hF
  have g := Ls g 40
  cases hΦ _ (zaa hF)
  iterate 2 refine wW ?_
  try simp [go_sem, g]
 refine wI hF (fun h4 hF => ?_) (fun h4 hF => ?_)
 ·refine wX zB9 follows ?_
  obtain ⟨x5, g, hF⟩ := Rx g hF
  exact wT (hj1 _) (zaa hF)
 exact wT (hj1 _) (zaa hF)
def zai (a0c0 : List Int) (a0c1 : Int) (a0c2 : Int) (a1 : Int) : Option (Int × (List Int × Int × Int)) :=
 if decide (a1 ≤ 1) = true then (
 some (0, (a0c0, a0c1, a0c2))) else (
 (zb6 a0c0 a0c1 a0c2).bind fun z2 =>
 ((if decide (200 < a1) = true then (
 (zb6 z2.2.1 z2.2.2.1 z2.2.2.2).bind fun z7 =>
 some ((z7.2.1, z7.2.2.1, z7.2.2.2), i64.wrap ((i64.wrap (z2.1 * 256)) + z7.1))) else (
 some ((z2.2.1, z2.2.2.1, z2.2.2.2), z2.1)) : Option (((List Int × Int × Int) × Int))).bind fun x5 =>
 gd (a1 ≠ 0) <|
 some (x5.2.tmod a1, (x5.1.1, x5.1.2.1, x5.1.2.2))))
theorem zak : ∀ {a0c0} {a0c1} {a0c2} {a1} {r}, zai a0c0 a0c1 a0c2 a1 = some r → PCalls Tryz.prog 32 [(.io, vB a0c0 a0c1 a0c2), (.sh, .int .i64 a1)] (Eo (.int .i64 r.1) [vB r.2.1 r.2.2.1 r.2.2.2, .junk]) := by
 intro a0c0 a0c1 a0c2 a1 r hr
 apply pF 20 [0] [] [] [.tmp 4] hr zHU Tryz.func32
 intro Φ hΦ hF g
 unfold zai at hF
 iterate 2 refine wW ?_
 refine wI hF (fun h1 hF => ?_) (fun h1 hF => ?_)
 ·exact wl hΦ hF
 refine wW ?_
 refine wC hF [.io] zgp (fun z2 hF => ?_)
 iterate 2 refine wW ?_
 refine wJ hF (fun x5 => [(0, .v (vB x5.1.1 x5.1.2.1 x5.1.2.2)), (1, .v (.int .i64 a1)), (5, .v (.int .i64 x5.2))]) (fun x5 hF => ?_) fun _ hj3 hF => ?_
 ·obtain ⟨g, hF⟩ := Rz g hF
  refine wK [0, 4] ?_
  exact wm hΦ hF
 refine wI hF (fun h6 hF => ?_) (fun h6 hF => ?_)
 ·refine wC hF [.io] zgp (fun z7 hF => ?_)
  exact wT (hj3 _) (zaa hF)
 exact wT (hj3 _) (zaa hF)
def za5 (a0c0 : List Int) (a0c1 : Int) (a0c2 : Int) (a1 : Int) : Option (Bool × (List Int × Int × Int)) :=
 (zai a0c0 a0c1 a0c2 a1).bind fun z1 =>
 some ((z1.1 == 0), (z1.2.1, z1.2.2.1, z1.2.2.2))
theorem zcj : ∀ {a0c0} {a0c1} {a0c2} {a1} {r}, za5 a0c0 a0c1 a0c2 a1 = some r → PCalls Tryz.prog 74 [(.io, vB a0c0 a0c1 a0c2), (.sh, .int .i64 a1)] (Eo (.bool r.1) [vB r.2.1 r.2.2.1 r.2.2.2, .junk]) := by
 intro a0c0 a0c1 a0c2 a1 r hr
 apply pF 9 [0] [] [] [.tmp 4] hr zGB Tryz.func74
 intro Φ hΦ hF g
 unfold za5 at hF
 refine wW ?_
 refine wC hF [.io, .sh] zak (fun z1 hF => ?_)
 exact wl hΦ hF
def zgk (a0c0 : List Int) (a0c1 : Int) (a0c2 : Int) (a1 : List Int) : Option (Int × (List Int × Int × Int)) :=
 (zai a0c0 a0c1 a0c2 (a1.length : Int)).bind fun z1 =>
 (ix a1 z1.1).bind fun x2 =>
 some (x2, (z1.2.1, z1.2.2.1, z1.2.2.2))
theorem zqv : ∀ {a0c0} {a0c1} {a0c2} {a1} {r}, zgk a0c0 a0c1 a0c2 a1 = some r → PCalls Tryz.prog 30 [(.io, vB a0c0 a0c1 a0c2), (.sh, vC a1)] (Eo (.int .i64 r.1) [vB r.2.1 r.2.2.1 r.2.2.2, .junk]) := by
 intro a0c0 a0c1 a0c2 a1 r hr
 apply pF 12 [0] [] [] [.tmp 4] hr zyr Tryz.func30
 intro Φ hΦ hF g
 unfold zgk at hF
 try simp [go_sem, g]
 try intros
 refine zau ?_
 try simp [go_sem, g]
 try intros
 refine wC hF [.io, .sh] zak (fun z1 hF => ?_)
 obtain ⟨x2, g, hF⟩ := Rx g hF
 exact wl hΦ hF
def zal (a0c0 : List Int) (a0c1 : Int) (a0c2 : Int) (a1 : List Int) : Option (Int × (List Int × Int × Int)) :=
 (zai a0c0 a0c1 a0c2 (a1.length : Int)).bind fun z1 =>
 (ix a1 z1.1).bind fun x2 =>
 some (x2, (z1.2.1, z1.2.2.1, z1.2.2.2))
theorem zaj : ∀ {a0c0} {a0c1} {a0c2} {a1} {r}, zal a0c0 a0c1 a0c2 a1 = some r → PCalls Tryz.prog 30 [(.io, vB a0c0 a0c1 a0c2), (.mv, vD a1)] (Eo (.int .i64 r.1) [vB r.2.1 r.2.2.1 r.2.2.2, .junk]) := by
 intro a0c0 a0c1 a0c2 a1 r hr
 apply pF 12 [0] [] [] [.tmp 4] hr zyr Tryz.func30
 intro Φ hΦ hF g
 unfold zal at hF
 try simp [go_sem, g]
 try intros
 refine zau ?_
 try simp [go_sem, g]
 try intros
 refine wC hF [.io, .sh] zak (fun z1 hF => ?_)
 obtain ⟨x2, g, hF⟩ := Rx g hF
 exact wl hΦ hF
def zbc (a0 : Int) (a1 : Int) (a2 : Int) : Option Bool :=
 ((if decide (a1 ≤ a0) = true then (
 some (decide (a0 ≤ a2))) else (
 some false) : Option Bool).bind fun x3 =>
 some x3)
theorem zbN : ∀ {a0} {a1} {a2} {r}, zbc a0 a1 a2 = some r → PCalls Tryz.prog 39 [(.sh, .int .i64 a0), (.sh, .int .i64 a1), (.sh, .int .i64 a2)] (Eo (.bool r) [.junk, .junk, .junk]) := by
 intro a0 a1 a2 r hr
 apply pF 15 [] [] [] [.tmp 6] hr zFs Tryz.func39
 intro Φ hΦ hF g
 unfold zbc at hF
 refine wW ?_
 refine wJ hF (fun x3 => [(6, .v (.bool x3))]) (fun x3 hF => ?_) fun _ hj1 hF => ?_
 ·exact wm hΦ hF
 refine wG hF (fun h4 hF => ?_) fun h4 hF => ?_
 ·exact wV h4 (hj1 _) (zaa hF)
 exact wV h4 (hj1 _) (zaa hF)
def zdm (a0 : Int) : Option Bool :=
 if decide (a0 < 2) = true then (
 some false) else (
 ((zbs (σ := Int) (fun s5 =>
 if decide ((i64.wrap (s5 * s5)) ≤ a0) = true then (
 gd (s5 ≠ 0) <|
 if ((a0.tmod s5) == 0) = true then (
 some (.out (.inr false))) else (
 some (.go (i64.wrap (s5 + 1))))) else (
 some (.out (.inl ())))) 2 : Option (Unit ⊕ Bool)).bind (Sum.elim (fun x4 =>
 some true) some)))
theorem zgE : ∀ {a0} {r}, zdm a0 = some r → PCalls Tryz.prog 151 [(.sh, .int .i64 a0)] (Eo (.bool r) [.junk]) := by
 intro a0 r hr
 apply pF 17 [] [] [] [.tmp 2] hr zAD Tryz.func151
 intro Φ hΦ hF g
 unfold zdm at hF
 iterate 2 refine wW ?_
 refine wI hF (fun h1 hF => ?_) (fun h1 hF => ?_)
 ·exact wl hΦ hF
 iterate 2 refine wW ?_
 refine wS hF (fun x4 => []) (fun x4 hF => ?_) fun _ hj2 hr3 hF => ?_
 ·exact wl hΦ hF
 refine wB ?_
 obtain ⟨b12, hb13, hψ9⟩ := hF
 refine pL hb13 (fun s5 => [(0, .v (.int .i64 a0)), (3, .v (.int .i64 s5))]) (fun s5 _ _ ho7 hg8 hF => ?_)
 refine wW ?_
 refine wI hF (fun h10 hF => ?_) (fun h10 hF => ?_)
 ·refine wW ?_
  refine wB ?_
  obtain ⟨g, hF⟩ := Rz g hF
  refine wK [0, 3, 16] ?_
  refine wI hF (fun h11 hF => ?_) (fun h11 hF => ?_)
  ·cases ho7 _ (zaa hF)
   cases hΦ _ (hr3 _ hψ9)
   refine wW ?_
   try simp [go_sem, g]
  refine wW ?_
  exact wT (hg8 _) (zaa hF)
 cases ho7 _ (zaa hF)
 exact wT (hj2 _) hψ9
def zbA (a0 : Int) (a1 : Int) (a2 : Int) : Option Int :=
 gd (a2 ≠ 0) <|
 ((zbs (σ := Int × Int × Int) (fun s4 =>
 if decide (0 < s4.2.1) = true then (
 ((if ((s4.2.1.tmod 2) == 1) = true then (
 gd (a2 ≠ 0) <|
 some ((i64.wrap (s4.2.2 * s4.1)).tmod a2)) else (
 some s4.2.2) : Option Int).bind fun x12 =>
 gd (a2 ≠ 0) <|
 some (.go ((i64.wrap (s4.1 * s4.1)).tmod a2, i64.wrap (s4.2.1.tdiv 2), x12)))) else (
 some (.out s4.2.2))) (a0, a1, (1 : Int).tmod a2) : Option Int).bind fun x3 =>
 some x3)
theorem zeK : ∀ {a0} {a1} {a2} {r}, zbA a0 a1 a2 = some r → PCalls Tryz.prog 152 [(.sh, .int .i64 a0), (.sh, .int .i64 a1), (.sh, .int .i64 a2)] (Eo (.int .i64 r) [.junk, .junk, .junk]) := by
 intro a0 a1 a2 r hr
 apply pF 28 [] [] [] [.tmp 6] hr zCD Tryz.func152
 intro Φ hΦ hF g
 unfold zbA at hF
 obtain ⟨g, hF⟩ := Rz g hF
 iterate 2 refine wW ?_
 refine wJ hF (fun x3 => [(7, .v (.int .i64 x3))]) (fun x3 hF => ?_) fun _ hj1 hF => ?_
 ·exact wl hΦ hF
 refine wB ?_
 obtain ⟨b14, hb15, hψ8⟩ := hF
 refine pL hb15 (fun s4 => [(0, .v (.int .i64 s4.1)), (1, .v (.int .i64 s4.2.1)), (2, .v (.int .i64 a2)), (7, .v (.int .i64 s4.2.2))]) (fun s4 _ _ ho6 hg7 hF => ?_)
 refine wW ?_
 refine wI hF (fun h9 hF => ?_) (fun h9 hF => ?_)
 ·refine wW ?_
  refine wB ?_
  have g := Ld g 2
  refine wW ?_
  refine wJ hF (fun x12 => [(0, .v (.int .i64 s4.1)), (1, .v (.int .i64 s4.2.1)), (2, .v (.int .i64 a2)), (7, .v (.int .i64 x12))]) (fun x12 hF => ?_) fun _ hj10 hF => ?_
  ·obtain ⟨g, hF⟩ := Rz g hF
   refine wK [0, 1, 2, 7] ?_
   exact wT (hg7 _) (zaa hF)
  refine wI hF (fun h13 hF => ?_) (fun h13 hF => ?_)
  ·obtain ⟨g, hF⟩ := Rz g hF
   exact wT (hj10 _) (zaa hF)
  exact wT (hj10 _) (zaa hF)
 cases ho6 _ (zaa hF)
 exact wT (hj1 _) hψ8
def zcW (a0 : Int) : Option (Group × Bool) :=
 (((zbc a0 2 1000000).bind fun z4 =>
 if (!z4) = true then (
 some true) else (
 (zdm a0).bind fun z6 =>
 some (!z6)) : Option Bool).bind fun x3 =>
 if x3 = true then (
 some ((Group.mk 0 0 0), false)) else (
 ((zbs (σ := Int) (fun s11 =>
 if decide (s11 ≤ 2000000000) = true then (
 (zdm s11).bind fun z17 =>
 if (!z17) = true then (
 some (.go (i64.wrap (s11 + a0)))) else (
 ((zbs (σ := Int) (fun s22 =>
 gd (a0 ≠ 0) <|
 (zbA s22 (i64.wrap ((i64.wrap (s11 - 1)).tdiv a0)) s11).bind fun z27 =>
 if (z27 == 1) = true then (
 some (.go (i64.wrap (s22 + 1)))) else (
 some (.out s22))) 2 : Option Int).bind fun x21 =>
 gd (a0 ≠ 0) <|
 (zbA x21 (i64.wrap ((i64.wrap (s11 - 1)).tdiv a0)) s11).bind fun z31 =>
 some (.out (.inr ((Group.mk s11 a0 z31), true)))))) else (
 some (.out (.inl ())))) (i64.wrap (a0 + 1)) : Option (Unit ⊕ (Group × Bool))).bind (Sum.elim (fun x10 =>
 some ((Group.mk 0 0 0), false)) some))))
theorem zgJ : ∀ {a0} {r}, zcW a0 = some r → PCalls Tryz.prog 88 [(.sh, .int .i64 a0)] (Eo (.tup [vE r.1, .bool r.2]) [.junk]) := by
 intro a0 r hr
 apply pF 46 [] [] [] [.cell 2 24, .tmp 3] hr zGq Tryz.func88
 intro Φ hΦ hF g
 unfold zcW at hF
 refine wW ?_
 refine wJ hF (fun x3 => [(0, .v (.int .i64 a0)), (2, .bl [.int .i64 0, .int .i64 0, .int .i64 0]), (13, .v (.bool x3))]) (fun x3 hF => ?_) fun _ hj1 hF => ?_
 ·refine wI hF (fun h7 hF => ?_) (fun h7 hF => ?_)
  ·exact wl hΦ hF
  iterate 2 refine wW ?_
  refine wS hF (fun x10 => [(2, .bl [.int .i64 0, .int .i64 0, .int .i64 0])]) (fun x10 hF => ?_) fun _ hj8 hr9 hF => ?_
  ·exact wl hΦ hF
  refine wB ?_
  obtain ⟨b32, hb33, hψ15⟩ := hF
  refine pL hb33 (fun s11 => [(0, .v (.int .i64 a0)), (2, .bl [.int .i64 0, .int .i64 0, .int .i64 0]), (4, .v (.int .i64 s11))]) (fun s11 _ _ ho13 hg14 hF => ?_)
  refine wW ?_
  refine wI hF (fun h16 hF => ?_) (fun h16 hF => ?_)
  ·refine wW ?_
   refine wB ?_
   refine wC hF [.sh] zgE (fun z17 hF => ?_)
   refine wK [0, 2, 4, 24] ?_
   refine wI hF (fun h18 hF => ?_) (fun h18 hF => ?_)
   ·refine wW ?_
    exact wT (hg14 _) (zaa hF)
   iterate 2 refine wW ?_
   refine wJ hF (fun x21 => [(0, .v (.int .i64 a0)), (2, .bl [.int .i64 0, .int .i64 0, .int .i64 0]), (4, .v (.int .i64 s11)), (5, .v (.int .i64 x21))]) (fun x21 hF => ?_) fun _ hj19 hF => ?_
   ·obtain ⟨g, hF⟩ := Rz g hF
    refine wC hF [.sh, .sh, .sh] zeK (fun z31 hF => ?_)
    refine wK [2, 3] ?_
    cases ho13 _ (zaa hF)
    cases hΦ _ (hr9 _ hψ15)
    try simp [go_sem, g]
   refine wB ?_
   obtain ⟨b29, hb30, hψ26⟩ := hF
   refine pL hb30 (fun s22 => [(0, .v (.int .i64 a0)), (2, .bl [.int .i64 0, .int .i64 0, .int .i64 0]), (4, .v (.int .i64 s11)), (5, .v (.int .i64 s22))]) (fun s22 _ _ ho24 hg25 hF => ?_)
   obtain ⟨g, hF⟩ := Rz g hF
   refine wC hF [.sh, .sh, .sh] zeK (fun z27 hF => ?_)
   refine wW ?_
   refine wI hF (fun h28 hF => ?_) (fun h28 hF => ?_)
   ·refine wW ?_
    refine wB ?_
    exact wT (hg25 _) (zaa hF)
   cases ho24 _ (zaa hF)
   exact wT (hj19 _) hψ26
  cases ho13 _ (zaa hF)
  exact wT (hj8 _) hψ15
 refine wC hF [.sh, .sh, .sh] zbN (fun z4 hF => ?_)
 refine wG hF (fun h5 hF => ?_) fun h5 hF => ?_
 ·exact wV h5 (hj1 _) (zaa hF)
 try simp [go_sem, g, h5]
 refine wC hF [.sh] zgE (fun z6 hF => ?_)
 exact wV h5 (hj1 _) (zaa hF)
def zcM (a0c0 : List Int) (a0c1 : Int) (a0c2 : Int) : Option (Group × (List Int × Int × Int)) :=
 (zal a0c0 a0c1 a0c2 [3, 5, 5, 7, 11, 11, 13, 23]).bind fun z1 =>
 (zcW z1.1).bind fun z2 =>
 some (z2.1, (z1.2.1, z1.2.2.1, z1.2.2.2))
theorem zjr : ∀ {a0c0} {a0c1} {a0c2} {r}, zcM a0c0 a0c1 a0c2 = some r → PCalls Tryz.prog 172 [(.io, vB a0c0 a0c1 a0c2)] (Eo (vE r.1) [vB r.2.1 r.2.2.1 r.2.2.2]) := by
 intro a0c0 a0c1 a0c2 r hr
 apply pF 13 [0] [] [] [.cell 2 24] hr zBf Tryz.func172
 intro Φ hΦ hF g
 unfold zcM at hF
 refine wW ?_
 refine wC hF [.io, .mv] zaj (fun z1 hF => ?_)
 refine wC hF [.sh] zgJ (fun z2 hF => ?_)
 refine wK [0, 2, 3] ?_
 exact wl hΦ hF
def zbO (a0 : Int) (a1 : Int) : Option Int :=
 gd (a1 ≠ 0) <|
 gd (a1 ≠ 0) <|
 some ((i64.wrap ((a0.tmod a1) + a1)).tmod a1)
theorem zfD : ∀ {a0} {a1} {r}, zbO a0 a1 = some r → PCalls Tryz.prog 156 [(.sh, .int .i64 a0), (.sh, .int .i64 a1)] (Eo (.int .i64 r) [.junk, .junk]) := by
 intro a0 a1 r hr
 apply pF 12 [] [] [] [.tmp 4] hr zCB Tryz.func156
 intro Φ hΦ hF g
 unfold zbO at hF
 obtain ⟨g, hF⟩ := Rz g hF
 obtain ⟨g, hF⟩ := Rz g hF
 cases hΦ _ (zaa hF)
 iterate 2 refine wW ?_
 try simp [go_sem, g]
@[go_sem] def zAq : List DE := [d0 0 [1], d0 1 [2], d1 2 [3] 3, d2 3 [9] 3 9, d1 5 [3] 3, d2 6 [12] 3 12, d3 4 [8, 10], d3 7 [7, 11, 13], d0 8 [14]]
def zaT (a0 : Group) (a1 : Int) (a2 : Int) : Option Int :=
 (zbO a2 a0.Q).bind fun z1 =>
 (zbA a1 z1 a0.P).bind fun z2 =>
 some z2
theorem zcO : ∀ {a0} {a1} {a2} {r}, zaT a0 a1 a2 = some r → PCalls Tryz.prog 95 [(.sh, vE a0), (.sh, .int .i64 a1), (.sh, .int .i64 a2)] (Eo (.int .i64 r) [.junk, .junk, .junk]) := by
 intro a0 a1 a2 r hr
 apply pF 15 [] [] [] [.tmp 6] hr zE4 Tryz.func95
 intro Φ hΦ hF g
 unfold zaT at hF
 refine wW ?_
 refine wX zAq follows ?_
 refine wC hF [.sh, .sh] zfD (fun z1 hF => ?_)
 refine wC hF [.sh, .sh, .sh] zeK (fun z2 hF => ?_)
 refine wK [6] ?_
 exact wm hΦ hF
@[go_sem] def zyo : List DE := [d2 0 [5] 5 5, d1 1 [5] 5, d2 2 [24] 5 24, d0 3 [0], d1 4 [5] 5, d2 5 [27] 5 27, d0 6 [28], d3 7 [26, 29], d0 8 [30], d3 9 [23, 25, 31], d1 10 [5] 5, d2 11 [33, 32] 5 33]
def zcA (a0c0 : List Int) (a0c1 : Int) (a0c2 : Int) : Option (Group × (List Int × Int × Int)) :=
 (zai a0c0 a0c1 a0c2 6).bind fun z1 =>
 if (z1.1 == 0) = true then (
 some ((Group.mk 1000000007 500000003 4), (z1.2.1, z1.2.2.1, z1.2.2.2))) else (
 if (z1.1 == 1) = true then (
 (zal z1.2.1 z1.2.2.1 z1.2.2.2 [101, 1009, 1019, 65537, 999983]).bind fun z4 =>
 (zcW z4.1).bind fun z5 =>
 some (z5.1, (z4.2.1, z4.2.2.1, z4.2.2.2))) else (
 (zcM z1.2.1 z1.2.2.1 z1.2.2.2).bind fun z6 =>
 (zai z6.2.1 z6.2.2.1 z6.2.2.2 (i64.wrap (z6.1.Q - 1))).bind fun z7 =>
 (zaT z6.1 z6.1.G (i64.wrap (1 + z7.1))).bind fun z8 =>
 some ((Group.mk z6.1.P z6.1.Q z8), (z7.2.1, z7.2.2.1, z7.2.2.2))))
theorem ziU : ∀ {a0c0} {a0c1} {a0c2} {r}, zcA a0c0 a0c1 a0c2 = some r → PCalls Tryz.prog 113 [(.io, vB a0c0 a0c1 a0c2)] (Eo (vE r.1) [vB r.2.1 r.2.2.1 r.2.2.2]) := by
 intro a0c0 a0c1 a0c2 r hr
 apply pF 35 [0] [] [] [.cell 2 24] hr zBH Tryz.func113
 intro Φ hΦ hF g
 unfold zcA at hF
 refine wW ?_
 refine wC hF [.io, .sh] zak (fun z1 hF => ?_)
 refine wW ?_
 refine wB ?_
 refine wW ?_
 refine wI hF (fun h2 hF => ?_) (fun h2 hF => ?_)
 ·exact wl hΦ hF
 refine wW ?_
 refine wI hF (fun h3 hF => ?_) (fun h3 hF => ?_)
 ·refine wC hF [.io, .mv] zaj (fun z4 hF => ?_)
  refine wC hF [.sh] zgJ (fun z5 hF => ?_)
  refine wK [0, 2, 3] ?_
  exact wl hΦ hF
 refine wW ?_
 refine wC hF [.io] zjr (fun z6 hF => ?_)
 refine wK [0, 2, 5] ?_
 refine wX zyo follows ?_
 refine wC hF [.io, .sh] zak (fun z7 hF => ?_)
 refine wC hF [.sh, .sh, .sh] zcO (fun z8 hF => ?_)
 refine wK [0, 2, 5] ?_
 exact wl hΦ hF
def zb2 (a0c0 : List Int) (a0c1 : Int) (a0c2 : Int) : Option (Group × (List Int × Int × Int)) :=
 (zcA a0c0 a0c1 a0c2).bind fun z1 =>
 (zai z1.2.1 z1.2.2.1 z1.2.2.2 24).bind fun z2 =>
 ((if (z2.1 == 0) = true then (
 (zal z2.2.1 z2.2.2.1 z2.2.2.2 [0, i64.wrap (z1.1.P + 2), 4, (-7)]).bind fun z7 =>
 some ((z7.2.1, z7.2.2.1, z7.2.2.2), z7.1, z1.1.Q, z1.1.G)) else (
 if (z2.1 == 1) = true then (
 (zal z2.2.1 z2.2.2.1 z2.2.2.2 [0, 1, i64.wrap (z1.1.Q + 1), i64.wrap (z1.1.P - 1)]).bind fun z9 =>
 some ((z9.2.1, z9.2.2.1, z9.2.2.2), z1.1.P, z9.1, z1.1.G)) else (
 if (z2.1 == 2) = true then (
 (zal z2.2.1 z2.2.2.1 z2.2.2.2 [0, 1, i64.wrap (z1.1.P - 1), z1.1.P, i64.wrap (z1.1.G + 1)]).bind fun z11 =>
 some ((z11.2.1, z11.2.2.1, z11.2.2.2), z1.1.P, z1.1.Q, z11.1)) else (
 some ((z2.2.1, z2.2.2.1, z2.2.2.2), z1.1.P, z1.1.Q, z1.1.G)))) : Option (((List Int × Int × Int) × Int × Int × Int))).bind fun x5 =>
 some ((Group.mk x5.2.1 x5.2.2.1 x5.2.2.2), (x5.1.1, x5.1.2.1, x5.1.2.2)))
theorem zh1 : ∀ {a0c0} {a0c1} {a0c2} {r}, zb2 a0c0 a0c1 a0c2 = some r → PCalls Tryz.prog 87 [(.io, vB a0c0 a0c1 a0c2)] (Eo (vE r.1) [vB r.2.1 r.2.2.1 r.2.2.2]) := by
 intro a0c0 a0c1 a0c2 r hr
 apply pF 44 [0] [] [] [.cell 2 24] hr zIh Tryz.func87
 intro Φ hΦ hF g
 unfold zb2 at hF
 refine wW ?_
 refine wC hF [.io] ziU (fun z1 hF => ?_)
 refine wW ?_
 refine wC hF [.io, .sh] zak (fun z2 hF => ?_)
 refine wW ?_
 refine wJ hF (fun x5 => [(0, .v (vB x5.1.1 x5.1.2.1 x5.1.2.2)), (2, .bl [.int .i64 0, .int .i64 0, .int .i64 0]), (3, .bl [.int .i64 x5.2.1, .int .i64 x5.2.2.1, .int .i64 x5.2.2.2])]) (fun x5 hF => ?_) fun _ hj3 hF => ?_
 ·exact wl hΦ hF
 refine wB ?_
 refine wW ?_
 refine wI hF (fun h6 hF => ?_) (fun h6 hF => ?_)
 ·refine wC hF [.io, .mv] zaj (fun z7 hF => ?_)
  exact wT (hj3 _) (zaa hF)
 refine wK [0, 2, 3, 7, 17] ?_
 refine wI hF (fun h8 hF => ?_) (fun h8 hF => ?_)
 ·refine wC hF [.io, .mv] zaj (fun z9 hF => ?_)
  exact wT (hj3 _) (zaa hF)
 refine wW ?_
 refine wI hF (fun h10 hF => ?_) (fun h10 hF => ?_)
 ·refine wC hF [.io, .mv] zaj (fun z11 hF => ?_)
  exact wT (hj3 _) (zaa hF)
 exact wT (hj3 _) (zaa hF)
def zbJ (a0c0 : List Int) (a0c1 : Int) (a0c2 : Int) : Option (Group × (List Int × Int × Int)) :=
 (za5 a0c0 a0c1 a0c2 16).bind fun z1 =>
 if z1.1 = true then (
 (zb2 z1.2.1 z1.2.2.1 z1.2.2.2).bind fun z3 =>
 some (z3.1, (z3.2.1, z3.2.2.1, z3.2.2.2))) else (
 (zal z1.2.1 z1.2.2.1 z1.2.2.2 [11, 11, 13, 23, 23, 101, 1019]).bind fun z4 =>
 (zcW z4.1).bind fun z5 =>
 some (z5.1, (z4.2.1, z4.2.2.1, z4.2.2.2)))
theorem zf1 : ∀ {a0c0} {a0c1} {a0c2} {r}, zbJ a0c0 a0c1 a0c2 = some r → PCalls Tryz.prog 29 [(.io, vB a0c0 a0c1 a0c2)] (Eo (vE r.1) [vB r.2.1 r.2.2.1 r.2.2.2]) := by
 intro a0c0 a0c1 a0c2 r hr
 apply pF 17 [0] [] [] [.cell 2 24] hr zFA Tryz.func29
 intro Φ hΦ hF g
 unfold zbJ at hF
 refine wW ?_
 refine wC hF [.io, .sh] zcj (fun z1 hF => ?_)
 refine wW ?_
 refine wI hF (fun h2 hF => ?_) (fun h2 hF => ?_)
 ·refine wC hF [.io] zh1 (fun z3 hF => ?_)
  exact wl hΦ hF
 refine wW ?_
 refine wC hF [.io, .mv] zaj (fun z4 hF => ?_)
 refine wC hF [.sh] zgJ (fun z5 hF => ?_)
 refine wK [0, 2, 3] ?_
 exact wl hΦ hF
def zfw (a0 : Int) (a1 : Int) : Option Int :=
 if decide (a1 < a0) = true then (
 some a0) else (
 some a1)
theorem zoI : ∀ {a0} {a1} {r}, zfw a0 a1 = some r → PCalls Tryz.prog 33 [(.sh, .int .i64 a0), (.sh, .int .i64 a1)] (Eo (.int .i64 r) [.junk, .junk]) := by
 intro a0 a1 r hr
 apply pF 10 [] [] [] [.tmp 4] hr zGo Tryz.func33
 intro Φ hΦ hF g
 unfold zfw at hF
 iterate 2 refine wW ?_
 refine wI hF (fun h1 hF => ?_) (fun h1 hF => ?_)
 ·exact wl hΦ hF
 cases hΦ _ (zaa hF)
 iterate 2 refine wW ?_
 try simp [go_sem, g]
@[go_sem] def zzD : List DE := [d0 0 [0], d0 3 [0], d1 6 [3] 3, d2 7 [14] 3 14, d3 1 [8], d0 2 [9], d3 4 [11], d0 5 [10, 12], d0 8 [13, 15], d0 9 [16]]
def zaM (a0c0 : List Int) (a0c1 : Int) (a0c2 : Int) (a1 : Group) : Option (Int × (List Int × Int × Int)) :=
 if decide (a1.Q < 2) = true then (
 some (0, (a0c0, a0c1, a0c2))) else (
 (zai a0c0 a0c1 a0c2 60000).bind fun z2 =>
 (zai z2.2.1 z2.2.2.1 z2.2.2.2 60000).bind fun z3 =>
 gd (a1.Q ≠ 0) <|
 some ((i64.wrap ((i64.wrap (z2.1 * 60000)) + z3.1)).tmod a1.Q, (z3.2.1, z3.2.2.1, z3.2.2.2)))
theorem zaJ : ∀ {a0c0} {a0c1} {a0c2} {a1} {r}, zaM a0c0 a0c1 a0c2 a1 = some r → PCalls Tryz.prog 153 [(.io, vB a0c0 a0c1 a0c2), (.sh, vE a1)] (Eo (.int .i64 r.1) [vB r.2.1 r.2.2.1 r.2.2.2, .junk]) := by
 intro a0c0 a0c1 a0c2 a1 r hr
 apply pF 17 [0] [] [] [.tmp 4] hr zBV Tryz.func153
 intro Φ hΦ hF g
 unfold zaM at hF
 iterate 2 refine wW ?_
 refine wI hF (fun h1 hF => ?_) (fun h1 hF => ?_)
 ·exact wl hΦ hF
 refine wW ?_
 refine wX zzD follows ?_
 refine wC hF [.io, .sh] zak (fun z2 hF => ?_)
 refine wC hF [.io, .sh] zak (fun z3 hF => ?_)
 obtain ⟨g, hF⟩ := Rz g hF
 refine wK [0, 4] ?_
 exact wm hΦ hF
def zbW (a0c0 : List Int) (a0c1 : Int) (a0c2 : Int) (a1 : Group) (a2 : Int) : Option (List Int × (List Int × Int × Int)) :=
 ((zbs (σ := (List Int × Int × Int) × Int × List Int) (fun s11 =>
 if decide (0 < s11.2.1) = true then (
 (zaM s11.1.1 s11.1.2.1 s11.1.2.2 a1).bind fun z17 =>
 gd ((s11.2.2.length + 1) * 8 ≤ 140737488355328 ∧ s11.2.2.length + 1 ≤ 4611686018427387904) <|
 some (.go ((z17.2.1, z17.2.2.1, z17.2.2.2), i64.wrap (s11.2.1 - 1), s11.2.2 ++ [z17.1]))) else (
 some (.out ((s11.1.1, s11.1.2.1, s11.1.2.2), s11.2.2)))) ((a0c0, a0c1, a0c2), a2, []) : Option (((List Int × Int × Int) × List Int))).bind fun x3 =>
 some (x3.2, (x3.1.1, x3.1.2.1, x3.1.2.2)))
theorem zgj : ∀ {a0c0} {a0c1} {a0c2} {a1} {a2} {r}, zbW a0c0 a0c1 a0c2 a1 a2 = some r → PCalls Tryz.prog 89 [(.io, vB a0c0 a0c1 a0c2), (.sh, vE a1), (.sh, .int .i64 a2)] (Eo (vD r.1) [vB r.2.1 r.2.2.1 r.2.2.2, .junk, .junk]) := by
 intro a0c0 a0c1 a0c2 a1 a2 r hr
 apply pF 19 [0] [] [] [.tmp 6] hr zIr Tryz.func89
 intro Φ hΦ hF g
 unfold zbW at hF
 iterate 2 refine wW ?_
 refine wJ hF (fun x3 => [(0, .v (vB x3.1.1 x3.1.2.1 x3.1.2.2)), (7, .v (vD x3.2))]) (fun x3 hF => ?_) fun _ hj1 hF => ?_
 ·exact wl hΦ hF
 refine wB ?_
 obtain ⟨b18, hb19, hψ15⟩ := hF
 refine pL hb19 (fun s11 => [(0, .v (vB s11.1.1 s11.1.2.1 s11.1.2.2)), (2, .v (.int .i64 s11.2.1)), (4, .bl [.int .i64 a1.P, .int .i64 a1.Q, .int .i64 a1.G]), (7, .v (vD s11.2.2))]) (fun s11 _ _ ho13 hg14 hF => ?_)
 refine wW ?_
 refine wI hF (fun h16 hF => ?_) (fun h16 hF => ?_)
 ·refine wW ?_
  refine wB ?_
  refine wC hF [.io, .sh] zaJ (fun z17 hF => ?_)
  obtain ⟨g, hF⟩ := Rg g hF
  refine wK [0, 2, 4, 7] ?_
  exact wT (hg14 _) (zaa hF)
 cases ho13 _ (zaa hF)
 exact wT (hj1 _) hψ15
@[go_sem] def zy0 : List DE := [d0 0 [7], d0 1 [0], d0 2 [2], d0 4 [0], d1 5 [4] 4, d2 6 [34] 4 34, d0 7 [35], d3 3 [30, 31], ⟨8, [33, 36], [], none, true, true, true⟩, d0 9 [29, 32], d0 10 [38, 37]]
def zb1 (a0c0 : List Int) (a0c1 : Int) (a0c2 : Int) (a1 : Group) (a2 : Int) : Option (List Int × (List Int × Int × Int)) :=
 (zbW a0c0 a0c1 a0c2 a1 a2).bind fun z1 =>
 (zai z1.2.1 z1.2.2.1 z1.2.2.2 30).bind fun z2 =>
 ((if (z2.1 == 0) = true then (
 gd ((z1.1.length + 1) * 8 ≤ 140737488355328 ∧ z1.1.length + 1 ≤ 4611686018427387904) <|
 some (.inr (z1.1 ++ [0], (z2.2.1, z2.2.2.1, z2.2.2.2)))) else (
 if (z2.1 == 1) = true then (
 if decide (0 < a2) = true then (
 gd (1 ≤ z1.1.length ∧ z1.1.length ≤ z1.1.length) <|
 some (.inr ((z1.1.take z1.1.length).drop 1, (z2.2.1, z2.2.2.1, z2.2.2.2)))) else (
 some (.inl ((z2.2.1, z2.2.2.1, z2.2.2.2), z1.1)))) else (
 if (z2.1 == 2) = true then (
 if decide (0 < a2) = true then (
 (zai z2.2.1 z2.2.2.1 z2.2.2.2 a2).bind fun z11 =>
 (zal z11.2.1 z11.2.2.1 z11.2.2.2 [(-1), a1.Q]).bind fun z12 =>
 (ix z1.1 z11.1).bind fun x13 =>
 some (.inl ((z12.2.1, z12.2.2.1, z12.2.2.2), z1.1.set z11.1.toNat z12.1))) else (
 some (.inl ((z2.2.1, z2.2.2.1, z2.2.2.2), z1.1)))) else (
 some (.inl ((z2.2.1, z2.2.2.1, z2.2.2.2), z1.1))))) : Option (((List Int × Int × Int) × List Int) ⊕ (List Int × (List Int × Int × Int)))).bind (Sum.elim (fun x5 =>
 some (x5.2, (x5.1.1, x5.1.2.1, x5.1.2.2))) some))
theorem zh4 : ∀ {a0c0} {a0c1} {a0c2} {a1} {a2} {r}, zb1 a0c0 a0c1 a0c2 a1 a2 = some r → PCalls Tryz.prog 31 [(.io, vB a0c0 a0c1 a0c2), (.sh, vE a1), (.sh, .int .i64 a2)] (Eo (vC r.1) [vB r.2.1 r.2.2.1 r.2.2.2, .junk, .junk]) := by
 intro a0c0 a0c1 a0c2 a1 a2 r hr
 apply pF 40 [0] [6] [] [.tmp 6] hr zHB Tryz.func31
 intro Φ hΦ hF g
 unfold zb1 at hF
 refine wW ?_
 refine wC hF [.io, .sh, .sh] zgj (fun z1 hF => ?_)
 refine wW ?_
 refine wC hF [.io, .sh] zak (fun z2 hF => ?_)
 refine wW ?_
 refine wS hF (fun x5 => [(0, .v (vB x5.1.1 x5.1.2.1 x5.1.2.2)), (7, .v (vD x5.2))]) (fun x5 hF => ?_) fun _ hj3 hr4 hF => ?_
 ·refine wK [0, 6] ?_
  exact wm hΦ hF
 refine wB ?_
 refine wK [0, 2, 4, 7, 13, 14] ?_
 refine wI hF (fun h6 hF => ?_) (fun h6 hF => ?_)
 ·obtain ⟨g, hF⟩ := Rg g hF
  cases hΦ _ (hr4 _ (zaa hF))
  refine wW ?_
  try simp [go_sem, g]
 refine wW ?_
 refine wI hF (fun h7 hF => ?_) (fun h7 hF => ?_)
 ·refine wW ?_
  refine wI hF (fun h8 hF => ?_) (fun h8 hF => ?_)
  ·obtain ⟨g, hF⟩ := Rg g hF
   cases hΦ _ (hr4 _ (zaa hF))
   refine wW ?_
   try simp [go_sem, g]
  exact wT (hj3 _) (zaa hF)
 refine wW ?_
 refine wI hF (fun h9 hF => ?_) (fun h9 hF => ?_)
 ·refine wW ?_
  refine wI hF (fun h10 hF => ?_) (fun h10 hF => ?_)
  ·refine wX zy0 follows ?_
   refine wC hF [.io, .sh] zak (fun z11 hF => ?_)
   refine wC hF [.io, .mv] zaj (fun z12 hF => ?_)
   obtain ⟨x13, g, hF⟩ := Rx g hF
   exact wT (hj3 _) (zaa hF)
  exact wT (hj3 _) (zaa hF)
 exact wT (hj3 _) (zaa hF)
@[go_sem] def zFC : List DE := [d2 0 [6] 6 6, d0 1 [5], d2 2 [6] 6 6, d0 3 [5], d0 4 [7], d0 9 [7], d3 5 [20], d3 6 [19, 21], d0 7 [22], d3 8 [17, 18, 23], d2 10 [2, 16] 2 2, d0 11 [24], d0 12 [25]]
def zcX (a0 : List Int) : Option (Group × List Int × Int) :=
 (zbJ a0 0 0).bind fun z1 =>
 (zal z1.2.1 z1.2.2.1 z1.2.2.2 [1, 2, 3, 4, 5, 7, 8, 0]).bind fun z2 =>
 (zfw 1 z2.1).bind fun z3 =>
 (zai z2.2.1 z2.2.2.1 z2.2.2.2 z3).bind fun z4 =>
 (zb1 z4.2.1 z4.2.2.1 z4.2.2.2 z1.1 (i64.wrap (1 + z4.1))).bind fun z5 =>
 some (z1.1, z5.1, z2.1)
theorem zjM : ∀ {a0} {r}, zcX a0 = some r → PCalls Tryz.prog 5 [(.sh, vA a0)] (Eo (.tup [vE r.1, vC r.2.1, .int .i64 r.2.2]) [.junk]) := by
 intro a0 r hr
 apply pF 26 [] [] [10] [.cell 2 24, .tmp 3, .tmp 4] hr cl5 Tryz.func5
 intro Φ hΦ hF g
 unfold zcX at hF
 iterate 2 refine wW ?_
 refine wC hF [.io] zf1 (fun z1 hF => ?_)
 refine wK [2, 5, 6] ?_
 refine wC hF [.io, .mv] zaj (fun z2 hF => ?_)
 refine wW ?_
 refine wX zFC follows ?_
 refine wC hF [.sh, .sh] zoI (fun z3 hF => ?_)
 refine wC hF [.io, .sh] zak (fun z4 hF => ?_)
 refine wC hF [.io, .sh, .sh] zh4 (fun z5 hF => ?_)
 refine wK [2, 3, 4] ?_
 exact wm hΦ hF
def zbk (a0 : Int) (a1 : Int) (a2 : Int) : Option Bool :=
 ((if decide (a1 ≤ a0) = true then (
 some (decide (a0 ≤ a2))) else (
 some false) : Option Bool).bind fun x3 =>
 some x3)
theorem zb3 : ∀ {a0} {a1} {a2} {r}, zbk a0 a1 a2 = some r → PCalls Tryz.prog 35 [(.sh, .int .i64 a0), (.sh, .int .i64 a1), (.sh, .int .i64 a2)] (Eo (.bool r) [.junk, .junk, .junk]) := by
 intro a0 a1 a2 r hr
 apply pF 15 [] [] [] [.tmp 6] hr zEE Tryz.func35
 intro Φ hΦ hF g
 unfold zbk at hF
 refine wW ?_
 refine wJ hF (fun x3 => [(6, .v (.bool x3))]) (fun x3 hF => ?_) fun _ hj1 hF => ?_
 ·exact wm hΦ hF
 refine wG hF (fun h4 hF => ?_) fun h4 hF => ?_
 ·exact wV h4 (hj1 _) (zaa hF)
 exact wV h4 (hj1 _) (zaa hF)
def zem (a0 : Int) : Option Bool :=
 (zbk a0 2 2000000000).bind fun z1 =>
 some z1
theorem zmo : ∀ {a0} {r}, zem a0 = some r → PCalls Tryz.prog 165 [(.sh, .int .i64 a0)] (Eo (.bool r) [.junk]) := by
 intro a0 r hr
 apply pF 5 [] [] [] [.tmp 2] hr zAd Tryz.func165
 intro Φ hΦ hF g
 unfold zem at hF
 refine wW ?_
 refine wC hF [.sh, .sh, .sh] zb3 (fun z1 hF => ?_)
 exact wl hΦ hF
def zej (a0 : Int) : Option Bool :=
 (((zem a0).bind fun z4 =>
 if (!z4) = true then (
 some true) else (
 if ((a0.tmod 2) == 0) = true then (
 some (a0 != 2)) else (
 some false)) : Option Bool).bind fun x3 =>
 if x3 = true then (
 some false) else (
 ((zbs (σ := Int) (fun s11 =>
 if decide ((i64.wrap (s11 * s11)) ≤ a0) = true then (
 gd (s11 ≠ 0) <|
 if ((a0.tmod s11) == 0) = true then (
 some (.out (.inr false))) else (
 some (.go (i64.wrap (s11 + 2))))) else (
 some (.out (.inl ())))) 3 : Option (Unit ⊕ Bool)).bind (Sum.elim (fun x10 =>
 some true) some))))
theorem zjJ : ∀ {a0} {r}, zej a0 = some r → PCalls Tryz.prog 104 [(.sh, .int .i64 a0)] (Eo (.bool r) [.junk]) := by
 intro a0 r hr
 apply pF 27 [] [] [] [.tmp 2] hr zAx Tryz.func104
 intro Φ hΦ hF g
 unfold zej at hF
 refine wW ?_
 refine wJ hF (fun x3 => [(0, .v (.int .i64 a0)), (15, .v (.bool x3))]) (fun x3 hF => ?_) fun _ hj1 hF => ?_
 ·refine wI hF (fun h7 hF => ?_) (fun h7 hF => ?_)
  ·exact wl hΦ hF
  iterate 2 refine wW ?_
  refine wS hF (fun x10 => []) (fun x10 hF => ?_) fun _ hj8 hr9 hF => ?_
  ·exact wl hΦ hF
  refine wB ?_
  obtain ⟨b18, hb19, hψ15⟩ := hF
  refine pL hb19 (fun s11 => [(0, .v (.int .i64 a0)), (3, .v (.int .i64 s11))]) (fun s11 _ _ ho13 hg14 hF => ?_)
  refine wW ?_
  refine wI hF (fun h16 hF => ?_) (fun h16 hF => ?_)
  ·refine wW ?_
   refine wB ?_
   obtain ⟨g, hF⟩ := Rz g hF
   refine wK [0, 3, 26] ?_
   refine wI hF (fun h17 hF => ?_) (fun h17 hF => ?_)
   ·cases ho13 _ (zaa hF)
    cases hΦ _ (hr9 _ hψ15)
    refine wW ?_
    try simp [go_sem, g]
   refine wW ?_
   exact wT (hg14 _) (zaa hF)
  cases ho13 _ (zaa hF)
  exact wT (hj8 _) hψ15
 refine wC hF [.sh] zmo (fun z4 hF => ?_)
 refine wG hF (fun h5 hF => ?_) fun h5 hF => ?_
 ·exact wV h5 (hj1 _) (zaa hF)
 have g := Ld g 2
 try simp [go_sem, g, h5]
 refine wG hF (fun h6 hF => ?_) fun h6 hF => ?_
 ·try simp [go_sem, g, h6, h5]
  exact wT (hj1 _) (zaa hF)
 try simp [go_sem, g, h6, h5]
 exact wT (hj1 _) (zaa hF)
def zdM (a0 : Int) (a1 : Int) (a2 : Int) : Option Int :=
 gd (a2 ≠ 0) <|
 ((zbs (σ := Int × Int × Int) (fun s4 =>
 if decide (0 < s4.2.1) = true then (
 ((if ((i64.wrap ((BitVec.ofInt i64.bits s4.2.1 &&& BitVec.ofInt i64.bits 1).toNat)) == 1) = true then (
 gd (a2 ≠ 0) <|
 some ((i64.wrap (s4.2.2 * s4.1)).tmod a2)) else (
 some s4.2.2) : Option Int).bind fun x12 =>
 gd (a2 ≠ 0) <|
 some (.go ((i64.wrap (s4.1 * s4.1)).tmod a2, s4.2.1.fdiv 2, x12)))) else (
 some (.out s4.2.2))) (a0, a1, (1 : Int).tmod a2) : Option Int).bind fun x3 =>
 some x3)
theorem ziB : ∀ {a0} {a1} {a2} {r}, zdM a0 a1 a2 = some r → PCalls Tryz.prog 105 [(.sh, .int .i64 a0), (.sh, .int .i64 a1), (.sh, .int .i64 a2)] (Eo (.int .i64 r) [.junk, .junk, .junk]) := by
 intro a0 a1 a2 r hr
 apply pF 28 [] [] [] [.tmp 6] hr zAt Tryz.func105
 intro Φ hΦ hF g
 unfold zdM at hF
 obtain ⟨g, hF⟩ := Rz g hF
 iterate 2 refine wW ?_
 refine wJ hF (fun x3 => [(7, .v (.int .i64 x3))]) (fun x3 hF => ?_) fun _ hj1 hF => ?_
 ·exact wl hΦ hF
 refine wB ?_
 obtain ⟨b14, hb15, hψ8⟩ := hF
 refine pL hb15 (fun s4 => [(0, .v (.int .i64 s4.1)), (1, .v (.int .i64 s4.2.1)), (2, .v (.int .i64 a2)), (7, .v (.int .i64 s4.2.2))]) (fun s4 _ _ ho6 hg7 hF => ?_)
 refine wW ?_
 refine wI hF (fun h9 hF => ?_) (fun h9 hF => ?_)
 ·refine wW ?_
  refine wB ?_
  refine wW ?_
  refine wJ hF (fun x12 => [(0, .v (.int .i64 s4.1)), (1, .v (.int .i64 s4.2.1)), (2, .v (.int .i64 a2)), (7, .v (.int .i64 x12))]) (fun x12 hF => ?_) fun _ hj10 hF => ?_
  ·obtain ⟨g, hF⟩ := Rz g hF
   refine wK [0, 1, 2, 7] ?_
   have g := Ls g 1
   exact wT (hg7 _) (zaa hF)
  refine wI hF (fun h13 hF => ?_) (fun h13 hF => ?_)
  ·obtain ⟨g, hF⟩ := Rz g hF
   exact wT (hj10 _) (zaa hF)
  exact wT (hj10 _) (zaa hF)
 cases ho6 _ (zaa hF)
 exact wT (hj1 _) hψ8
def zcJ (a0 : Group) : Option Bool :=
 (((zbk a0.P 3 2000000000).bind fun z4 =>
 if z4 = true then (
 (zbk a0.Q 2 (i64.wrap (a0.P - 1))).bind fun z6 =>
 if z6 = true then (
 gd (a0.Q ≠ 0) <|
 if (((i64.wrap (a0.P - 1)).tmod a0.Q) == 0) = true then (
 (zbk a0.G 2 (i64.wrap (a0.P - 1))).bind fun z9 =>
 if z9 = true then (
 (zej a0.P).bind fun z11 =>
 if z11 = true then (
 (zej a0.Q).bind fun z13 =>
 if z13 = true then (
 (zdM a0.G a0.Q a0.P).bind fun z15 =>
 some (z15 == 1)) else (
 some false)) else (
 some false)) else (
 some false)) else (
 some false)) else (
 some false)) else (
 some false) : Option Bool).bind fun x3 =>
 some x3)
theorem zhr : ∀ {a0} {r}, zcJ a0 = some r → PCalls Tryz.prog 48 [(.sh, vE a0)] (Eo (.bool r) [.junk]) := by
 intro a0 r hr
 apply pF 51 [] [] [] [.tmp 2] hr zGY Tryz.func48
 intro Φ hΦ hF g
 unfold zcJ at hF
 refine wW ?_
 refine wJ hF (fun x3 => [(2, .v (.bool x3))]) (fun x3 hF => ?_) fun _ hj1 hF => ?_
 ·exact wm hΦ hF
 refine wC hF [.sh, .sh, .sh] zb3 (fun z4 hF => ?_)
 refine wG hF (fun h5 hF => ?_) fun h5 hF => ?_
 ·try simp [go_sem, g, h5]
  refine wC hF [.sh, .sh, .sh] zb3 (fun z6 hF => ?_)
  try simp [go_sem, g, h5]
  refine wG hF (fun h7 hF => ?_) fun h7 hF => ?_
  ·obtain ⟨g, hF⟩ := Rz g hF
   try simp [go_sem, g, h7]
   refine wG hF (fun h8 hF => ?_) fun h8 hF => ?_
   ·try simp [go_sem, g, h8]
    refine wC hF [.sh, .sh, .sh] zb3 (fun z9 hF => ?_)
    try simp [go_sem, g, h8]
    refine wG hF (fun h10 hF => ?_) fun h10 hF => ?_
    ·try simp [go_sem, g, h10]
     refine wC hF [.sh] zjJ (fun z11 hF => ?_)
     try simp [go_sem, g, h10]
     refine wG hF (fun h12 hF => ?_) fun h12 hF => ?_
     ·try simp [go_sem, g, h12]
      refine wC hF [.sh] zjJ (fun z13 hF => ?_)
      try simp [go_sem, g, h12]
      refine wG hF (fun h14 hF => ?_) fun h14 hF => ?_
      ·try simp [go_sem, g, h14]
       refine wC hF [.sh, .sh, .sh] ziB (fun z15 hF => ?_)
       exact wV h14 (hj1 _) (zaa hF)
      exact wV h14 (hj1 _) (zaa hF)
     exact wV h12 (hj1 _) (zaa hF)
    exact wV h10 (hj1 _) (zaa hF)
   exact wV h8 (hj1 _) (zaa hF)
  exact wV h7 (hj1 _) (zaa hF)
 exact wV h5 (hj1 _) (zaa hF)
def zbX (a0 : Group) : Option Bool :=
 ((if decide (7 < a0.Q) = true then (
 (zcJ a0).bind fun z5 =>
 some z5) else (
 some false) : Option Bool).bind fun x3 =>
 some x3)
theorem zew : ∀ {a0} {r}, zbX a0 = some r → PCalls Tryz.prog 34 [(.sh, vE a0)] (Eo (.bool r) [.junk]) := by
 intro a0 r hr
 apply pF 10 [] [] [] [.tmp 2] hr zEs Tryz.func34
 intro Φ hΦ hF g
 unfold zbX at hF
 refine wW ?_
 refine wJ hF (fun x3 => [(2, .v (.bool x3))]) (fun x3 hF => ?_) fun _ hj1 hF => ?_
 ·exact wm hΦ hF
 refine wG hF (fun h4 hF => ?_) fun h4 hF => ?_
 ·try simp [go_sem, g, h4]
  refine wC hF [.sh] zhr (fun z5 hF => ?_)
  exact wV h4 (hj1 _) (zaa hF)
 exact wV h4 (hj1 _) (zaa hF)
def zc1 (a0 : Group) (a1 : Int) : Option Bool :=
 (zbk a1 0 (i64.wrap (a0.Q - 1))).bind fun z1 =>
 some z1
theorem zhS : ∀ {a0} {a1} {r}, zc1 a0 a1 = some r → PCalls Tryz.prog 50 [(.sh, vE a0), (.sh, .int .i64 a1)] (Eo (.bool r) [.junk, .junk]) := by
 intro a0 a1 r hr
 apply pF 10 [] [] [] [.tmp 4] hr zGN Tryz.func50
 intro Φ hΦ hF g
 unfold zc1 at hF
 refine wW ?_
 refine wC hF [.sh, .sh, .sh] zb3 (fun z1 hF => ?_)
 exact wl hΦ hF
def zbp (a0 : Int) (a1c0x0 : Group) : Option Bool :=
 (zc1 a1c0x0 a0).bind fun z1 =>
 some (!z1)
theorem zgr : ∀ {a0} {a1c0x0} {r}, zbp a0 a1c0x0 = some r → PCalls Tryz.prog 155 [(.sh, .int .i64 a0), (.sh, .fp [.func (.func 50) [vE a1c0x0] []])] (Eo (.bool r) [.junk, .junk]) := by
 intro a0 a1c0x0 r hr
 apply pF 8 [] [] [] [.tmp 3] hr zoQ Tryz.func155
 intro Φ hΦ hF g
 unfold zbp at hF
 refine wW ?_
 refine wC hF [.sh] zhS (fun z1 hF => ?_)
 exact wl hΦ hF
def za3 (a0 : List Int) (a1u0c0x0 : Group) : Option Int :=
 ((zaq (σ := Unit) (fun i5 s4 =>
 (ix a0 i5).bind fun x11 =>
 (zbp x11 a1u0c0x0).bind fun z12 =>
 if z12 = true then (
 some (.out (.inr i5))) else (
 some (.go ()))) (fun s4 => .inl ()) (a0.length) 0 () : Option (Unit ⊕ Int)).bind (Sum.elim (fun x3 =>
 some (-1)) some))
theorem zdn : ∀ {a0} {a1u0c0x0} {r}, za3 a0 a1u0c0x0 = some r → PCalls Tryz.prog 185 [(.sh, vC a0), (.sh, .func (.func 155) [] [.fp [.func (.func 50) [vE a1u0c0x0] []]])] (Eo (.int .i64 r) [.junk, .junk]) := by
 intro a0 a1u0c0x0 r hr
 apply pF 19 [] [] [] [.tmp 4] hr zo0 Tryz.func185
 intro Φ hΦ hF g
 unfold za3 at hF
 iterate 2 (try simp [go_sem, g]; try intros; refine zau ?_)
 refine wS hF (fun x3 => []) (fun x3 hF => ?_) fun _ hj1 hr2 hF => ?_
 ·exact wl hΦ hF
 refine wB ?_
 obtain ⟨b14, hb15, hψ8⟩ := hF
 refine pR hb15 (fun i5 s4 => [(0, .v (vC a0)), (1, .v (.func (.func 155) [] [.fp [.func (.func 50) [vE a1u0c0x0] []]])), (7, .v (.int .i64 (a0.length : Int))), (8, .v (.int .i64 i5))]) (fun s4 _ hN16 => ?_) (fun i5 s4 _ _ hi9 hi10 ho6 hg7 hF => ?_)
 ·exact wn hN16 (hj1 _) hψ8
 refine wW ?_
 refine wu hi9 hi10 ?_
 refine wW ?_
 refine wB ?_
 obtain ⟨x11, g, hF⟩ := Rx g hF
 refine wW ?_
 refine wC hF [.sh] zgr (fun z12 hF => ?_)
 refine wK [0, 1, 5, 7, 8, 16] ?_
 refine wI hF (fun h13 hF => ?_) (fun h13 hF => ?_)
 ·cases ho6 _ (zaa hF)
  cases hΦ _ (hr2 _ hψ8)
  refine wW ?_
  try simp [go_sem, g]
 refine wW ?_
 exact wi hi9 hi10 (hg7 _) (zaa hF)
def zaW (a0 : List Int) (a1u0c0x0 : Group) : Option Bool :=
 (za3 a0 a1u0c0x0).bind fun z1 =>
 some (decide (0 ≤ z1))
theorem zc4 : ∀ {a0} {a1u0c0x0} {r}, zaW a0 a1u0c0x0 = some r → PCalls Tryz.prog 154 [(.sh, vC a0), (.sh, .func (.func 155) [] [.fp [.func (.func 50) [vE a1u0c0x0] []]])] (Eo (.bool r) [.junk, .junk]) := by
 intro a0 a1u0c0x0 r hr
 apply pF 9 [] [] [] [.tmp 4] hr zo3 Tryz.func154
 intro Φ hΦ hF g
 unfold zaW at hF
 refine wW ?_
 refine wC hF [.sh, .sh] zdn (fun z1 hF => ?_)
 exact wl hΦ hF
def zb4 (a0 : List Int) (a1x0 : Group) : Option Bool :=
 (zaW a0 a1x0).bind fun z1 =>
 some (!z1)
theorem zg7 : ∀ {a0} {a1x0} {r}, zb4 a0 a1x0 = some r → PCalls Tryz.prog 91 [(.sh, vC a0), (.sh, .func (.func 50) [vE a1x0] [])] (Eo (.bool r) [.junk, .junk]) := by
 intro a0 a1x0 r hr
 apply pF 9 [] [] [1000000] [.tmp 4] hr zsq Tryz.func91
 intro Φ hΦ hF g
 unfold zb4 at hF
 refine wW ?_
 refine wC hF [.sh, .sh] zc4 (fun z1 hF => ?_)
 exact wl hΦ hF
def zbm (a0 : Group) (a1 : List Int) : Option Bool :=
 (zb4 a1 a0).bind fun z1 =>
 some z1
theorem zdb : ∀ {a0} {a1} {r}, zbm a0 a1 = some r → PCalls Tryz.prog 36 [(.sh, vE a0), (.sh, vC a1)] (Eo (.bool r) [.junk, .junk]) := by
 intro a0 a1 r hr
 apply pF 9 [] [] [] [.tmp 4] hr zHC Tryz.func36
 intro Φ hΦ hF g
 unfold zbm at hF
 refine wW ?_
 refine wC hF [.sh, .sh] zg7 (fun z1 hF => ?_)
 exact wl hΦ hF
def zcQ (a0 : Int) (a1 : Int) : Option Int :=
 gd (a1 ≠ 0) <|
 gd (a1 ≠ 0) <|
 some ((i64.wrap ((a0.tmod a1) + a1)).tmod a1)
theorem zid : ∀ {a0} {a1} {r}, zcQ a0 a1 = some r → PCalls Tryz.prog 112 [(.sh, .int .i64 a0), (.sh, .int .i64 a1)] (Eo (.int .i64 r) [.junk, .junk]) := by
 intro a0 a1 r hr
 apply pF 12 [] [] [] [.tmp 4] hr zCQ Tryz.func112
 intro Φ hΦ hF g
 unfold zcQ at hF
 obtain ⟨g, hF⟩ := Rz g hF
 obtain ⟨g, hF⟩ := Rz g hF
 cases hΦ _ (zaa hF)
 iterate 2 refine wW ?_
 try simp [go_sem, g]
@[go_sem] def zAR : List DE := [d0 0 [1], d0 1 [2], d1 2 [3] 3, d2 3 [9] 3 9, d1 5 [3] 3, d2 6 [12] 3 12, d3 4 [8, 10], d3 7 [7, 11, 13], d0 8 [14]]
def zaP (a0 : Group) (a1 : Int) (a2 : Int) : Option Int :=
 (zcQ a2 a0.Q).bind fun z1 =>
 (zdM a1 z1 a0.P).bind fun z2 =>
 some z2
theorem zbu : ∀ {a0} {a1} {a2} {r}, zaP a0 a1 a2 = some r → PCalls Tryz.prog 63 [(.sh, vE a0), (.sh, .int .i64 a1), (.sh, .int .i64 a2)] (Eo (.int .i64 r) [.junk, .junk, .junk]) := by
 intro a0 a1 a2 r hr
 apply pF 15 [] [] [] [.tmp 6] hr zGs Tryz.func63
 intro Φ hΦ hF g
 unfold zaP at hF
 refine wW ?_
 refine wX zAR follows ?_
 refine wC hF [.sh, .sh] zid (fun z1 hF => ?_)
 refine wC hF [.sh, .sh, .sh] ziB (fun z2 hF => ?_)
 refine wK [6] ?_
 exact wm hΦ hF
@[go_sem] def zCc : List DE := [d0 0 [7], d0 1 [2], d0 2 [16, 17], d0 3 [0], d0 4 [18, 19], d0 5 [1], d0 6 [8], d0 7 [21, 22], d0 8 [23], d0 9 [20, 24], d0 10 [0], d0 11 [25, 26], d0 12 [27]]
def zde (a0 : Int) (a1 : List Int) (a2 : Int) : Option Int :=
 ((zbs (σ := Int × Int) (fun s4 =>
 if decide (0 ≤ s4.2) = true then (
 gd (a0 ≠ 0) <|
 (ix a1 s4.2).bind fun x10 =>
 gd (a0 ≠ 0) <|
 some (.go ((i64.wrap (((i64.wrap (s4.1 * a2)).tmod a0) + x10)).tmod a0, i64.wrap (s4.2 - 1)))) else (
 some (.out s4.1))) (0, i64.wrap ((a1.length : Int) - 1)) : Option Int).bind fun x3 =>
 some x3)
theorem zhk : ∀ {a0} {a1} {a2} {r}, zde a0 a1 a2 = some r → PCalls Tryz.prog 92 [(.sh, .int .i64 a0), (.sh, vC a1), (.sh, .int .i64 a2)] (Eo (.int .i64 r) [.junk, .junk, .junk]) := by
 intro a0 a1 a2 r hr
 apply pF 29 [] [] [] [.tmp 6] hr zER Tryz.func92
 intro Φ hΦ hF g
 unfold zde at hF
 iterate 3 (try simp [go_sem, g]; try intros; refine zau ?_)
 refine wJ hF (fun x3 => [(7, .v (.int .i64 x3))]) (fun x3 hF => ?_) fun _ hj1 hF => ?_
 ·exact wl hΦ hF
 refine wB ?_
 obtain ⟨b11, hb12, hψ8⟩ := hF
 refine pL hb12 (fun s4 => [(0, .v (.int .i64 a0)), (1, .v (vC a1)), (2, .v (.int .i64 a2)), (7, .v (.int .i64 s4.1)), (8, .v (.int .i64 s4.2))]) (fun s4 _ _ ho6 hg7 hF => ?_)
 refine wW ?_
 refine wI hF (fun h9 hF => ?_) (fun h9 hF => ?_)
 ·refine wW ?_
  refine wB ?_
  refine wX zCc follows ?_
  obtain ⟨g, hF⟩ := Rz g hF
  obtain ⟨x10, g, hF⟩ := Rx g hF
  obtain ⟨g, hF⟩ := Rz g hF
  refine wK [0, 1, 2, 7, 8] ?_
  exact wT (hg7 _) (zaa hF)
 cases ho6 _ (zaa hF)
 exact wT (hj1 _) hψ8
@[go_sem] def zy7 : List DE := [d1 0 [7] 7, d2 1 [34] 7 34, d1 2 [3] 3, d2 3 [36] 3 36, d0 4 [1], d0 5 [10], d3 6 [37, 38, 39], d0 7 [40], ⟨8, [35, 41], [], none, true, false, false⟩, d1 9 [7] 7, d2 10 [43, 42] 7 43]
@[go_sem] def zBz : List DE := [d1 0 [7] 7, d2 1 [18] 7 18, d2 2 [3] 3 3, d1 3 [3] 3, d2 4 [21] 3 21, d0 5 [9], d3 6 [20, 22, 23], d0 7 [24], ⟨8, [19, 25], [], none, true, false, false⟩, d1 9 [7] 7, d2 10 [27, 26] 7 27]
def zd5 (a0 : Group) (a1 : List Int) (a2 : Int) : Option Dealing :=
 ((zaq (σ := (List Int) × List Int) (fun i14 s13 =>
 (ix a1 i14).bind fun x20 =>
 (zaP a0 a0.G x20).bind fun z21 =>
 gd ((s13.1.length + 1) * 8 ≤ 140737488355328 ∧ s13.1.length + 1 ≤ 4611686018427387904) <|
 some (.go (s13.1 ++ [z21], s13.2))) (fun s13 => (s13.1, s13.2)) (a1.length) 0 ([], []) : Option ((List Int × List Int))).bind fun x3 =>
 ((zbs (σ := (List Int) × List Int × Int) (fun s36 =>
 if decide (s36.2.2 ≤ a2) = true then (
 (zde a0.Q a1 s36.2.2).bind fun z42 =>
 gd ((s36.2.1.length + 1) * 8 ≤ 140737488355328 ∧ s36.2.1.length + 1 ≤ 4611686018427387904) <|
 some (.go (s36.1, s36.2.1 ++ [z42], i64.wrap (s36.2.2 + 1)))) else (
 some (.out (s36.1, s36.2.1)))) (x3.1, x3.2, 1) : Option ((List Int × List Int))).bind fun x28 =>
 some (Dealing.mk x28.1 x28.2)))
theorem zlG : ∀ {a0} {a1} {a2} {r}, zd5 a0 a1 a2 = some r → PCalls Tryz.prog 37 [(.sh, vE a0), (.sh, vC a1), (.sh, .int .i64 a2)] (Eo (vF r) [.junk, .junk, .junk]) := by
 intro a0 a1 a2 r hr
 apply pF 45 [] [] [] [.cell 6 29] hr zES Tryz.func37
 intro Φ hΦ hF g
 unfold zd5 at hF
 iterate 3 (try simp [go_sem, g]; try intros; refine zau ?_)
 refine wJ hF (fun x3 => [(1, .v (vC a1)), (2, .v (.int .i64 a2)), (3, .bl [.int .i64 a0.P, .int .i64 a0.Q, .int .i64 a0.G]), (6, .bl [.sl true 1 [], .sl true 1 []]), (7, .bl [vD x3.1, vD x3.2])]) (fun x3 hF => ?_) fun _ hj1 hF => ?_
 ·refine wW ?_
  refine wJ hF (fun x28 => [(6, .bl [.sl true 1 [], .sl true 1 []]), (7, .bl [vD x28.1, vD x28.2])]) (fun x28 hF => ?_) fun _ hj26 hF => ?_
  ·refine wK [6] ?_
   exact wm hΦ hF
  refine wB ?_
  obtain ⟨b43, hb44, hψ40⟩ := hF
  refine pL hb44 (fun s36 => [(1, .v (vC a1)), (2, .v (.int .i64 a2)), (3, .bl [.int .i64 a0.P, .int .i64 a0.Q, .int .i64 a0.G]), (6, .bl [.sl true 1 [], .sl true 1 []]), (7, .bl [vD s36.1, vD s36.2.1]), (10, .v (.int .i64 s36.2.2))]) (fun s36 _ _ ho38 hg39 hF => ?_)
  refine wK [1, 2, 3, 6, 7, 10, 31] ?_
  refine wI hF (fun h41 hF => ?_) (fun h41 hF => ?_)
  ·refine wW ?_
   refine wB ?_
   refine wX zy7 follows ?_
   refine wC hF [.sh, .sh, .sh] zhk (fun z42 hF => ?_)
   obtain ⟨g, hF⟩ := Rg g hF
   refine wK [1, 2, 3, 6, 7, 10] ?_
   exact wT (hg39 _) (zaa hF)
  cases ho38 _ (zaa hF)
  exact wT (hj26 _) hψ40
 refine wB ?_
 obtain ⟨b22, hb23, hψ17⟩ := hF
 refine pR hb23 (fun i14 s13 => [(1, .v (vC a1)), (2, .v (.int .i64 a2)), (3, .bl [.int .i64 a0.P, .int .i64 a0.Q, .int .i64 a0.G]), (6, .bl [.sl true 1 [], .sl true 1 []]), (7, .bl [vD s13.1, vD s13.2]), (12, .v (vC a1)), (13, .v (.int .i64 (a1.length : Int))), (14, .v (.int .i64 i14))]) (fun s13 _ hN24 => ?_) (fun i14 s13 _ _ hi18 hi19 ho15 hg16 hF => ?_)
 ·exact wn hN24 (hj1 _) hψ17
 refine wW ?_
 refine wu hi18 hi19 ?_
 refine wW ?_
 refine wB ?_
 obtain ⟨x20, g, hF⟩ := Rx g hF
 refine wK [1, 2, 3, 6, 7, 9, 12, 13, 14] ?_
 refine wX zBz follows ?_
 refine wC hF [.sh, .sh, .sh] zbu (fun z21 hF => ?_)
 obtain ⟨g, hF⟩ := Rg g hF
 refine wK [1, 2, 3, 6, 7, 12, 13, 14] ?_
 exact wi hi18 hi19 (hg16 _) (zaa hF)
def zd4 (a0 : Group) (a1 : List Int) (a2 : Int) : Option (Dealing × Bool) :=
 (((zbX a0).bind fun z4 =>
 if (!z4) = true then (
 some true) else (
 (zbk a2 1 7).bind fun z6 =>
 if (!z6) = true then (
 some true) else (
 (zbk (a1.length : Int) 1 a2).bind fun z8 =>
 if (!z8) = true then (
 some true) else (
 (zbm a0 a1).bind fun z10 =>
 some (!z10)))) : Option Bool).bind fun x3 =>
 if x3 = true then (
 some ((Dealing.mk [] []), false)) else (
 (zd5 a0 a1 a2).bind fun z12 =>
 some (z12, true)))
theorem zlF : ∀ {a0} {a1} {a2} {r}, zd4 a0 a1 a2 = some r → PCalls Tryz.prog 6 [(.sh, vE a0), (.sh, vC a1), (.sh, .int .i64 a2)] (Eo (.tup [vF r.1, .bool r.2]) [.junk, .junk, .junk]) := by
 intro a0 a1 a2 r hr
 apply pF 34 [] [] [] [.cell 6 29, .tmp 7] hr cl6 Tryz.func6
 intro Φ hΦ hF g
 unfold zd4 at hF
 refine wW ?_
 refine wJ hF (fun x3 => [(1, .v (vC a1)), (2, .v (.int .i64 a2)), (3, .bl [.int .i64 a0.P, .int .i64 a0.Q, .int .i64 a0.G]), (6, .bl [.sl true 1 [], .sl true 1 []]), (28, .v (.bool x3))]) (fun x3 hF => ?_) fun _ hj1 hF => ?_
 ·refine wI hF (fun h11 hF => ?_) (fun h11 hF => ?_)
  ·exact wl hΦ hF
  refine wW ?_
  refine wC hF [.sh, .sh, .sh] zlG (fun z12 hF => ?_)
  exact wl hΦ hF
 refine wC hF [.sh] zew (fun z4 hF => ?_)
 refine wG hF (fun h5 hF => ?_) fun h5 hF => ?_
 ·exact wV h5 (hj1 _) (zaa hF)
 try simp [go_sem, g, h5]
 refine wC hF [.sh, .sh, .sh] zb3 (fun z6 hF => ?_)
 try simp [go_sem, g, h5]
 refine wG hF (fun h7 hF => ?_) fun h7 hF => ?_
 ·exact wV h7 (hj1 _) (zaa hF)
 try simp [go_sem, g, h7]
 try intros
 refine wC hF [.sh, .sh, .sh] zb3 (fun z8 hF => ?_)
 try simp [go_sem, g, h7]
 refine wG hF (fun h9 hF => ?_) fun h9 hF => ?_
 ·exact wV h9 (hj1 _) (zaa hF)
 try simp [go_sem, g, h9]
 refine wC hF [.sh, .sh] zdb (fun z10 hF => ?_)
 exact wV h9 (hj1 _) (zaa hF)
def zfx (a0 : Group) : Option Bool :=
 (((zbc a0.P 3 2000000000).bind fun z4 =>
 if z4 = true then (
 (zbc a0.Q 2 (i64.wrap (a0.P - 1))).bind fun z6 =>
 if z6 = true then (
 gd (a0.Q ≠ 0) <|
 if (((i64.wrap (a0.P - 1)).tmod a0.Q) == 0) = true then (
 (zbc a0.G 2 (i64.wrap (a0.P - 1))).bind fun z9 =>
 if z9 = true then (
 (zbA a0.G a0.Q a0.P).bind fun z11 =>
 if (z11 == 1) = true then (
 (zdm a0.Q).bind fun z13 =>
 if z13 = true then (
 (zdm a0.P).bind fun z15 =>
 some z15) else (
 some false)) else (
 some false)) else (
 some false)) else (
 some false)) else (
 some false)) else (
 some false) : Option Bool).bind fun x3 =>
 some x3)
theorem zoF : ∀ {a0} {r}, zfx a0 = some r → PCalls Tryz.prog 93 [(.sh, vE a0)] (Eo (.bool r) [.junk]) := by
 intro a0 r hr
 apply pF 51 [] [] [] [.tmp 2] hr zHI Tryz.func93
 intro Φ hΦ hF g
 unfold zfx at hF
 refine wW ?_
 refine wJ hF (fun x3 => [(2, .v (.bool x3))]) (fun x3 hF => ?_) fun _ hj1 hF => ?_
 ·exact wm hΦ hF
 refine wC hF [.sh, .sh, .sh] zbN (fun z4 hF => ?_)
 refine wG hF (fun h5 hF => ?_) fun h5 hF => ?_
 ·try simp [go_sem, g, h5]
  refine wC hF [.sh, .sh, .sh] zbN (fun z6 hF => ?_)
  try simp [go_sem, g, h5]
  refine wG hF (fun h7 hF => ?_) fun h7 hF => ?_
  ·obtain ⟨g, hF⟩ := Rz g hF
   try simp [go_sem, g, h7]
   refine wG hF (fun h8 hF => ?_) fun h8 hF => ?_
   ·try simp [go_sem, g, h8]
    refine wC hF [.sh, .sh, .sh] zbN (fun z9 hF => ?_)
    try simp [go_sem, g, h8]
    refine wG hF (fun h10 hF => ?_) fun h10 hF => ?_
    ·try simp [go_sem, g, h10]
     refine wC hF [.sh, .sh, .sh] zeK (fun z11 hF => ?_)
     try simp [go_sem, g, h10]
     refine wG hF (fun h12 hF => ?_) fun h12 hF => ?_
     ·try simp [go_sem, g, h12]
      refine wC hF [.sh] zgE (fun z13 hF => ?_)
      try simp [go_sem, g, h12]
      refine wG hF (fun h14 hF => ?_) fun h14 hF => ?_
      ·try simp [go_sem, g, h14]
       refine wC hF [.sh] zgE (fun z15 hF => ?_)
       exact wV h14 (hj1 _) (zaa hF)
      exact wV h14 (hj1 _) (zaa hF)
     exact wV h12 (hj1 _) (zaa hF)
    exact wV h10 (hj1 _) (zaa hF)
   exact wV h8 (hj1 _) (zaa hF)
  exact wV h7 (hj1 _) (zaa hF)
 exact wV h5 (hj1 _) (zaa hF)
def zct (a0 : Group) : Option Bool :=
 (((zfx a0).bind fun z4 =>
 if z4 = true then (
 some (decide (7 < a0.Q))) else (
 some false) : Option Bool).bind fun x3 =>
 some x3)
theorem zeN : ∀ {a0} {r}, zct a0 = some r → PCalls Tryz.prog 38 [(.sh, vE a0)] (Eo (.bool r) [.junk]) := by
 intro a0 r hr
 apply pF 10 [] [] [] [.tmp 2] hr zH9 Tryz.func38
 intro Φ hΦ hF g
 unfold zct at hF
 refine wW ?_
 refine wJ hF (fun x3 => [(2, .v (.bool x3))]) (fun x3 hF => ?_) fun _ hj1 hF => ?_
 ·exact wm hΦ hF
 refine wC hF [.sh] zoF (fun z4 hF => ?_)
 refine wG hF (fun h5 hF => ?_) fun h5 hF => ?_
 ·exact wV h5 (hj1 _) (zaa hF)
 exact wV h5 (hj1 _) (zaa hF)
def zf2 (a0 : List Int) (a1 : Int) (a2 : Int) : Option Bool :=
 ((zaq (σ := Unit) (fun i5 s4 =>
 (ix a0 i5).bind fun x11 =>
 (zbc x11 a1 a2).bind fun z12 =>
 if (!z12) = true then (
 some (.out (.inr false))) else (
 some (.go ()))) (fun s4 => .inl ()) (a0.length) 0 () : Option (Unit ⊕ Bool)).bind (Sum.elim (fun x3 =>
 some true) some))
theorem zpR : ∀ {a0} {a1} {a2} {r}, zf2 a0 a1 a2 = some r → PCalls Tryz.prog 94 [(.sh, vC a0), (.sh, .int .i64 a1), (.sh, .int .i64 a2)] (Eo (.bool r) [.junk, .junk, .junk]) := by
 intro a0 a1 a2 r hr
 apply pF 21 [] [] [] [.tmp 6] hr zGd Tryz.func94
 intro Φ hΦ hF g
 unfold zf2 at hF
 iterate 2 (try simp [go_sem, g]; try intros; refine zau ?_)
 refine wS hF (fun x3 => []) (fun x3 hF => ?_) fun _ hj1 hr2 hF => ?_
 ·exact wl hΦ hF
 refine wB ?_
 obtain ⟨b14, hb15, hψ8⟩ := hF
 refine pR hb15 (fun i5 s4 => [(1, .v (.int .i64 a1)), (2, .v (.int .i64 a2)), (9, .v (vC a0)), (10, .v (.int .i64 (a0.length : Int))), (11, .v (.int .i64 i5))]) (fun s4 _ hN16 => ?_) (fun i5 s4 _ _ hi9 hi10 ho6 hg7 hF => ?_)
 ·exact wn hN16 (hj1 _) hψ8
 refine wW ?_
 refine wu hi9 hi10 ?_
 refine wW ?_
 refine wB ?_
 obtain ⟨x11, g, hF⟩ := Rx g hF
 refine wW ?_
 refine wC hF [.sh, .sh, .sh] zbN (fun z12 hF => ?_)
 refine wK [1, 2, 9, 10, 11, 19] ?_
 refine wI hF (fun h13 hF => ?_) (fun h13 hF => ?_)
 ·cases ho6 _ (zaa hF)
  cases hΦ _ (hr2 _ hψ8)
  refine wW ?_
  try simp [go_sem, g]
 refine wW ?_
 exact wi hi9 hi10 (hg7 _) (zaa hF)
def zdR (a0 : Group) (a1 : List Int) : Option Bool :=
 (zf2 a1 0 (i64.wrap (a0.Q - 1))).bind fun z1 =>
 some z1
theorem zhg : ∀ {a0} {a1} {r}, zdR a0 a1 = some r → PCalls Tryz.prog 40 [(.sh, vE a0), (.sh, vC a1)] (Eo (.bool r) [.junk, .junk]) := by
 intro a0 a1 r hr
 apply pF 10 [] [] [] [.tmp 4] hr zF3 Tryz.func40
 intro Φ hΦ hF g
 unfold zdR at hF
 refine wW ?_
 refine wC hF [.sh, .sh, .sh] zpR (fun z1 hF => ?_)
 exact wl hΦ hF
def zey (a0 : Int) (a1 : List Int) (a2 : Int) : Option Int :=
 ((zbs (σ := Int × Int) (fun s4 =>
 if decide (0 ≤ s4.2) = true then (
 (ix a1 s4.2).bind fun x10 =>
 gd (a0 ≠ 0) <|
 some (.go ((i64.wrap ((i64.wrap (s4.1 * a2)) + x10)).tmod a0, i64.wrap (s4.2 - 1)))) else (
 some (.out s4.1))) (0, i64.wrap ((a1.length : Int) - 1)) : Option Int).bind fun x3 =>
 some x3)
theorem zkO : ∀ {a0} {a1} {a2} {r}, zey a0 a1 a2 = some r → PCalls Tryz.prog 96 [(.sh, .int .i64 a0), (.sh, vC a1), (.sh, .int .i64 a2)] (Eo (.int .i64 r) [.junk, .junk, .junk]) := by
 intro a0 a1 a2 r hr
 apply pF 27 [] [] [] [.tmp 6] hr zFh Tryz.func96
 intro Φ hΦ hF g
 unfold zey at hF
 iterate 3 (try simp [go_sem, g]; try intros; refine zau ?_)
 refine wJ hF (fun x3 => [(7, .v (.int .i64 x3))]) (fun x3 hF => ?_) fun _ hj1 hF => ?_
 ·exact wl hΦ hF
 refine wB ?_
 obtain ⟨b11, hb12, hψ8⟩ := hF
 refine pL hb12 (fun s4 => [(0, .v (.int .i64 a0)), (1, .v (vC a1)), (2, .v (.int .i64 a2)), (7, .v (.int .i64 s4.1)), (8, .v (.int .i64 s4.2))]) (fun s4 _ _ ho6 hg7 hF => ?_)
 refine wW ?_
 refine wI hF (fun h9 hF => ?_) (fun h9 hF => ?_)
 ·refine wW ?_
  refine wB ?_
  obtain ⟨x10, g, hF⟩ := Rx g hF
  obtain ⟨g, hF⟩ := Rz g hF
  refine wK [0, 1, 2, 7, 8] ?_
  exact wT (hg7 _) (zaa hF)
 cases ho6 _ (zaa hF)
 exact wT (hj1 _) hψ8
@[go_sem] def zyV : List DE := [d1 0 [7] 7, d2 1 [33] 7 33, d1 2 [3] 3, d2 3 [35] 3 35, d0 4 [1], d0 5 [10], d3 6 [36, 37, 38], d0 7 [39], ⟨8, [34, 40], [], none, true, false, false⟩, d1 9 [7] 7, d2 10 [42, 41] 7 42]
@[go_sem] def zBQ : List DE := [d1 0 [7] 7, d2 1 [17] 7 17, d2 2 [3] 3 3, d1 3 [3] 3, d2 4 [20] 3 20, d0 5 [9], d3 6 [19, 21, 22], d0 7 [23], ⟨8, [18, 24], [], none, true, false, false⟩, d1 9 [7] 7, d2 10 [26, 25] 7 26]
def ze5 (a0 : Group) (a1 : List Int) (a2 : Int) : Option Dealing :=
 ((zaq (σ := (List Int) × List Int) (fun i14 s13 =>
 (ix a1 i14).bind fun x20 =>
 (zaT a0 a0.G x20).bind fun z21 =>
 gd ((s13.1.length + 1) * 8 ≤ 140737488355328 ∧ s13.1.length + 1 ≤ 4611686018427387904) <|
 some (.go (s13.1 ++ [z21], s13.2))) (fun s13 => (s13.1, s13.2)) (a1.length) 0 ([], []) : Option ((List Int × List Int))).bind fun x3 =>
 ((zbs (σ := (List Int) × List Int × Int) (fun s36 =>
 if decide (s36.2.2 ≤ a2) = true then (
 (zey a0.Q a1 s36.2.2).bind fun z42 =>
 gd ((s36.2.1.length + 1) * 8 ≤ 140737488355328 ∧ s36.2.1.length + 1 ≤ 4611686018427387904) <|
 some (.go (s36.1, s36.2.1 ++ [z42], i64.wrap (s36.2.2 + 1)))) else (
 some (.out (s36.1, s36.2.1)))) (x3.1, x3.2, 1) : Option ((List Int × List Int))).bind fun x28 =>
 some (Dealing.mk x28.1 x28.2)))
theorem zk9 : ∀ {a0} {a1} {a2} {r}, ze5 a0 a1 a2 = some r → PCalls Tryz.prog 41 [(.sh, vE a0), (.sh, vC a1), (.sh, .int .i64 a2)] (Eo (vF r) [.junk, .junk, .junk]) := by
 intro a0 a1 a2 r hr
 apply pF 44 [] [] [] [.cell 6 29] hr zFb Tryz.func41
 intro Φ hΦ hF g
 unfold ze5 at hF
 iterate 3 (try simp [go_sem, g]; try intros; refine zau ?_)
 refine wJ hF (fun x3 => [(1, .v (vC a1)), (2, .v (.int .i64 a2)), (3, .bl [.int .i64 a0.P, .int .i64 a0.Q, .int .i64 a0.G]), (6, .bl [.sl true 1 [], .sl true 1 []]), (7, .bl [vD x3.1, vD x3.2])]) (fun x3 hF => ?_) fun _ hj1 hF => ?_
 ·refine wW ?_
  refine wJ hF (fun x28 => [(6, .bl [.sl true 1 [], .sl true 1 []]), (7, .bl [vD x28.1, vD x28.2])]) (fun x28 hF => ?_) fun _ hj26 hF => ?_
  ·exact wl hΦ hF
  refine wB ?_
  obtain ⟨b43, hb44, hψ40⟩ := hF
  refine pL hb44 (fun s36 => [(1, .v (vC a1)), (2, .v (.int .i64 a2)), (3, .bl [.int .i64 a0.P, .int .i64 a0.Q, .int .i64 a0.G]), (6, .bl [.sl true 1 [], .sl true 1 []]), (7, .bl [vD s36.1, vD s36.2.1]), (10, .v (.int .i64 s36.2.2))]) (fun s36 _ _ ho38 hg39 hF => ?_)
  refine wK [1, 2, 3, 6, 7, 10, 30] ?_
  refine wI hF (fun h41 hF => ?_) (fun h41 hF => ?_)
  ·refine wW ?_
   refine wB ?_
   refine wX zyV follows ?_
   refine wC hF [.sh, .sh, .sh] zkO (fun z42 hF => ?_)
   obtain ⟨g, hF⟩ := Rg g hF
   refine wK [1, 2, 3, 6, 7, 10] ?_
   exact wT (hg39 _) (zaa hF)
  cases ho38 _ (zaa hF)
  exact wT (hj26 _) hψ40
 refine wB ?_
 obtain ⟨b22, hb23, hψ17⟩ := hF
 refine pR hb23 (fun i14 s13 => [(1, .v (vC a1)), (2, .v (.int .i64 a2)), (3, .bl [.int .i64 a0.P, .int .i64 a0.Q, .int .i64 a0.G]), (6, .bl [.sl true 1 [], .sl true 1 []]), (7, .bl [vD s13.1, vD s13.2]), (11, .v (vC a1)), (12, .v (.int .i64 (a1.length : Int))), (13, .v (.int .i64 i14))]) (fun s13 _ hN24 => ?_) (fun i14 s13 _ _ hi18 hi19 ho15 hg16 hF => ?_)
 ·exact wn hN24 (hj1 _) hψ17
 refine wW ?_
 refine wu hi18 hi19 ?_
 refine wW ?_
 refine wB ?_
 obtain ⟨x20, g, hF⟩ := Rx g hF
 refine wK [1, 2, 3, 6, 7, 9, 11, 12, 13] ?_
 refine wX zBQ follows ?_
 refine wC hF [.sh, .sh, .sh] zcO (fun z21 hF => ?_)
 obtain ⟨g, hF⟩ := Rg g hF
 refine wK [1, 2, 3, 6, 7, 11, 12, 13] ?_
 exact wi hi18 hi19 (hg16 _) (zaa hF)
def zd8 (a0 : Group) (a1 : List Int) (a2 : Int) : Option (Dealing × Bool) :=
 (((zct a0).bind fun z4 =>
 if (!z4) = true then (
 some true) else (
 (zbc a2 1 7).bind fun z6 =>
 if (!z6) = true then (
 some true) else (
 (zbc (a1.length : Int) 1 a2).bind fun z8 =>
 if (!z8) = true then (
 some true) else (
 (zdR a0 a1).bind fun z10 =>
 some (!z10)))) : Option Bool).bind fun x3 =>
 if x3 = true then (
 some ((Dealing.mk [] []), false)) else (
 (ze5 a0 a1 a2).bind fun z12 =>
 some (z12, true)))
theorem zlI : ∀ {a0} {a1} {a2} {r}, zd8 a0 a1 a2 = some r → PCalls Tryz.prog 7 [(.sh, vE a0), (.sh, vC a1), (.sh, .int .i64 a2)] (Eo (.tup [vF r.1, .bool r.2]) [.junk, .junk, .junk]) := by
 intro a0 a1 a2 r hr
 apply pF 34 [] [] [] [.cell 6 29, .tmp 7] hr cl7 Tryz.func7
 intro Φ hΦ hF g
 unfold zd8 at hF
 refine wW ?_
 refine wJ hF (fun x3 => [(1, .v (vC a1)), (2, .v (.int .i64 a2)), (3, .bl [.int .i64 a0.P, .int .i64 a0.Q, .int .i64 a0.G]), (6, .bl [.sl true 1 [], .sl true 1 []]), (28, .v (.bool x3))]) (fun x3 hF => ?_) fun _ hj1 hF => ?_
 ·refine wI hF (fun h11 hF => ?_) (fun h11 hF => ?_)
  ·exact wl hΦ hF
  refine wW ?_
  refine wC hF [.sh, .sh, .sh] zk9 (fun z12 hF => ?_)
  exact wl hΦ hF
 refine wC hF [.sh] zeN (fun z4 hF => ?_)
 refine wG hF (fun h5 hF => ?_) fun h5 hF => ?_
 ·exact wV h5 (hj1 _) (zaa hF)
 try simp [go_sem, g, h5]
 refine wC hF [.sh, .sh, .sh] zbN (fun z6 hF => ?_)
 try simp [go_sem, g, h5]
 refine wG hF (fun h7 hF => ?_) fun h7 hF => ?_
 ·exact wV h7 (hj1 _) (zaa hF)
 try simp [go_sem, g, h7]
 try intros
 refine wC hF [.sh, .sh, .sh] zbN (fun z8 hF => ?_)
 try simp [go_sem, g, h7]
 refine wG hF (fun h9 hF => ?_) fun h9 hF => ?_
 ·exact wV h9 (hj1 _) (zaa hF)
 try simp [go_sem, g, h9]
 refine wC hF [.sh, .sh] zhg (fun z10 hF => ?_)
 exact wV h9 (hj1 _) (zaa hF)
def zbG (a0c0 : List Int) (a0c1 : Int) (a0c2 : Int) (a1 : Group) (a2 : Int) (a3 : Int) : Option ((List (List Int)) × (List Int × Int × Int)) :=
 ((zbs (σ := (List Int × Int × Int) × Int × (List (List Int))) (fun s18 =>
 if decide (0 < s18.2.1) = true then (
 (zbW s18.1.1 s18.1.2.1 s18.1.2.2 a1 a3).bind fun z24 =>
 gd ((s18.2.2.length + 1) * 24 ≤ 140737488355328 ∧ s18.2.2.length + 1 ≤ 4611686018427387904) <|
 some (.go ((z24.2.1, z24.2.2.1, z24.2.2.2), i64.wrap (s18.2.1 - 1), s18.2.2 ++ [z24.1]))) else (
 some (.out ((s18.1.1, s18.1.2.1, s18.1.2.2), s18.2.2)))) ((a0c0, a0c1, a0c2), a2, []) : Option (((List Int × Int × Int) × (List (List Int))))).bind fun x3 =>
 some (x3.2, (x3.1.1, x3.1.2.1, x3.1.2.2)))
theorem zho : ∀ {a0c0} {a0c1} {a0c2} {a1} {a2} {a3} {r}, zbG a0c0 a0c1 a0c2 a1 a2 a3 = some r → PCalls Tryz.prog 158 [(.io, vB a0c0 a0c1 a0c2), (.sh, vE a1), (.sh, .int .i64 a2), (.sh, .int .i64 a3)] (Eo (vG r.1) [vB r.2.1 r.2.2.1 r.2.2.2, .junk, .junk, .junk]) := by
 intro a0c0 a0c1 a0c2 a1 a2 a3 r hr
 apply pF 22 [0] [] [] [.tmp 8] hr zBj Tryz.func158
 intro Φ hΦ hF g
 unfold zbG at hF
 iterate 2 refine wW ?_
 refine wJ hF (fun x3 => [(0, .v (vB x3.1.1 x3.1.2.1 x3.1.2.2)), (9, .v (vG x3.2))]) (fun x3 hF => ?_) fun _ hj1 hF => ?_
 ·exact wl hΦ hF
 refine wB ?_
 obtain ⟨b25, hb26, hψ22⟩ := hF
 refine pL hb26 (fun s18 => [(0, .v (vB s18.1.1 s18.1.2.1 s18.1.2.2)), (2, .v (.int .i64 s18.2.1)), (3, .v (.int .i64 a3)), (5, .bl [.int .i64 a1.P, .int .i64 a1.Q, .int .i64 a1.G]), (9, .v (vG s18.2.2))]) (fun s18 _ _ ho20 hg21 hF => ?_)
 refine wW ?_
 refine wI hF (fun h23 hF => ?_) (fun h23 hF => ?_)
 ·refine wW ?_
  refine wB ?_
  refine wC hF [.io, .sh, .sh] zgj (fun z24 hF => ?_)
  obtain ⟨g, hF⟩ := Rg g hF
  refine wK [0, 2, 3, 5, 9] ?_
  exact wT (hg21 _) (zaa hF)
 cases ho20 _ (zaa hF)
 exact wT (hj1 _) hψ22
def zc5 (a0 : Group) (a1 : List Int) : Option Int :=
 ((zaq (σ := Int) (fun i5 s4 =>
 (ix a1 i5).bind fun x11 =>
 gd (a0.P ≠ 0) <|
 some (.go ((i64.wrap (s4 * x11)).tmod a0.P))) (fun s4 => s4) (a1.length) 0 1 : Option Int).bind fun x3 =>
 some x3)
theorem zgs : ∀ {a0} {a1} {r}, zc5 a0 a1 = some r → PCalls Tryz.prog 136 [(.sh, vE a0), (.sh, vC a1)] (Eo (.int .i64 r) [.junk, .junk]) := by
 intro a0 a1 r hr
 apply pF 22 [] [] [] [.tmp 4] hr zCe Tryz.func136
 intro Φ hΦ hF g
 unfold zc5 at hF
 iterate 3 (try simp [go_sem, g]; try intros; refine zau ?_)
 refine wJ hF (fun x3 => [(5, .v (.int .i64 x3))]) (fun x3 hF => ?_) fun _ hj1 hF => ?_
 ·exact wl hΦ hF
 refine wB ?_
 obtain ⟨b12, hb13, hψ8⟩ := hF
 refine pR hb13 (fun i5 s4 => [(2, .bl [.int .i64 a0.P, .int .i64 a0.Q, .int .i64 a0.G]), (5, .v (.int .i64 s4)), (8, .v (vC a1)), (9, .v (.int .i64 (a1.length : Int))), (10, .v (.int .i64 i5))]) (fun s4 _ hN14 => ?_) (fun i5 s4 _ _ hi9 hi10 ho6 hg7 hF => ?_)
 ·exact wn hN14 (hj1 _) hψ8
 refine wW ?_
 refine wu hi9 hi10 ?_
 refine wW ?_
 refine wB ?_
 obtain ⟨x11, g, hF⟩ := Rx g hF
 refine wK [2, 5, 7, 8, 9, 10] ?_
 obtain ⟨g, hF⟩ := Rz g hF
 refine wW ?_
 exact wi hi9 hi10 (hg7 _) (zaa hF)
@[go_sem] def zyB : List DE := [d2 0 [3] 3 3, d0 1 [7], d2 2 [3] 3 3, d0 3 [10], d0 4 [8], d3 5 [19, 20, 21], d0 6 [18, 22], ⟨7, [17, 23], [], none, true, true, true⟩, d0 8 [24]]
def zfl (a0 : Group) (a1 : List Int) (a2 : Int) : Option Int :=
 ((zaq (σ := Int × Int) (fun i5 s4 =>
 (ix a1 i5).bind fun x11 =>
 (zaT a0 x11 s4.2).bind fun z12 =>
 (zc5 a0 [s4.1, z12]).bind fun z13 =>
 gd (a0.Q ≠ 0) <|
 some (.go (z13, (i64.wrap (s4.2 * a2)).tmod a0.Q))) (fun s4 => s4.1) (a1.length) 0 (1, 1) : Option Int).bind fun x3 =>
 some x3)
theorem zng : ∀ {a0} {a1} {a2} {r}, zfl a0 a1 a2 = some r → PCalls Tryz.prog 203 [(.sh, vE a0), (.sh, vC a1), (.sh, .int .i64 a2)] (Eo (.int .i64 r) [.junk, .junk, .junk]) := by
 intro a0 a1 a2 r hr
 apply pF 33 [] [] [] [.tmp 6] hr zBF Tryz.func203
 intro Φ hΦ hF g
 unfold zfl at hF
 iterate 3 (try simp [go_sem, g]; try intros; refine zau ?_)
 refine wJ hF (fun x3 => [(7, .v (.int .i64 x3))]) (fun x3 hF => ?_) fun _ hj1 hF => ?_
 ·exact wl hΦ hF
 refine wB ?_
 obtain ⟨b14, hb15, hψ8⟩ := hF
 refine pR hb15 (fun i5 s4 => [(2, .v (.int .i64 a2)), (3, .bl [.int .i64 a0.P, .int .i64 a0.Q, .int .i64 a0.G]), (7, .v (.int .i64 s4.1)), (8, .v (.int .i64 s4.2)), (11, .v (vC a1)), (12, .v (.int .i64 (a1.length : Int))), (13, .v (.int .i64 i5))]) (fun s4 _ hN16 => ?_) (fun i5 s4 _ _ hi9 hi10 ho6 hg7 hF => ?_)
 ·exact wn hN16 (hj1 _) hψ8
 refine wW ?_
 refine wu hi9 hi10 ?_
 refine wW ?_
 refine wB ?_
 obtain ⟨x11, g, hF⟩ := Rx g hF
 refine wK [2, 3, 7, 8, 10, 11, 12, 13] ?_
 refine wX zyB follows ?_
 refine wC hF [.sh, .sh, .sh] zcO (fun z12 hF => ?_)
 refine wC hF [.sh, .sh] zgs (fun z13 hF => ?_)
 obtain ⟨g, hF⟩ := Rz g hF
 refine wW ?_
 refine wK [2, 3, 7, 8, 11, 12, 13] ?_
 exact wi hi9 hi10 (hg7 _) (zaa hF)
@[go_sem] def zx5 : List DE := [d2 0 [4] 4 4, d1 1 [4] 4, d2 2 [10] 4 10, d0 3 [3], d2 5 [4] 4 4, d0 6 [1], d0 7 [2], d3 4 [9, 11, 12], d3 8 [14, 15, 16], d0 9 [13, 17], d0 10 [18]]
def ze4 (a0 : Group) (a1 : List Int) (a2 : Int) (a3 : Int) : Option Bool :=
 (zaT a0 a0.G a3).bind fun z1 =>
 (zfl a0 a1 a2).bind fun z2 =>
 some (z1 == z2)
theorem zk6 : ∀ {a0} {a1} {a2} {a3} {r}, ze4 a0 a1 a2 a3 = some r → PCalls Tryz.prog 198 [(.sh, vE a0), (.sh, vC a1), (.sh, .int .i64 a2), (.sh, .int .i64 a3)] (Eo (.bool r) [.junk, .junk, .junk, .junk]) := by
 intro a0 a1 a2 a3 r hr
 apply pF 19 [] [] [] [.tmp 8] hr zCl Tryz.func198
 intro Φ hΦ hF g
 unfold ze4 at hF
 refine wW ?_
 refine wX zx5 follows ?_
 refine wC hF [.sh, .sh, .sh] zcO (fun z1 hF => ?_)
 refine wC hF [.sh, .sh, .sh] zng (fun z2 hF => ?_)
 refine wK [8] ?_
 exact wm hΦ hF
def zfH (a0 : Group) (a1 : Dealing) : Option ((List Int)) :=
 ((zaq (σ := (List Int)) (fun i5 s4 =>
 (((ix a1.Shares i5).bind fun x14 =>
 (ze4 a0 a1.Commits (i64.wrap (i5 + 1)) x14).bind fun z15 =>
 if (!z15) = true then (
 gd ((s4.length + 1) * 8 ≤ 140737488355328 ∧ s4.length + 1 ≤ 4611686018427387904) <|
 some (s4 ++ [i64.wrap (i5 + 1)])) else (
 some s4) : Option ((List Int))).bind fun x13 =>
 some (.go x13))) (fun s4 => s4) (a1.Shares.length) 0 [] : Option ((List Int))).bind fun x3 =>
 some x3)
theorem zl0 : ∀ {a0} {a1} {r}, zfH a0 a1 = some r → PCalls Tryz.prog 186 [(.sh, vE a0), (.sh, vM a1)] (Eo (vD r) [.junk, .junk]) := by
 intro a0 a1 r hr
 apply pF 31 [] [] [] [.tmp 4] hr zBs Tryz.func186
 intro Φ hΦ hF g
 unfold zfH at hF
 iterate 3 (try simp [go_sem, g]; try intros; refine zau ?_)
 refine wJ hF (fun x3 => [(5, .v (vD x3))]) (fun x3 hF => ?_) fun _ hj1 hF => ?_
 ·refine wK [4] ?_
  exact wm hΦ hF
 refine wB ?_
 obtain ⟨b17, hb18, hψ8⟩ := hF
 refine pR hb18 (fun i5 s4 => [(2, .bl [.int .i64 a0.P, .int .i64 a0.Q, .int .i64 a0.G]), (3, .bl [vC a1.Commits, vC a1.Shares]), (5, .v (vD s4)), (9, .v (vC a1.Shares)), (10, .v (.int .i64 (a1.Shares.length : Int))), (11, .v (.int .i64 i5))]) (fun s4 _ hN19 => ?_) (fun i5 s4 _ _ hi9 hi10 ho6 hg7 hF => ?_)
 ·exact wn hN19 (hj1 _) hψ8
 refine wW ?_
 refine wu hi9 hi10 ?_
 refine wW ?_
 refine wJ hF (fun x13 => [(2, .bl [.int .i64 a0.P, .int .i64 a0.Q, .int .i64 a0.G]), (3, .bl [vC a1.Commits, vC a1.Shares]), (5, .v (vD x13)), (9, .v (vC a1.Shares)), (10, .v (.int .i64 (a1.Shares.length : Int))), (11, .v (.int .i64 i5))]) (fun x13 hF => ?_) fun _ hj11 hF => ?_
 ·exact wi hi9 hi10 (hg7 _) (zaa hF)
 refine wB ?_
 obtain ⟨x14, g, hF⟩ := Rx g hF
 refine wK [2, 3, 5, 6, 7, 9, 10, 11] ?_
 refine wC hF [.sh, .sh, .sh, .sh] zk6 (fun z15 hF => ?_)
 refine wW ?_
 refine wI hF (fun h16 hF => ?_) (fun h16 hF => ?_)
 ·obtain ⟨g, hF⟩ := Rg g hF
  exact wT (hj11 _) (zaa hF)
 exact wT (hj11 _) (zaa hF)
@[go_sem] def zw0 : List DE := [d0 0 [16], d1 1 [15] 15, d2 2 [109] 15 109, d0 3 [110], d0 4 [16], d1 5 [15] 15, d2 6 [113] 15 113, d0 7 [114], d0 8 [112, 115], d0 9 [116], d1 10 [15] 15, d2 11 [118] 15 118, d0 12 [117, 119], d1 13 [3] 3, d2 14 [121] 3 121, d0 15 [120, 122], d0 16 [108, 111], d0 17 [124, 123]]
@[go_sem] def zwZ : List DE := [d0 0 [13], d1 1 [15] 15, d2 2 [126] 15 126, d0 3 [127], d0 4 [13], d1 5 [15] 15, d2 6 [130] 15 130, d0 7 [131], d0 8 [129, 132], d0 9 [133], d0 10 [134], d1 11 [15, 135] 15, d2 12 [136, 135] 15 136, d0 13 [137, 135], d0 14 [135, 138], d0 15 [125, 128], d0 16 [140, 139]]
@[go_sem] def zxz : List DE := [d2 0 [3] 3 3, d0 1 [10], d0 2 [18], d0 3 [148, 149], d0 4 [150], d0 7 [], d3 5 [147, 151], d0 6 [152]]
@[go_sem] def zxy : List DE := [d0 0 [19], d1 1 [3] 3, d2 2 [164] 3 164, d0 3 [1], d0 4 [18], d0 5 [166, 167], d0 6 [168], d0 7 [21], d3 8 [165, 169, 170], d0 9 [171], ⟨10, [163, 172], [], none, true, false, false⟩, d0 11 [173]]
def zdQ (a0 : Group) (a1 : (List (List Int))) (a2 : List Fault) : Option (List Dealing × (List (List Int)) × Bool) :=
 (((zct a0).bind fun z4 =>
 if (!z4) = true then (
 some true) else (
 (zbc (a1.length : Int) 1 7).bind fun z6 =>
 if (!z6) = true then (
 some true) else (
 (ix a1 0).bind fun x8 =>
 (zbc (x8.length : Int) 1 (a1.length : Int)).bind fun z9 =>
 if (!z9) = true then (
 some true) else (
 some (decide (20 < (a2.length : Int)))))) : Option Bool).bind fun x3 =>
 if x3 = true then (
 some ([], [], false)) else (
 ((zaq (σ := (List Dealing)) (fun i32 s31 =>
 (ix a1 i32).bind fun x38 =>
 (((ix a1 0).bind fun x42 =>
 if ((x38.length : Int) != (x42.length : Int)) = true then (
 some true) else (
 (zdR a0 x38).bind fun z44 =>
 some (!z44)) : Option Bool).bind fun x41 =>
 if x41 = true then (
 some (.out (.inr ([], [], false)))) else (
 (ze5 a0 x38 (a1.length : Int)).bind fun z46 =>
 gd ((s31.length + 1) * 48 ≤ 140737488355328 ∧ s31.length + 1 ≤ 4611686018427387904) <|
 some (.go (s31 ++ [z46]))))) (fun s31 => .inl s31) (a1.length) 0 [] : Option ((List Dealing) ⊕ (List Dealing × (List (List Int)) × Bool))).bind (Sum.elim (fun x14 =>
 gd (0 ≤ (a1.length : Int) ∧ (a1.length : Int) ≤ (a1.length : Int) ∧ 1 * (a1.length : Int) ≤ 140737488355328 ∧ (a1.length : Int) ≤ 4611686018427387904) <|
 (some (List.replicate a1.length false)).bind fun x51 =>
 ((zaq (σ := (List Dealing) × List Bool) (fun i82 s81 =>
 (((ix a2 i82).bind fun x91 =>
 (((zbc x91.Dealer 1 (a1.length : Int)).bind fun z95 =>
 if (!z95) = true then (
 some true) else (
 (zbc x91.Trustee 1 (a1.length : Int)).bind fun z97 =>
 if (!z97) = true then (
 some true) else (
 (zdR a0 [x91.Delta]).bind fun z99 =>
 some (!z99))) : Option Bool).bind fun x94 =>
 if x94 = true then (
 some (.inr (.out (.inr ([], [], false))))) else (
 (ix s81.1 (i64.wrap (x91.Dealer - 1))).bind fun x101 =>
 (ix x101.Shares (i64.wrap (x91.Trustee - 1))).bind fun x102 =>
 gd (a0.Q ≠ 0) <|
 (ix s81.2 (i64.wrap (x91.Dealer - 1))).bind fun x103 =>
 if x103 = true then (
 some (.inl (s81.1.set ((i64.wrap (x91.Dealer - 1)).toNat) (Dealing.mk x101.Commits (x101.Shares.set ((i64.wrap (x91.Trustee - 1)).toNat) ((i64.wrap (x102 + x91.Delta)).tmod a0.Q))), s81.2.set ((i64.wrap (x91.Dealer - 1)).toNat) true))) else (
 some (.inl (s81.1.set ((i64.wrap (x91.Dealer - 1)).toNat) (Dealing.mk x101.Commits (x101.Shares.set ((i64.wrap (x91.Trustee - 1)).toNat) ((i64.wrap (x102 + x91.Delta)).tmod a0.Q))), s81.2.set ((i64.wrap (x91.Dealer - 1)).toNat) (!x91.Answers)))))) : Option ((List Dealing × List Bool) ⊕ (Stp (List Dealing × List Bool) ((List Dealing × List Bool) ⊕ (List Dealing × (List (List Int)) × Bool))))).bind (Sum.elim (fun x90 =>
 some (.go (x90.1, x90.2))) some))) (fun s81 => .inl (s81.1, s81.2)) (a2.length) 0 (x14, x51) : Option ((List Dealing × List Bool) ⊕ (List Dealing × (List (List Int)) × Bool))).bind (Sum.elim (fun x56 =>
 ((zaq (σ := (List (List Int))) (fun i144 s143 =>
 (ix x56.1 i144).bind fun x150 =>
 (zfH a0 x150).bind fun z151 =>
 ((zaq (σ := (List Int)) (fun i156 s155 =>
 (((ix z151 i156).bind fun x165 =>
 (ix x56.2 i144).bind fun x166 =>
 if (!x166) = true then (
 (ix a1 i144).bind fun x168 =>
 (zey a0.Q x168 x165).bind fun z169 =>
 gd ((s155.length + 1) * 8 ≤ 140737488355328 ∧ s155.length + 1 ≤ 4611686018427387904) <|
 some (s155 ++ [z169])) else (
 some s155) : Option ((List Int))).bind fun x164 =>
 some (.go x164))) (fun s155 => s155) (z151.length) 0 [] : Option ((List Int))).bind fun x154 =>
 gd ((s143.length + 1) * 24 ≤ 140737488355328 ∧ s143.length + 1 ≤ 4611686018427387904) <|
 some (.go (s143 ++ [x154])))) (fun s143 => s143) (x56.1.length) 0 [] : Option ((List (List Int)))).bind fun x111 =>
 some (x56.1, x111, true))) some))) some))))
set_option maxHeartbeats 1000000 in
theorem zkW : ∀ {a0} {a1} {a2} {r}, zdQ a0 a1 a2 = some r → PCalls Tryz.prog 157 [(.sh, vE a0), (.sh, vH a1), (.sh, vI a2)] (Eo (.tup [vK r.1, vG r.2.1, .bool r.2.2]) [.junk, .junk, .junk]) := by
 intro a0 a1 a2 r hr
 apply pF 182 [] [380] [] [.tmp 6, .tmp 7, .tmp 8] hr zAz Tryz.func157
 intro Φ hΦ hF g
 unfold zdQ at hF
 iterate 2 (try simp [go_sem, g]; try intros; refine zau ?_)
 refine wJ hF (fun x3 => [(1, .v (vH a1)), (2, .v (vI a2)), (3, .bl [.int .i64 a0.P, .int .i64 a0.Q, .int .i64 a0.G]), (9, .v (.int .i64 (a1.length : Int))), (45, .v (.bool x3))]) (fun x3 hF => ?_) fun _ hj1 hF => ?_
 ·refine wI hF (fun h11 hF => ?_) (fun h11 hF => ?_)
  ·refine wK [6, 7, 8] ?_
   exact wm hΦ hF
  iterate 2 (try simp [go_sem, g]; try intros; refine zau ?_)
  try simp [go_sem, g]
  try intros
  refine wK [1, 2, 3, 9, 10, 46, 47, 48] ?_
  refine wS hF (fun x14 => [(1, .v (vH a1)), (2, .v (vI a2)), (3, .bl [.int .i64 a0.P, .int .i64 a0.Q, .int .i64 a0.G]), (9, .v (.int .i64 (a1.length : Int))), (10, .v (vK x14))]) (fun x14 hF => ?_) fun _ hj12 hr13 hF => ?_
  ·obtain ⟨g, hF⟩ := Rg g hF
   obtain ⟨x51, e52, hF⟩ := zfF hF
   have g53 : List.replicate a1.length ([.bool false] : List PV) = x51.map zhL := by injection e52 with e52; rw [← e52]; simp [go_sem]
   iterate 2 (try simp [go_sem, g, g53]; try intros; refine zau ?_)
   refine wS hF (fun x56 => [(1, .v (vH a1)), (3, .bl [.int .i64 a0.P, .int .i64 a0.Q, .int .i64 a0.G]), (10, .v (vK x56.1)), (13, .v (vL x56.2))]) (fun x56 hF => ?_) fun _ hj54 hr55 hF => ?_
   ·try simp [go_sem, g]
    try intros
    refine zau ?_
    try simp [go_sem, g]
    try intros
    refine wK [1, 3, 10, 13, 17, 143, 144] ?_
    refine wJ hF (fun x111 => [(10, .v (vK x56.1)), (17, .v (vG x111))]) (fun x111 hF => ?_) fun _ hj109 hF => ?_
    ·exact wl hΦ hF
    refine wB ?_
    obtain ⟨b174, hb175, hψ147⟩ := hF
    refine pR hb175 (fun i144 s143 => [(1, .v (vH a1)), (3, .bl [.int .i64 a0.P, .int .i64 a0.Q, .int .i64 a0.G]), (10, .v (vK x56.1)), (13, .v (vL x56.2)), (17, .v (vG s143)), (143, .v (.int .i64 (x56.1.length : Int))), (144, .v (.int .i64 i144))]) (fun s143 _ hN176 => ?_) (fun i144 s143 _ _ hi148 hi149 ho145 hg146 hF => ?_)
    ·exact wn hN176 (hj109 _) hψ147
    refine wW ?_
    refine wu hi148 hi149 ?_
    refine wW ?_
    refine wB ?_
    iterate 2 refine wW ?_
    refine wX zxz follows ?_
    obtain ⟨x150, g, hF⟩ := Rx g hF
    refine wC hF [.sh, .sh] zl0 (fun z151 hF => ?_)
    try simp [go_sem, g]
    try intros
    refine wK [1, 3, 10, 13, 17, 18, 19, 143, 144, 152, 153, 154] ?_
    refine wJ hF (fun x154 => [(1, .v (vH a1)), (3, .bl [.int .i64 a0.P, .int .i64 a0.Q, .int .i64 a0.G]), (10, .v (vK x56.1)), (13, .v (vL x56.2)), (17, .v (vG s143)), (19, .v (vD x154)), (143, .v (.int .i64 (x56.1.length : Int))), (144, .v (.int .i64 i144))]) (fun x154 hF => ?_) fun _ hj152 hF => ?_
    ·obtain ⟨g, hF⟩ := Rg g hF
     refine wW ?_
     exact wi hi148 hi149 (hg146 _) (zaa hF)
    refine wB ?_
    obtain ⟨b170, hb171, hψ159⟩ := hF
    refine pR hb171 (fun i156 s155 => [(1, .v (vH a1)), (3, .bl [.int .i64 a0.P, .int .i64 a0.Q, .int .i64 a0.G]), (10, .v (vK x56.1)), (13, .v (vL x56.2)), (17, .v (vG s143)), (18, .v (.int .i64 i144)), (19, .v (vD s155)), (143, .v (.int .i64 (x56.1.length : Int))), (144, .v (.int .i64 i144)), (152, .v (vD z151)), (153, .v (.int .i64 (z151.length : Int))), (154, .v (.int .i64 i156))]) (fun s155 _ hN172 => ?_) (fun i156 s155 _ _ hi160 hi161 ho157 hg158 hF => ?_)
    ·exact wn hN172 (hj152 _) hψ159
    refine wW ?_
    refine wu hi160 hi161 ?_
    refine wW ?_
    refine wJ hF (fun x164 => [(1, .v (vH a1)), (3, .bl [.int .i64 a0.P, .int .i64 a0.Q, .int .i64 a0.G]), (10, .v (vK x56.1)), (13, .v (vL x56.2)), (17, .v (vG s143)), (18, .v (.int .i64 i144)), (19, .v (vD x164)), (143, .v (.int .i64 (x56.1.length : Int))), (144, .v (.int .i64 i144)), (152, .v (vD z151)), (153, .v (.int .i64 (z151.length : Int))), (154, .v (.int .i64 i156))]) (fun x164 hF => ?_) fun _ hj162 hF => ?_
    ·exact wi hi160 hi161 (hg158 _) (zaa hF)
    refine wB ?_
    obtain ⟨x165, g, hF⟩ := Rx g hF
    obtain ⟨x166, g, hF⟩ := Rx g hF
    iterate 2 refine wW ?_
    refine wI hF (fun h167 hF => ?_) (fun h167 hF => ?_)
    ·refine wX zxy follows ?_
     obtain ⟨x168, g, hF⟩ := Rx g hF
     refine wC hF [.sh, .sh, .sh] zkO (fun z169 hF => ?_)
     obtain ⟨g, hF⟩ := Rg g hF
     exact wT (hj162 _) (zaa hF)
    exact wT (hj162 _) (zaa hF)
   refine wB ?_
   obtain ⟨b105, hb106, hψ85⟩ := hF
   refine pR hb106 (fun i82 s81 => [(1, .v (vH a1)), (3, .bl [.int .i64 a0.P, .int .i64 a0.Q, .int .i64 a0.G]), (9, .v (.int .i64 (a1.length : Int))), (10, .v (vK s81.1)), (13, .v (vL s81.2)), (75, .v (vI a2)), (76, .v (.int .i64 (a2.length : Int))), (77, .v (.int .i64 i82))]) (fun s81 _ hN107 => ?_) (fun i82 s81 _ _ hi86 hi87 ho83 hg84 hF => ?_)
   ·exact wn hN107 (hj54 _) hψ85
   refine wW ?_
   refine wu hi86 hi87 ?_
   refine wW ?_
   refine wS hF (fun x90 => [(1, .v (vH a1)), (3, .bl [.int .i64 a0.P, .int .i64 a0.Q, .int .i64 a0.G]), (9, .v (.int .i64 (a1.length : Int))), (10, .v (vK x90.1)), (13, .v (vL x90.2)), (75, .v (vI a2)), (76, .v (.int .i64 (a2.length : Int))), (77, .v (.int .i64 i82))]) (fun x90 hF => ?_) fun _ hj88 hr89 hF => ?_
   ·exact wi hi86 hi87 (hg84 _) (zaa hF)
   refine wB ?_
   obtain ⟨x91, g, hF⟩ := Rx g hF
   refine wK [1, 3, 9, 10, 13, 15, 75, 76, 77] ?_
   refine wJ hF (fun x94 => [(1, .v (vH a1)), (3, .bl [.int .i64 a0.P, .int .i64 a0.Q, .int .i64 a0.G]), (9, .v (.int .i64 (a1.length : Int))), (10, .v (vK s81.1)), (13, .v (vL s81.2)), (15, .bl [.int .i64 x91.Dealer, .int .i64 x91.Trustee, .int .i64 x91.Delta, .bool x91.Answers]), (75, .v (vI a2)), (76, .v (.int .i64 (a2.length : Int))), (77, .v (.int .i64 i82)), (100, .v (.bool x94))]) (fun x94 hF => ?_) fun _ hj92 hF => ?_
   ·refine wI hF (fun h100 hF => ?_) (fun h100 hF => ?_)
    ·cases ho83 _ (hr89 _ (zaa hF))
     cases hΦ _ (hr55 _ hψ85)
     refine wW ?_
     try simp [go_sem, g]
    obtain ⟨x101, g, hF⟩ := Rx g hF
    iterate 2 refine wW ?_
    refine wX zw0 follows ?_
    obtain ⟨x102, g, hF⟩ := Rx g hF
    obtain ⟨g, hF⟩ := Rz g hF
    refine wK [1, 3, 9, 10, 13, 15, 75, 76, 77] ?_
    refine wX zwZ follows ?_
    obtain ⟨x103, g, hF⟩ := Rx g hF
    refine wH hF (fun h104 hF => ?_) fun h104 hF => ?_
    ·exact wV h104 (hj88 _) (zaa hF)
    exact wV h104 (hj88 _) (zaa hF)
   refine wC hF [.sh, .sh, .sh] zbN (fun z95 hF => ?_)
   refine wG hF (fun h96 hF => ?_) fun h96 hF => ?_
   ·exact wV h96 (hj92 _) (zaa hF)
   try simp [go_sem, g, h96]
   refine wC hF [.sh, .sh, .sh] zbN (fun z97 hF => ?_)
   try simp [go_sem, g, h96]
   refine wG hF (fun h98 hF => ?_) fun h98 hF => ?_
   ·exact wV h98 (hj92 _) (zaa hF)
   try simp [go_sem, g, h98]
   refine wC hF [.sh, .sh] zhg (fun z99 hF => ?_)
   exact wV h98 (hj92 _) (zaa hF)
  refine wB ?_
  obtain ⟨b47, hb48, hψ35⟩ := hF
  refine pR hb48 (fun i32 s31 => [(1, .v (vH a1)), (2, .v (vI a2)), (3, .bl [.int .i64 a0.P, .int .i64 a0.Q, .int .i64 a0.G]), (9, .v (.int .i64 (a1.length : Int))), (10, .v (vK s31)), (46, .v (vH a1)), (47, .v (.int .i64 (a1.length : Int))), (48, .v (.int .i64 i32))]) (fun s31 _ hN49 => ?_) (fun i32 s31 _ _ hi36 hi37 ho33 hg34 hF => ?_)
  ·exact wn hN49 (hj12 _) hψ35
  refine wW ?_
  refine wu hi36 hi37 ?_
  refine wW ?_
  refine wB ?_
  obtain ⟨x38, g, hF⟩ := Rx g hF
  refine wW ?_
  refine wJ hF (fun x41 => [(1, .v (vH a1)), (2, .v (vI a2)), (3, .bl [.int .i64 a0.P, .int .i64 a0.Q, .int .i64 a0.G]), (9, .v (.int .i64 (a1.length : Int))), (10, .v (vK s31)), (12, .v (vC x38)), (46, .v (vH a1)), (47, .v (.int .i64 (a1.length : Int))), (48, .v (.int .i64 i32)), (64, .v (.bool x41))]) (fun x41 hF => ?_) fun _ hj39 hF => ?_
  ·refine wI hF (fun h45 hF => ?_) (fun h45 hF => ?_)
   ·cases ho33 _ (zaa hF)
    cases hΦ _ (hr13 _ hψ35)
    refine wW ?_
    try simp [go_sem, g]
   refine wW ?_
   refine wC hF [.sh, .sh, .sh] zk9 (fun z46 hF => ?_)
   obtain ⟨g, hF⟩ := Rg g hF
   refine wK [1, 2, 3, 9, 10, 46, 47, 48] ?_
   exact wi hi36 hi37 (hg34 _) (zaa hF)
  obtain ⟨x42, g, hF⟩ := Rxn g 0 hF
  try simp [go_sem, g]
  try intros
  refine wG hF (fun h43 hF => ?_) fun h43 hF => ?_
  ·exact wV h43 (hj39 _) (zaa hF)
  try simp [go_sem, g, h43]
  refine wC hF [.sh, .sh] zhg (fun z44 hF => ?_)
  exact wV h43 (hj39 _) (zaa hF)
 refine wC hF [.sh] zeN (fun z4 hF => ?_)
 refine wG hF (fun h5 hF => ?_) fun h5 hF => ?_
 ·exact wV h5 (hj1 _) (zaa hF)
 try simp [go_sem, g, h5]
 refine wC hF [.sh, .sh, .sh] zbN (fun z6 hF => ?_)
 try simp [go_sem, g, h5]
 refine wG hF (fun h7 hF => ?_) fun h7 hF => ?_
 ·exact wV h7 (hj1 _) (zaa hF)
 obtain ⟨x8, g, hF⟩ := Rxn g 0 hF
 try simp [go_sem, g, h7]
 try intros
 refine wC hF [.sh, .sh, .sh] zbN (fun z9 hF => ?_)
 try simp [go_sem, g, h7]
 refine wG hF (fun h10 hF => ?_) fun h10 hF => ?_
 ·exact wV h10 (hj1 _) (zaa hF)
 try simp [go_sem, g, h10]
 try intros
 exact wT (hj1 _) (zaa hF)
def zcP (a0 : List Int) : Option ((List Int)) :=
 gd (a0.length * 8 ≤ 140737488355328 ∧ a0.length ≤ 4611686018427387904) <|
 some a0
theorem zeA : ∀ {a0} {r}, zcP a0 = some r → PCalls Tryz.prog 141 [(.sh, vC a0)] (Eo (vD r) [.junk]) := by
 intro a0 r hr
 apply pF 6 [] [] [] [.tmp 2] hr zCm Tryz.func141
 intro Φ hΦ hF g
 unfold zcP at hF
 obtain ⟨g, hF⟩ := Rg g hF
 cases hΦ _ (zaa hF)
 iterate 2 refine wW ?_
 try simp [go_sem, g]
@[go_sem] def zxj : List DE := [d1 0 [9] 9, d2 1 [54] 9 54, d0 2 [11], d0 3 [56], d0 4 [2], d0 5 [10], d0 6 [58, 59], d0 7 [60], d0 8 [55, 57], d0 9 [62, 61]]
@[go_sem] def zyb : List DE := [d1 0 [4] 4, d2 1 [29] 4 29, d1 3 [4] 4, d2 4 [32] 4 32, d0 7 [], d3 2 [30], d3 5 [33], d0 6 [31, 34], d2 8 [9, 35] 9 9]
@[go_sem] def zzF : List DE := [d2 0 [3] 3 3, d1 1 [4] 4, d2 2 [44] 4 44, d0 3 [11], d0 4 [2], d0 5 [10], d0 6 [47, 48], d0 7 [49], d3 8 [43, 45, 46, 50], d0 9 [51]]
def zeW (a0 : Group) (a1 : Dealing) (a2 : List Int) : Option (Dealing × Bool) :=
 (zfH a0 a1).bind fun z1 =>
 ((if decide ((a1.Commits.length : Int) ≤ (z1.length : Int)) = true then (
 some true) else (
 some ((a2.length : Int) != (z1.length : Int))) : Option Bool).bind fun x4 =>
 if x4 = true then (
 some (a1, false)) else (
 (zcP a1.Commits).bind fun z7 =>
 (zcP a1.Shares).bind fun z8 =>
 ((zaq (σ := (List Int) × List Int) (fun i25 s24 =>
 (ix z1 i25).bind fun x31 =>
 (ix a2 i25).bind fun x32 =>
 (ze4 a0 a1.Commits x31 x32).bind fun z33 =>
 if (!z33) = true then (
 some (.out (.inr (a1, false)))) else (
 (ix s24.2 (i64.wrap (x31 - 1))).bind fun x35 =>
 some (.go (s24.1, s24.2.set ((i64.wrap (x31 - 1)).toNat) x32)))) (fun s24 => .inl (s24.1, s24.2)) (z1.length) 0 (z7, z8) : Option ((List Int × List Int) ⊕ (Dealing × Bool))).bind (Sum.elim (fun x11 =>
 some ((Dealing.mk x11.1 x11.2), true)) some))))
theorem znn : ∀ {a0} {a1} {a2} {r}, zeW a0 a1 a2 = some r → PCalls Tryz.prog 199 [(.sh, vE a0), (.sh, vM a1), (.sh, vC a2)] (Eo (.tup [vM r.1, .bool r.2]) [.junk, .junk, .junk]) := by
 intro a0 a1 a2 r hr
 apply pFz 65 [] [] [] [.cell 6 29, .tmp 7] hr zCt Tryz.func199
 intro Φ hΦ hF g
 unfold zeW at hF
 refine wW ?_
 refine wC hF [.sh, .sh] zl0 (fun z1 hF => ?_)
 refine wW ?_
 refine wJ hF (fun x4 => [(2, .v (vC a2)), (3, .bl [.int .i64 a0.P, .int .i64 a0.Q, .int .i64 a0.G]), (4, .bl [vC a1.Commits, vC a1.Shares]), (6, .bl [.sl true 1 [], .sl true 1 []]), (8, .v (vD z1)), (27, .v (.bool x4))]) (fun x4 hF => ?_) fun _ hj2 hF => ?_
 ·refine wI hF (fun h6 hF => ?_) (fun h6 hF => ?_)
  ·refine wK [6, 7] ?_
   exact wm hΦ hF
  refine wW ?_
  refine wX zyb follows ?_
  refine wC hF [.sh] zeA (fun z7 hF => ?_)
  refine wC hF [.sh] zeA (fun z8 hF => ?_)
  refine wK [2, 3, 4, 6, 8, 9] ?_
  try simp [go_sem, g]
  try intros
  refine zau ?_
  refine wS hF (fun x11 => [(6, .bl [.sl true 1 [], .sl true 1 []]), (9, .bl [vD x11.1, vD x11.2])]) (fun x11 hF => ?_) fun _ hj9 hr10 hF => ?_
  ·exact wl hΦ hF
  refine wB ?_
  obtain ⟨b36, hb37, hψ28⟩ := hF
  refine pR hb37 (fun i25 s24 => [(2, .v (vC a2)), (3, .bl [.int .i64 a0.P, .int .i64 a0.Q, .int .i64 a0.G]), (4, .bl [vC a1.Commits, vC a1.Shares]), (6, .bl [.sl true 1 [], .sl true 1 []]), (8, .v (vD z1)), (9, .bl [vD s24.1, vD s24.2]), (36, .rf 8 []), (37, .v (.int .i64 (z1.length : Int))), (38, .v (.int .i64 i25))]) (fun s24 _ hN38 => ?_) (fun i25 s24 _ _ hi29 hi30 ho26 hg27 hF => ?_)
  ·exact wn hN38 (hj9 _) hψ28
  refine wW ?_
  refine wu hi29 hi30 ?_
  refine wW ?_
  refine wB ?_
  obtain ⟨x31, g, hF⟩ := Rx g hF
  refine wW ?_
  refine wX zzF follows ?_
  obtain ⟨x32, g, hF⟩ := Rx g hF
  refine wC hF [.sh, .sh, .sh, .sh] zk6 (fun z33 hF => ?_)
  refine wK [2, 3, 4, 6, 8, 9, 10, 11, 36, 37, 38, 52] ?_
  refine wI hF (fun h34 hF => ?_) (fun h34 hF => ?_)
  ·cases ho26 _ (zaa hF)
   cases hΦ _ (hr10 _ hψ28)
   refine wW ?_
   try simp [go_sem, g]
  refine wW ?_
  refine wX zxj follows ?_
  obtain ⟨x35, g, hF⟩ := Rx g hF
  refine wK [2, 3, 4, 6, 8, 9, 36, 37, 38] ?_
  exact wi hi29 hi30 (hg27 _) (zaa hF)
 try simp [go_sem, g]
 try intros
 refine wG hF (fun h5 hF => ?_) fun h5 hF => ?_
 ·exact wV h5 (hj2 _) (zaa hF)
 try simp [go_sem, g, h5]
 try intros
 exact wT (hj2 _) (zaa hF)
@[go_sem] def zyF : List DE := [d2 0 [3] 3 3, d2 1 [11] 11 11, d0 2 [2], d0 3 [10], d0 4 [24, 25], d0 5 [26], d0 10 [], d3 6 [22, 23, 27], d0 7 [28], d0 8 [21], d0 9 [21], d2 11 [12, 29] 12 12, d0 12 [30]]
def zdO (a0 : Group) (a1 : List Dealing) (a2 : (List (List Int))) : Option (List Int × List Dealing) :=
 ((zaq (σ := (List Int) × List Dealing) (fun i5 s4 =>
 (((ix a1 i5).bind fun x14 =>
 (ix a2 i5).bind fun x15 =>
 (zeW a0 x14 x15).bind fun z16 =>
 if z16.2 = true then (
 gd ((s4.1.length + 1) * 8 ≤ 140737488355328 ∧ s4.1.length + 1 ≤ 4611686018427387904) <|
 gd ((s4.2.length + 1) * 48 ≤ 140737488355328 ∧ s4.2.length + 1 ≤ 4611686018427387904) <|
 some (s4.1 ++ [i64.wrap (i5 + 1)], s4.2 ++ [z16.1])) else (
 some (s4.1, s4.2)) : Option ((List Int × List Dealing))).bind fun x13 =>
 some (.go (x13.1, x13.2)))) (fun s4 => (s4.1, s4.2)) (a1.length) 0 ([], []) : Option ((List Int × List Dealing))).bind fun x3 =>
 some (x3.1, x3.2))
theorem zk3 : ∀ {a0} {a1} {a2} {r}, zdO a0 a1 a2 = some r → PCalls Tryz.prog 187 [(.sh, vE a0), (.sh, vO a1), (.sh, vH a2)] (Eo (.tup [vD r.1, vJ r.2]) [.junk, .junk, .junk]) := by
 intro a0 a1 a2 r hr
 apply pF 44 [] [] [] [.tmp 6, .tmp 7] hr zBc Tryz.func187
 intro Φ hΦ hF g
 unfold zdO at hF
 iterate 4 (try simp [go_sem, g]; try intros; refine zau ?_)
 refine wJ hF (fun x3 => [(8, .v (vD x3.1)), (9, .v (vJ x3.2))]) (fun x3 hF => ?_) fun _ hj1 hF => ?_
 ·refine wK [6, 7] ?_
  exact wm hΦ hF
 refine wB ?_
 obtain ⟨b18, hb19, hψ8⟩ := hF
 refine pR hb19 (fun i5 s4 => [(2, .v (vH a2)), (3, .bl [.int .i64 a0.P, .int .i64 a0.Q, .int .i64 a0.G]), (8, .v (vD s4.1)), (9, .v (vJ s4.2)), (14, .v (vO a1)), (15, .v (.int .i64 (a1.length : Int))), (16, .v (.int .i64 i5))]) (fun s4 _ hN20 => ?_) (fun i5 s4 _ _ hi9 hi10 ho6 hg7 hF => ?_)
 ·exact wn hN20 (hj1 _) hψ8
 refine wW ?_
 refine wu hi9 hi10 ?_
 refine wW ?_
 refine wJ hF (fun x13 => [(2, .v (vH a2)), (3, .bl [.int .i64 a0.P, .int .i64 a0.Q, .int .i64 a0.G]), (8, .v (vD x13.1)), (9, .v (vJ x13.2)), (14, .v (vO a1)), (15, .v (.int .i64 (a1.length : Int))), (16, .v (.int .i64 i5))]) (fun x13 hF => ?_) fun _ hj11 hF => ?_
 ·exact wi hi9 hi10 (hg7 _) (zaa hF)
 refine wB ?_
 obtain ⟨x14, g, hF⟩ := Rx g hF
 refine wK [2, 3, 8, 9, 10, 11, 14, 15, 16] ?_
 refine wX zyF follows ?_
 obtain ⟨x15, g, hF⟩ := Rx g hF
 refine wC hF [.sh, .sh, .sh] znn (fun z16 hF => ?_)
 refine wK [2, 3, 8, 9, 10, 12, 13, 14, 15, 16] ?_
 refine wW ?_
 refine wI hF (fun h17 hF => ?_) (fun h17 hF => ?_)
 ·obtain ⟨g, hF⟩ := Rg g hF
  obtain ⟨g, hF⟩ := Rg g hF
  refine wW ?_
  exact wT (hj11 _) (zaa hF)
 exact wT (hj11 _) (zaa hF)
@[go_sem] def zys : List DE := [d0 0 [1], d0 1 [12], d0 2 [13], d0 3 [14], d0 5 [1], d0 6 [17], d0 7 [18], d0 8 [19], d0 11 [], ⟨4, [15], [], none, false, true, false⟩, d3 9 [20], d0 10 [16, 21], d2 12 [5, 22] 5 5]
@[go_sem] def zxs : List DE := [d1 0 [5] 5, d2 1 [60] 5 60, d0 2 [10], d1 3 [5] 5, d2 4 [63] 5 63, d0 5 [10], d0 6 [64, 65], d0 7 [66], d0 8 [11], d0 9 [67, 68], d1 10 [2] 2, d2 11 [70] 2 70, d0 12 [69, 71], d0 13 [61, 62], d0 14 [73, 72]]
@[go_sem] def zzb : List DE := [d1 0 [5] 5, d2 1 [38] 5 38, d0 2 [8], d2 3 [2] 2 2, d1 4 [5] 5, d2 5 [42] 5 42, d0 6 [8], d0 7 [43, 44], d0 8 [45], d0 9 [9], d0 10 [46, 47], ⟨11, [41, 48], [], none, true, true, true⟩, d0 12 [39, 40], d0 13 [50, 49]]
def zgy (a0 : Group) (a1 : List Dealing) : Option Dealing :=
 (ix a1 0).bind fun x1 =>
 (zcP x1.Commits).bind fun z2 =>
 (zcP x1.Shares).bind fun z3 =>
 gd (1 ≤ a1.length ∧ a1.length ≤ a1.length) <|
 ((zaq (σ := (List Int) × List Int) (fun i69 s68 =>
 (((ix ((a1.take a1.length).drop 1) i69).bind fun x79 =>
 ((zaq (σ := (List Int) × List Int) (fun i94 s93 =>
 (ix x79.Commits i94).bind fun x100 =>
 (ix s93.1 i94).bind fun x101 =>
 (zc5 a0 [x101, x100]).bind fun z102 =>
 some (.go (s93.1.set i94.toNat z102, s93.2))) (fun s93 => (s93.1, s93.2)) (x79.Commits.length) 0 (s68.1, s68.2) : Option ((List Int × List Int))).bind fun x82 =>
 zaq (σ := (List Int) × List Int) (fun i117 s116 =>
 (ix x79.Shares i117).bind fun x123 =>
 (ix s116.2 i117).bind fun x124 =>
 gd (a0.Q ≠ 0) <|
 some (.go (s116.1, s116.2.set i117.toNat ((i64.wrap (x124 + x123)).tmod a0.Q)))) (fun s116 => (s116.1, s116.2)) (x79.Shares.length) 0 (x82.1, x82.2)) : Option ((List Int × List Int))).bind fun x78 =>
 some (.go (x78.1, x78.2)))) (fun s68 => (s68.1, s68.2)) (((a1.take a1.length).drop 1).length) 0 (z2, z3) : Option ((List Int × List Int))).bind fun x6 =>
 some (Dealing.mk x6.1 x6.2))
theorem zqO : ∀ {a0} {a1} {r}, zgy a0 a1 = some r → PCalls Tryz.prog 188 [(.sh, vE a0), (.sh, vO a1)] (Eo (vF r) [.junk, .junk]) := by
 intro a0 a1 r hr
 apply pF 77 [] [] [] [.cell 4 29] hr zAw Tryz.func188
 intro Φ hΦ hF g
 unfold zgy at hF
 refine wW ?_
 refine wX zys follows ?_
 obtain ⟨x1, g, hF⟩ := Rxn g 0 hF
 refine wD hF zeA (fun z2 hF => ?_)
 refine wC hF [.sh] zeA (fun z3 hF => ?_)
 refine wK [1, 2, 4, 5] ?_
 obtain ⟨g, hF⟩ := Rg g hF
 try simp [go_sem, g]
 try intros
 refine zau ?_
 refine wJ hF (fun x6 => [(4, .bl [.sl true 1 [], .sl true 1 []]), (5, .bl [vD x6.1, vD x6.2])]) (fun x6 hF => ?_) fun _ hj4 hF => ?_
 ·exact wl hΦ hF
 refine wB ?_
 obtain ⟨b129, hb130, hψ72⟩ := hF
 refine pR hb130 (fun i69 s68 => [(2, .bl [.int .i64 a0.P, .int .i64 a0.Q, .int .i64 a0.G]), (4, .bl [.sl true 1 [], .sl true 1 []]), (5, .bl [vD s68.1, vD s68.2]), (24, .v (vO ((a1.take a1.length).drop 1))), (25, .v (.int .i64 (((a1.take a1.length).drop 1).length : Int))), (26, .v (.int .i64 i69))]) (fun s68 _ hN131 => ?_) (fun i69 s68 _ _ hi73 hi74 ho70 hg71 hF => ?_)
 ·exact wn hN131 (hj4 _) hψ72
 have hi75 := hi74
 try simp at hi75
 refine wW ?_
 refine wt ?_ (hb := by simp [go_sem, g, hi73, hi74, hi75] <;> omega)
 refine wW ?_
 refine wJ hF (fun x78 => [(2, .bl [.int .i64 a0.P, .int .i64 a0.Q, .int .i64 a0.G]), (4, .bl [.sl true 1 [], .sl true 1 []]), (5, .bl [vD x78.1, vD x78.2]), (24, .v (vO ((a1.take a1.length).drop 1))), (25, .v (.int .i64 (((a1.take a1.length).drop 1).length : Int))), (26, .v (.int .i64 i69))]) (fun x78 hF => ?_) fun _ hj76 hF => ?_
 ·exact wT (hg71 (x78.1, x78.2)) (zaa hF) (a := by simp [go_sem, g, zpk hi73 hi74 (by first | assumption | (simp; assumption) | (simp; omega))])
 refine wB ?_
 obtain ⟨x79, g, hF⟩ := Rxq g hF
 try simp [go_sem, g]
 try intros
 refine zau ?_
 try simp [go_sem, g]
 try intros
 refine wK [2, 4, 5, 7, 24, 25, 26, 31, 32, 33] ?_
 refine wJ hF (fun x82 => [(2, .bl [.int .i64 a0.P, .int .i64 a0.Q, .int .i64 a0.G]), (4, .bl [.sl true 1 [], .sl true 1 []]), (5, .bl [vD x82.1, vD x82.2]), (7, .bl [vC x79.Commits, vC x79.Shares]), (24, .v (vO ((a1.take a1.length).drop 1))), (25, .v (.int .i64 (((a1.take a1.length).drop 1).length : Int))), (26, .v (.int .i64 i69))]) (fun x82 hF => ?_) fun _ hj80 hF => ?_
 ·try simp [go_sem, g]
  try intros
  refine zau ?_
  refine wB ?_
  obtain ⟨b125, hb126, hψ120⟩ := hF
  refine pR hb126 (fun i117 s116 => [(2, .bl [.int .i64 a0.P, .int .i64 a0.Q, .int .i64 a0.G]), (4, .bl [.sl true 1 [], .sl true 1 []]), (5, .bl [vD s116.1, vD s116.2]), (24, .v (vO ((a1.take a1.length).drop 1))), (25, .v (.int .i64 (((a1.take a1.length).drop 1).length : Int))), (26, .v (.int .i64 i69)), (53, .v (vC x79.Shares)), (54, .v (.int .i64 (x79.Shares.length : Int))), (55, .v (.int .i64 i117))]) (fun s116 _ hN127 => ?_) (fun i117 s116 _ _ hi121 hi122 ho118 hg119 hF => ?_)
  ·exact wn hN127 (hj76 _) hψ120
  refine wW ?_
  refine wu hi121 hi122 ?_
  refine wW ?_
  refine wB ?_
  obtain ⟨x123, g, hF⟩ := Rx g hF
  refine wK [2, 4, 5, 10, 11, 24, 25, 26, 53, 54, 55] ?_
  refine wX zxs follows ?_
  obtain ⟨x124, g, hF⟩ := Rx g hF
  obtain ⟨g, hF⟩ := Rz g hF
  refine wK [2, 4, 5, 24, 25, 26, 53, 54, 55] ?_
  exact wi hi121 hi122 (hg119 _) (zaa hF)
 refine wB ?_
 obtain ⟨b103, hb104, hψ97⟩ := hF
 refine pR hb104 (fun i94 s93 => [(2, .bl [.int .i64 a0.P, .int .i64 a0.Q, .int .i64 a0.G]), (4, .bl [.sl true 1 [], .sl true 1 []]), (5, .bl [vD s93.1, vD s93.2]), (7, .bl [vC x79.Commits, vC x79.Shares]), (24, .v (vO ((a1.take a1.length).drop 1))), (25, .v (.int .i64 (((a1.take a1.length).drop 1).length : Int))), (26, .v (.int .i64 i69)), (31, .v (vC x79.Commits)), (32, .v (.int .i64 (x79.Commits.length : Int))), (33, .v (.int .i64 i94))]) (fun s93 _ hN105 => ?_) (fun i94 s93 _ _ hi98 hi99 ho95 hg96 hF => ?_)
 ·exact wn hN105 (hj80 _) hψ97
 refine wW ?_
 refine wu hi98 hi99 ?_
 refine wW ?_
 refine wB ?_
 obtain ⟨x100, g, hF⟩ := Rx g hF
 refine wW ?_
 refine wX zzb follows ?_
 obtain ⟨x101, g, hF⟩ := Rx g hF
 refine wC hF [.sh, .sh] zgs (fun z102 hF => ?_)
 refine wK [2, 4, 5, 7, 24, 25, 26, 31, 32, 33] ?_
 exact wi hi98 hi99 (hg96 _) (zaa hF)
@[go_sem] def zzx : List DE := [d0 0 [8], d1 1 [10] 10, d2 2 [26] 10 26, d0 3 [27], d0 4 [28], d1 5 [10] 10, d2 6 [30] 10 30, d1 7 [10] 10, d2 8 [32] 10 32, d0 9 [25, 29, 31, 33], d2 10 [6, 34] 6 6, d0 11 []]
def zeE (a0 : Group) (a1 : List Dealing) (a2 : (List (List Int))) : Option (KeyGen × Bool) :=
 (zdO a0 a1 a2).bind fun z1 =>
 if ((z1.1.length : Int) == 0) = true then (
 some ((KeyGen.mk [] 0 [] []), false)) else (
 (zgy a0 z1.2).bind fun z3 =>
 (ix z3.Commits 0).bind fun x4 =>
 some ((KeyGen.mk z1.1 x4 z3.Commits z3.Shares), true))
theorem zmy : ∀ {a0} {a1} {a2} {r}, zeE a0 a1 a2 = some r → PCalls Tryz.prog 159 [(.sh, vE a0), (.sh, vO a1), (.sh, vH a2)] (Eo (.tup [vP r.1, .bool r.2]) [.junk, .junk, .junk]) := by
 intro a0 a1 a2 r hr
 apply pFz 35 [] [29, 31, 33] [] [.cell 6 130, .tmp 7] hr zCL Tryz.func159
 intro Φ hΦ hF g
 unfold zeE at hF
 refine wW ?_
 refine wC hF [.sh, .sh, .sh] zk3 (fun z1 hF => ?_)
 refine wK [3, 6, 8, 9] ?_
 try simp [go_sem, g]
 try intros
 refine zau ?_
 refine wI hF (fun h2 hF => ?_) (fun h2 hF => ?_)
 ·exact wl hΦ hF
 refine wW ?_
 refine wC hF [.sh, .sh] zqO (fun z3 hF => ?_)
 refine wW ?_
 refine wX zzx follows ?_
 obtain ⟨x4, g, hF⟩ := Rxn g 0 hF
 refine wK [6, 7] ?_
 exact wm hΦ hF
@[go_sem] def zCq : List DE := [d2 0 [3] 3 3, d0 1 [0], d2 2 [3] 3 3, d0 3 [5], d0 4 [0], d0 5 [5], d3 6 [26, 27], d0 7 [28], d3 8 [23, 24, 25, 29], d3 9 [22, 30], d0 10 [31], d0 11 [21], d0 12 [21], d0 13 [21], d0 14 [32], d0 15 [33], d0 16 [34]]
def zcz (a0c0 : List Int) (a0c1 : Int) (a0c2 : Int) (a1 : Group) : Option (KeyGen × (List Int × Int × Int)) :=
 (zai a0c0 a0c1 a0c2 5).bind fun z1 =>
 (zct a1).bind fun z2 =>
 if (!z2) = true then (
 some ((KeyGen.mk [1] 1 [1] [0]), (z1.2.1, z1.2.2.1, z1.2.2.2))) else (
 (zai z1.2.1 z1.2.2.1 z1.2.2.2 (i64.wrap (1 + z1.1))).bind fun z4 =>
 (zbG z4.2.1 z4.2.2.1 z4.2.2.2 a1 (i64.wrap (1 + z1.1)) (i64.wrap (1 + z4.1))).bind fun z5 =>
 (zdQ a1 z5.1 []).bind fun z6 =>
 (zeE a1 z6.1 z6.2.1).bind fun z7 =>
 some (z7.1, (z5.2.1, z5.2.2.1, z5.2.2.2)))
theorem ziS : ∀ {a0c0} {a0c1} {a0c2} {a1} {r}, zcz a0c0 a0c1 a0c2 a1 = some r → PCalls Tryz.prog 97 [(.io, vB a0c0 a0c1 a0c2), (.sh, vE a1)] (Eo (vP r.1) [vB r.2.1 r.2.2.1 r.2.2.2, .junk]) := by
 intro a0c0 a0c1 a0c2 a1 r hr
 apply pFz 43 [0] [37, 38] [] [.cell 4 130] hr zET Tryz.func97
 intro Φ hΦ hF g
 unfold zcz at hF
 refine wW ?_
 refine wC hF [.io, .sh] zak (fun z1 hF => ?_)
 refine wW ?_
 refine wC hF [.sh] zeN (fun z2 hF => ?_)
 refine wW ?_
 refine wI hF (fun h3 hF => ?_) (fun h3 hF => ?_)
 ·refine wK [0, 4] ?_
  exact wm hΦ hF
 refine wW ?_
 refine wX zCq follows ?_
 refine wC hF [.io, .sh] zak (fun z4 hF => ?_)
 refine wC hF [.io, .sh, .sh, .sh] zho (fun z5 hF => ?_)
 refine wC hF [.sh, .sh, .sh] zkW (fun z6 hF => ?_)
 refine wK [0, 3, 4, 6, 7] ?_
 refine wC hF [.sh, .sh, .sh] zmy (fun z7 hF => ?_)
 refine wK [0, 4, 9] ?_
 exact wl hΦ hF
@[go_sem] def zy6 : List DE := [d2 0 [3] 3 3, d1 1 [3] 3, d2 2 [14] 3 14, d1 3 [3] 3, d2 4 [16] 3 16, d0 6 [0], d2 7 [3] 3 3, d3 5 [15, 17], d3 8 [19, 20], d3 9 [13, 18, 21], d0 10 [22]]
def zaE (a0c0 : List Int) (a0c1 : Int) (a0c2 : Int) (a1 : Group) : Option (Int × (List Int × Int × Int)) :=
 ((if decide (a1.P < 3) = true then (
 some true) else (
 some (decide (a1.Q < 1))) : Option Bool).bind fun x3 =>
 if x3 = true then (
 some (1, (a0c0, a0c1, a0c2))) else (
 (zbO a1.G a1.P).bind fun z6 =>
 (zaM a0c0 a0c1 a0c2 a1).bind fun z7 =>
 (zaT a1 z6 z7.1).bind fun z8 =>
 some (z8, (z7.2.1, z7.2.2.1, z7.2.2.2))))
theorem zaG : ∀ {a0c0} {a0c1} {a0c2} {a1} {r}, zaE a0c0 a0c1 a0c2 a1 = some r → PCalls Tryz.prog 173 [(.io, vB a0c0 a0c1 a0c2), (.sh, vE a1)] (Eo (.int .i64 r.1) [vB r.2.1 r.2.2.1 r.2.2.2, .junk]) := by
 intro a0c0 a0c1 a0c2 a1 r hr
 apply pF 23 [0] [] [] [.tmp 4] hr zBk Tryz.func173
 intro Φ hΦ hF g
 unfold zaE at hF
 refine wW ?_
 refine wJ hF (fun x3 => [(0, .v (vB a0c0 a0c1 a0c2)), (3, .bl [.int .i64 a1.P, .int .i64 a1.Q, .int .i64 a1.G]), (12, .v (.bool x3))]) (fun x3 hF => ?_) fun _ hj1 hF => ?_
 ·refine wI hF (fun h5 hF => ?_) (fun h5 hF => ?_)
  ·exact wl hΦ hF
  refine wW ?_
  refine wX zy6 follows ?_
  refine wC hF [.sh, .sh] zfD (fun z6 hF => ?_)
  refine wC hF [.io, .sh] zaJ (fun z7 hF => ?_)
  refine wC hF [.sh, .sh, .sh] zcO (fun z8 hF => ?_)
  refine wK [0, 4] ?_
  exact wm hΦ hF
 refine wG hF (fun h4 hF => ?_) fun h4 hF => ?_
 ·exact wV h4 (hj1 _) (zaa hF)
 exact wV h4 (hj1 _) (zaa hF)
@[go_sem] def zzy : List DE := [d0 0 [0], d2 1 [3] 3 3, d0 3 [0], d2 4 [3] 3 3, d3 2 [5, 6], d3 5 [8, 9], d0 6 [7, 10], d2 7 [4, 11] 4 4]
def zbt (a0c0 : List Int) (a0c1 : Int) (a0c2 : Int) (a1 : Group) : Option (Cipher × (List Int × Int × Int)) :=
 (zaE a0c0 a0c1 a0c2 a1).bind fun z1 =>
 (zaE z1.2.1 z1.2.2.1 z1.2.2.2 a1).bind fun z2 =>
 some ((Cipher.mk z1.1 z2.1), (z2.2.1, z2.2.2.1, z2.2.2.2))
theorem zix : ∀ {a0c0} {a0c1} {a0c2} {a1} {r}, zbt a0c0 a0c1 a0c2 a1 = some r → PCalls Tryz.prog 114 [(.io, vB a0c0 a0c1 a0c2), (.sh, vE a1)] (Eo (vQ r.1) [vB r.2.1 r.2.2.1 r.2.2.2, .junk]) := by
 intro a0c0 a0c1 a0c2 a1 r hr
 apply pF 12 [0] [] [] [.cell 4 41] hr zAZ Tryz.func114
 intro Φ hΦ hF g
 unfold zbt at hF
 refine wW ?_
 refine wX zzy follows ?_
 refine wC hF [.io, .sh] zaG (fun z1 hF => ?_)
 refine wC hF [.io, .sh] zaG (fun z2 hF => ?_)
 refine wK [0, 4] ?_
 exact wm hΦ hF
@[go_sem] def zya : List DE := [d2 0 [4] 4 4, d1 1 [4] 4, d2 2 [10] 4 10, d0 3 [3], d2 5 [4] 4 4, d0 6 [2], d2 7 [4] 4 4, d0 8 [1], d0 9 [3], d3 4 [9, 11, 12], d3 10 [16, 17, 18], d0 11 [15, 19], ⟨12, [14, 20], [], none, true, true, true⟩, d0 13 [13, 21], d2 14 [8, 22] 8 8]
def zfB (a0 : Group) (a1 : Int) (a2 : Int) (a3 : Int) : Option Cipher :=
 (zaT a0 a0.G a3).bind fun z1 =>
 (zaT a0 a1 a3).bind fun z2 =>
 (zc5 a0 [a2, z2]).bind fun z3 =>
 some (Cipher.mk z1 z3)
theorem zqX : ∀ {a0} {a1} {a2} {a3} {r}, zfB a0 a1 a2 a3 = some r → PCalls Tryz.prog 160 [(.sh, vE a0), (.sh, .int .i64 a1), (.sh, .int .i64 a2), (.sh, .int .i64 a3)] (Eo (vQ r) [.junk, .junk, .junk, .junk]) := by
 intro a0 a1 a2 a3 r hr
 apply pF 23 [] [] [] [.cell 8 41] hr zAT Tryz.func160
 intro Φ hΦ hF g
 unfold zfB at hF
 refine wW ?_
 refine wX zya follows ?_
 refine wC hF [.sh, .sh, .sh] zcO (fun z1 hF => ?_)
 refine wC hF [.sh, .sh, .sh] zcO (fun z2 hF => ?_)
 refine wC hF [.sh, .sh] zgs (fun z3 hF => ?_)
 refine wK [8] ?_
 exact wm hΦ hF
@[go_sem] def zzA : List DE := [d0 0 [7], d2 1 [3] 3 3, d0 2 [9], d0 3 [2], d0 4 [8], d0 5 [20, 21], d0 6 [22], d1 9 [3] 3, d2 10 [26] 3 26, d3 7 [18, 19, 23], d0 8 [17, 24], d0 11 [25, 27], d0 12 [28]]
def zdU (a0 : Group) (a1 : List Int) (a2 : List Int) : Option Int :=
 ((zaq (σ := Int) (fun i5 s4 =>
 (ix a1 i5).bind fun x11 =>
 (ix a2 i5).bind fun x12 =>
 (zaT a0 x11 x12).bind fun z13 =>
 gd (a0.P ≠ 0) <|
 some (.go ((i64.wrap (s4 * z13)).tmod a0.P))) (fun s4 => s4) (a1.length) 0 1 : Option Int).bind fun x3 =>
 some x3)
theorem ziQ : ∀ {a0} {a1} {a2} {r}, zdU a0 a1 a2 = some r → PCalls Tryz.prog 137 [(.sh, vE a0), (.sh, vC a1), (.sh, vC a2)] (Eo (.int .i64 r) [.junk, .junk, .junk]) := by
 intro a0 a1 a2 r hr
 apply pF 31 [] [] [] [.tmp 6] hr zCM Tryz.func137
 intro Φ hΦ hF g
 unfold zdU at hF
 iterate 3 (try simp [go_sem, g]; try intros; refine zau ?_)
 refine wJ hF (fun x3 => [(7, .v (.int .i64 x3))]) (fun x3 hF => ?_) fun _ hj1 hF => ?_
 ·exact wl hΦ hF
 refine wB ?_
 obtain ⟨b14, hb15, hψ8⟩ := hF
 refine pR hb15 (fun i5 s4 => [(2, .v (vC a2)), (3, .bl [.int .i64 a0.P, .int .i64 a0.Q, .int .i64 a0.G]), (7, .v (.int .i64 s4)), (10, .v (vC a1)), (11, .v (.int .i64 (a1.length : Int))), (12, .v (.int .i64 i5))]) (fun s4 _ hN16 => ?_) (fun i5 s4 _ _ hi9 hi10 ho6 hg7 hF => ?_)
 ·exact wn hN16 (hj1 _) hψ8
 refine wW ?_
 refine wu hi9 hi10 ?_
 refine wW ?_
 refine wB ?_
 obtain ⟨x11, g, hF⟩ := Rx g hF
 refine wK [2, 3, 7, 8, 9, 10, 11, 12] ?_
 refine wX zzA follows ?_
 obtain ⟨x12, g, hF⟩ := Rx g hF
 refine wC hF [.sh, .sh, .sh] zcO (fun z13 hF => ?_)
 obtain ⟨g, hF⟩ := Rz g hF
 refine wK [2, 3, 7, 10, 11, 12] ?_
 exact wi hi9 hi10 (hg7 _) (zaa hF)
def zei (a0 : Group) (a1 : (List (List Int))) (a2 : List Int) : Option ((List Int)) :=
 ((zaq (σ := (List Int)) (fun i5 s4 =>
 (ix a1 i5).bind fun x11 =>
 (zdU a0 x11 a2).bind fun z12 =>
 gd ((s4.length + 1) * 8 ≤ 140737488355328 ∧ s4.length + 1 ≤ 4611686018427387904) <|
 some (.go (s4 ++ [z12]))) (fun s4 => s4) (a1.length) 0 [] : Option ((List Int))).bind fun x3 =>
 some x3)
theorem zjP : ∀ {a0} {a1} {a2} {r}, zei a0 a1 a2 = some r → PCalls Tryz.prog 200 [(.sh, vE a0), (.sh, vH a1), (.sh, vC a2)] (Eo (vD r) [.junk, .junk, .junk]) := by
 intro a0 a1 a2 r hr
 apply pF 25 [] [] [] [.tmp 6] hr zCw Tryz.func200
 intro Φ hΦ hF g
 unfold zei at hF
 iterate 3 (try simp [go_sem, g]; try intros; refine zau ?_)
 refine wJ hF (fun x3 => [(7, .v (vD x3))]) (fun x3 hF => ?_) fun _ hj1 hF => ?_
 ·exact wl hΦ hF
 refine wB ?_
 obtain ⟨b13, hb14, hψ8⟩ := hF
 refine pR hb14 (fun i5 s4 => [(2, .v (vC a2)), (3, .bl [.int .i64 a0.P, .int .i64 a0.Q, .int .i64 a0.G]), (7, .v (vD s4)), (10, .v (vH a1)), (11, .v (.int .i64 (a1.length : Int))), (12, .v (.int .i64 i5))]) (fun s4 _ hN15 => ?_) (fun i5 s4 _ _ hi9 hi10 ho6 hg7 hF => ?_)
 ·exact wn hN15 (hj1 _) hψ8
 refine wW ?_
 refine wu hi9 hi10 ?_
 refine wW ?_
 refine wB ?_
 obtain ⟨x11, g, hF⟩ := Rx g hF
 refine wK [2, 3, 7, 9, 10, 11, 12] ?_
 refine wC hF [.sh, .sh, .sh] ziQ (fun z12 hF => ?_)
 obtain ⟨g, hF⟩ := Rg g hF
 refine wW ?_
 exact wi hi9 hi10 (hg7 _) (zaa hF)
def zdf (a0 : (List (List Int))) (a1 : List Int) (a2 : List Int) : Option ((List Int)) :=
 ((zaq (σ := (List Int)) (fun i5 s4 =>
 (ix a0 i5).bind fun x11 =>
 gd ((s4.length + x11.length) * 8 ≤ 140737488355328 ∧ s4.length + x11.length ≤ 4611686018427387904) <|
 some (.go (s4 ++ x11))) (fun s4 => s4) (a0.length) 0 [] : Option ((List Int))).bind fun x3 =>
 gd ((x3.length + a1.length) * 8 ≤ 140737488355328 ∧ x3.length + a1.length ≤ 4611686018427387904) <|
 gd (((x3 ++ a1).length + a2.length) * 8 ≤ 140737488355328 ∧ (x3 ++ a1).length + a2.length ≤ 4611686018427387904) <|
 some (x3 ++ a1 ++ a2))
theorem zh6 : ∀ {a0} {a1} {a2} {r}, zdf a0 a1 a2 = some r → PCalls Tryz.prog 201 [(.sh, vH a0), (.sh, vC a1), (.sh, vC a2)] (Eo (vD r) [.junk, .junk, .junk]) := by
 intro a0 a1 a2 r hr
 apply pF 25 [] [] [] [.tmp 6] hr zCG Tryz.func201
 intro Φ hΦ hF g
 unfold zdf at hF
 iterate 3 (try simp [go_sem, g]; try intros; refine zau ?_)
 refine wJ hF (fun x3 => [(1, .v (vC a1)), (2, .v (vC a2)), (7, .v (vD x3))]) (fun x3 hF => ?_) fun _ hj1 hF => ?_
 ·obtain ⟨g, hF⟩ := Rg g hF
  obtain ⟨g, hF⟩ := Rg g hF
  refine wK [6] ?_
  exact wm hΦ hF
 refine wB ?_
 obtain ⟨b12, hb13, hψ8⟩ := hF
 refine pR hb13 (fun i5 s4 => [(1, .v (vC a1)), (2, .v (vC a2)), (7, .v (vD s4)), (10, .v (vH a0)), (11, .v (.int .i64 (a0.length : Int))), (12, .v (.int .i64 i5))]) (fun s4 _ hN14 => ?_) (fun i5 s4 _ _ hi9 hi10 ho6 hg7 hF => ?_)
 ·exact wn hN14 (hj1 _) hψ8
 refine wW ?_
 refine wu hi9 hi10 ?_
 refine wW ?_
 refine wB ?_
 obtain ⟨x11, g, hF⟩ := Rx g hF
 obtain ⟨g, hF⟩ := Rg g hF
 refine wW ?_
 refine wK [1, 2, 7, 10, 11, 12] ?_
 exact wi hi9 hi10 (hg7 _) (zaa hF)
def zfA (a0 : ByteArray) (a1 : List Int) : Option ((List Int)) :=
 ((zbs (σ := (List Int) × Int) (fun s4 =>
 if decide (s4.2 < (a0.size : Int)) = true then (
 (ixs a0 s4.2).bind fun x10 =>
 gd ((s4.1.length + 1) * 8 ≤ 140737488355328 ∧ s4.1.length + 1 ≤ 4611686018427387904) <|
 some (.go (s4.1 ++ [i64.wrap x10], i64.wrap (s4.2 + 1)))) else (
 some (.out s4.1))) ([(a0.size : Int)], 0) : Option ((List Int))).bind fun x3 =>
 gd ((x3.length + a1.length) * 8 ≤ 140737488355328 ∧ x3.length + a1.length ≤ 4611686018427387904) <|
 some (x3 ++ a1))
theorem zoJ : ∀ {a0} {a1} {r}, zfA a0 a1 = some r → PCalls Tryz.prog 207 [(.sh, .str a0), (.sh, vC a1)] (Eo (vD r) [.junk, .junk]) := by
 intro a0 a1 r hr
 apply pF 26 [] [] [] [.tmp 4] hr zB0 Tryz.func207
 intro Φ hΦ hF g
 unfold zfA at hF
 iterate 3 refine wW ?_
 refine wJ hF (fun x3 => [(1, .v (vC a1)), (5, .v (vD x3))]) (fun x3 hF => ?_) fun _ hj1 hF => ?_
 ·obtain ⟨g, hF⟩ := Rg g hF
  refine wK [4] ?_
  exact wm hΦ hF
 refine wB ?_
 obtain ⟨b11, hb12, hψ8⟩ := hF
 refine pL hb12 (fun s4 => [(0, .v (.str a0)), (1, .v (vC a1)), (5, .v (vD s4.1)), (6, .v (.int .i64 s4.2))]) (fun s4 _ _ ho6 hg7 hF => ?_)
 refine wK [0, 1, 5, 6, 13] ?_
 refine wI hF (fun h9 hF => ?_) (fun h9 hF => ?_)
 ·refine wW ?_
  refine wB ?_
  obtain ⟨x10, g, hF⟩ := Rxs g hF
  obtain ⟨g, hF⟩ := Rg g hF
  refine wW ?_
  exact wT (hg7 _) (zaa hF)
 cases ho6 _ (zaa hF)
 exact wT (hj1 _) hψ8
def zbB (a0c0 : Int) (a0c1 : Int) (a1 : Int) : Option ((Int × Int)) :=
 (some [a1.tmod 2147483648, i64.wrap (a1.tdiv 2147483648)]).bind fun x1 =>
 zbs (σ := (Int × Int) × Int) (fun s10 =>
 if decide (s10.2 < (x1.length : Int)) = true then (
 (ix x1 s10.2).bind fun x16 =>
 some (.go (((i64.wrap ((i64.wrap ((i64.wrap (48271 * s10.1.1)) + x16)) + 1)).tmod 2147483647, (i64.wrap ((i64.wrap ((i64.wrap (69621 * s10.1.2)) + x16)) + 1)).tmod 2147483647), i64.wrap (s10.2 + 1)))) else (
 some (.out (s10.1.1, s10.1.2)))) ((a0c0, a0c1), 0)
theorem zfz : ∀ {a0c0} {a0c1} {a1} {r}, zbB a0c0 a0c1 a1 = some r → PCalls Tryz.prog 210 [(.io, vR a0c0 a0c1), (.sh, .int .i64 a1)] (Eo (.junk) [vR r.1 r.2, .junk]) := by
 intro a0c0 a0c1 a1 r hr
 apply pF 41 [0] [] [] [] hr zBn Tryz.func210
 intro Φ hΦ hF g
 unfold zbB at hF
 have g := Ld g 2147483648
 obtain ⟨x1, e2, hF⟩ := zfF hF
 have g := And.intro g (show [[.int .i64 (a1.tmod 2147483648)], [.int .i64 (i64.wrap (a1.tdiv 2147483648))]] = x1.map zah by injection e2 with e2; rw [← e2]; simp [go_sem])
 try simp [go_sem, g]
 try intros
 refine zau ?_
 refine wB ?_
 obtain ⟨b17, hb18, hψ14⟩ := hF
 refine pL hb18 (fun s10 => [(0, .v (vR s10.1.1 s10.1.2)), (10, .v (vD x1)), (11, .v (.int .i64 (x1.length : Int))), (12, .v (.int .i64 s10.2))]) (fun s10 _ _ ho12 hg13 hF => ?_)
 refine wW ?_
 refine wI hF (fun h15 hF => ?_) (fun h15 hF => ?_)
 ·refine wW ?_
  refine wB ?_
  obtain ⟨x16, g, hF⟩ := Rx g hF
  refine wK [0, 5, 10, 11, 12] ?_
  have g := Ld g 2147483647
  refine wK [0, 5, 10, 11, 12] ?_
  refine wK [0, 10, 11, 12] ?_
  exact wT (hg13 _) (zaa hF)
 cases ho12 _ (zaa hF)
 cases hΦ _ hψ14
 try simp [go_sem, g]
@[go_sem] def zyY : List DE := [d0 0 [3], d0 1 [22], d0 2 [23], d0 3 [24], d0 4 [25], d0 5 [3], d0 6 [27], d0 7 [28], d0 8 [29], d0 9 [26, 30], d0 10 [31]]
def zfZ (a0 : List Int) : Option Int :=
 (zbB 1 2 (a0.length : Int)).bind fun z1 =>
 ((zaq (σ := (Int × Int)) (fun i15 s14 =>
 (ix a0 i15).bind fun x21 =>
 (zbB s14.1 s14.2 x21).bind fun z22 =>
 some (.go (z22.1, z22.2))) (fun s14 => (s14.1, s14.2)) (a0.length) 0 (z1.1, z1.2) : Option ((Int × Int))).bind fun x4 =>
 some (i64.wrap ((i64.wrap (x4.1 * 2147483648)) + x4.2)))
theorem zpI : ∀ {a0} {r}, zfZ a0 = some r → PCalls Tryz.prog 206 [(.sh, vC a0)] (Eo (.int .i64 r) [.junk]) := by
 intro a0 r hr
 apply pF 32 [] [] [7] [.tmp 2] hr zBA Tryz.func206
 intro Φ hΦ hF g
 unfold zfZ at hF
 iterate 2 (try simp [go_sem, g]; try intros; refine zau ?_)
 try simp [go_sem, g]
 try intros
 refine wC hF [.io, .sh] zfz (fun z1 hF => ?_)
 try simp [go_sem, g]
 try intros
 refine zau ?_
 try simp [go_sem, g]
 try intros
 refine wK [3, 12, 13, 14] ?_
 refine wJ hF (fun x4 => [(3, .v (vR x4.1 x4.2))]) (fun x4 hF => ?_) fun _ hj2 hF => ?_
 ·refine wX zyY follows ?_
  refine wK [2] ?_
  exact wm hΦ hF
 refine wB ?_
 obtain ⟨b23, hb24, hψ18⟩ := hF
 refine pR hb24 (fun i15 s14 => [(3, .v (vR s14.1 s14.2)), (12, .v (vC a0)), (13, .v (.int .i64 (a0.length : Int))), (14, .v (.int .i64 i15))]) (fun s14 _ hN25 => ?_) (fun i15 s14 _ _ hi19 hi20 ho16 hg17 hF => ?_)
 ·exact wn hN25 (hj2 _) hψ18
 refine wW ?_
 refine wu hi19 hi20 ?_
 refine wW ?_
 refine wB ?_
 obtain ⟨x21, g, hF⟩ := Rx g hF
 refine wW ?_
 refine wC hF [.io, .sh] zfz (fun z22 hF => ?_)
 refine wW ?_
 exact wi hi19 hi20 (hg17 _) (zaa hF)
def zes (a0 : ByteArray) (a1 : List Int) : Option Int :=
 (zfA a0 a1).bind fun z1 =>
 (zfZ z1).bind fun z2 =>
 some z2
theorem zl3 : ∀ {a0} {a1} {r}, zes a0 a1 = some r → PCalls Tryz.prog 196 [(.sh, .str a0), (.sh, vC a1)] (Eo (.int .i64 r) [.junk, .junk]) := by
 intro a0 a1 r hr
 apply pF 9 [] [] [] [.tmp 4] hr zAE Tryz.func196
 intro Φ hΦ hF g
 unfold zes at hF
 refine wW ?_
 refine wC hF [.sh, .sh] zoJ (fun z1 hF => ?_)
 refine wC hF [.sh] zpI (fun z2 hF => ?_)
 exact wl hΦ hF
@[go_sem] def zyj : List DE := [d0 0 [1], d1 1 [3] 3, d2 2 [8] 3 8, d1 3 [3] 3, d2 4 [10] 3 10, d1 5 [3] 3, d2 6 [12] 3 12, d0 7 [9, 11, 13], d0 8 [2], d1 11 [3] 3, d2 12 [18] 3 18, ⟨9, [14, 15], [], none, true, false, false⟩, d3 10 [7, 16], d0 13 [17, 19], d0 14 [20]]
def zdg (a0 : Group) (a1 : ByteArray) (a2 : List Int) : Option Int :=
 gd (([a0.P, a0.Q, a0.G].length + a2.length) * 8 ≤ 140737488355328 ∧ [a0.P, a0.Q, a0.G].length + a2.length ≤ 4611686018427387904) <|
 (zes a1 ([a0.P, a0.Q, a0.G] ++ a2)).bind fun z1 =>
 gd (a0.Q ≠ 0) <|
 some (z1.tmod a0.Q)
theorem zh8 : ∀ {a0} {a1} {a2} {r}, zdg a0 a1 a2 = some r → PCalls Tryz.prog 183 [(.sh, vE a0), (.sh, .str a1), (.sh, vC a2)] (Eo (.int .i64 r) [.junk, .junk, .junk]) := by
 intro a0 a1 a2 r hr
 apply pF 21 [] [] [] [.tmp 6] hr zAy Tryz.func183
 intro Φ hΦ hF g
 unfold zdg at hF
 refine wW ?_
 refine wX zyj follows ?_
 obtain ⟨g, hF⟩ := Rg g hF
 refine wC hF [.sh, .sh] zl3 (fun z1 hF => ?_)
 obtain ⟨g, hF⟩ := Rz g hF
 refine wK [6] ?_
 exact wm hΦ hF
@[go_sem] def zx3 : List DE := [d2 0 [5] 5 5, d0 1 [1], d0 2 [2], d2 3 [5] 5 5, d0 4 [2], d0 5 [3], d1 7 [11] 11, d2 8 [27] 11 27, d3 6 [23, 24, 25], d3 9 [22, 26, 28], d3 10 [20, 21, 29], d0 11 [30]]
@[go_sem] def zyQ : List DE := [d1 0 [11] 11, d2 1 [41] 11 41, d0 2 [4], d0 3 [13], d0 4 [43, 44], d0 5 [45], d0 6 [12], d0 7 [14], d0 8 [47, 48], d0 9 [46, 49], d1 10 [5] 5, d2 11 [51] 5 51, d0 12 [50, 52], d0 13 [53], ⟨14, [42, 54], [], none, true, false, false⟩, d1 15 [11] 11, d2 16 [56, 55] 11 56]
def zgF (a0 : Group) (a1 : ByteArray) (a2 : (List (List Int))) (a3 : List Int) (a4 : List Int) : Option Proof :=
 (zei a0 a2 a4).bind fun z1 =>
 (zei a0 a2 a3).bind fun z2 =>
 (zdf a2 z2 z1).bind fun z3 =>
 (zdg a0 a1 z3).bind fun z4 =>
 ((zaq (σ := (List Int) × List Int × List Int) (fun i18 s17 =>
 (ix a3 i18).bind fun x24 =>
 (ix a4 i18).bind fun x25 =>
 gd (a0.Q ≠ 0) <|
 gd ((s17.2.2.length + 1) * 8 ≤ 140737488355328 ∧ s17.2.2.length + 1 ≤ 4611686018427387904) <|
 some (.go (s17.1, s17.2.1, s17.2.2 ++ [(i64.wrap (x25 + (i64.wrap (z4 * x24)))).tmod a0.Q]))) (fun s17 => (s17.1, s17.2.1, s17.2.2)) (a3.length) 0 (z1, [z4], []) : Option ((List Int × List Int × List Int))).bind fun x7 =>
 some (Proof.mk x7.1 x7.2.1 x7.2.2))
theorem zoK : ∀ {a0} {a1} {a2} {a3} {a4} {r}, zgF a0 a1 a2 a3 a4 = some r → PCalls Tryz.prog 189 [(.sh, vE a0), (.sh, .str a1), (.sh, vH a2), (.sh, vC a3), (.sh, vC a4)] (Eo (vS r) [.junk, .junk, .junk, .junk, .junk]) := by
 intro a0 a1 a2 a3 a4 r hr
 apply pF 59 [] [] [] [.cell 10 52] hr zCF Tryz.func189
 intro Φ hΦ hF g
 unfold zgF at hF
 refine wW ?_
 refine wC hF [.sh, .sh, .sh] zjP (fun z1 hF => ?_)
 refine wW ?_
 refine wX zx3 follows ?_
 refine wC hF [.sh, .sh, .sh] zjP (fun z2 hF => ?_)
 refine wC hF [.sh, .sh, .sh] zh6 (fun z3 hF => ?_)
 refine wC hF [.sh, .sh, .sh] zh8 (fun z4 hF => ?_)
 refine wK [3, 4, 5, 10, 11, 12] ?_
 iterate 2 (try simp [go_sem, g]; try intros; refine zau ?_)
 refine wJ hF (fun x7 => [(10, .bl [.sl true 1 [], .sl true 1 [], .sl true 1 []]), (11, .bl [vD x7.1, vD x7.2.1, vD x7.2.2])]) (fun x7 hF => ?_) fun _ hj5 hF => ?_
 ·exact wl hΦ hF
 refine wB ?_
 obtain ⟨b26, hb27, hψ21⟩ := hF
 refine pR hb27 (fun i18 s17 => [(4, .v (vC a4)), (5, .bl [.int .i64 a0.P, .int .i64 a0.Q, .int .i64 a0.G]), (10, .bl [.sl true 1 [], .sl true 1 [], .sl true 1 []]), (11, .bl [vD s17.1, vD s17.2.1, vD s17.2.2]), (12, .v (.int .i64 z4)), (34, .v (vC a3)), (35, .v (.int .i64 (a3.length : Int))), (36, .v (.int .i64 i18))]) (fun s17 _ hN28 => ?_) (fun i18 s17 _ _ hi22 hi23 ho19 hg20 hF => ?_)
 ·exact wn hN28 (hj5 _) hψ21
 refine wW ?_
 refine wu hi22 hi23 ?_
 refine wW ?_
 refine wB ?_
 obtain ⟨x24, g, hF⟩ := Rx g hF
 refine wK [4, 5, 10, 11, 12, 13, 14, 34, 35, 36] ?_
 refine wX zyQ follows ?_
 obtain ⟨x25, g, hF⟩ := Rx g hF
 obtain ⟨g, hF⟩ := Rz g hF
 obtain ⟨g, hF⟩ := Rg g hF
 refine wK [4, 5, 10, 11, 12, 34, 35, 36] ?_
 exact wi hi22 hi23 (hg20 _) (zaa hF)
def zeX (a0 : Group) (a1 : Cipher) (a2 : Int) (a3 : Int) (a4 : Int) : Option Partial :=
 (zaT a0 a1.A a3).bind fun z1 =>
 (zgF a0 (⟨#[112, 97, 114, 116, 105, 97, 108]⟩ : ByteArray) [[a0.G], [a1.A]] [a3] [a4]).bind fun z2 =>
 some (Partial.mk a2 z1 z2)
theorem zne : ∀ {a0} {a1} {a2} {a3} {a4} {r}, zeX a0 a1 a2 a3 a4 = some r → PCalls Tryz.prog 161 [(.sh, vE a0), (.sh, vQ a1), (.sh, .int .i64 a2), (.sh, .int .i64 a3), (.sh, .int .i64 a4)] (Eo (vT r) [.junk, .junk, .junk, .junk, .junk]) := by
 intro a0 a1 a2 a3 a4 r hr
 apply pF 33 [] [] [] [.cell 10 54] hr zBE Tryz.func161
 intro Φ hΦ hF g
 unfold zeX at hF
 refine wW ?_
 refine wC hF [.sh, .sh, .sh] zcO (fun z1 hF => ?_)
 refine wW ?_
 refine wC hF [.sh, .sh, .sh, .sh, .sh] zoK (fun z2 hF => ?_)
 refine wK [10] ?_
 exact wm hΦ hF
def zbL (a0c0 : List Int) (a0c1 : Int) (a0c2 : Int) (a1 : Group) : Option (Int × (List Int × Int × Int)) :=
 (za5 a0c0 a0c1 a0c2 20).bind fun z1 =>
 if z1.1 = true then (
 (zal z1.2.1 z1.2.2.1 z1.2.2.2 [0, 1, i64.wrap (a1.P - 1), a1.P, (-1), 5]).bind fun z3 =>
 some (z3.1, (z3.2.1, z3.2.2.1, z3.2.2.2))) else (
 (zaE z1.2.1 z1.2.2.1 z1.2.2.2 a1).bind fun z4 =>
 some (z4.1, (z4.2.1, z4.2.2.1, z4.2.2.2)))
theorem zhx : ∀ {a0c0} {a0c1} {a0c2} {a1} {r}, zbL a0c0 a0c1 a0c2 a1 = some r → PCalls Tryz.prog 116 [(.io, vB a0c0 a0c1 a0c2), (.sh, vE a1)] (Eo (.int .i64 r.1) [vB r.2.1 r.2.2.1 r.2.2.2, .junk]) := by
 intro a0c0 a0c1 a0c2 a1 r hr
 apply pF 18 [0] [] [] [.tmp 4] hr zAV Tryz.func116
 intro Φ hΦ hF g
 unfold zbL at hF
 refine wW ?_
 refine wC hF [.io, .sh] zcj (fun z1 hF => ?_)
 refine wW ?_
 refine wI hF (fun h2 hF => ?_) (fun h2 hF => ?_)
 ·refine wC hF [.io, .mv] zaj (fun z3 hF => ?_)
  refine wK [0, 4] ?_
  exact wm hΦ hF
 refine wW ?_
 refine wC hF [.io, .sh] zaG (fun z4 hF => ?_)
 exact wl hΦ hF
@[go_sem] def zyh : List DE := [d1 0 [5] 5, d2 1 [9] 5 9, d1 3 [5] 5, d2 4 [12] 5 12, d1 6 [5] 5, d2 7 [15] 5 15, d3 2 [10], d3 5 [13], d3 8 [16], d0 9 [11, 14, 17], d2 10 [5, 18] 5 5]
@[go_sem] def zyt : List DE := [d1 0 [5] 5, d2 1 [23] 5 23, d1 2 [5] 5, d2 3 [25] 5 25, d1 4 [5] 5, d2 5 [27] 5 27, d0 6 [24, 26, 28], d0 7 [0], d3 8 [30], ⟨9, [29, 31], [], none, true, true, false⟩, d0 10 [32], d0 11 [33]]
@[go_sem] def zmp : List DE := [d0 0 [7], d0 1 [8], d0 2 [0], d0 3 [0], d2 4 [4] 4 4, d0 6 [0], d2 7 [4] 4 4, d1 9 [4] 4, d2 10 [50] 4 50, d0 11 [7], d0 12 [8], d0 13 [52, 53], d0 14 [54], d0 15 [55], d3 5 [44, 45], d3 8 [47, 48], d0 16 [46, 49, 51, 56], ⟨17, [43, 57], [], none, true, true, true⟩, d0 18 [41, 42], d0 19 [59, 58]]
@[go_sem] def zmh : List DE := [d0 0 [7], d0 1 [8], d0 2 [0], d0 3 [0], d2 4 [4] 4 4, d0 6 [0], d2 7 [4] 4 4, d1 9 [4] 4, d2 10 [50] 4 50, d0 11 [7], d0 12 [8], d0 13 [52, 53], d3 5 [44, 45], d0 14 [54], d0 15 [55], d3 8 [47, 48], d0 16 [46, 49, 51, 56], ⟨17, [43, 57], [], none, true, true, true⟩, d0 18 [41, 42], d0 19 [59, 58]]
@[go_sem] def zl8 : List DE := [d0 0 [7], d0 1 [8], d0 2 [0], d0 3 [0], d2 4 [4] 4 4, d0 6 [0], d2 7 [4] 4 4, d1 9 [4] 4, d2 10 [50] 4 50, d0 11 [7], d0 12 [8], d0 13 [52, 53], d3 5 [44, 45], d3 8 [47, 48], d0 14 [54], d0 15 [55], d0 16 [46, 49, 51, 56], ⟨17, [43, 57], [], none, true, true, true⟩, d0 18 [41, 42], d0 19 [59, 58]]
def zcN (a0c0 : List Int) (a0c1 : Int) (a0c2 : Int) (a1 : Group) (a2 : Proof) : Option (Proof × (List Int × Int × Int)) :=
 (zcP a2.Commits).bind fun z1 =>
 (zcP a2.Challenges).bind fun z2 =>
 (zcP a2.Responses).bind fun z3 =>
 (za5 a0c0 a0c1 a0c2 3).bind fun z4 =>
 if (!z4.1) = true then (
 some ((Proof.mk z1 z2 z3), (z4.2.1, z4.2.2.1, z4.2.2.2))) else (
 (zai z4.2.1 z4.2.2.1 z4.2.2.2 3).bind fun z6 =>
 if (z6.1 == 0) = true then (
 ((if decide (0 < (z1.length : Int)) = true then (
 (zai z6.2.1 z6.2.2.1 z6.2.2.2 (z1.length : Int)).bind fun z11 =>
 (ix z1 z11.1).bind fun x12 =>
 (zaM z11.2.1 z11.2.2.1 z11.2.2.2 a1).bind fun z13 =>
 (zaE z13.2.1 z13.2.2.1 z13.2.2.2 a1).bind fun z14 =>
 (zal z14.2.1 z14.2.2.1 z14.2.2.2 [z13.1, z14.1, (-1), a1.Q, i64.wrap (x12 + 1)]).bind fun z15 =>
 some ((z15.2.1, z15.2.2.1, z15.2.2.2), z1.set z11.1.toNat z15.1, z2, z3)) else (
 some ((z6.2.1, z6.2.2.1, z6.2.2.2), z1, z2, z3)) : Option (((List Int × Int × Int) × List Int × List Int × List Int))).bind fun x9 =>
 (zai x9.1.1 x9.1.2.1 x9.1.2.2 10).bind fun z16 =>
 ((if (z16.1 == 0) = true then (
 gd ((x9.2.1.length + 1) * 8 ≤ 140737488355328 ∧ x9.2.1.length + 1 ≤ 4611686018427387904) <|
 some (x9.2.1 ++ [1], x9.2.2.1, x9.2.2.2)) else (
 if (z16.1 == 1) = true then (
 some (x9.2.1, x9.2.2.1, [])) else (
 if (z16.1 == 2) = true then (
 gd ((x9.2.2.1.length + 1) * 8 ≤ 140737488355328 ∧ x9.2.2.1.length + 1 ≤ 4611686018427387904) <|
 some (x9.2.1, x9.2.2.1 ++ [0], x9.2.2.2)) else (
 some (x9.2.1, x9.2.2.1, x9.2.2.2)))) : Option ((List Int × List Int × List Int))).bind fun x19 =>
 some ((Proof.mk x19.1 x19.2.1 x19.2.2), (z16.2.1, z16.2.2.1, z16.2.2.2))))) else (
 if (z6.1 == 1) = true then (
 ((if decide (0 < (z2.length : Int)) = true then (
 (zai z6.2.1 z6.2.2.1 z6.2.2.2 (z2.length : Int)).bind fun z27 =>
 (ix z2 z27.1).bind fun x28 =>
 (zaM z27.2.1 z27.2.2.1 z27.2.2.2 a1).bind fun z29 =>
 (zaE z29.2.1 z29.2.2.1 z29.2.2.2 a1).bind fun z30 =>
 (zal z30.2.1 z30.2.2.1 z30.2.2.2 [z29.1, z30.1, (-1), a1.Q, i64.wrap (x28 + 1)]).bind fun z31 =>
 some ((z31.2.1, z31.2.2.1, z31.2.2.2), z1, z2.set z27.1.toNat z31.1, z3)) else (
 some ((z6.2.1, z6.2.2.1, z6.2.2.2), z1, z2, z3)) : Option (((List Int × Int × Int) × List Int × List Int × List Int))).bind fun x25 =>
 (zai x25.1.1 x25.1.2.1 x25.1.2.2 10).bind fun z32 =>
 ((if (z32.1 == 0) = true then (
 gd ((x25.2.1.length + 1) * 8 ≤ 140737488355328 ∧ x25.2.1.length + 1 ≤ 4611686018427387904) <|
 some (x25.2.1 ++ [1], x25.2.2.1, x25.2.2.2)) else (
 if (z32.1 == 1) = true then (
 some (x25.2.1, x25.2.2.1, [])) else (
 if (z32.1 == 2) = true then (
 gd ((x25.2.2.1.length + 1) * 8 ≤ 140737488355328 ∧ x25.2.2.1.length + 1 ≤ 4611686018427387904) <|
 some (x25.2.1, x25.2.2.1 ++ [0], x25.2.2.2)) else (
 some (x25.2.1, x25.2.2.1, x25.2.2.2)))) : Option ((List Int × List Int × List Int))).bind fun x35 =>
 some ((Proof.mk x35.1 x35.2.1 x35.2.2), (z32.2.1, z32.2.2.1, z32.2.2.2))))) else (
 if (z6.1 == 2) = true then (
 ((if decide (0 < (z3.length : Int)) = true then (
 (zai z6.2.1 z6.2.2.1 z6.2.2.2 (z3.length : Int)).bind fun z43 =>
 (ix z3 z43.1).bind fun x44 =>
 (zaM z43.2.1 z43.2.2.1 z43.2.2.2 a1).bind fun z45 =>
 (zaE z45.2.1 z45.2.2.1 z45.2.2.2 a1).bind fun z46 =>
 (zal z46.2.1 z46.2.2.1 z46.2.2.2 [z45.1, z46.1, (-1), a1.Q, i64.wrap (x44 + 1)]).bind fun z47 =>
 some ((z47.2.1, z47.2.2.1, z47.2.2.2), z1, z2, z3.set z43.1.toNat z47.1)) else (
 some ((z6.2.1, z6.2.2.1, z6.2.2.2), z1, z2, z3)) : Option (((List Int × Int × Int) × List Int × List Int × List Int))).bind fun x41 =>
 (zai x41.1.1 x41.1.2.1 x41.1.2.2 10).bind fun z48 =>
 ((if (z48.1 == 0) = true then (
 gd ((x41.2.1.length + 1) * 8 ≤ 140737488355328 ∧ x41.2.1.length + 1 ≤ 4611686018427387904) <|
 some (x41.2.1 ++ [1], x41.2.2.1, x41.2.2.2)) else (
 if (z48.1 == 1) = true then (
 some (x41.2.1, x41.2.2.1, [])) else (
 if (z48.1 == 2) = true then (
 gd ((x41.2.2.1.length + 1) * 8 ≤ 140737488355328 ∧ x41.2.2.1.length + 1 ≤ 4611686018427387904) <|
 some (x41.2.1, x41.2.2.1 ++ [0], x41.2.2.2)) else (
 some (x41.2.1, x41.2.2.1, x41.2.2.2)))) : Option ((List Int × List Int × List Int))).bind fun x51 =>
 some ((Proof.mk x51.1 x51.2.1 x51.2.2), (z48.2.1, z48.2.2.1, z48.2.2.2))))) else (
 none))))
set_option maxHeartbeats 1000000 in
theorem zjc : ∀ {a0c0} {a0c1} {a0c2} {a1} {a2} {r}, zcN a0c0 a0c1 a0c2 a1 a2 = some r → PCalls Tryz.prog 142 [(.io, vB a0c0 a0c1 a0c2), (.sh, vE a1), (.sh, vU a2)] (Eo (vS r.1) [vB r.2.1 r.2.2.1 r.2.2.2, .junk, .junk]) := by
 intro a0c0 a0c1 a0c2 a1 a2 r hr
 apply pF 80 [0] [167, 189] [] [.cell 6 52] hr zAr Tryz.func142
 intro Φ hΦ hF g
 unfold zcN at hF
 refine wW ?_
 refine wX zyh follows ?_
 refine wC hF [.sh] zeA (fun z1 hF => ?_)
 refine wC hF [.sh] zeA (fun z2 hF => ?_)
 refine wC hF [.sh] zeA (fun z3 hF => ?_)
 refine wK [0, 4, 5, 6] ?_
 refine wC hF [.io, .sh] zcj (fun z4 hF => ?_)
 refine wW ?_
 refine wI hF (fun h5 hF => ?_) (fun h5 hF => ?_)
 ·exact wl hΦ hF
 refine wW ?_
 refine wX zyt follows ?_
 refine wC hF [.io, .sh] zak (fun z6 hF => ?_)
 refine pX g hF (fun g hF => ?_) fun hF => ?_
 ·refine wK [0, 4, 5, 6, 7] ?_
  try simp [go_sem, g]
  try intros
  refine zau ?_
  refine wJ hF (fun x9 => [(0, .v (vB x9.1.1 x9.1.2.1 x9.1.2.2)), (5, .bl [vD x9.2.1, vD x9.2.2.1, vD x9.2.2.2]), (6, .bl [.sl true 1 [], .sl true 1 [], .sl true 1 []])]) (fun x9 hF => ?_) fun _ hj7 hF => ?_
  ·refine wC hF [.io, .sh] zak (fun z16 hF => ?_)
   refine wW ?_
   refine wJ hF (fun x19 => [(0, .v (vB z16.2.1 z16.2.2.1 z16.2.2.2)), (5, .bl [vD x19.1, vD x19.2.1, vD x19.2.2]), (6, .bl [.sl true 1 [], .sl true 1 [], .sl true 1 []])]) (fun x19 hF => ?_) fun _ hj17 hF => ?_
   ·exact wl hΦ hF
   refine wB ?_
   refine wW ?_
   refine wI hF (fun h20 hF => ?_) (fun h20 hF => ?_)
   ·obtain ⟨g, hF⟩ := Rg g hF
    exact wT (hj17 _) (zaa hF)
   refine wW ?_
   refine wI hF (fun h21 hF => ?_) (fun h21 hF => ?_)
   ·exact wT (hj17 _) (zaa hF)
   refine wK [0, 5, 6, 72] ?_
   refine wI hF (fun h22 hF => ?_) (fun h22 hF => ?_)
   ·obtain ⟨g, hF⟩ := Rg g hF
    exact wT (hj17 _) (zaa hF)
   exact wT (hj17 _) (zaa hF)
  refine wI hF (fun h10 hF => ?_) (fun h10 hF => ?_)
  ·try simp [go_sem, g]
   try intros
   refine wC hF [.io, .sh] zak (fun z11 hF => ?_)
   refine wW ?_
   repeat rw [sq]
   refine zmg 14 5 14 8 0 1 zmp zmh zl8 follows (by decide) (by kernel_rfl) (by kernel_rfl) (by kernel_rfl) (by kernel_rfl) rfl rfl rfl ?_ ?_ ?_
   ·obtain ⟨x12, g, hF⟩ := Rx g hF
    refine wC hF [.io, .sh] zaJ (fun z13 hF => ?_)
    refine wC hF [.io, .sh] zaG (fun z14 hF => ?_)
    refine wC hF [.io, .mv] zaj (fun z15 hF => ?_)
    exact wT (hj7 _) (zaa hF)
   ·obtain ⟨x12, g, hF⟩ := Rx g hF
    refine wC hF [.io, .sh] zaJ (fun z13 hF => ?_)
    refine wC hF [.io, .sh] zaG (fun z14 hF => ?_)
    refine wC hF [.io, .mv] zaj (fun z15 hF => ?_)
    exact wT (hj7 _) (zaa hF)
   obtain ⟨x12, g, hF⟩ := Rx g hF
   refine wC hF [.io, .sh] zaJ (fun z13 hF => ?_)
   refine wC hF [.io, .sh] zaG (fun z14 hF => ?_)
   refine wC hF [.io, .mv] zaj (fun z15 hF => ?_)
   exact wT (hj7 _) (zaa hF)
  exact wT (hj7 _) (zaa hF)
 refine pX g hF (fun g hF => ?_) fun hF => ?_
 ·refine wK [0, 4, 5, 6, 7] ?_
  try simp [go_sem, g]
  try intros
  refine zau ?_
  refine wJ hF (fun x25 => [(0, .v (vB x25.1.1 x25.1.2.1 x25.1.2.2)), (5, .bl [vD x25.2.1, vD x25.2.2.1, vD x25.2.2.2]), (6, .bl [.sl true 1 [], .sl true 1 [], .sl true 1 []])]) (fun x25 hF => ?_) fun _ hj23 hF => ?_
  ·refine wC hF [.io, .sh] zak (fun z32 hF => ?_)
   refine wW ?_
   refine wJ hF (fun x35 => [(0, .v (vB z32.2.1 z32.2.2.1 z32.2.2.2)), (5, .bl [vD x35.1, vD x35.2.1, vD x35.2.2]), (6, .bl [.sl true 1 [], .sl true 1 [], .sl true 1 []])]) (fun x35 hF => ?_) fun _ hj33 hF => ?_
   ·exact wl hΦ hF
   refine wB ?_
   refine wW ?_
   refine wI hF (fun h36 hF => ?_) (fun h36 hF => ?_)
   ·obtain ⟨g, hF⟩ := Rg g hF
    exact wT (hj33 _) (zaa hF)
   refine wW ?_
   refine wI hF (fun h37 hF => ?_) (fun h37 hF => ?_)
   ·exact wT (hj33 _) (zaa hF)
   refine wK [0, 5, 6, 72] ?_
   refine wI hF (fun h38 hF => ?_) (fun h38 hF => ?_)
   ·obtain ⟨g, hF⟩ := Rg g hF
    exact wT (hj33 _) (zaa hF)
   exact wT (hj33 _) (zaa hF)
  refine wI hF (fun h26 hF => ?_) (fun h26 hF => ?_)
  ·try simp [go_sem, g]
   try intros
   refine wC hF [.io, .sh] zak (fun z27 hF => ?_)
   refine wW ?_
   repeat rw [sq]
   refine zmg 14 5 14 8 0 1 zmp zmh zl8 follows (by decide) (by kernel_rfl) (by kernel_rfl) (by kernel_rfl) (by kernel_rfl) rfl rfl rfl ?_ ?_ ?_
   ·obtain ⟨x28, g, hF⟩ := Rx g hF
    refine wC hF [.io, .sh] zaJ (fun z29 hF => ?_)
    refine wC hF [.io, .sh] zaG (fun z30 hF => ?_)
    refine wC hF [.io, .mv] zaj (fun z31 hF => ?_)
    exact wT (hj23 _) (zaa hF)
   ·obtain ⟨x28, g, hF⟩ := Rx g hF
    refine wC hF [.io, .sh] zaJ (fun z29 hF => ?_)
    refine wC hF [.io, .sh] zaG (fun z30 hF => ?_)
    refine wC hF [.io, .mv] zaj (fun z31 hF => ?_)
    exact wT (hj23 _) (zaa hF)
   obtain ⟨x28, g, hF⟩ := Rx g hF
   refine wC hF [.io, .sh] zaJ (fun z29 hF => ?_)
   refine wC hF [.io, .sh] zaG (fun z30 hF => ?_)
   refine wC hF [.io, .mv] zaj (fun z31 hF => ?_)
   exact wT (hj23 _) (zaa hF)
  exact wT (hj23 _) (zaa hF)
 refine pX g hF (fun g hF => ?_) fun hF => ?_
 ·refine wK [0, 4, 5, 6, 7] ?_
  try simp [go_sem, g]
  try intros
  refine zau ?_
  refine wJ hF (fun x41 => [(0, .v (vB x41.1.1 x41.1.2.1 x41.1.2.2)), (5, .bl [vD x41.2.1, vD x41.2.2.1, vD x41.2.2.2]), (6, .bl [.sl true 1 [], .sl true 1 [], .sl true 1 []])]) (fun x41 hF => ?_) fun _ hj39 hF => ?_
  ·refine wC hF [.io, .sh] zak (fun z48 hF => ?_)
   refine wW ?_
   refine wJ hF (fun x51 => [(0, .v (vB z48.2.1 z48.2.2.1 z48.2.2.2)), (5, .bl [vD x51.1, vD x51.2.1, vD x51.2.2]), (6, .bl [.sl true 1 [], .sl true 1 [], .sl true 1 []])]) (fun x51 hF => ?_) fun _ hj49 hF => ?_
   ·exact wl hΦ hF
   refine wB ?_
   refine wW ?_
   refine wI hF (fun h52 hF => ?_) (fun h52 hF => ?_)
   ·obtain ⟨g, hF⟩ := Rg g hF
    exact wT (hj49 _) (zaa hF)
   refine wW ?_
   refine wI hF (fun h53 hF => ?_) (fun h53 hF => ?_)
   ·exact wT (hj49 _) (zaa hF)
   refine wK [0, 5, 6, 72] ?_
   refine wI hF (fun h54 hF => ?_) (fun h54 hF => ?_)
   ·obtain ⟨g, hF⟩ := Rg g hF
    exact wT (hj49 _) (zaa hF)
   exact wT (hj49 _) (zaa hF)
  refine wI hF (fun h42 hF => ?_) (fun h42 hF => ?_)
  ·try simp [go_sem, g]
   try intros
   refine wC hF [.io, .sh] zak (fun z43 hF => ?_)
   refine wW ?_
   repeat rw [sq]
   refine zmg 14 5 14 8 0 1 zmp zmh zl8 follows (by decide) (by kernel_rfl) (by kernel_rfl) (by kernel_rfl) (by kernel_rfl) rfl rfl rfl ?_ ?_ ?_
   ·obtain ⟨x44, g, hF⟩ := Rx g hF
    refine wC hF [.io, .sh] zaJ (fun z45 hF => ?_)
    refine wC hF [.io, .sh] zaG (fun z46 hF => ?_)
    refine wC hF [.io, .mv] zaj (fun z47 hF => ?_)
    exact wT (hj39 _) (zaa hF)
   ·obtain ⟨x44, g, hF⟩ := Rx g hF
    refine wC hF [.io, .sh] zaJ (fun z45 hF => ?_)
    refine wC hF [.io, .sh] zaG (fun z46 hF => ?_)
    refine wC hF [.io, .mv] zaj (fun z47 hF => ?_)
    exact wT (hj39 _) (zaa hF)
   obtain ⟨x44, g, hF⟩ := Rx g hF
   refine wC hF [.io, .sh] zaJ (fun z45 hF => ?_)
   refine wC hF [.io, .sh] zaG (fun z46 hF => ?_)
   refine wC hF [.io, .mv] zaj (fun z47 hF => ?_)
   exact wT (hj39 _) (zaa hF)
  exact wT (hj39 _) (zaa hF)
 exact (znS hF).elim
@[go_sem] def zzc : List DE := [d2 0 [4] 4 4, d2 1 [8] 8 8, d0 2 [10], d0 3 [47], d0 4 [11], d0 5 [0], d2 6 [4] 4 4, d0 9 [], d3 7 [50, 51], d3 8 [45, 46, 48, 49, 52], d2 10 [12, 53] 12 12]
@[go_sem] def zBI : List DE := [d2 0 [4] 4 4, d1 1 [5] 5, d2 2 [23] 5 23, d2 3 [4] 4 4, d1 4 [4] 4, d2 5 [26] 4 26, d0 6 [0], d0 9 [0], d2 10 [4] 4 4, d3 7 [28], d3 8 [25, 27, 29], d3 11 [31, 32], d3 12 [22, 24, 30, 33], d2 13 [8, 34] 8 8]
def zb0 (a0c0 : List Int) (a0c1 : Int) (a0c2 : Int) (a1 : Group) (a2 : KeyGen) : Option (Cipher × List Partial × (List Int × Int × Int)) :=
 (zbt a0c0 a0c1 a0c2 a1).bind fun z1 =>
 (zct a1).bind fun z2 =>
 if (!z2) = true then (
 some (z1.1, [], (z1.2.1, z1.2.2.1, z1.2.2.2))) else (
 (za5 z1.2.1 z1.2.2.1 z1.2.2.2 2).bind fun z4 =>
 ((if z4.1 = true then (
 (zai z4.2.1 z4.2.2.1 z4.2.2.2 10).bind fun z9 =>
 (zaT a1 a1.G z9.1).bind fun z10 =>
 (zaM z9.2.1 z9.2.2.1 z9.2.2.2 a1).bind fun z11 =>
 (zfB a1 a2.Key z10 z11.1).bind fun z12 =>
 some ((z11.2.1, z11.2.2.1, z11.2.2.2), z12.A, z12.B)) else (
 some ((z4.2.1, z4.2.2.1, z4.2.2.2), z1.1.A, z1.1.B)) : Option (((List Int × Int × Int) × Int × Int))).bind fun x7 =>
 ((zaq (σ := (List Int × Int × Int) × List Partial) (fun i43 s42 =>
 (((ix a2.Shares i43).bind fun x52 =>
 (za5 s42.1.1 s42.1.2.1 s42.1.2.2 6).bind fun z53 =>
 if z53.1 = true then (
 some ((z53.2.1, z53.2.2.1, z53.2.2.2), s42.2)) else (
 (zaM z53.2.1 z53.2.2.1 z53.2.2.2 a1).bind fun z55 =>
 (zeX a1 (Cipher.mk x7.2.1 x7.2.2) (i64.wrap (i43 + 1)) x52 z55.1).bind fun z56 =>
 (zai z55.2.1 z55.2.2.1 z55.2.2.2 14).bind fun z57 =>
 ((if (z57.1 == 0) = true then (
 (zbL z57.2.1 z57.2.2.1 z57.2.2.2 a1).bind fun z62 =>
 some ((z62.2.1, z62.2.2.1, z62.2.2.2), s42.2, z56.Index, z62.1, z56.Pi.Commits, z56.Pi.Challenges, z56.Pi.Responses)) else (
 if (z57.1 == 1) = true then (
 (zal z57.2.1 z57.2.2.1 z57.2.2.2 [0, 1, 2, 8]).bind fun z64 =>
 some ((z64.2.1, z64.2.2.1, z64.2.2.2), s42.2, z64.1, z56.Value, z56.Pi.Commits, z56.Pi.Challenges, z56.Pi.Responses)) else (
 if (z57.1 == 2) = true then (
 (zcN z57.2.1 z57.2.2.1 z57.2.2.2 a1 z56.Pi).bind fun z66 =>
 some ((z66.2.1, z66.2.2.1, z66.2.2.2), s42.2, z56.Index, z56.Value, z66.1.Commits, z66.1.Challenges, z66.1.Responses)) else (
 if (z57.1 == 3) = true then (
 gd ((s42.2.length + 1) * 88 ≤ 140737488355328 ∧ s42.2.length + 1 ≤ 4611686018427387904) <|
 some ((z57.2.1, z57.2.2.1, z57.2.2.2), s42.2 ++ [z56], z56.Index, z56.Value, z56.Pi.Commits, z56.Pi.Challenges, z56.Pi.Responses)) else (
 some ((z57.2.1, z57.2.2.1, z57.2.2.2), s42.2, z56.Index, z56.Value, z56.Pi.Commits, z56.Pi.Challenges, z56.Pi.Responses))))) : Option (((List Int × Int × Int) × List Partial × Int × Int × List Int × List Int × List Int))).bind fun x60 =>
 gd ((x60.2.1.length + 1) * 88 ≤ 140737488355328 ∧ x60.2.1.length + 1 ≤ 4611686018427387904) <|
 some ((x60.1.1, x60.1.2.1, x60.1.2.2), x60.2.1 ++ [(Partial.mk x60.2.2.1 x60.2.2.2.1 (Proof.mk x60.2.2.2.2.1 x60.2.2.2.2.2.1 x60.2.2.2.2.2.2))]))) : Option (((List Int × Int × Int) × List Partial))).bind fun x51 =>
 some (.go ((x51.1.1, x51.1.2.1, x51.1.2.2), x51.2)))) (fun s42 => ((s42.1.1, s42.1.2.1, s42.1.2.2), s42.2)) (a2.Shares.length) 0 ((x7.1.1, x7.1.2.1, x7.1.2.2), []) : Option (((List Int × Int × Int) × List Partial))).bind fun x15 =>
 some ((Cipher.mk x7.2.1 x7.2.2), x15.2, (x15.1.1, x15.1.2.1, x15.1.2.2)))))
theorem zh2 : ∀ {a0c0} {a0c1} {a0c2} {a1} {a2} {r}, zb0 a0c0 a0c1 a0c2 a1 a2 = some r → PCalls Tryz.prog 98 [(.io, vB a0c0 a0c1 a0c2), (.sh, vE a1), (.sh, vP a2)] (Eo (.tup [vQ r.1, vW r.2.1]) [vB r.2.2.1 r.2.2.2.1 r.2.2.2.2, .junk, .junk]) := by
 intro a0c0 a0c1 a0c2 a1 a2 r hr
 apply pF 89 [0] [73, 79] [] [.cell 6 41, .tmp 7] hr zH7 Tryz.func98
 intro Φ hΦ hF g
 unfold zb0 at hF
 refine wW ?_
 refine wC hF [.io, .sh] zix (fun z1 hF => ?_)
 refine wW ?_
 refine wC hF [.sh] zeN (fun z2 hF => ?_)
 refine wK [0, 4, 5, 6, 8, 18] ?_
 refine wI hF (fun h3 hF => ?_) (fun h3 hF => ?_)
 ·exact wl hΦ hF
 refine wW ?_
 refine wC hF [.io, .sh] zcj (fun z4 hF => ?_)
 refine wW ?_
 refine wJ hF (fun x7 => [(0, .v (vB x7.1.1 x7.1.2.1 x7.1.2.2)), (4, .bl [.int .i64 a1.P, .int .i64 a1.Q, .int .i64 a1.G]), (5, .bl [vC a2.Qualified, .int .i64 a2.Key, vC a2.Commits, vC a2.Shares]), (6, .bl [.int .i64 0, .int .i64 0]), (8, .bl [.int .i64 x7.2.1, .int .i64 x7.2.2])]) (fun x7 hF => ?_) fun _ hj5 hF => ?_
 ·iterate 2 (try simp [go_sem, g]; try intros; refine zau ?_)
  refine wJ hF (fun x15 => [(0, .v (vB x15.1.1 x15.1.2.1 x15.1.2.2)), (6, .bl [.int .i64 0, .int .i64 0]), (8, .bl [.int .i64 x7.2.1, .int .i64 x7.2.2]), (9, .v (vW x15.2))]) (fun x15 hF => ?_) fun _ hj13 hF => ?_
  ·refine wK [0, 6, 7] ?_
   exact wm hΦ hF
  refine wB ?_
  obtain ⟨b68, hb69, hψ46⟩ := hF
  refine pR hb69 (fun i43 s42 => [(0, .v (vB s42.1.1 s42.1.2.1 s42.1.2.2)), (4, .bl [.int .i64 a1.P, .int .i64 a1.Q, .int .i64 a1.G]), (6, .bl [.int .i64 0, .int .i64 0]), (8, .bl [.int .i64 x7.2.1, .int .i64 x7.2.2]), (9, .v (vW s42.2)), (36, .v (vC a2.Shares)), (37, .v (.int .i64 (a2.Shares.length : Int))), (38, .v (.int .i64 i43))]) (fun s42 _ hN70 => ?_) (fun i43 s42 _ _ hi47 hi48 ho44 hg45 hF => ?_)
  ·exact wn hN70 (hj13 _) hψ46
  refine wW ?_
  refine wu hi47 hi48 ?_
  refine wW ?_
  refine wJ hF (fun x51 => [(0, .v (vB x51.1.1 x51.1.2.1 x51.1.2.2)), (4, .bl [.int .i64 a1.P, .int .i64 a1.Q, .int .i64 a1.G]), (6, .bl [.int .i64 0, .int .i64 0]), (8, .bl [.int .i64 x7.2.1, .int .i64 x7.2.2]), (9, .v (vW x51.2)), (36, .v (vC a2.Shares)), (37, .v (.int .i64 (a2.Shares.length : Int))), (38, .v (.int .i64 i43))]) (fun x51 hF => ?_) fun _ hj49 hF => ?_
  ·exact wi hi47 hi48 (hg45 _) (zaa hF)
  refine wB ?_
  obtain ⟨x52, g, hF⟩ := Rx g hF
  refine wK [0, 4, 6, 8, 9, 10, 11, 36, 37, 38] ?_
  refine wC hF [.io, .sh] zcj (fun z53 hF => ?_)
  refine wW ?_
  refine wI hF (fun h54 hF => ?_) (fun h54 hF => ?_)
  ·exact wT (hj49 _) (zaa hF)
  refine wW ?_
  refine wX zzc follows ?_
  refine wC hF [.io, .sh] zaJ (fun z55 hF => ?_)
  refine wC hF [.sh, .sh, .sh, .sh, .sh] zne (fun z56 hF => ?_)
  refine wK [0, 4, 6, 8, 9, 12, 36, 37, 38] ?_
  refine wC hF [.io, .sh] zak (fun z57 hF => ?_)
  refine wW ?_
  refine wJ hF (fun x60 => [(0, .v (vB x60.1.1 x60.1.2.1 x60.1.2.2)), (4, .bl [.int .i64 a1.P, .int .i64 a1.Q, .int .i64 a1.G]), (6, .bl [.int .i64 0, .int .i64 0]), (8, .bl [.int .i64 x7.2.1, .int .i64 x7.2.2]), (9, .v (vW x60.2.1)), (12, .bl [.int .i64 x60.2.2.1, .int .i64 x60.2.2.2.1, vC x60.2.2.2.2.1, vC x60.2.2.2.2.2.1, vC x60.2.2.2.2.2.2]), (36, .v (vC a2.Shares)), (37, .v (.int .i64 (a2.Shares.length : Int))), (38, .v (.int .i64 i43))]) (fun x60 hF => ?_) fun _ hj58 hF => ?_
  ·obtain ⟨g, hF⟩ := Rg g hF
   exact wT (hj49 _) (zaa hF)
  refine wB ?_
  refine wW ?_
  refine wI hF (fun h61 hF => ?_) (fun h61 hF => ?_)
  ·refine wC hF [.io, .sh] zhx (fun z62 hF => ?_)
   try simp [go_sem, g]
   refine zeJ 12 2 (by simp [go_sem, g]; rfl) rfl (by simp [go_sem]) ?_
   refine zeJ 12 3 (by simp [go_sem, g]; rfl) rfl (by simp [go_sem]) ?_
   refine zeJ 12 4 (by simp [go_sem, g]; rfl) rfl (by simp [go_sem]) ?_
   exact wT (hj58 _) (zaa hF)
  refine wW ?_
  refine wI hF (fun h63 hF => ?_) (fun h63 hF => ?_)
  ·refine wC hF [.io, .mv] zaj (fun z64 hF => ?_)
   try simp [go_sem, g]
   refine zeJ 12 2 (by simp [go_sem, g]; rfl) rfl (by simp [go_sem]) ?_
   refine zeJ 12 3 (by simp [go_sem, g]; rfl) rfl (by simp [go_sem]) ?_
   refine zeJ 12 4 (by simp [go_sem, g]; rfl) rfl (by simp [go_sem]) ?_
   exact wT (hj58 _) (zaa hF)
  refine wW ?_
  refine wI hF (fun h65 hF => ?_) (fun h65 hF => ?_)
  ·refine wC hF [.io, .sh, .sh] zjc (fun z66 hF => ?_)
   try simp [go_sem, g]
   refine zeJ 12 2 (by simp [go_sem, g]; rfl) rfl (by simp [go_sem]) ?_
   refine zeJ 12 3 (by simp [go_sem, g]; rfl) rfl (by simp [go_sem]) ?_
   refine zeJ 12 4 (by simp [go_sem, g]; rfl) rfl (by simp [go_sem]) ?_
   exact wT (hj58 _) (zaa hF)
  refine wK [0, 4, 6, 8, 9, 12, 36, 37, 38, 76] ?_
  refine wI hF (fun h67 hF => ?_) (fun h67 hF => ?_)
  ·obtain ⟨g, hF⟩ := Rg g hF
   exact wT (hj58 _) (zaa hF)
  try simp [go_sem, g]
  refine zeJ 12 2 (by simp [go_sem, g]; rfl) rfl (by simp [go_sem]) ?_
  refine zeJ 12 3 (by simp [go_sem, g]; rfl) rfl (by simp [go_sem]) ?_
  refine zeJ 12 4 (by simp [go_sem, g]; rfl) rfl (by simp [go_sem]) ?_
  exact wT (hj58 _) (zaa hF)
 refine wI hF (fun h8 hF => ?_) (fun h8 hF => ?_)
 ·refine wX zBI follows ?_
  refine wC hF [.io, .sh] zak (fun z9 hF => ?_)
  refine wC hF [.sh, .sh, .sh] zcO (fun z10 hF => ?_)
  refine wC hF [.io, .sh] zaJ (fun z11 hF => ?_)
  refine wC hF [.sh, .sh, .sh, .sh] zqX (fun z12 hF => ?_)
  exact wT (hj5 _) (zaa hF)
 exact wT (hj5 _) (zaa hF)
@[go_sem] def zyA : List DE := [d2 0 [7] 7 7, d1 1 [8] 8, d2 2 [49] 8 49, d0 3 [9], d0 4 [10], d2 5 [2, 48] 2 2, d0 6 [50], d0 7 [51], d0 8 [52]]
def zc0 (a0 : List Int) : Option (Group × List Int × List Cipher × (List (List Partial))) :=
 (zbJ a0 0 0).bind fun z1 =>
 (zcz z1.2.1 z1.2.2.1 z1.2.2.2 z1.1).bind fun z2 =>
 (zai z2.2.1 z2.2.2.1 z2.2.2.2 4).bind fun z3 =>
 ((zbs (σ := (List Int × Int × Int) × List Cipher × (List (List Partial)) × Int) (fun s21 =>
 if decide (0 < s21.2.2.2) = true then (
 (zb0 s21.1.1 s21.1.2.1 s21.1.2.2 z1.1 z2.1).bind fun z27 =>
 gd ((s21.2.1.length + 1) * 16 ≤ 140737488355328 ∧ s21.2.1.length + 1 ≤ 4611686018427387904) <|
 gd ((s21.2.2.1.length + 1) * 24 ≤ 140737488355328 ∧ s21.2.2.1.length + 1 ≤ 4611686018427387904) <|
 some (.go ((z27.2.2.1, z27.2.2.2.1, z27.2.2.2.2), s21.2.1 ++ [z27.1], s21.2.2.1 ++ [z27.2.1], i64.wrap (s21.2.2.2 - 1)))) else (
 some (.out ((s21.1.1, s21.1.2.1, s21.1.2.2), s21.2.1, s21.2.2.1)))) ((z3.2.1, z3.2.2.1, z3.2.2.2), [], [], z3.1) : Option (((List Int × Int × Int) × List Cipher × (List (List Partial))))).bind fun x6 =>
 (za5 x6.1.1 x6.1.2.1 x6.1.2.2 20).bind fun z30 =>
 ((if z30.1 = true then (
 gd ((x6.2.2.length + 1) * 24 ≤ 140737488355328 ∧ x6.2.2.length + 1 ≤ 4611686018427387904) <|
 some (x6.2.2 ++ [[]])) else (
 some x6.2.2) : Option ((List (List Partial)))).bind fun x33 =>
 some (z1.1, z2.1.Commits, x6.2.1, x33)))
theorem zjN : ∀ {a0} {r}, zc0 a0 = some r → PCalls Tryz.prog 42 [(.sh, vA a0)] (Eo (.tup [vE r.1, vC r.2.1, vX r.2.2.1, vY r.2.2.2]) [.junk]) := by
 intro a0 r hr
 apply pF 53 [] [] [16] [.cell 2 24, .tmp 3, .tmp 4, .tmp 5] hr zEt Tryz.func42
 intro Φ hΦ hF g
 unfold zc0 at hF
 iterate 2 refine wW ?_
 refine wC hF [.io] zf1 (fun z1 hF => ?_)
 refine wK [2, 6, 7] ?_
 refine wC hF [.io, .sh] ziS (fun z2 hF => ?_)
 iterate 3 refine wW ?_
 refine wC hF [.io, .sh] zak (fun z3 hF => ?_)
 refine wK [2, 6, 7, 8, 9, 10, 11] ?_
 refine wJ hF (fun x6 => [(2, .bl [.int .i64 0, .int .i64 0, .int .i64 0]), (6, .v (vB x6.1.1 x6.1.2.1 x6.1.2.2)), (7, .bl [.int .i64 z1.1.P, .int .i64 z1.1.Q, .int .i64 z1.1.G]), (8, .bl [vC z2.1.Qualified, .int .i64 z2.1.Key, vC z2.1.Commits, vC z2.1.Shares]), (9, .v (vX x6.2.1)), (10, .v (vY x6.2.2))]) (fun x6 hF => ?_) fun _ hj4 hF => ?_
 ·refine wC hF [.io, .sh] zcj (fun z30 hF => ?_)
  refine wW ?_
  refine wJ hF (fun x33 => [(2, .bl [.int .i64 0, .int .i64 0, .int .i64 0]), (7, .bl [.int .i64 z1.1.P, .int .i64 z1.1.Q, .int .i64 z1.1.G]), (8, .bl [vC z2.1.Qualified, .int .i64 z2.1.Key, vC z2.1.Commits, vC z2.1.Shares]), (9, .v (vX x6.2.1)), (10, .v (vY x33))]) (fun x33 hF => ?_) fun _ hj31 hF => ?_
  ·refine wX zyA follows ?_
   refine wK [2, 3, 4, 5] ?_
   exact wm hΦ hF
  refine wI hF (fun h34 hF => ?_) (fun h34 hF => ?_)
  ·obtain ⟨g, hF⟩ := Rg g hF
   exact wT (hj31 _) (zaa hF)
  exact wT (hj31 _) (zaa hF)
 refine wB ?_
 obtain ⟨b28, hb29, hψ25⟩ := hF
 refine pL hb29 (fun s21 => [(2, .bl [.int .i64 0, .int .i64 0, .int .i64 0]), (6, .v (vB s21.1.1 s21.1.2.1 s21.1.2.2)), (7, .bl [.int .i64 z1.1.P, .int .i64 z1.1.Q, .int .i64 z1.1.G]), (8, .bl [vC z2.1.Qualified, .int .i64 z2.1.Key, vC z2.1.Commits, vC z2.1.Shares]), (9, .v (vX s21.2.1)), (10, .v (vY s21.2.2.1)), (11, .v (.int .i64 s21.2.2.2))]) (fun s21 _ _ ho23 hg24 hF => ?_)
 refine wW ?_
 refine wI hF (fun h26 hF => ?_) (fun h26 hF => ?_)
 ·refine wW ?_
  refine wB ?_
  refine wC hF [.io, .sh, .sh] zh2 (fun z27 hF => ?_)
  refine wK [2, 6, 7, 8, 9, 10, 11, 12, 13] ?_
  obtain ⟨g, hF⟩ := Rg g hF
  obtain ⟨g, hF⟩ := Rg g hF
  refine wW ?_
  refine wK [2, 6, 7, 8, 9, 10, 11] ?_
  exact wT (hg24 _) (zaa hF)
 cases ho23 _ (zaa hF)
 exact wT (hj4 _) hψ25
def zgb (a0 : List Int) : Option (Group × List Cipher × List Int × (List (List Partial))) :=
 (zc0 a0).bind fun z1 =>
 some (z1.1, z1.2.2.1, z1.2.1, z1.2.2.2)
theorem zny : ∀ {a0} {r}, zgb a0 = some r → PCalls Tryz.prog 8 [(.sh, vA a0)] (Eo (.tup [vE r.1, vX r.2.1, vC r.2.2.1, vY r.2.2.2]) [.junk]) := by
 intro a0 r hr
 apply pF 21 [] [] [] [.cell 2 24, .tmp 3, .tmp 4, .tmp 5] hr cl8 Tryz.func8
 intro Φ hΦ hF g
 unfold zgb at hF
 refine wW ?_
 refine wC hF [.sh] zjN (fun z1 hF => ?_)
 refine wK [2, 6, 7, 8, 9] ?_
 exact wl hΦ hF
def zbZ (a0 : Group) (a1 : Int) : Option Bool :=
 (((zbk a1 1 (i64.wrap (a0.P - 1))).bind fun z4 =>
 if z4 = true then (
 (zdM a1 a0.Q a0.P).bind fun z6 =>
 some (z6 == 1)) else (
 some false) : Option Bool).bind fun x3 =>
 some x3)
theorem zep : ∀ {a0} {a1} {r}, zbZ a0 a1 = some r → PCalls Tryz.prog 60 [(.sh, vE a0), (.sh, .int .i64 a1)] (Eo (.bool r) [.junk, .junk]) := by
 intro a0 a1 r hr
 apply pF 19 [] [] [] [.tmp 4] hr zE7 Tryz.func60
 intro Φ hΦ hF g
 unfold zbZ at hF
 refine wW ?_
 refine wJ hF (fun x3 => [(4, .v (.bool x3))]) (fun x3 hF => ?_) fun _ hj1 hF => ?_
 ·exact wm hΦ hF
 refine wC hF [.sh, .sh, .sh] zb3 (fun z4 hF => ?_)
 refine wG hF (fun h5 hF => ?_) fun h5 hF => ?_
 ·try simp [go_sem, g, h5]
  refine wC hF [.sh, .sh, .sh] ziB (fun z6 hF => ?_)
  exact wV h5 (hj1 _) (zaa hF)
 exact wV h5 (hj1 _) (zaa hF)
def zby (a0 : Int) (a1c0x0 : Group) : Option Bool :=
 (zbZ a1c0x0 a0).bind fun z1 =>
 some (!z1)
theorem zg5 : ∀ {a0} {a1c0x0} {r}, zby a0 a1c0x0 = some r → PCalls Tryz.prog 155 [(.sh, .int .i64 a0), (.sh, .fp [.func (.func 60) [vE a1c0x0] []])] (Eo (.bool r) [.junk, .junk]) := by
 intro a0 a1c0x0 r hr
 apply pF 8 [] [] [] [.tmp 3] hr zoQ Tryz.func155
 intro Φ hΦ hF g
 unfold zby at hF
 refine wW ?_
 refine wC hF [.sh] zep (fun z1 hF => ?_)
 exact wl hΦ hF
def zaN (a0 : List Int) (a1u0c0x0 : Group) : Option Int :=
 ((zaq (σ := Unit) (fun i5 s4 =>
 (ix a0 i5).bind fun x11 =>
 (zby x11 a1u0c0x0).bind fun z12 =>
 if z12 = true then (
 some (.out (.inr i5))) else (
 some (.go ()))) (fun s4 => .inl ()) (a0.length) 0 () : Option (Unit ⊕ Int)).bind (Sum.elim (fun x3 =>
 some (-1)) some))
theorem zdB : ∀ {a0} {a1u0c0x0} {r}, zaN a0 a1u0c0x0 = some r → PCalls Tryz.prog 185 [(.sh, vC a0), (.sh, .func (.func 155) [] [.fp [.func (.func 60) [vE a1u0c0x0] []]])] (Eo (.int .i64 r) [.junk, .junk]) := by
 intro a0 a1u0c0x0 r hr
 apply pF 19 [] [] [] [.tmp 4] hr zo0 Tryz.func185
 intro Φ hΦ hF g
 unfold zaN at hF
 iterate 2 (try simp [go_sem, g]; try intros; refine zau ?_)
 refine wS hF (fun x3 => []) (fun x3 hF => ?_) fun _ hj1 hr2 hF => ?_
 ·exact wl hΦ hF
 refine wB ?_
 obtain ⟨b14, hb15, hψ8⟩ := hF
 refine pR hb15 (fun i5 s4 => [(0, .v (vC a0)), (1, .v (.func (.func 155) [] [.fp [.func (.func 60) [vE a1u0c0x0] []]])), (7, .v (.int .i64 (a0.length : Int))), (8, .v (.int .i64 i5))]) (fun s4 _ hN16 => ?_) (fun i5 s4 _ _ hi9 hi10 ho6 hg7 hF => ?_)
 ·exact wn hN16 (hj1 _) hψ8
 refine wW ?_
 refine wu hi9 hi10 ?_
 refine wW ?_
 refine wB ?_
 obtain ⟨x11, g, hF⟩ := Rx g hF
 refine wW ?_
 refine wC hF [.sh] zg5 (fun z12 hF => ?_)
 refine wK [0, 1, 5, 7, 8, 16] ?_
 refine wI hF (fun h13 hF => ?_) (fun h13 hF => ?_)
 ·cases ho6 _ (zaa hF)
  cases hΦ _ (hr2 _ hψ8)
  refine wW ?_
  try simp [go_sem, g]
 refine wW ?_
 exact wi hi9 hi10 (hg7 _) (zaa hF)
def zaK (a0 : List Int) (a1u0c0x0 : Group) : Option Bool :=
 (zaN a0 a1u0c0x0).bind fun z1 =>
 some (decide (0 ≤ z1))
theorem zdj : ∀ {a0} {a1u0c0x0} {r}, zaK a0 a1u0c0x0 = some r → PCalls Tryz.prog 154 [(.sh, vC a0), (.sh, .func (.func 155) [] [.fp [.func (.func 60) [vE a1u0c0x0] []]])] (Eo (.bool r) [.junk, .junk]) := by
 intro a0 a1u0c0x0 r hr
 apply pF 9 [] [] [] [.tmp 4] hr zo3 Tryz.func154
 intro Φ hΦ hF g
 unfold zaK at hF
 refine wW ?_
 refine wC hF [.sh, .sh] zdB (fun z1 hF => ?_)
 exact wl hΦ hF
def zck (a0 : List Int) (a1x0 : Group) : Option Bool :=
 (zaK a0 a1x0).bind fun z1 =>
 some (!z1)
theorem zhp : ∀ {a0} {a1x0} {r}, zck a0 a1x0 = some r → PCalls Tryz.prog 91 [(.sh, vC a0), (.sh, .func (.func 60) [vE a1x0] [])] (Eo (.bool r) [.junk, .junk]) := by
 intro a0 a1x0 r hr
 apply pF 9 [] [] [1000000] [.tmp 4] hr zsq Tryz.func91
 intro Φ hΦ hF g
 unfold zck at hF
 refine wW ?_
 refine wC hF [.sh, .sh] zdj (fun z1 hF => ?_)
 exact wl hΦ hF
def zcc (a0 : Group) (a1 : List Int) : Option Bool :=
 (zck a1 a0).bind fun z1 =>
 some z1
theorem zfO : ∀ {a0} {a1} {r}, zcc a0 a1 = some r → PCalls Tryz.prog 49 [(.sh, vE a0), (.sh, vC a1)] (Eo (.bool r) [.junk, .junk]) := by
 intro a0 a1 r hr
 apply pF 9 [] [] [] [.tmp 4] hr zF9 Tryz.func49
 intro Φ hΦ hF g
 unfold zcc at hF
 refine wW ?_
 refine wC hF [.sh, .sh] zhp (fun z1 hF => ?_)
 exact wl hΦ hF
def zbU (a0 : Group) (a1 : List Int) : Option Bool :=
 (((zbk (a1.length : Int) 1 7).bind fun z4 =>
 if z4 = true then (
 (zcc a0 a1).bind fun z6 =>
 some z6) else (
 some false) : Option Bool).bind fun x3 =>
 some x3)
theorem zgl : ∀ {a0} {a1} {r}, zbU a0 a1 = some r → PCalls Tryz.prog 43 [(.sh, vE a0), (.sh, vC a1)] (Eo (.bool r) [.junk, .junk]) := by
 intro a0 a1 r hr
 apply pF 13 [] [] [] [.tmp 4] hr zGI Tryz.func43
 intro Φ hΦ hF g
 unfold zbU at hF
 refine wW ?_
 refine wJ hF (fun x3 => [(4, .v (.bool x3))]) (fun x3 hF => ?_) fun _ hj1 hF => ?_
 ·exact wm hΦ hF
 try simp [go_sem, g]
 try intros
 refine wC hF [.sh, .sh, .sh] zb3 (fun z4 hF => ?_)
 refine wG hF (fun h5 hF => ?_) fun h5 hF => ?_
 ·try simp [go_sem, g, h5]
  refine wC hF [.sh, .sh] zfO (fun z6 hF => ?_)
  exact wV h5 (hj1 _) (zaa hF)
 exact wV h5 (hj1 _) (zaa hF)
def zbn (a0 : Group) (a1 : Cipher) : Option Bool :=
 (((zbZ a0 a1.A).bind fun z4 =>
 if z4 = true then (
 (zbZ a0 a1.B).bind fun z6 =>
 some z6) else (
 some false) : Option Bool).bind fun x3 =>
 some x3)
theorem zdG : ∀ {a0} {a1} {r}, zbn a0 a1 = some r → PCalls Tryz.prog 52 [(.sh, vE a0), (.sh, vQ a1)] (Eo (.bool r) [.junk, .junk]) := by
 intro a0 a1 r hr
 apply pF 15 [] [] [] [.tmp 4] hr zIv Tryz.func52
 intro Φ hΦ hF g
 unfold zbn at hF
 refine wW ?_
 refine wJ hF (fun x3 => [(4, .v (.bool x3))]) (fun x3 hF => ?_) fun _ hj1 hF => ?_
 ·exact wm hΦ hF
 refine wC hF [.sh, .sh] zep (fun z4 hF => ?_)
 refine wG hF (fun h5 hF => ?_) fun h5 hF => ?_
 ·try simp [go_sem, g, h5]
  refine wC hF [.sh, .sh] zep (fun z6 hF => ?_)
  exact wV h5 (hj1 _) (zaa hF)
 exact wV h5 (hj1 _) (zaa hF)
def zcR (a0 : Cipher) (a1c0 : Int) (a1c1 : Int) (a1c2 : Int) : Option Bool :=
 (zbn (Group.mk a1c0 a1c1 a1c2) a0).bind fun z1 =>
 some (!z1)
theorem zh0 : ∀ {a0} {a1c0} {a1c1} {a1c2} {r}, zcR a0 a1c0 a1c1 a1c2 = some r → PCalls Tryz.prog 100 [(.sh, vQ a0), (.sh, .fp [.int .i64 a1c0, .int .i64 a1c1, .int .i64 a1c2])] (Eo (.bool r) [.junk, .junk]) := by
 intro a0 a1c0 a1c1 a1c2 r hr
 apply pF 8 [] [] [] [.tmp 3] hr zCi Tryz.func100
 intro Φ hΦ hF g
 unfold zcR at hF
 refine wW ?_
 refine wC hF [.sh, .sh] zdG (fun z1 hF => ?_)
 exact wl hΦ hF
def zat (a0 : List Cipher) (a1u0c0 : Int) (a1u0c1 : Int) (a1u0c2 : Int) : Option Int :=
 ((zaq (σ := Unit) (fun i5 s4 =>
 (ix a0 i5).bind fun x11 =>
 (zcR x11 a1u0c0 a1u0c1 a1u0c2).bind fun z12 =>
 if z12 = true then (
 some (.out (.inr i5))) else (
 some (.go ()))) (fun s4 => .inl ()) (a0.length) 0 () : Option (Unit ⊕ Int)).bind (Sum.elim (fun x3 =>
 some (-1)) some))
theorem zcH : ∀ {a0} {a1u0c0} {a1u0c1} {a1u0c2} {r}, zat a0 a1u0c0 a1u0c1 a1u0c2 = some r → PCalls Tryz.prog 162 [(.sh, vZ a0), (.sh, .func (.func 100) [] [.fp [.int .i64 a1u0c0, .int .i64 a1u0c1, .int .i64 a1u0c2]])] (Eo (.int .i64 r) [.junk, .junk]) := by
 intro a0 a1u0c0 a1u0c1 a1u0c2 r hr
 apply pF 19 [] [] [] [.tmp 4] hr zBr Tryz.func162
 intro Φ hΦ hF g
 unfold zat at hF
 iterate 2 (try simp [go_sem, g]; try intros; refine zau ?_)
 refine wS hF (fun x3 => []) (fun x3 hF => ?_) fun _ hj1 hr2 hF => ?_
 ·exact wl hΦ hF
 refine wB ?_
 obtain ⟨b14, hb15, hψ8⟩ := hF
 refine pR hb15 (fun i5 s4 => [(0, .v (vZ a0)), (1, .v (.func (.func 100) [] [.fp [.int .i64 a1u0c0, .int .i64 a1u0c1, .int .i64 a1u0c2]])), (7, .v (.int .i64 (a0.length : Int))), (8, .v (.int .i64 i5))]) (fun s4 _ hN16 => ?_) (fun i5 s4 _ _ hi9 hi10 ho6 hg7 hF => ?_)
 ·exact wn hN16 (hj1 _) hψ8
 refine wW ?_
 refine wu hi9 hi10 ?_
 refine wW ?_
 refine wB ?_
 obtain ⟨x11, g, hF⟩ := Rx g hF
 refine wW ?_
 refine wC hF [.sh] zh0 (fun z12 hF => ?_)
 refine wK [0, 1, 5, 7, 8, 16] ?_
 refine wI hF (fun h13 hF => ?_) (fun h13 hF => ?_)
 ·cases ho6 _ (zaa hF)
  cases hΦ _ (hr2 _ hψ8)
  refine wW ?_
  try simp [go_sem, g]
 refine wW ?_
 exact wi hi9 hi10 (hg7 _) (zaa hF)
def zaD (a0 : List Cipher) (a1u0c0 : Int) (a1u0c1 : Int) (a1u0c2 : Int) : Option Bool :=
 (zat a0 a1u0c0 a1u0c1 a1u0c2).bind fun z1 =>
 some (decide (0 ≤ z1))
theorem zcu : ∀ {a0} {a1u0c0} {a1u0c1} {a1u0c2} {r}, zaD a0 a1u0c0 a1u0c1 a1u0c2 = some r → PCalls Tryz.prog 99 [(.sh, vZ a0), (.sh, .func (.func 100) [] [.fp [.int .i64 a1u0c0, .int .i64 a1u0c1, .int .i64 a1u0c2]])] (Eo (.bool r) [.junk, .junk]) := by
 intro a0 a1u0c0 a1u0c1 a1u0c2 r hr
 apply pF 9 [] [] [] [.tmp 4] hr zEv Tryz.func99
 intro Φ hΦ hF g
 unfold zaD at hF
 refine wW ?_
 refine wC hF [.sh, .sh] zcH (fun z1 hF => ?_)
 exact wl hΦ hF
def zcy (a0 : Group) (a1 : List Cipher) : Option Bool :=
 ((if decide ((a1.length : Int) ≤ 24) = true then (
 (zaD a1 a0.P a0.Q a0.G).bind fun z5 =>
 some (!z5)) else (
 some false) : Option Bool).bind fun x3 =>
 some x3)
theorem ziT : ∀ {a0} {a1} {r}, zcy a0 a1 = some r → PCalls Tryz.prog 44 [(.sh, vE a0), (.sh, vZ a1)] (Eo (.bool r) [.junk, .junk]) := by
 intro a0 a1 r hr
 apply pF 14 [] [] [1000000] [.tmp 4] hr zFV Tryz.func44
 intro Φ hΦ hF g
 unfold zcy at hF
 refine wW ?_
 refine wJ hF (fun x3 => [(4, .v (.bool x3))]) (fun x3 hF => ?_) fun _ hj1 hF => ?_
 ·exact wm hΦ hF
 try simp [go_sem, g]
 try intros
 refine wG hF (fun h4 hF => ?_) fun h4 hF => ?_
 ·try simp [go_sem, g, h4]
  refine wC hF [.sh, .sh] zcu (fun z5 hF => ?_)
  exact wV h4 (hj1 _) (zaa hF)
 exact wV h4 (hj1 _) (zaa hF)
def zdu (a0 : Group) (a1 : List Int) (a2 : Cipher) : Option Bool :=
 (((zbX a0).bind fun z4 =>
 if z4 = true then (
 (zbU a0 a1).bind fun z6 =>
 if z6 = true then (
 (zbn a0 a2).bind fun z8 =>
 some z8) else (
 some false)) else (
 some false) : Option Bool).bind fun x3 =>
 some x3)
theorem zkz : ∀ {a0} {a1} {a2} {r}, zdu a0 a1 a2 = some r → PCalls Tryz.prog 108 [(.sh, vE a0), (.sh, vC a1), (.sh, vQ a2)] (Eo (.bool r) [.junk, .junk, .junk]) := by
 intro a0 a1 a2 r hr
 apply pF 19 [] [] [] [.tmp 6] hr zBK Tryz.func108
 intro Φ hΦ hF g
 unfold zdu at hF
 refine wW ?_
 refine wJ hF (fun x3 => [(6, .v (.bool x3))]) (fun x3 hF => ?_) fun _ hj1 hF => ?_
 ·exact wm hΦ hF
 refine wC hF [.sh] zew (fun z4 hF => ?_)
 refine wG hF (fun h5 hF => ?_) fun h5 hF => ?_
 ·try simp [go_sem, g, h5]
  refine wC hF [.sh, .sh] zgl (fun z6 hF => ?_)
  try simp [go_sem, g, h5]
  refine wG hF (fun h7 hF => ?_) fun h7 hF => ?_
  ·try simp [go_sem, g, h7]
   refine wC hF [.sh, .sh] zdG (fun z8 hF => ?_)
   exact wV h7 (hj1 _) (zaa hF)
  exact wV h7 (hj1 _) (zaa hF)
 exact wV h5 (hj1 _) (zaa hF)
def zb8 (a0 : List Int) (a1 : Int) : Option Int :=
 ((zaq (σ := Unit) (fun i5 s4 =>
 (ix a0 i5).bind fun x11 =>
 if (a1 == x11) = true then (
 some (.out (.inr i5))) else (
 some (.go ()))) (fun s4 => .inl ()) (a0.length) 0 () : Option (Unit ⊕ Int)).bind (Sum.elim (fun x3 =>
 some (-1)) some))
theorem zjh : ∀ {a0} {a1} {r}, zb8 a0 a1 = some r → PCalls Tryz.prog 111 [(.sh, vC a0), (.sh, .int .i64 a1)] (Eo (.int .i64 r) [.junk, .junk]) := by
 intro a0 a1 r hr
 apply pF 19 [] [] [] [.tmp 4] hr zBt Tryz.func111
 intro Φ hΦ hF g
 unfold zb8 at hF
 iterate 2 (try simp [go_sem, g]; try intros; refine zau ?_)
 refine wS hF (fun x3 => []) (fun x3 hF => ?_) fun _ hj1 hr2 hF => ?_
 ·exact wl hΦ hF
 refine wB ?_
 obtain ⟨b13, hb14, hψ8⟩ := hF
 refine pR hb14 (fun i5 s4 => [(0, .v (vC a0)), (1, .v (.int .i64 a1)), (7, .v (.int .i64 (a0.length : Int))), (8, .v (.int .i64 i5))]) (fun s4 _ hN15 => ?_) (fun i5 s4 _ _ hi9 hi10 ho6 hg7 hF => ?_)
 ·exact wn hN15 (hj1 _) hψ8
 refine wW ?_
 refine wu hi9 hi10 ?_
 refine wW ?_
 refine wB ?_
 obtain ⟨x11, g, hF⟩ := Rx g hF
 refine wW ?_
 refine wK [0, 1, 5, 7, 8, 16] ?_
 refine wI hF (fun h12 hF => ?_) (fun h12 hF => ?_)
 ·cases ho6 _ (zaa hF)
  cases hΦ _ (hr2 _ hψ8)
  refine wW ?_
  try simp [go_sem, g]
 refine wW ?_
 exact wi hi9 hi10 (hg7 _) (zaa hF)
def za8 (a0 : List Int) (a1 : Int) : Option Bool :=
 (zb8 a0 a1).bind fun z1 =>
 some (decide (0 ≤ z1))
theorem zec : ∀ {a0} {a1} {r}, za8 a0 a1 = some r → PCalls Tryz.prog 62 [(.sh, vC a0), (.sh, .int .i64 a1)] (Eo (.bool r) [.junk, .junk]) := by
 intro a0 a1 r hr
 apply pF 9 [] [] [] [.tmp 4] hr zG9 Tryz.func62
 intro Φ hΦ hF g
 unfold za8 at hF
 refine wW ?_
 refine wC hF [.sh, .sh] zjh (fun z1 hF => ?_)
 exact wl hΦ hF
def zcS (a0 : Int) : Option Bool :=
 (zbk a0 1 7).bind fun z1 =>
 some z1
theorem zgI : ∀ {a0} {r}, zcS a0 = some r → PCalls Tryz.prog 61 [(.sh, .int .i64 a0)] (Eo (.bool r) [.junk]) := by
 intro a0 r hr
 apply pF 5 [] [] [] [.tmp 2] hr zF4 Tryz.func61
 intro Φ hΦ hF g
 unfold zcS at hF
 refine wW ?_
 refine wC hF [.sh, .sh, .sh] zb3 (fun z1 hF => ?_)
 exact wl hΦ hF
def zba (a0 : Group) (a1 : List Int) : Option Int :=
 ((zaq (σ := Int) (fun i5 s4 =>
 (ix a1 i5).bind fun x11 =>
 gd (a0.P ≠ 0) <|
 some (.go ((i64.wrap (s4 * x11)).tmod a0.P))) (fun s4 => s4) (a1.length) 0 1 : Option Int).bind fun x3 =>
 some x3)
theorem zcU : ∀ {a0} {a1} {r}, zba a0 a1 = some r → PCalls Tryz.prog 56 [(.sh, vE a0), (.sh, vC a1)] (Eo (.int .i64 r) [.junk, .junk]) := by
 intro a0 a1 r hr
 apply pF 22 [] [] [] [.tmp 4] hr zHe Tryz.func56
 intro Φ hΦ hF g
 unfold zba at hF
 iterate 3 (try simp [go_sem, g]; try intros; refine zau ?_)
 refine wJ hF (fun x3 => [(5, .v (.int .i64 x3))]) (fun x3 hF => ?_) fun _ hj1 hF => ?_
 ·exact wl hΦ hF
 refine wB ?_
 obtain ⟨b12, hb13, hψ8⟩ := hF
 refine pR hb13 (fun i5 s4 => [(2, .bl [.int .i64 a0.P, .int .i64 a0.Q, .int .i64 a0.G]), (5, .v (.int .i64 s4)), (8, .v (vC a1)), (9, .v (.int .i64 (a1.length : Int))), (10, .v (.int .i64 i5))]) (fun s4 _ hN14 => ?_) (fun i5 s4 _ _ hi9 hi10 ho6 hg7 hF => ?_)
 ·exact wn hN14 (hj1 _) hψ8
 refine wW ?_
 refine wu hi9 hi10 ?_
 refine wW ?_
 refine wB ?_
 obtain ⟨x11, g, hF⟩ := Rx g hF
 refine wK [2, 5, 7, 8, 9, 10] ?_
 obtain ⟨g, hF⟩ := Rz g hF
 refine wW ?_
 exact wi hi9 hi10 (hg7 _) (zaa hF)
def zcq (a0 : Group) (a1 : Int) : Option Int :=
 (zcQ a1 a0.Q).bind fun z1 =>
 some z1
theorem zgQ : ∀ {a0} {a1} {r}, zcq a0 a1 = some r → PCalls Tryz.prog 121 [(.sh, vE a0), (.sh, .int .i64 a1)] (Eo (.int .i64 r) [.junk, .junk]) := by
 intro a0 a1 r hr
 apply pF 9 [] [] [] [.tmp 4] hr zBy Tryz.func121
 intro Φ hΦ hF g
 unfold zcq at hF
 refine wW ?_
 refine wC hF [.sh, .sh] zid (fun z1 hF => ?_)
 exact wl hΦ hF
@[go_sem] def zym : List DE := [d2 0 [3] 3 3, d0 1 [7], d2 2 [3] 3 3, d0 3 [10], d0 4 [8], d2 8 [3] 3 3, d0 9 [8], d0 10 [2], d0 11 [26, 27], d3 5 [19, 20, 21], d0 6 [18, 22], ⟨7, [17, 23], [], none, true, true, true⟩, d3 12 [25, 28], d0 13 [24], d0 14 [29]]
def zci (a0 : Group) (a1 : List Int) (a2 : Int) : Option Int :=
 ((zaq (σ := Int × Int) (fun i5 s4 =>
 (ix a1 i5).bind fun x11 =>
 (zaP a0 x11 s4.2).bind fun z12 =>
 (zba a0 [s4.1, z12]).bind fun z13 =>
 (zcq a0 (i64.wrap (s4.2 * a2))).bind fun z14 =>
 some (.go (z13, z14))) (fun s4 => s4.1) (a1.length) 0 (1, 1) : Option Int).bind fun x3 =>
 some x3)
theorem zgX : ∀ {a0} {a1} {a2} {r}, zci a0 a1 a2 = some r → PCalls Tryz.prog 193 [(.sh, vE a0), (.sh, vC a1), (.sh, .int .i64 a2)] (Eo (.int .i64 r) [.junk, .junk, .junk]) := by
 intro a0 a1 a2 r hr
 apply pF 32 [] [] [] [.tmp 6] hr zCU Tryz.func193
 intro Φ hΦ hF g
 unfold zci at hF
 iterate 3 (try simp [go_sem, g]; try intros; refine zau ?_)
 refine wJ hF (fun x3 => [(7, .v (.int .i64 x3))]) (fun x3 hF => ?_) fun _ hj1 hF => ?_
 ·exact wl hΦ hF
 refine wB ?_
 obtain ⟨b15, hb16, hψ8⟩ := hF
 refine pR hb16 (fun i5 s4 => [(2, .v (.int .i64 a2)), (3, .bl [.int .i64 a0.P, .int .i64 a0.Q, .int .i64 a0.G]), (7, .v (.int .i64 s4.1)), (8, .v (.int .i64 s4.2)), (11, .v (vC a1)), (12, .v (.int .i64 (a1.length : Int))), (13, .v (.int .i64 i5))]) (fun s4 _ hN17 => ?_) (fun i5 s4 _ _ hi9 hi10 ho6 hg7 hF => ?_)
 ·exact wn hN17 (hj1 _) hψ8
 refine wW ?_
 refine wu hi9 hi10 ?_
 refine wW ?_
 refine wB ?_
 obtain ⟨x11, g, hF⟩ := Rx g hF
 refine wK [2, 3, 7, 8, 10, 11, 12, 13] ?_
 refine wX zym follows ?_
 refine wC hF [.sh, .sh, .sh] zbu (fun z12 hF => ?_)
 refine wC hF [.sh, .sh] zcU (fun z13 hF => ?_)
 refine wC hF [.sh, .sh] zgQ (fun z14 hF => ?_)
 refine wK [2, 3, 7, 8, 11, 12, 13] ?_
 exact wi hi9 hi10 (hg7 _) (zaa hF)
theorem zCb : zsw Tryz.prog 176 25 := by
 intro n H e b es by_ z e1 e2 h0 h1 h2 h3 h4 h5
 refine ziw zBu Tryz.func176 rfl rfl (by simp [Tryz.f176]) fun hw => ?_
 have hn : ¬ n < 0 := by omega
 have hw1 : i64.wrap n = n := wrI (by omega)
 have hw0 : i64.wrap 0 = 0 := wrI (by omega)
 have ei : (zdI Tryz.prog 3).isSome = true := by kernel_rfl
 by_cases hp : 0 < n
 ·have hne : n ≠ 0 := by omega
  have h5' := h5
  simp [zan] at h5'
  simp [Tryz.f176, awp, zfP, aop, ahp, zaR, zaZ, za0, mat, za1, zax, zkr, FR.put, FR.init, rdv, rda, zbf, zcp, zan, Am.lenV, zdL, zca, bnd, zjj, zn6, zhh, zh3, zjT, hn, e1, e2, ei, hw1, hw0, hp, h1, h2, h3, h4, hne]
  first | exact h5' | exact .inl h5'
 have hz : n = 0 := by omega
 subst hz
 simp [Tryz.f176, awp, zfP, aop, ahp, zaR, zaZ, za0, mat, za1, zax, zkr, FR.put, FR.init, rdv, rda, zbf, zcp, zan, Am.lenV, zdL, zca, bnd, zjj, zn6, zhh, zh3, zjT, hn, e1, e2, hw1, hw0, hp]
def zaU (a0 : (List (List Int))) : Option ((List Int)) :=
 ((zaq (σ := Int) (fun i5 s4 =>
 (ix a0 i5).bind fun x11 =>
 if decide ((i64.wrap (s4 + (x11.length : Int))) < 0) = true then (
 none) else (
 some (.go (i64.wrap (s4 + (x11.length : Int)))))) (fun s4 => s4) (a0.length) 0 0 : Option Int).bind fun x3 =>
 gd (0 ≤ x3 ∧ 8 * x3 ≤ 140737488355328 ∧ x3 ≤ 4611686018427387904) <|
 ((zaq (σ := (List Int)) (fun i22 s21 =>
 (ix a0 i22).bind fun x28 =>
 gd ((s21.length + x28.length) * 8 ≤ 140737488355328 ∧ s21.length + x28.length ≤ 4611686018427387904) <|
 some (.go (s21 ++ x28))) (fun s21 => s21) (a0.length) 0 [] : Option ((List Int))).bind fun x20 =>
 some x20))
theorem zbT : ∀ {a0} {r}, zaU a0 = some r → PCalls Tryz.prog 124 [(.sh, vH a0)] (Eo (vD r) [.junk]) := by
 intro a0 r hr
 apply pF 36 [] [] [] [.tmp 2] hr zCH Tryz.func124
 intro Φ hΦ hF g
 unfold zaU at hF
 iterate 3 (try simp [go_sem, g]; try intros; refine zau ?_)
 refine wJ hF (fun x3 => [(0, .v (vH a0)), (3, .v (.int .i64 x3))]) (fun x3 hF => ?_) fun _ hj1 hF => ?_
 ·obtain ⟨g17, hF⟩ := zig hF
  try simp [go_sem, g]
  refine zxv zCb zGb (by simp [go_sem, g]) g17 ?_
  try simp [go_sem, g]
  try intros
  refine zau ?_
  try simp [go_sem, g]
  try intros
  refine wK [6, 25, 26, 27] ?_
  refine wJ hF (fun x20 => [(6, .v (vD x20))]) (fun x20 hF => ?_) fun _ hj18 hF => ?_
  ·exact wl hΦ hF
  refine wB ?_
  obtain ⟨b29, hb30, hψ25⟩ := hF
  refine pR hb30 (fun i22 s21 => [(6, .v (vD s21)), (25, .v (vH a0)), (26, .v (.int .i64 (a0.length : Int))), (27, .v (.int .i64 i22))]) (fun s21 _ hN31 => ?_) (fun i22 s21 _ _ hi26 hi27 ho23 hg24 hF => ?_)
  ·exact wn hN31 (hj18 _) hψ25
  refine wW ?_
  refine wu hi26 hi27 ?_
  refine wW ?_
  refine wB ?_
  obtain ⟨x28, g, hF⟩ := Rx g hF
  obtain ⟨g, hF⟩ := Rg g hF
  iterate 2 refine wW ?_
  exact wi hi26 hi27 (hg24 _) (zaa hF)
 refine wB ?_
 obtain ⟨b13, hb14, hψ8⟩ := hF
 refine pR hb14 (fun i5 s4 => [(0, .v (vH a0)), (3, .v (.int .i64 s4)), (9, .v (vH a0)), (10, .v (.int .i64 (a0.length : Int))), (11, .v (.int .i64 i5))]) (fun s4 _ hN15 => ?_) (fun i5 s4 _ _ hi9 hi10 ho6 hg7 hF => ?_)
 ·exact wn hN15 (hj1 _) hψ8
 refine wW ?_
 refine wu hi9 hi10 ?_
 refine wW ?_
 refine wB ?_
 obtain ⟨x11, g, hF⟩ := Rx g hF
 try simp [go_sem, g]
 try intros
 refine zau ?_
 try simp [go_sem, g]
 try intros
 refine wK [0, 3, 9, 10, 11] ?_
 refine wW ?_
 refine wI hF (fun h12 hF => ?_) (fun h12 hF => ?_)
 ·exact (znS hF).elim
 refine wW ?_
 exact wi hi9 hi10 (hg7 _) (zaa hF)
def zfR (a0 : ByteArray) (a1 : List Int) : Option ((List Int)) :=
 ((zbs (σ := (List Int) × Int) (fun s4 =>
 if decide (s4.2 < (a0.size : Int)) = true then (
 (ixs a0 s4.2).bind fun x10 =>
 gd ((s4.1.length + 1) * 8 ≤ 140737488355328 ∧ s4.1.length + 1 ≤ 4611686018427387904) <|
 some (.go (s4.1 ++ [i64.wrap x10], i64.wrap (s4.2 + 1)))) else (
 some (.out s4.1))) ([(a0.size : Int)], 0) : Option ((List Int))).bind fun x3 =>
 gd ((x3.length + a1.length) * 8 ≤ 140737488355328 ∧ x3.length + a1.length ≤ 4611686018427387904) <|
 some (x3 ++ a1))
theorem znl : ∀ {a0} {a1} {r}, zfR a0 a1 = some r → PCalls Tryz.prog 195 [(.sh, .str a0), (.sh, vC a1)] (Eo (vD r) [.junk, .junk]) := by
 intro a0 a1 r hr
 apply pF 26 [] [] [] [.tmp 4] hr zCT Tryz.func195
 intro Φ hΦ hF g
 unfold zfR at hF
 iterate 3 refine wW ?_
 refine wJ hF (fun x3 => [(1, .v (vC a1)), (5, .v (vD x3))]) (fun x3 hF => ?_) fun _ hj1 hF => ?_
 ·obtain ⟨g, hF⟩ := Rg g hF
  refine wK [4] ?_
  exact wm hΦ hF
 refine wB ?_
 obtain ⟨b11, hb12, hψ8⟩ := hF
 refine pL hb12 (fun s4 => [(0, .v (.str a0)), (1, .v (vC a1)), (5, .v (vD s4.1)), (11, .v (.int .i64 (a0.size : Int))), (12, .v (.int .i64 s4.2))]) (fun s4 _ _ ho6 hg7 hF => ?_)
 refine wW ?_
 refine wI hF (fun h9 hF => ?_) (fun h9 hF => ?_)
 ·refine wW ?_
  refine wB ?_
  refine wK [0, 1, 5, 6, 11, 12] ?_
  obtain ⟨x10, g, hF⟩ := Rxs g hF
  obtain ⟨g, hF⟩ := Rg g hF
  refine wW ?_
  exact wT (hg7 _) (zaa hF)
 cases ho6 _ (zaa hF)
 exact wT (hj1 _) hψ8
def zeQ (a0 : Int) : Option Bool :=
 (zbk a0 0 4611686018427387903).bind fun z1 =>
 some z1
theorem zmQ : ∀ {a0} {r}, zeQ a0 = some r → PCalls Tryz.prog 209 [(.sh, .int .i64 a0)] (Eo (.bool r) [.junk]) := by
 intro a0 r hr
 apply pF 5 [] [] [] [.tmp 2] hr zCN Tryz.func209
 intro Φ hΦ hF g
 unfold zeQ at hF
 refine wW ?_
 refine wC hF [.sh, .sh, .sh] zb3 (fun z1 hF => ?_)
 exact wl hΦ hF
def zbC (a0 : Int) : Option Bool :=
 (zeQ a0).bind fun z1 =>
 some (!z1)
theorem zhi : ∀ {a0} {r}, zbC a0 = some r → PCalls Tryz.prog 155 [(.sh, .int .i64 a0), (.sh, .fp [.func (.func 209) [] []])] (Eo (.bool r) [.junk, .junk]) := by
 intro a0 r hr
 apply pF 8 [] [] [] [.tmp 3] hr zoQ Tryz.func155
 intro Φ hΦ hF g
 unfold zbC at hF
 refine wW ?_
 refine wC hF [.sh] zmQ (fun z1 hF => ?_)
 exact wl hΦ hF
def zbe (a0 : List Int) : Option Int :=
 ((zaq (σ := Unit) (fun i5 s4 =>
 (ix a0 i5).bind fun x11 =>
 (zbC x11).bind fun z12 =>
 if z12 = true then (
 some (.out (.inr i5))) else (
 some (.go ()))) (fun s4 => .inl ()) (a0.length) 0 () : Option (Unit ⊕ Int)).bind (Sum.elim (fun x3 =>
 some (-1)) some))
theorem zdH : ∀ {a0} {r}, zbe a0 = some r → PCalls Tryz.prog 185 [(.sh, vC a0), (.sh, .func (.func 155) [] [.fp [.func (.func 209) [] []]])] (Eo (.int .i64 r) [.junk, .junk]) := by
 intro a0 r hr
 apply pF 19 [] [] [] [.tmp 4] hr zo0 Tryz.func185
 intro Φ hΦ hF g
 unfold zbe at hF
 iterate 2 (try simp [go_sem, g]; try intros; refine zau ?_)
 refine wS hF (fun x3 => []) (fun x3 hF => ?_) fun _ hj1 hr2 hF => ?_
 ·exact wl hΦ hF
 refine wB ?_
 obtain ⟨b14, hb15, hψ8⟩ := hF
 refine pR hb15 (fun i5 s4 => [(0, .v (vC a0)), (1, .v (.func (.func 155) [] [.fp [.func (.func 209) [] []]])), (7, .v (.int .i64 (a0.length : Int))), (8, .v (.int .i64 i5))]) (fun s4 _ hN16 => ?_) (fun i5 s4 _ _ hi9 hi10 ho6 hg7 hF => ?_)
 ·exact wn hN16 (hj1 _) hψ8
 refine wW ?_
 refine wu hi9 hi10 ?_
 refine wW ?_
 refine wB ?_
 obtain ⟨x11, g, hF⟩ := Rx g hF
 refine wW ?_
 refine wC hF [.sh] zhi (fun z12 hF => ?_)
 refine wK [0, 1, 5, 7, 8, 16] ?_
 refine wI hF (fun h13 hF => ?_) (fun h13 hF => ?_)
 ·cases ho6 _ (zaa hF)
  cases hΦ _ (hr2 _ hψ8)
  refine wW ?_
  try simp [go_sem, g]
 refine wW ?_
 exact wi hi9 hi10 (hg7 _) (zaa hF)
def za4 (a0 : List Int) : Option Bool :=
 (zbe a0).bind fun z1 =>
 some (decide (0 ≤ z1))
theorem zdq : ∀ {a0} {r}, za4 a0 = some r → PCalls Tryz.prog 154 [(.sh, vC a0), (.sh, .func (.func 155) [] [.fp [.func (.func 209) [] []]])] (Eo (.bool r) [.junk, .junk]) := by
 intro a0 r hr
 apply pF 9 [] [] [] [.tmp 4] hr zo3 Tryz.func154
 intro Φ hΦ hF g
 unfold za4 at hF
 refine wW ?_
 refine wC hF [.sh, .sh] zdH (fun z1 hF => ?_)
 exact wl hΦ hF
def zcw (a0 : List Int) : Option Bool :=
 (za4 a0).bind fun z1 =>
 some (!z1)
theorem zhC : ∀ {a0} {r}, zcw a0 = some r → PCalls Tryz.prog 91 [(.sh, vC a0), (.sh, .func (.func 209) [] [])] (Eo (.bool r) [.junk, .junk]) := by
 intro a0 r hr
 apply pF 9 [] [] [1000000] [.tmp 4] hr zsq Tryz.func91
 intro Φ hΦ hF g
 unfold zcw at hF
 refine wW ?_
 refine wC hF [.sh, .sh] zdq (fun z1 hF => ?_)
 exact wl hΦ hF
def zea (a0 : List Int) : Option Bool :=
 ((if decide ((a0.length : Int) ≤ 400) = true then (
 (zcw a0).bind fun z5 =>
 some z5) else (
 some false) : Option Bool).bind fun x3 =>
 some x3)
theorem zlL : ∀ {a0} {r}, zea a0 = some r → PCalls Tryz.prog 204 [(.sh, vC a0)] (Eo (.bool r) [.junk]) := by
 intro a0 r hr
 apply pF 10 [] [] [] [.tmp 2] hr zBT Tryz.func204
 intro Φ hΦ hF g
 unfold zea at hF
 refine wW ?_
 refine wJ hF (fun x3 => [(2, .v (.bool x3))]) (fun x3 hF => ?_) fun _ hj1 hF => ?_
 ·exact wm hΦ hF
 try simp [go_sem, g]
 try intros
 refine wG hF (fun h4 hF => ?_) fun h4 hF => ?_
 ·try simp [go_sem, g, h4]
  refine wC hF [.sh, .sh] zhC (fun z5 hF => ?_)
  exact wV h4 (hj1 _) (zaa hF)
 exact wV h4 (hj1 _) (zaa hF)
def zgx (a0 : List Int) : Option Int :=
 gd (([(a0.length : Int)].length + a0.length) * 8 ≤ 140737488355328 ∧ [(a0.length : Int)].length + a0.length ≤ 4611686018427387904) <|
 (some ([(a0.length : Int)] ++ a0)).bind fun x1 =>
 ((zaq (σ := Int × Int) (fun i7 s6 =>
 (ix x1 i7).bind fun x13 =>
 some (.go ((i64.wrap ((i64.wrap ((i64.wrap (48271 * ((i64.wrap ((i64.wrap ((i64.wrap (48271 * s6.1)) + (i64.wrap ((BitVec.ofInt i64.bits x13 &&& BitVec.ofInt i64.bits 2147483647).toNat)))) + 1)).tmod 2147483647))) + (x13.fdiv 2147483648))) + 1)).tmod 2147483647, (i64.wrap ((i64.wrap ((i64.wrap (69621 * ((i64.wrap ((i64.wrap ((i64.wrap (69621 * s6.2)) + (i64.wrap ((BitVec.ofInt i64.bits x13 &&& BitVec.ofInt i64.bits 2147483647).toNat)))) + 1)).tmod 2147483647))) + (x13.fdiv 2147483648))) + 1)).tmod 2147483647))) (fun s6 => (s6.1, s6.2)) (x1.length) 0 (1, 2) : Option ((Int × Int))).bind fun x5 =>
 some (i64.wrap ((i64.wrap (x5.1 * 2147483648)) + x5.2)))
theorem zqI : ∀ {a0} {r}, zgx a0 = some r → PCalls Tryz.prog 205 [(.sh, vC a0)] (Eo (.int .i64 r) [.junk]) := by
 intro a0 r hr
 apply pF 52 [] [] [] [.tmp 2] hr zBv Tryz.func205
 intro Φ hΦ hF g
 unfold zgx at hF
 obtain ⟨g, hF⟩ := Rg g hF
 obtain ⟨x1, e2, hF⟩ := zfF hF
 have g := And.intro g (show [.int .i64 (a0.length : Int)] :: (List.map zah a0) = x1.map zah by injection e2 with e2; rw [← e2]; simp [go_sem])
 iterate 2 (try simp [go_sem, g]; try intros; refine zau ?_)
 try simp [go_sem, g]
 try intros
 refine wK [3, 4, 13, 14, 15] ?_
 refine wJ hF (fun x5 => [(3, .v (.int .i64 x5.1)), (4, .v (.int .i64 x5.2))]) (fun x5 hF => ?_) fun _ hj3 hF => ?_
 ·have g := Ls g 31
  exact wl hΦ hF
 refine wB ?_
 obtain ⟨b14, hb15, hψ10⟩ := hF
 refine pR hb15 (fun i7 s6 => [(3, .v (.int .i64 s6.1)), (4, .v (.int .i64 s6.2)), (13, .v (vD x1)), (14, .v (.int .i64 (x1.length : Int))), (15, .v (.int .i64 i7))]) (fun s6 _ hN16 => ?_) (fun i7 s6 _ _ hi11 hi12 ho8 hg9 hF => ?_)
 ·exact wn hN16 (hj3 _) hψ10
 refine wW ?_
 refine wu hi11 hi12 ?_
 refine wW ?_
 refine wB ?_
 obtain ⟨x13, g, hF⟩ := Rx g hF
 have g := Ls g 31
 refine wW ?_
 refine wK [3, 4, 7, 8, 13, 14, 15] ?_
 have g := Ld g 2147483647
 refine wW ?_
 refine wK [3, 4, 7, 8, 13, 14, 15] ?_
 refine wW ?_
 refine wK [3, 4, 13, 14, 15] ?_
 exact wi hi11 hi12 (hg9 _) (zaa hF)
def zeT (a0 : List Int) : Option (Int × Bool) :=
 (zea a0).bind fun z1 =>
 if (!z1) = true then (
 some (0, false)) else (
 (zgx a0).bind fun z3 =>
 some (z3, true))
theorem zm5 : ∀ {a0} {r}, zeT a0 = some r → PCalls Tryz.prog 194 [(.sh, vC a0)] (Eo (.tup [.int .i64 r.1, .bool r.2]) [.junk]) := by
 intro a0 r hr
 apply pF 9 [] [] [] [.tmp 2, .tmp 3] hr zA2 Tryz.func194
 intro Φ hΦ hF g
 unfold zeT at hF
 refine wW ?_
 refine wC hF [.sh] zlL (fun z1 hF => ?_)
 refine wW ?_
 refine wI hF (fun h2 hF => ?_) (fun h2 hF => ?_)
 ·exact wl hΦ hF
 refine wW ?_
 refine wC hF [.sh] zqI (fun z3 hF => ?_)
 exact wl hΦ hF
def zdr (a0 : ByteArray) (a1 : List Int) : Option (Int × Bool) :=
 ((if decide (40 < (a0.size : Int)) = true then (
 some true) else (
 some (decide (400 < (a1.length : Int)))) : Option Bool).bind fun x3 =>
 if x3 = true then (
 some (0, false)) else (
 (zfR a0 a1).bind fun z6 =>
 (zeT z6).bind fun z7 =>
 some (z7.1, z7.2)))
theorem zkB : ∀ {a0} {a1} {r}, zdr a0 a1 = some r → PCalls Tryz.prog 175 [(.sh, .str a0), (.sh, vC a1)] (Eo (.tup [.int .i64 r.1, .bool r.2]) [.junk, .junk]) := by
 intro a0 a1 r hr
 apply pF 20 [] [] [] [.tmp 4, .tmp 5] hr zCo Tryz.func175
 intro Φ hΦ hF g
 unfold zdr at hF
 refine wW ?_
 refine wJ hF (fun x3 => [(0, .v (.str a0)), (1, .v (vC a1)), (13, .v (.bool x3))]) (fun x3 hF => ?_) fun _ hj1 hF => ?_
 ·refine wI hF (fun h5 hF => ?_) (fun h5 hF => ?_)
  ·exact wl hΦ hF
  refine wW ?_
  refine wC hF [.sh, .sh] znl (fun z6 hF => ?_)
  refine wC hF [.sh] zm5 (fun z7 hF => ?_)
  refine wK [4, 5] ?_
  exact wm hΦ hF
 refine wG hF (fun h4 hF => ?_) fun h4 hF => ?_
 ·exact wV h4 (hj1 _) (zaa hF)
 try simp [go_sem, g, h4]
 try intros
 exact wT (hj1 _) (zaa hF)
def zbo (a0 : Group) (a1 : ByteArray) (a2 : List Int) : Option (Int × Bool) :=
 gd (([a0.P, a0.Q, a0.G].length + a2.length) * 8 ≤ 140737488355328 ∧ [a0.P, a0.Q, a0.G].length + a2.length ≤ 4611686018427387904) <|
 (zdr a1 ([a0.P, a0.Q, a0.G] ++ a2)).bind fun z1 =>
 if (!z1.2) = true then (
 some (0, false)) else (
 gd (a0.Q ≠ 0) <|
 some (z1.1.tmod a0.Q, true))
theorem ze2 : ∀ {a0} {a1} {a2} {r}, zbo a0 a1 a2 = some r → PCalls Tryz.prog 123 [(.sh, vE a0), (.sh, .str a1), (.sh, vC a2)] (Eo (.tup [.int .i64 r.1, .bool r.2]) [.junk, .junk, .junk]) := by
 intro a0 a1 a2 r hr
 apply pF 30 [] [] [] [.tmp 6, .tmp 7] hr zAS Tryz.func123
 intro Φ hΦ hF g
 unfold zbo at hF
 obtain ⟨g, hF⟩ := Rg g hF
 refine wW ?_
 refine wC hF [.sh, .sh] zkB (fun z1 hF => ?_)
 refine wK [3, 8, 9] ?_
 refine wW ?_
 refine wI hF (fun h2 hF => ?_) (fun h2 hF => ?_)
 ·exact wl hΦ hF
 obtain ⟨g, hF⟩ := Rz g hF
 cases hΦ _ (zaa hF)
 iterate 2 refine wW ?_
 try simp [go_sem, g]
@[go_sem] def zAY : List DE := [d2 0 [3] 3 3, d0 1 [7], d2 2 [3] 3 3, d0 3 [9], d0 4 [2], d0 5 [8], d0 6 [21, 22], d0 7 [23], d3 8 [19, 20, 24], d0 9 [18, 25], ⟨10, [17, 26], [], none, true, true, true⟩, d0 11 [27]]
def zcL (a0 : Group) (a1 : List Int) (a2 : List Int) : Option Int :=
 ((zaq (σ := Int) (fun i5 s4 =>
 (ix a1 i5).bind fun x11 =>
 (ix a2 i5).bind fun x12 =>
 (zaP a0 x11 x12).bind fun z13 =>
 (zba a0 [s4, z13]).bind fun z14 =>
 some (.go z14)) (fun s4 => s4) (a1.length) 0 1 : Option Int).bind fun x3 =>
 some x3)
theorem zhs : ∀ {a0} {a1} {a2} {r}, zcL a0 a1 a2 = some r → PCalls Tryz.prog 58 [(.sh, vE a0), (.sh, vC a1), (.sh, vC a2)] (Eo (.int .i64 r) [.junk, .junk, .junk]) := by
 intro a0 a1 a2 r hr
 apply pF 30 [] [] [] [.tmp 6] hr zGr Tryz.func58
 intro Φ hΦ hF g
 unfold zcL at hF
 iterate 3 (try simp [go_sem, g]; try intros; refine zau ?_)
 refine wJ hF (fun x3 => [(7, .v (.int .i64 x3))]) (fun x3 hF => ?_) fun _ hj1 hF => ?_
 ·exact wl hΦ hF
 refine wB ?_
 obtain ⟨b15, hb16, hψ8⟩ := hF
 refine pR hb16 (fun i5 s4 => [(2, .v (vC a2)), (3, .bl [.int .i64 a0.P, .int .i64 a0.Q, .int .i64 a0.G]), (7, .v (.int .i64 s4)), (10, .v (vC a1)), (11, .v (.int .i64 (a1.length : Int))), (12, .v (.int .i64 i5))]) (fun s4 _ hN17 => ?_) (fun i5 s4 _ _ hi9 hi10 ho6 hg7 hF => ?_)
 ·exact wn hN17 (hj1 _) hψ8
 refine wW ?_
 refine wu hi9 hi10 ?_
 refine wW ?_
 refine wB ?_
 obtain ⟨x11, g, hF⟩ := Rx g hF
 refine wK [2, 3, 7, 8, 9, 10, 11, 12] ?_
 refine wX zAY follows ?_
 obtain ⟨x12, g, hF⟩ := Rx g hF
 refine wC hF [.sh, .sh, .sh] zbu (fun z13 hF => ?_)
 refine wC hF [.sh, .sh] zcU (fun z14 hF => ?_)
 refine wK [2, 3, 7, 10, 11, 12] ?_
 exact wi hi9 hi10 (hg7 _) (zaa hF)
def zbj (a0 : Group) (a1 : (List (List Int))) (a2 : List Int) : Option ((List Int)) :=
 ((zaq (σ := (List Int)) (fun i5 s4 =>
 (ix a1 i5).bind fun x11 =>
 (zcL a0 x11 a2).bind fun z12 =>
 gd ((s4.length + 1) * 8 ≤ 140737488355328 ∧ s4.length + 1 ≤ 4611686018427387904) <|
 some (.go (s4 ++ [z12]))) (fun s4 => s4) (a1.length) 0 [] : Option ((List Int))).bind fun x3 =>
 some x3)
theorem zds : ∀ {a0} {a1} {a2} {r}, zbj a0 a1 a2 = some r → PCalls Tryz.prog 166 [(.sh, vE a0), (.sh, vH a1), (.sh, vC a2)] (Eo (vD r) [.junk, .junk, .junk]) := by
 intro a0 a1 a2 r hr
 apply pF 26 [] [] [] [.tmp 6] hr zB8 Tryz.func166
 intro Φ hΦ hF g
 unfold zbj at hF
 iterate 3 (try simp [go_sem, g]; try intros; refine zau ?_)
 refine wJ hF (fun x3 => [(7, .v (vD x3))]) (fun x3 hF => ?_) fun _ hj1 hF => ?_
 ·exact wl hΦ hF
 refine wB ?_
 obtain ⟨b13, hb14, hψ8⟩ := hF
 refine pR hb14 (fun i5 s4 => [(2, .v (vC a2)), (3, .bl [.int .i64 a0.P, .int .i64 a0.Q, .int .i64 a0.G]), (7, .v (vD s4)), (11, .v (vH a1)), (12, .v (.int .i64 (a1.length : Int))), (13, .v (.int .i64 i5))]) (fun s4 _ hN15 => ?_) (fun i5 s4 _ _ hi9 hi10 ho6 hg7 hF => ?_)
 ·exact wn hN15 (hj1 _) hψ8
 refine wW ?_
 refine wu hi9 hi10 ?_
 refine wW ?_
 refine wB ?_
 obtain ⟨x11, g, hF⟩ := Rx g hF
 refine wK [2, 3, 7, 9, 11, 12, 13] ?_
 refine wC hF [.sh, .sh, .sh] zhs (fun z12 hF => ?_)
 obtain ⟨g, hF⟩ := Rg g hF
 refine wW ?_
 exact wi hi9 hi10 (hg7 _) (zaa hF)
@[go_sem] def zx8 : List DE := [d1 0 [9] 9, d2 1 [15] 9 15, d0 2 [16], d0 3 [2], d0 4 [18], d0 5 [17, 19], d0 6 [20], d1 7 [9, 21] 9, d2 8 [22, 21] 9 22, d0 9 [23, 21], d0 10 [24, 21], d0 11 [21, 25], d0 12 [26], d1 13 [9, 27] 9, d2 14 [28, 27] 9 28, d0 15 [29, 27], d0 16 [2, 27], d0 17 [31, 27], d0 18 [32, 27], d0 19 [33, 27], d0 20 [30, 34, 27], d0 21 [27, 35], d0 22 [36], d2 23 [5, 37] 5 5, d1 24 [9, 37] 9, d2 25 [39, 37] 9 39, d3 26 [38, 40, 37], d0 27 [41, 37], d0 28 [37, 42], d0 29 [43], d2 30 [5, 44] 5 5, d1 31 [9, 44] 9, d2 32 [46, 44] 9 46, d3 33 [45, 47, 44], d0 34 [48, 44], d0 35 [44, 49]]
@[go_sem] def zy3 : List DE := [d2 0 [5] 5 5, d0 1 [1], d0 2 [2], d0 4 [3], d1 5 [9] 9, d2 6 [57] 9 57, d3 3 [54], d0 7 [55, 56, 58], ⟨8, [59], [], none, true, true, true⟩, d3 9 [52, 53, 60], d0 10 [61], d0 11 [51], d0 12 [51], d0 13 [62], d0 14 [63]]
@[go_sem] def zzH : List DE := [d0 0 [14], d2 1 [5] 5 5, d1 2 [9] 9, d2 3 [87] 9 87, d0 4 [13], d0 5 [88, 89], d0 6 [90], d2 7 [5] 5 5, d0 8 [3], d0 9 [13], d0 10 [93, 94], d0 11 [95], d0 12 [11], ⟨13, [92, 96, 97], [], none, false, true, false⟩, d0 14 [91, 98], ⟨15, [86, 99], [], none, true, true, true⟩, d0 16 [85, 100]]
def zcg (a0 : Group) (a1 : ByteArray) (a2 : (List (List Int))) (a3 : List Int) (a4 : Proof) : Option Bool :=
 ((if ((a4.Commits.length : Int) != (a2.length : Int)) = true then (
 some true) else (
 if ((a4.Challenges.length : Int) != 1) = true then (
 some true) else (
 (ix a2 0).bind fun x6 =>
 if ((a4.Responses.length : Int) != (x6.length : Int)) = true then (
 some true) else (
 (zcc a0 a4.Commits).bind fun z8 =>
 if (!z8) = true then (
 some true) else (
 (zbm a0 a4.Responses).bind fun z10 =>
 some (!z10))))) : Option Bool).bind fun x3 =>
 if x3 = true then (
 some false) else (
 (zaU a2).bind fun z12 =>
 (zaU [z12, a3, a4.Commits]).bind fun z13 =>
 (zbo a0 a1 z13).bind fun z14 =>
 ((if (!z14.2) = true then (
 some true) else (
 (ix a4.Challenges 0).bind fun x19 =>
 some (x19 != z14.1)) : Option Bool).bind fun x17 =>
 if x17 = true then (
 some false) else (
 (zbj a0 a2 a4.Responses).bind fun z21 =>
 ((zaq (σ := Unit) (fun i26 s25 =>
 (ix z21 i26).bind fun x32 =>
 (ix a4.Commits i26).bind fun x33 =>
 (ix a3 i26).bind fun x34 =>
 (zaP a0 x34 z14.1).bind fun z35 =>
 (zba a0 [x33, z35]).bind fun z36 =>
 if (x32 != z36) = true then (
 some (.out (.inr false))) else (
 some (.go ()))) (fun s25 => .inl ()) (z21.length) 0 () : Option (Unit ⊕ Bool)).bind (Sum.elim (fun x24 =>
 some true) some))))))
theorem zfS : ∀ {a0} {a1} {a2} {a3} {a4} {r}, zcg a0 a1 a2 a3 a4 = some r → PCalls Tryz.prog 192 [(.sh, vE a0), (.sh, .str a1), (.sh, vH a2), (.sh, vC a3), (.sh, vU a4)] (Eo (.bool r) [.junk, .junk, .junk, .junk, .junk]) := by
 intro a0 a1 a2 a3 a4 r hr
 apply pF 103 [] [368] [] [.tmp 10] hr zAQ Tryz.func192
 intro Φ hΦ hF g
 unfold zcg at hF
 refine wW ?_
 refine wJ hF (fun x3 => [(1, .v (.str a1)), (2, .v (vH a2)), (3, .v (vC a3)), (5, .bl [.int .i64 a0.P, .int .i64 a0.Q, .int .i64 a0.G]), (9, .bl [vC a4.Commits, vC a4.Challenges, vC a4.Responses]), (50, .v (.bool x3))]) (fun x3 hF => ?_) fun _ hj1 hF => ?_
 ·refine wI hF (fun h11 hF => ?_) (fun h11 hF => ?_)
  ·exact wl hΦ hF
  refine wW ?_
  refine wX zy3 follows ?_
  refine wC hF [.sh] zbT (fun z12 hF => ?_)
  refine wC hF [.sh] zbT (fun z13 hF => ?_)
  refine wC hF [.sh, .sh, .sh] ze2 (fun z14 hF => ?_)
  refine wK [2, 3, 5, 9, 11, 12] ?_
  refine wJ hF (fun x17 => [(2, .v (vH a2)), (3, .v (vC a3)), (5, .bl [.int .i64 a0.P, .int .i64 a0.Q, .int .i64 a0.G]), (9, .bl [vC a4.Commits, vC a4.Challenges, vC a4.Responses]), (11, .v (.int .i64 z14.1)), (73, .v (.bool x17))]) (fun x17 hF => ?_) fun _ hj15 hF => ?_
  ·refine wI hF (fun h20 hF => ?_) (fun h20 hF => ?_)
   ·exact wl hΦ hF
   refine wW ?_
   refine wC hF [.sh, .sh, .sh] zds (fun z21 hF => ?_)
   try simp [go_sem, g]
   try intros
   refine zau ?_
   refine wS hF (fun x24 => []) (fun x24 hF => ?_) fun _ hj22 hr23 hF => ?_
   ·exact wl hΦ hF
   refine wB ?_
   obtain ⟨b38, hb39, hψ29⟩ := hF
   refine pR hb39 (fun i26 s25 => [(3, .v (vC a3)), (5, .bl [.int .i64 a0.P, .int .i64 a0.Q, .int .i64 a0.G]), (9, .bl [vC a4.Commits, vC a4.Challenges, vC a4.Responses]), (11, .v (.int .i64 z14.1)), (78, .v (vD z21)), (79, .v (.int .i64 (z21.length : Int))), (80, .v (.int .i64 i26))]) (fun s25 _ hN40 => ?_) (fun i26 s25 _ _ hi30 hi31 ho27 hg28 hF => ?_)
   ·exact wn hN40 (hj22 _) hψ29
   refine wW ?_
   refine wu hi30 hi31 ?_
   refine wW ?_
   refine wB ?_
   obtain ⟨x32, g, hF⟩ := Rx g hF
   refine wK [3, 5, 9, 11, 13, 14, 78, 79, 80] ?_
   refine wX zzH follows ?_
   obtain ⟨x33, g, hF⟩ := Rx g hF
   obtain ⟨x34, g, hF⟩ := Rx g hF
   refine wD hF zbu (fun z35 hF => ?_)
   refine wC hF [.sh, .sh] zcU (fun z36 hF => ?_)
   refine wK [3, 5, 9, 11, 78, 79, 80, 101] ?_
   refine wI hF (fun h37 hF => ?_) (fun h37 hF => ?_)
   ·cases ho27 _ (zaa hF)
    cases hΦ _ (hr23 _ hψ29)
    refine wW ?_
    try simp [go_sem, g]
   refine wW ?_
   exact wi hi30 hi31 (hg28 _) (zaa hF)
  refine wG hF (fun h18 hF => ?_) fun h18 hF => ?_
  ·exact wV h18 (hj15 _) (zaa hF)
  obtain ⟨x19, g, hF⟩ := Rxn g 0 hF
  exact wV h18 (hj15 _) (zaa hF)
 refine wX zx8 follows ?_
 try simp [go_sem, g]
 try intros
 refine wH hF (fun h4 hF => ?_) fun h4 hF => ?_
 ·exact wV h4 (hj1 _) (zaa hF)
 try simp [go_sem, g, h4]
 try intros
 refine wH hF (fun h5 hF => ?_) fun h5 hF => ?_
 ·exact wV h5 (hj1 _) (zaa hF)
 obtain ⟨x6, g, hF⟩ := Rxn g 0 hF
 try simp [go_sem, g, h5]
 try intros
 refine wH hF (fun h7 hF => ?_) fun h7 hF => ?_
 ·exact wV h7 (hj1 _) (zaa hF)
 try simp [go_sem, g, h7]
 refine wC hF [.sh, .sh] zfO (fun z8 hF => ?_)
 try simp [go_sem, g, h7]
 refine wH hF (fun h9 hF => ?_) fun h9 hF => ?_
 ·exact wV h9 (hj1 _) (zaa hF)
 try simp [go_sem, g, h9]
 refine wC hF [.sh, .sh] zdb (fun z10 hF => ?_)
 exact wV h9 (hj1 _) (zaa hF)
@[go_sem] def zzk : List DE := [d2 0 [4] 4 4, d1 1 [4] 4, d2 2 [21] 4 21, d0 3 [22], d1 4 [6] 6, d2 5 [24] 6 24, d0 6 [25], d2 8 [4] 4 4, d0 9 [1], d1 10 [7] 7, d2 11 [30] 7 30, d1 13 [7] 7, d2 14 [33] 7 33, d1 16 [7] 7, d2 17 [36] 7 36, ⟨7, [23, 26], [], none, true, true, false⟩, d3 12 [28, 29, 31], d0 15 [32, 34], ⟨18, [20, 27, 35, 37], [], none, true, true, true⟩, d0 19 [38]]
@[go_sem] def zvg : List DE := [d2 0 [4] 4 4, d1 1 [4] 4, d2 2 [21] 4 21, d0 3 [22], d1 4 [6] 6, d2 5 [24] 6 24, d0 6 [25], d2 8 [4] 4 4, d0 9 [1], d1 10 [7] 7, d2 11 [30] 7 30, d1 13 [7] 7, d2 14 [33] 7 33, d1 16 [7] 7, d2 17 [36] 7 36, d3 12 [28, 29, 31], d0 15 [32, 34], ⟨7, [23, 26], [], none, true, true, false⟩, ⟨18, [20, 27, 35, 37], [], none, true, true, true⟩, d0 19 [38]]
def zb9 (a0 : Group) (a1 : List Int) (a2 : Cipher) (a3 : Partial) : Option Bool :=
 (((zcS a3.Index).bind fun z4 =>
 if (!z4) = true then (
 some true) else (
 (zbZ a0 a3.Value).bind fun z6 =>
 some (!z6)) : Option Bool).bind fun x3 =>
 if x3 = true then (
 some false) else (
 (zci a0 a1 a3.Index).bind fun z8 =>
 (zcg a0 (⟨#[112, 97, 114, 116, 105, 97, 108]⟩ : ByteArray) [[a0.G], [a2.A]] [z8, a3.Value] a3.Pi).bind fun z9 =>
 some z9))
theorem zjp : ∀ {a0} {a1} {a2} {a3} {r}, zb9 a0 a1 a2 a3 = some r → PCalls Tryz.prog 167 [(.sh, vE a0), (.sh, vC a1), (.sh, vQ a2), (.sh, vAC a3)] (Eo (.bool r) [.junk, .junk, .junk, .junk]) := by
 intro a0 a1 a2 a3 r hr
 apply pF 39 [] [] [] [.tmp 8] hr zB7 Tryz.func167
 intro Φ hΦ hF g
 unfold zb9 at hF
 refine wW ?_
 refine wJ hF (fun x3 => [(1, .v (vC a1)), (4, .bl [.int .i64 a0.P, .int .i64 a0.Q, .int .i64 a0.G]), (6, .bl [.int .i64 a2.A, .int .i64 a2.B]), (7, .bl [.int .i64 a3.Index, .int .i64 a3.Value, vC a3.Pi.Commits, vC a3.Pi.Challenges, vC a3.Pi.Responses]), (19, .v (.bool x3))]) (fun x3 hF => ?_) fun _ hj1 hF => ?_
 ·refine wI hF (fun h7 hF => ?_) (fun h7 hF => ?_)
  ·exact wl hΦ hF
  refine wW ?_
  repeat rw [sq]
  refine zqb 7 12 zzk zvg follows (by decide) (by kernel_rfl) (by kernel_rfl) rfl rfl ?_ ?_
  ·refine wC hF [.sh, .sh, .sh] zgX (fun z8 hF => ?_)
   refine wC hF [.sh, .sh, .sh, .sh, .sh] zfS (fun z9 hF => ?_)
   refine wK [8] ?_
   exact wm hΦ hF
  refine wC hF [.sh, .sh, .sh] zgX (fun z8 hF => ?_)
  refine wC hF [.sh, .sh, .sh, .sh, .sh] zfS (fun z9 hF => ?_)
  refine wK [8] ?_
  exact wm hΦ hF
 refine wC hF [.sh] zgI (fun z4 hF => ?_)
 refine wG hF (fun h5 hF => ?_) fun h5 hF => ?_
 ·exact wV h5 (hj1 _) (zaa hF)
 try simp [go_sem, g, h5]
 refine wC hF [.sh, .sh] zep (fun z6 hF => ?_)
 exact wV h5 (hj1 _) (zaa hF)
@[go_sem] def zyp : List DE := [d0 0 [9], d0 1 [11], d0 2 [35], d0 4 [10], d1 5 [12] 12, d2 6 [39] 12 39, d0 7 [40], ⟨3, [34, 36], [], none, true, false, false⟩, ⟨8, [38, 41], [], none, true, false, false⟩, d0 9 [37], d0 10 [42]]
def zdh (a0 : Group) (a1 : List Int) (a2 : Cipher) (a3 : List Partial) : Option ((List Int)) :=
 ((zaq (σ := (List Int) × List Int) (fun i5 s4 =>
 (((ix a3 i5).bind fun x14 =>
 (((za8 s4.2 x14.Index).bind fun z18 =>
 if (!z18) = true then (
 (zb9 a0 a1 a2 x14).bind fun z20 =>
 some z20) else (
 some false) : Option Bool).bind fun x17 =>
 if x17 = true then (
 gd ((s4.1.length + 1) * 8 ≤ 140737488355328 ∧ s4.1.length + 1 ≤ 4611686018427387904) <|
 gd ((s4.2.length + 1) * 8 ≤ 140737488355328 ∧ s4.2.length + 1 ≤ 4611686018427387904) <|
 some (s4.1 ++ [i5], s4.2 ++ [x14.Index])) else (
 some (s4.1, s4.2))) : Option ((List Int × List Int))).bind fun x13 =>
 some (.go (x13.1, x13.2)))) (fun s4 => s4.1) (a3.length) 0 ([], []) : Option ((List Int))).bind fun x3 =>
 some x3)
theorem zlK : ∀ {a0} {a1} {a2} {a3} {r}, zdh a0 a1 a2 a3 = some r → PCalls Tryz.prog 109 [(.sh, vE a0), (.sh, vC a1), (.sh, vQ a2), (.sh, vAB a3)] (Eo (vD r) [.junk, .junk, .junk, .junk]) := by
 intro a0 a1 a2 a3 r hr
 apply pF 45 [] [] [] [.tmp 8] hr zCy Tryz.func109
 intro Φ hΦ hF g
 unfold zdh at hF
 iterate 2 (try simp [go_sem, g]; try intros; refine zau ?_)
 try simp [go_sem, g]
 try intros
 refine wK [1, 4, 6, 9, 10, 15, 16, 17] ?_
 refine wJ hF (fun x3 => [(9, .v (vD x3))]) (fun x3 hF => ?_) fun _ hj1 hF => ?_
 ·exact wl hΦ hF
 refine wB ?_
 obtain ⟨b22, hb23, hψ8⟩ := hF
 refine pR hb23 (fun i5 s4 => [(1, .v (vC a1)), (4, .bl [.int .i64 a0.P, .int .i64 a0.Q, .int .i64 a0.G]), (6, .bl [.int .i64 a2.A, .int .i64 a2.B]), (9, .v (vD s4.1)), (10, .v (vD s4.2)), (15, .v (vAB a3)), (16, .v (.int .i64 (a3.length : Int))), (17, .v (.int .i64 i5))]) (fun s4 _ hN24 => ?_) (fun i5 s4 _ _ hi9 hi10 ho6 hg7 hF => ?_)
 ·exact wn hN24 (hj1 _) hψ8
 refine wW ?_
 refine wu hi9 hi10 ?_
 refine wW ?_
 refine wJ hF (fun x13 => [(1, .v (vC a1)), (4, .bl [.int .i64 a0.P, .int .i64 a0.Q, .int .i64 a0.G]), (6, .bl [.int .i64 a2.A, .int .i64 a2.B]), (9, .v (vD x13.1)), (10, .v (vD x13.2)), (15, .v (vAB a3)), (16, .v (.int .i64 (a3.length : Int))), (17, .v (.int .i64 i5))]) (fun x13 hF => ?_) fun _ hj11 hF => ?_
 ·exact wi hi9 hi10 (hg7 _) (zaa hF)
 refine wB ?_
 obtain ⟨x14, g, hF⟩ := Rx g hF
 refine wW ?_
 refine wJ hF (fun x17 => [(1, .v (vC a1)), (4, .bl [.int .i64 a0.P, .int .i64 a0.Q, .int .i64 a0.G]), (6, .bl [.int .i64 a2.A, .int .i64 a2.B]), (9, .v (vD s4.1)), (10, .v (vD s4.2)), (11, .v (.int .i64 i5)), (12, .bl [.int .i64 x14.Index, .int .i64 x14.Value, vC x14.Pi.Commits, vC x14.Pi.Challenges, vC x14.Pi.Responses]), (15, .v (vAB a3)), (16, .v (.int .i64 (a3.length : Int))), (17, .v (.int .i64 i5)), (33, .v (.bool x17))]) (fun x17 hF => ?_) fun _ hj15 hF => ?_
 ·refine wI hF (fun h21 hF => ?_) (fun h21 hF => ?_)
  ·refine wX zyp follows ?_
   obtain ⟨g, hF⟩ := Rg g hF
   obtain ⟨g, hF⟩ := Rg g hF
   exact wT (hj11 _) (zaa hF)
  exact wT (hj11 _) (zaa hF)
 refine wC hF [.sh, .sh] zec (fun z18 hF => ?_)
 refine wG hF (fun h19 hF => ?_) fun h19 hF => ?_
 ·try simp [go_sem, g, h19]
  refine wC hF [.sh, .sh, .sh, .sh] zjp (fun z20 hF => ?_)
  exact wV h19 (hj15 _) (zaa hF)
 exact wV h19 (hj15 _) (zaa hF)
def zdt (a0 : Group) (a1 : List Int) (a2 : Cipher) (a3 : List Partial) : Option (List Int × Bool) :=
 (((zdu a0 a1 a2).bind fun z4 =>
 if (!z4) = true then (
 some true) else (
 some (decide (14 < (a3.length : Int)))) : Option Bool).bind fun x3 =>
 if x3 = true then (
 some ([], false)) else (
 (zdh a0 a1 a2 a3).bind fun z7 =>
 some (z7, true)))
theorem zkC : ∀ {a0} {a1} {a2} {a3} {r}, zdt a0 a1 a2 a3 = some r → PCalls Tryz.prog 55 [(.sh, vE a0), (.sh, vC a1), (.sh, vQ a2), (.sh, vAB a3)] (Eo (.tup [vD r.1, .bool r.2]) [.junk, .junk, .junk, .junk]) := by
 intro a0 a1 a2 a3 r hr
 apply pF 25 [] [] [] [.tmp 8, .tmp 9] hr zFH Tryz.func55
 intro Φ hΦ hF g
 unfold zdt at hF
 refine wW ?_
 refine wJ hF (fun x3 => [(1, .v (vC a1)), (3, .v (vAB a3)), (4, .bl [.int .i64 a0.P, .int .i64 a0.Q, .int .i64 a0.G]), (6, .bl [.int .i64 a2.A, .int .i64 a2.B]), (19, .v (.bool x3))]) (fun x3 hF => ?_) fun _ hj1 hF => ?_
 ·refine wI hF (fun h6 hF => ?_) (fun h6 hF => ?_)
  ·exact wl hΦ hF
  refine wW ?_
  refine wC hF [.sh, .sh, .sh, .sh] zlK (fun z7 hF => ?_)
  refine wK [8, 9] ?_
  exact wm hΦ hF
 refine wC hF [.sh, .sh, .sh] zkz (fun z4 hF => ?_)
 refine wG hF (fun h5 hF => ?_) fun h5 hF => ?_
 ·exact wV h5 (hj1 _) (zaa hF)
 try simp [go_sem, g, h5]
 try intros
 exact wT (hj1 _) (zaa hF)
def zdJ (a0 : List Int) : Option (List Int) :=
 gd (a0.length * 8 ≤ 140737488355328 ∧ a0.length ≤ 4611686018427387904) <|
 some a0
theorem zjf {a0 : (List Int)} {r : (List Int)} (hr : zdJ a0 = some r) : PCalls Tryz.prog 149 [(.sh, .sl false 1 (a0.map zah))] (Eo (.sl true 1 (r.map zah)) [.junk]) := by
 apply zoy 8 [] [] [1000000] [.tmp 2] hr zCE Tryz.func149 rfl rfl rfl
 ·exact ⟨by simp, rfl⟩
 intro Φ hΦ hF
 unfold zdJ at hF
 obtain ⟨g, hF⟩ := zig hF
 have h1 := hΦ _ (zaa hF)
 subst h1
 try simp [go_sem]
 refine znj [(0, .v (.sl false 1 (a0.map zah)))] (by simp [go_sem]) ?_
 try simp [go_sem]
 refine zwH rfl rfl (by simp [go_sem]) rfl (by rfl) fun b hb => ?_
 try simp [go_sem]
 refine zau ?_
 repeat rw [zuP]
 cases b
 ·refine zov (by simp [go_sem]) ?_
  try simp [go_sem]
  refine zau ?_
  try simp [go_sem, g]
  refine zau ?_
  try simp [go_sem, g]
 have hb0 : a0 = [] := by
  cases a0 with
  | nil => rfl
  | cons x l => exact absurd (hb (by simp)) (by simp)
 subst hb0
 refine zkG (by simp [go_sem]) ?_
 try simp [go_sem]
 refine zau ?_
 try simp [go_sem]
@[go_sem] def zpo : List DE := [⟨0, [0], [], none, false, false, false⟩, ⟨1, [1], [], none, false, false, false⟩, ⟨2, [20, 21], [], none, false, false, false⟩, ⟨3, [0], [], none, false, false, false⟩, ⟨4, [2], [], none, false, false, false⟩, ⟨5, [23, 24], [], none, false, false, false⟩, ⟨6, [22, 25], [], none, false, false, false⟩, ⟨7, [26], [], none, false, false, false⟩]
end
end Go.Pm
