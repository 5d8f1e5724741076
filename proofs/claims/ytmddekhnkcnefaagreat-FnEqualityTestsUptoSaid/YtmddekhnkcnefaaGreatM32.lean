/-
  Plain functions and their walks. Written by wip/tools/lift.py.
-/
import Derived.Test.YtmddekhnkcnefaaGreatPS
namespace Go.Pm
open Go.Am IntKind
open Go.Proofs
set_option maxRecDepth 100000
attribute [local irreducible] pw pwx pw1 pwg qv qz qf
attribute [-simp] List.map_set
set_option linter.unusedSimpArgs false
set_option linter.unusedVariables false
noncomputable section
structure Group where
 P : Int
 Q : Int
 G : Int
structure Cipher where
 A : Int
 B : Int
structure Proof where
 Commits : (List Int)
 Challenges : (List Int)
 Responses : (List Int)
structure Blind where
 Index : Int
 Value : Cipher
 Pi : Proof
structure Partial where
 Index : Int
 Value : Int
 Pi : Proof
structure l1Cur where
 code : (List Int)
 at_ : Int
 seed : Int
structure KeyGen where
 Qualified : (List Int)
 Key : Int
 Commits : (List Int)
 Shares : (List Int)
structure Fault where
 Dealer : Int
 Trustee : Int
 Delta : Int
 Answers : Bool
structure Dealing where
 Commits : (List Int)
 Shares : (List Int)
structure l3State where
 s : Int
 t : Int
structure EqualLog where
 G1 : Int
 Y1 : Int
 G2 : Int
 Y2 : Int
def zfq (x : Int) : List PV := [.int .u8 x]
@[go_sem] theorem zDu {x : Int} : zfq x = [.int .u8 x] := (rfl)
@[go_sem] theorem zrs {l : List Int} : List.map (List.map drop ∘ zfq) l = l.map zfq := by refine List.map_congr_left fun x _ => ?_; simp [go_sem]
@[go_sem] theorem zyD {l : List Int} : List.map (List.map drop) (l.map zfq) = l.map zfq := by rw [List.map_map]; exact zrs
@[go_sem] theorem zz8 {l : List Int} {i : Nat} {a : Int} : (l.map zfq).set i [.int .u8 a] = (l.set i a).map zfq := by rw [List.map_set]; rfl
def zag (x : Int) : List PV := [.int .i64 x]
@[go_sem] theorem zBQ {x : Int} : zag x = [.int .i64 x] := (rfl)
@[go_sem] theorem zpL {l : List Int} : List.map (List.map drop ∘ zag) l = l.map zag := by refine List.map_congr_left fun x _ => ?_; simp [go_sem]
@[go_sem] theorem zxL {l : List Int} : List.map (List.map drop) (l.map zag) = l.map zag := by rw [List.map_map]; exact zpL
@[go_sem] theorem zzy {l : List Int} {i : Nat} {a : Int} : (l.map zag).set i [.int .i64 a] = (l.set i a).map zag := by rw [List.map_set]; rfl
def zdN (x : List Int) : List PV := [.sl false 1 (x.map zag)]
@[go_sem] theorem zzw {x : (List Int)} : zdN x = [.sl false 1 (x.map zag)] := (rfl)
@[go_sem] theorem zpc {l : List (List Int)} : List.map (List.map drop ∘ zdN) l = l.map zdN := by refine List.map_congr_left fun x _ => ?_; simp [go_sem]
@[go_sem] theorem zwT {l : List (List Int)} : List.map (List.map drop) (l.map zdN) = l.map zdN := by rw [List.map_map]; exact zpc
@[go_sem] theorem zzh {l : List (List Int)} {i : Nat} {a : (List Int)} : (l.map zdN).set i [.sl false 1 (a.map zag)] = (l.set i a).map zdN := by rw [List.map_set]; rfl
def zgQ (x : List Int) : List PV := [.sl true 1 (x.map zag)]
@[go_sem] theorem zzL {x : (List Int)} : zgQ x = [.sl true 1 (x.map zag)] := (rfl)
@[go_sem] theorem zo4 {l : List (List Int)} : List.map (List.map drop ∘ zgQ) l = l.map zdN := by refine List.map_congr_left fun x _ => ?_; simp [go_sem]
@[go_sem] theorem zwQ {l : List (List Int)} : List.map (List.map drop) (l.map zgQ) = l.map zdN := by rw [List.map_map]; exact zo4
@[go_sem] theorem zy5 {l : List (List Int)} {i : Nat} {a : (List Int)} : (l.map zgQ).set i [.sl true 1 (a.map zag)] = (l.set i a).map zgQ := by rw [List.map_set]; rfl
def ze7 (x : Fault) : List PV := [.int .i64 x.Dealer, .int .i64 x.Trustee, .int .i64 x.Delta, .bool x.Answers]
@[go_sem] theorem zy4 {x : Fault} : ze7 x = [.int .i64 x.Dealer, .int .i64 x.Trustee, .int .i64 x.Delta, .bool x.Answers] := (rfl)
@[go_sem] theorem zn9 {l : List Fault} : List.map (List.map drop ∘ ze7) l = l.map ze7 := by refine List.map_congr_left fun x _ => ?_; simp [go_sem]
@[go_sem] theorem zwk {l : List Fault} : List.map (List.map drop) (l.map ze7) = l.map ze7 := by rw [List.map_map]; exact zn9
@[go_sem] theorem zxP {l : List Fault} {i : Nat} {Dealer : Int} {Trustee : Int} {Delta : Int} {Answers : Bool} : (l.map ze7).set i [.int .i64 Dealer, .int .i64 Trustee, .int .i64 Delta, .bool Answers] = (l.set i (Fault.mk Dealer Trustee Delta Answers)).map ze7 := by rw [List.map_set]; rfl
def zbo (x : Dealing) : List PV := [.sl false 1 (x.Commits.map zag), .sl false 1 (x.Shares.map zag)]
@[go_sem] theorem zu2 {x : Dealing} : zbo x = [.sl false 1 (x.Commits.map zag), .sl false 1 (x.Shares.map zag)] := (rfl)
@[go_sem] theorem zkP {l : List Dealing} : List.map (List.map drop ∘ zbo) l = l.map zbo := by refine List.map_congr_left fun x _ => ?_; simp [go_sem]
@[go_sem] theorem zsS {l : List Dealing} : List.map (List.map drop) (l.map zbo) = l.map zbo := by rw [List.map_map]; exact zkP
@[go_sem] theorem zt7 {l : List Dealing} {i : Nat} {Commits : (List Int)} {Shares : (List Int)} : (l.map zbo).set i [.sl false 1 (Commits.map zag), .sl false 1 (Shares.map zag)] = (l.set i (Dealing.mk Commits Shares)).map zbo := by rw [List.map_set]; rfl
def zdM (x : Dealing) : List PV := [.sl true 1 (x.Commits.map zag), .sl true 1 (x.Shares.map zag)]
@[go_sem] theorem zu1 {x : Dealing} : zdM x = [.sl true 1 (x.Commits.map zag), .sl true 1 (x.Shares.map zag)] := (rfl)
@[go_sem] theorem zkO {l : List Dealing} : List.map (List.map drop ∘ zdM) l = l.map zbo := by refine List.map_congr_left fun x _ => ?_; simp [go_sem]
@[go_sem] theorem zs6 {l : List Dealing} : List.map (List.map drop) (l.map zdM) = l.map zbo := by rw [List.map_map]; exact zkO
@[go_sem] theorem ztA {l : List Dealing} {i : Nat} {Commits : (List Int)} {Shares : (List Int)} : (l.map zdM).set i [.sl true 1 (Commits.map zag), .sl true 1 (Shares.map zag)] = (l.set i (Dealing.mk Commits Shares)).map zdM := by rw [List.map_set]; rfl
def zhP (x : Bool) : List PV := [.bool x]
@[go_sem] theorem zER {x : Bool} : zhP x = [.bool x] := (rfl)
@[go_sem] theorem zs9 {l : List Bool} : List.map (List.map drop ∘ zhP) l = l.map zhP := by refine List.map_congr_left fun x _ => ?_; simp [go_sem]
@[go_sem] theorem zzx {l : List Bool} : List.map (List.map drop) (l.map zhP) = l.map zhP := by rw [List.map_map]; exact zs9
@[go_sem] theorem zDw {l : List Bool} {i : Nat} {a : Bool} : (l.map zhP).set i [.bool a] = (l.set i a).map zhP := by rw [List.map_set]; rfl
def zem (x : Cipher) : List PV := [.int .i64 x.A, .int .i64 x.B]
@[go_sem] theorem zxU {x : Cipher} : zem x = [.int .i64 x.A, .int .i64 x.B] := (rfl)
@[go_sem] theorem znn {l : List Cipher} : List.map (List.map drop ∘ zem) l = l.map zem := by refine List.map_congr_left fun x _ => ?_; simp [go_sem]
@[go_sem] theorem zvp {l : List Cipher} : List.map (List.map drop) (l.map zem) = l.map zem := by rw [List.map_map]; exact znn
@[go_sem] theorem zxa {l : List Cipher} {i : Nat} {A : Int} {B : Int} : (l.map zem).set i [.int .i64 A, .int .i64 B] = (l.set i (Cipher.mk A B)).map zem := by rw [List.map_set]; rfl
def zci (x : Blind) : List PV := [.int .i64 x.Index, .int .i64 x.Value.A, .int .i64 x.Value.B, .sl false 1 (x.Pi.Commits.map zag), .sl false 1 (x.Pi.Challenges.map zag), .sl false 1 (x.Pi.Responses.map zag)]
@[go_sem] theorem zyX {x : Blind} : zci x = [.int .i64 x.Index, .int .i64 x.Value.A, .int .i64 x.Value.B, .sl false 1 (x.Pi.Commits.map zag), .sl false 1 (x.Pi.Challenges.map zag), .sl false 1 (x.Pi.Responses.map zag)] := (rfl)
@[go_sem] theorem zn8 {l : List Blind} : List.map (List.map drop ∘ zci) l = l.map zci := by refine List.map_congr_left fun x _ => ?_; simp [go_sem]
@[go_sem] theorem zwu {l : List Blind} : List.map (List.map drop) (l.map zci) = l.map zci := by rw [List.map_map]; exact zn8
@[go_sem] theorem zw8 {l : List Blind} {i : Nat} {Index : Int} {ValueA : Int} {ValueB : Int} {PiCommits : (List Int)} {PiChallenges : (List Int)} {PiResponses : (List Int)} : (l.map zci).set i [.int .i64 Index, .int .i64 ValueA, .int .i64 ValueB, .sl false 1 (PiCommits.map zag), .sl false 1 (PiChallenges.map zag), .sl false 1 (PiResponses.map zag)] = (l.set i (Blind.mk Index (Cipher.mk ValueA ValueB) (Proof.mk PiCommits PiChallenges PiResponses))).map zci := by rw [List.map_set]; rfl
@[go_sem] theorem zxR {l : List Blind} {i : Nat} {Index : Int} {Value : Cipher} {Pi : Proof} : (l.map zci).set i [.int .i64 Index, .int .i64 Value.A, .int .i64 Value.B, .sl false 1 (Pi.Commits.map zag), .sl false 1 (Pi.Challenges.map zag), .sl false 1 (Pi.Responses.map zag)] = (l.set i (Blind.mk Index Value Pi)).map zci := by rw [List.map_set]; rfl
def zc0 (x : Blind) : List PV := [.int .i64 x.Index, .int .i64 x.Value.A, .int .i64 x.Value.B, .sl true 1 (x.Pi.Commits.map zag), .sl true 1 (x.Pi.Challenges.map zag), .sl true 1 (x.Pi.Responses.map zag)]
@[go_sem] theorem zu5 {x : Blind} : zc0 x = [.int .i64 x.Index, .int .i64 x.Value.A, .int .i64 x.Value.B, .sl true 1 (x.Pi.Commits.map zag), .sl true 1 (x.Pi.Challenges.map zag), .sl true 1 (x.Pi.Responses.map zag)] := (rfl)
@[go_sem] theorem zlj {l : List Blind} : List.map (List.map drop ∘ zc0) l = l.map zci := by refine List.map_congr_left fun x _ => ?_; simp [go_sem]
@[go_sem] theorem ztq {l : List Blind} : List.map (List.map drop) (l.map zc0) = l.map zci := by rw [List.map_map]; exact zlj
@[go_sem] theorem zuk {l : List Blind} {i : Nat} {Index : Int} {ValueA : Int} {ValueB : Int} {PiCommits : (List Int)} {PiChallenges : (List Int)} {PiResponses : (List Int)} : (l.map zc0).set i [.int .i64 Index, .int .i64 ValueA, .int .i64 ValueB, .sl true 1 (PiCommits.map zag), .sl true 1 (PiChallenges.map zag), .sl true 1 (PiResponses.map zag)] = (l.set i (Blind.mk Index (Cipher.mk ValueA ValueB) (Proof.mk PiCommits PiChallenges PiResponses))).map zc0 := by rw [List.map_set]; rfl
@[go_sem] theorem zu3 {l : List Blind} {i : Nat} {Index : Int} {Value : Cipher} {Pi : Proof} : (l.map zc0).set i [.int .i64 Index, .int .i64 Value.A, .int .i64 Value.B, .sl true 1 (Pi.Commits.map zag), .sl true 1 (Pi.Challenges.map zag), .sl true 1 (Pi.Responses.map zag)] = (l.set i (Blind.mk Index Value Pi)).map zc0 := by rw [List.map_set]; rfl
def zb0 (x : Partial) : List PV := [.int .i64 x.Index, .int .i64 x.Value, .sl false 1 (x.Pi.Commits.map zag), .sl false 1 (x.Pi.Challenges.map zag), .sl false 1 (x.Pi.Responses.map zag)]
@[go_sem] theorem zxe {x : Partial} : zb0 x = [.int .i64 x.Index, .int .i64 x.Value, .sl false 1 (x.Pi.Commits.map zag), .sl false 1 (x.Pi.Challenges.map zag), .sl false 1 (x.Pi.Responses.map zag)] := (rfl)
@[go_sem] theorem zmt {l : List Partial} : List.map (List.map drop ∘ zb0) l = l.map zb0 := by refine List.map_congr_left fun x _ => ?_; simp [go_sem]
@[go_sem] theorem zu4 {l : List Partial} : List.map (List.map drop) (l.map zb0) = l.map zb0 := by rw [List.map_map]; exact zmt
@[go_sem] theorem zvz {l : List Partial} {i : Nat} {Index : Int} {Value : Int} {PiCommits : (List Int)} {PiChallenges : (List Int)} {PiResponses : (List Int)} : (l.map zb0).set i [.int .i64 Index, .int .i64 Value, .sl false 1 (PiCommits.map zag), .sl false 1 (PiChallenges.map zag), .sl false 1 (PiResponses.map zag)] = (l.set i (Partial.mk Index Value (Proof.mk PiCommits PiChallenges PiResponses))).map zb0 := by rw [List.map_set]; rfl
@[go_sem] theorem zwv {l : List Partial} {i : Nat} {Index : Int} {Value : Int} {Pi : Proof} : (l.map zb0).set i [.int .i64 Index, .int .i64 Value, .sl false 1 (Pi.Commits.map zag), .sl false 1 (Pi.Challenges.map zag), .sl false 1 (Pi.Responses.map zag)] = (l.set i (Partial.mk Index Value Pi)).map zb0 := by rw [List.map_set]; rfl
def zb8 (x : Partial) : List PV := [.int .i64 x.Index, .int .i64 x.Value, .sl true 1 (x.Pi.Commits.map zag), .sl true 1 (x.Pi.Challenges.map zag), .sl true 1 (x.Pi.Responses.map zag)]
@[go_sem] theorem zt8 {x : Partial} : zb8 x = [.int .i64 x.Index, .int .i64 x.Value, .sl true 1 (x.Pi.Commits.map zag), .sl true 1 (x.Pi.Challenges.map zag), .sl true 1 (x.Pi.Responses.map zag)] := (rfl)
@[go_sem] theorem zkr {l : List Partial} : List.map (List.map drop ∘ zb8) l = l.map zb0 := by refine List.map_congr_left fun x _ => ?_; simp [go_sem]
@[go_sem] theorem zrW {l : List Partial} : List.map (List.map drop) (l.map zb8) = l.map zb0 := by rw [List.map_map]; exact zkr
@[go_sem] theorem ztp {l : List Partial} {i : Nat} {Index : Int} {Value : Int} {PiCommits : (List Int)} {PiChallenges : (List Int)} {PiResponses : (List Int)} : (l.map zb8).set i [.int .i64 Index, .int .i64 Value, .sl true 1 (PiCommits.map zag), .sl true 1 (PiChallenges.map zag), .sl true 1 (PiResponses.map zag)] = (l.set i (Partial.mk Index Value (Proof.mk PiCommits PiChallenges PiResponses))).map zb8 := by rw [List.map_set]; rfl
@[go_sem] theorem ztr {l : List Partial} {i : Nat} {Index : Int} {Value : Int} {Pi : Proof} : (l.map zb8).set i [.int .i64 Index, .int .i64 Value, .sl true 1 (Pi.Commits.map zag), .sl true 1 (Pi.Challenges.map zag), .sl true 1 (Pi.Responses.map zag)] = (l.set i (Partial.mk Index Value Pi)).map zb8 := by rw [List.map_set]; rfl
def vA (x : List Int) : PV := .sl false 1 (x.map zfq)
@[go_sem] theorem zL1 {x : (List Int)} : vA x = .sl false 1 (x.map zfq) := (rfl)
def vB (x0 : List Int) (x1 : Int) (x2 : Int) : PV := .bx [.sl false 1 (x0.map zfq), .int .i64 x1, .int .u64 x2]
@[go_sem] theorem zLX {x0 : (List Int)} {x1 : Int} {x2 : Int} : vB x0 x1 x2 = .bx [.sl false 1 (x0.map zfq), .int .i64 x1, .int .u64 x2] := (rfl)
def vC (x : List Int) : PV := .sl false 1 (x.map zag)
@[go_sem] theorem zLJ {x : (List Int)} : vC x = .sl false 1 (x.map zag) := (rfl)
def vD (x : List Int) : PV := .sl true 1 (x.map zag)
@[go_sem] theorem zMN {x : (List Int)} : vD x = .sl true 1 (x.map zag) := (rfl)
def vE (x : Group) : PV := .agg [.int .i64 x.P, .int .i64 x.Q, .int .i64 x.G]
@[go_sem] theorem zLP {x : Group} : vE x = .agg [.int .i64 x.P, .int .i64 x.Q, .int .i64 x.G] := (rfl)
def vF (x : (List (List Int))) : PV := .sl true 1 (x.map zgQ)
@[go_sem] theorem zMu {x : (List (List Int))} : vF x = .sl true 1 (x.map zgQ) := (rfl)
def vG (x : (List (List Int))) : PV := .sl false 1 (x.map zdN)
@[go_sem] theorem zMr {x : (List (List Int))} : vG x = .sl false 1 (x.map zdN) := (rfl)
def vH (x : List Fault) : PV := .sl false 4 (x.map ze7)
@[go_sem] theorem zMX {x : (List Fault)} : vH x = .sl false 4 (x.map ze7) := (rfl)
def vI (x : List Dealing) : PV := .sl true 2 (x.map zbo)
@[go_sem] theorem zMG {x : (List Dealing)} : vI x = .sl true 2 (x.map zbo) := (rfl)
def vJ (x : Dealing) : PV := .agg [.sl true 1 (x.Commits.map zag), .sl true 1 (x.Shares.map zag)]
@[go_sem] theorem zLE {x : Dealing} : vJ x = .agg [.sl true 1 (x.Commits.map zag), .sl true 1 (x.Shares.map zag)] := (rfl)
def vK (x : List Dealing) : PV := .sl true 2 (x.map zdM)
@[go_sem] theorem zNa {x : (List Dealing)} : vK x = .sl true 2 (x.map zdM) := (rfl)
def vL (x : List Bool) : PV := .sl true 1 (x.map zhP)
@[go_sem] theorem zMK {x : (List Bool)} : vL x = .sl true 1 (x.map zhP) := (rfl)
def vM (x : Dealing) : PV := .agg [.sl false 1 (x.Commits.map zag), .sl false 1 (x.Shares.map zag)]
@[go_sem] theorem zL6 {x : Dealing} : vM x = .agg [.sl false 1 (x.Commits.map zag), .sl false 1 (x.Shares.map zag)] := (rfl)
def vN (x : (List (List Int))) : PV := .sl true 1 (x.map zdN)
@[go_sem] theorem zM6 {x : (List (List Int))} : vN x = .sl true 1 (x.map zdN) := (rfl)
def vO (x : List Dealing) : PV := .sl false 2 (x.map zbo)
@[go_sem] theorem zLu {x : (List Dealing)} : vO x = .sl false 2 (x.map zbo) := (rfl)
def vP (x : KeyGen) : PV := .agg [.sl false 1 (x.Qualified.map zag), .int .i64 x.Key, .sl false 1 (x.Commits.map zag), .sl false 1 (x.Shares.map zag)]
@[go_sem] theorem zL4 {x : KeyGen} : vP x = .agg [.sl false 1 (x.Qualified.map zag), .int .i64 x.Key, .sl false 1 (x.Commits.map zag), .sl false 1 (x.Shares.map zag)] := (rfl)
def vQ (x : Cipher) : PV := .agg [.int .i64 x.A, .int .i64 x.B]
@[go_sem] theorem zMv {x : Cipher} : vQ x = .agg [.int .i64 x.A, .int .i64 x.B] := (rfl)
def vR (x : List Cipher) : PV := .sl false 2 (x.map zem)
@[go_sem] theorem zMO {x : (List Cipher)} : vR x = .sl false 2 (x.map zem) := (rfl)
def vS (x0 : Int) (x1 : Int) : PV := .bx [.int .i64 x0, .int .i64 x1]
@[go_sem] theorem zL9 {x0 : Int} {x1 : Int} : vS x0 x1 = .bx [.int .i64 x0, .int .i64 x1] := (rfl)
def vT (x : Proof) : PV := .agg [.sl true 1 (x.Commits.map zag), .sl true 1 (x.Challenges.map zag), .sl true 1 (x.Responses.map zag)]
@[go_sem] theorem zM7 {x : Proof} : vT x = .agg [.sl true 1 (x.Commits.map zag), .sl true 1 (x.Challenges.map zag), .sl true 1 (x.Responses.map zag)] := (rfl)
def vU (x : Blind) : PV := .agg [.int .i64 x.Index, .int .i64 x.Value.A, .int .i64 x.Value.B, .sl true 1 (x.Pi.Commits.map zag), .sl true 1 (x.Pi.Challenges.map zag), .sl true 1 (x.Pi.Responses.map zag)]
@[go_sem] theorem zMd {x : Blind} : vU x = .agg [.int .i64 x.Index, .int .i64 x.Value.A, .int .i64 x.Value.B, .sl true 1 (x.Pi.Commits.map zag), .sl true 1 (x.Pi.Challenges.map zag), .sl true 1 (x.Pi.Responses.map zag)] := (rfl)
def vV (x : Proof) : PV := .agg [.sl false 1 (x.Commits.map zag), .sl false 1 (x.Challenges.map zag), .sl false 1 (x.Responses.map zag)]
@[go_sem] theorem zNf {x : Proof} : vV x = .agg [.sl false 1 (x.Commits.map zag), .sl false 1 (x.Challenges.map zag), .sl false 1 (x.Responses.map zag)] := (rfl)
def vW (x : List Blind) : PV := .sl true 6 (x.map zci)
@[go_sem] theorem zLG {x : (List Blind)} : vW x = .sl true 6 (x.map zci) := (rfl)
def vX (x : List Blind) : PV := .sl true 6 (x.map zc0)
@[go_sem] theorem zMp {x : (List Blind)} : vX x = .sl true 6 (x.map zc0) := (rfl)
def vY (x : EqualLog) : PV := .agg [.int .i64 x.G1, .int .i64 x.Y1, .int .i64 x.G2, .int .i64 x.Y2]
@[go_sem] theorem zLt {x : EqualLog} : vY x = .agg [.int .i64 x.G1, .int .i64 x.Y1, .int .i64 x.G2, .int .i64 x.Y2] := (rfl)
def vZ (x : Blind) : PV := .agg [.int .i64 x.Index, .int .i64 x.Value.A, .int .i64 x.Value.B, .sl false 1 (x.Pi.Commits.map zag), .sl false 1 (x.Pi.Challenges.map zag), .sl false 1 (x.Pi.Responses.map zag)]
@[go_sem] theorem zLK {x : Blind} : vZ x = .agg [.int .i64 x.Index, .int .i64 x.Value.A, .int .i64 x.Value.B, .sl false 1 (x.Pi.Commits.map zag), .sl false 1 (x.Pi.Challenges.map zag), .sl false 1 (x.Pi.Responses.map zag)] := (rfl)
def vAA (x : List Blind) : PV := .sl false 6 (x.map zci)
@[go_sem] theorem zKs {x : (List Blind)} : vAA x = .sl false 6 (x.map zci) := (rfl)
def vAB (x : Partial) : PV := .agg [.int .i64 x.Index, .int .i64 x.Value, .sl true 1 (x.Pi.Commits.map zag), .sl true 1 (x.Pi.Challenges.map zag), .sl true 1 (x.Pi.Responses.map zag)]
@[go_sem] theorem zK3 {x : Partial} : vAB x = .agg [.int .i64 x.Index, .int .i64 x.Value, .sl true 1 (x.Pi.Commits.map zag), .sl true 1 (x.Pi.Challenges.map zag), .sl true 1 (x.Pi.Responses.map zag)] := (rfl)
def vAC (x : List Partial) : PV := .sl true 5 (x.map zb8)
@[go_sem] theorem zLn {x : (List Partial)} : vAC x = .sl true 5 (x.map zb8) := (rfl)
def vAD (x : List Partial) : PV := .sl false 5 (x.map zb0)
@[go_sem] theorem zK1 {x : (List Partial)} : vAD x = .sl false 5 (x.map zb0) := (rfl)
def vAE (x : Partial) : PV := .agg [.int .i64 x.Index, .int .i64 x.Value, .sl false 1 (x.Pi.Commits.map zag), .sl false 1 (x.Pi.Challenges.map zag), .sl false 1 (x.Pi.Responses.map zag)]
@[go_sem] theorem zKF {x : Partial} : vAE x = .agg [.int .i64 x.Index, .int .i64 x.Value, .sl false 1 (x.Pi.Commits.map zag), .sl false 1 (x.Pi.Challenges.map zag), .sl false 1 (x.Pi.Responses.map zag)] := (rfl)
@[go_sem] def zAp : List DE := [d0 0 [0], d0 1 [4], d0 2 [5], d0 3 [6], d0 4 [0], d0 5 [8], d0 6 [9], d0 7 [10], d0 8 [11], d0 9 [7, 12]]
@[go_sem] def zCt : List DE := [d0 0 [0], d0 1 [14], d0 2 [15], d0 3 [16], d0 4 [0], d0 5 [18], d0 6 [19], d0 7 [20], d0 8 [17, 21], d0 9 [22], d0 10 [23], d0 11 [24]]
@[go_sem] def zAs : List DE := [d0 0 [0], d0 1 [44], d0 2 [45], d0 3 [46], d0 4 [0], d0 5 [48], d0 6 [49], d0 7 [50], d0 8 [51], d0 9 [47, 52]]
def zbY (a0c0 : List Int) (a0c1 : Int) (a0c2 : Int) : Option (Int × (List Int × Int × Int)) :=
 ((if decide (a0c1 < (a0c0.length : Int)) = true then (
 (ix a0c0 a0c1).bind fun x5 =>
 some (i64.wrap x5)) else (
 some 0) : Option Int).bind fun x3 =>
 if decide ((i64.wrap (a0c1 + 1)) ≤ (a0c0.length : Int)) = true then (
 some (x3, (a0c0, i64.wrap (a0c1 + 1), u64.wrap ((u64.wrap ((u64.wrap (a0c2 * 6364136223846793005)) + (u64.wrap x3))) + 1442695040888963407)))) else (
 some (i64.wrap (u64.wrap ((BitVec.ofInt u64.bits ((u64.wrap ((u64.wrap ((u64.wrap (a0c2 * 6364136223846793005)) + (u64.wrap x3))) + 1442695040888963407)).fdiv 1099511627776) &&& BitVec.ofInt u64.bits 255).toNat)), (a0c0, i64.wrap (a0c1 + 1), u64.wrap ((u64.wrap ((u64.wrap (a0c2 * 6364136223846793005)) + (u64.wrap x3))) + 1442695040888963407)))))
theorem zgu : ∀ {a0c0} {a0c1} {a0c2} {r}, zbY a0c0 a0c1 a0c2 = some r → PCalls Tryz.prog 65 [(.io, vB a0c0 a0c1 a0c2)] (Eo (.int .i64 r.1) [vB r.2.1 r.2.2.1 r.2.2.2]) := by
 intro a0c0 a0c1 a0c2 r hr
 apply pF 62 [0] [] [] [.tmp 2] hr zFn Tryz.func65
 intro Φ hΦ hF g
 unfold zbY at hF
 iterate 2 refine wW ?_
 refine wX zAp follows ?_
 try simp [go_sem, g]
 try intros
 refine wK [0, 3, 13] ?_
 refine wJ hF (fun x3 => [(0, .v (vB a0c0 a0c1 a0c2)), (3, .v (.int .i64 x3))]) (fun x3 hF => ?_) fun _ hj1 hF => ?_
 ·refine wW ?_
  refine wK [0, 3] ?_
  refine wX zAs follows ?_
  try simp [go_sem, g]
  try intros
  refine wK [0, 3, 53] ?_
  refine wI hF (fun h6 hF => ?_) (fun h6 hF => ?_)
  ·exact wl hΦ hF
  have g := Ls g 40
  cases hΦ _ (zaa hF)
  iterate 2 refine wW ?_
  try simp [go_sem, g]
 refine wI hF (fun h4 hF => ?_) (fun h4 hF => ?_)
 ·refine wX zCt follows ?_
  obtain ⟨x5, g, hF⟩ := Rx g hF
  exact wT (hj1 _) (zaa hF)
 exact wT (hj1 _) (zaa hF)
def zai (a0c0 : List Int) (a0c1 : Int) (a0c2 : Int) (a1 : Int) : Option (Int × (List Int × Int × Int)) :=
 if decide (a1 ≤ 1) = true then (
 some (0, (a0c0, a0c1, a0c2))) else (
 (zbY a0c0 a0c1 a0c2).bind fun z2 =>
 ((if decide (200 < a1) = true then (
 (zbY z2.2.1 z2.2.2.1 z2.2.2.2).bind fun z7 =>
 some ((z7.2.1, z7.2.2.1, z7.2.2.2), i64.wrap ((i64.wrap (z2.1 * 256)) + z7.1))) else (
 some ((z2.2.1, z2.2.2.1, z2.2.2.2), z2.1)) : Option (((List Int × Int × Int) × Int))).bind fun x5 =>
 gd (a1 ≠ 0) <|
 some (x5.2.tmod a1, (x5.1.1, x5.1.2.1, x5.1.2.2))))
theorem zao : ∀ {a0c0} {a0c1} {a0c2} {a1} {r}, zai a0c0 a0c1 a0c2 a1 = some r → PCalls Tryz.prog 23 [(.io, vB a0c0 a0c1 a0c2), (.sh, .int .i64 a1)] (Eo (.int .i64 r.1) [vB r.2.1 r.2.2.1 r.2.2.2, .junk]) := by
 intro a0c0 a0c1 a0c2 a1 r hr
 apply pF 20 [0] [] [] [.tmp 4] hr zG4 Tryz.func23
 intro Φ hΦ hF g
 unfold zai at hF
 iterate 2 refine wW ?_
 refine wI hF (fun h1 hF => ?_) (fun h1 hF => ?_)
 ·exact wl hΦ hF
 refine wW ?_
 refine wC hF [.io] zgu (fun z2 hF => ?_)
 iterate 2 refine wW ?_
 refine wJ hF (fun x5 => [(0, .v (vB x5.1.1 x5.1.2.1 x5.1.2.2)), (1, .v (.int .i64 a1)), (5, .v (.int .i64 x5.2))]) (fun x5 hF => ?_) fun _ hj3 hF => ?_
 ·obtain ⟨g, hF⟩ := Rz g hF
  refine wK [0, 4] ?_
  exact wm hΦ hF
 refine wI hF (fun h6 hF => ?_) (fun h6 hF => ?_)
 ·refine wC hF [.io] zgu (fun z7 hF => ?_)
  exact wT (hj3 _) (zaa hF)
 exact wT (hj3 _) (zaa hF)
def za0 (a0c0 : List Int) (a0c1 : Int) (a0c2 : Int) (a1 : Int) : Option (Bool × (List Int × Int × Int)) :=
 (zai a0c0 a0c1 a0c2 a1).bind fun z1 =>
 some ((z1.1 == 0), (z1.2.1, z1.2.2.1, z1.2.2.2))
theorem zcb : ∀ {a0c0} {a0c1} {a0c2} {a1} {r}, za0 a0c0 a0c1 a0c2 a1 = some r → PCalls Tryz.prog 18 [(.io, vB a0c0 a0c1 a0c2), (.sh, .int .i64 a1)] (Eo (.bool r.1) [vB r.2.1 r.2.2.1 r.2.2.2, .junk]) := by
 intro a0c0 a0c1 a0c2 a1 r hr
 apply pF 9 [0] [] [] [.tmp 4] hr zEJ Tryz.func18
 intro Φ hΦ hF g
 unfold za0 at hF
 refine wW ?_
 refine wC hF [.io, .sh] zao (fun z1 hF => ?_)
 exact wl hΦ hF
def zgo (a0c0 : List Int) (a0c1 : Int) (a0c2 : Int) (a1 : List Int) : Option (Int × (List Int × Int × Int)) :=
 (zai a0c0 a0c1 a0c2 (a1.length : Int)).bind fun z1 =>
 (ix a1 z1.1).bind fun x2 =>
 some (x2, (z1.2.1, z1.2.2.1, z1.2.2.2))
theorem zqR : ∀ {a0c0} {a0c1} {a0c2} {a1} {r}, zgo a0c0 a0c1 a0c2 a1 = some r → PCalls Tryz.prog 53 [(.io, vB a0c0 a0c1 a0c2), (.sh, vC a1)] (Eo (.int .i64 r.1) [vB r.2.1 r.2.2.1 r.2.2.2, .junk]) := by
 intro a0c0 a0c1 a0c2 a1 r hr
 apply pF 12 [0] [] [] [.tmp 4] hr zx6 Tryz.func53
 intro Φ hΦ hF g
 unfold zgo at hF
 try simp [go_sem, g]
 try intros
 refine zas ?_
 try simp [go_sem, g]
 try intros
 refine wC hF [.io, .sh] zao (fun z1 hF => ?_)
 obtain ⟨x2, g, hF⟩ := Rx g hF
 exact wl hΦ hF
def zam (a0c0 : List Int) (a0c1 : Int) (a0c2 : Int) (a1 : List Int) : Option (Int × (List Int × Int × Int)) :=
 (zai a0c0 a0c1 a0c2 (a1.length : Int)).bind fun z1 =>
 (ix a1 z1.1).bind fun x2 =>
 some (x2, (z1.2.1, z1.2.2.1, z1.2.2.2))
theorem zak : ∀ {a0c0} {a0c1} {a0c2} {a1} {r}, zam a0c0 a0c1 a0c2 a1 = some r → PCalls Tryz.prog 53 [(.io, vB a0c0 a0c1 a0c2), (.mv, vD a1)] (Eo (.int .i64 r.1) [vB r.2.1 r.2.2.1 r.2.2.2, .junk]) := by
 intro a0c0 a0c1 a0c2 a1 r hr
 apply pF 12 [0] [] [] [.tmp 4] hr zx6 Tryz.func53
 intro Φ hΦ hF g
 unfold zam at hF
 try simp [go_sem, g]
 try intros
 refine zas ?_
 try simp [go_sem, g]
 try intros
 refine wC hF [.io, .sh] zao (fun z1 hF => ?_)
 obtain ⟨x2, g, hF⟩ := Rx g hF
 exact wl hΦ hF
def zbf (a0 : Int) (a1 : Int) (a2 : Int) : Option Bool :=
 ((if decide (a1 ≤ a0) = true then (
 some (decide (a0 ≤ a2))) else (
 some false) : Option Bool).bind fun x3 =>
 some x3)
theorem zb1 : ∀ {a0} {a1} {a2} {r}, zbf a0 a1 a2 = some r → PCalls Tryz.prog 98 [(.sh, .int .i64 a0), (.sh, .int .i64 a1), (.sh, .int .i64 a2)] (Eo (.bool r) [.junk, .junk, .junk]) := by
 intro a0 a1 a2 r hr
 apply pF 15 [] [] [] [.tmp 6] hr zGw Tryz.func98
 intro Φ hΦ hF g
 unfold zbf at hF
 refine wW ?_
 refine wJ hF (fun x3 => [(6, .v (.bool x3))]) (fun x3 hF => ?_) fun _ hj1 hF => ?_
 ·exact wm hΦ hF
 refine wG hF (fun h4 hF => ?_) fun h4 hF => ?_
 ·exact wV h4 (hj1 _) (zaa hF)
 exact wV h4 (hj1 _) (zaa hF)
def zdt (a0 : Int) : Option Bool :=
 if decide (a0 < 2) = true then (
 some false) else (
 ((zbO (σ := Int) (fun s5 =>
 if decide ((i64.wrap (s5 * s5)) ≤ a0) = true then (
 gd (s5 ≠ 0) <|
 if ((a0.tmod s5) == 0) = true then (
 some (.out (.inr false))) else (
 some (.go (i64.wrap (s5 + 1))))) else (
 some (.out (.inl ())))) 2 : Option (Unit ⊕ Bool)).bind (Sum.elim (fun x4 =>
 some true) some)))
theorem zgL : ∀ {a0} {r}, zdt a0 = some r → PCalls Tryz.prog 99 [(.sh, .int .i64 a0)] (Eo (.bool r) [.junk]) := by
 intro a0 r hr
 apply pF 17 [] [] [] [.tmp 2] hr zFr Tryz.func99
 intro Φ hΦ hF g
 unfold zdt at hF
 iterate 2 refine wW ?_
 refine wI hF (fun h1 hF => ?_) (fun h1 hF => ?_)
 ·exact wl hΦ hF
 iterate 2 refine wW ?_
 refine wS hF (fun x4 => []) (fun x4 hF => ?_) fun _ hj2 hr3 hF => ?_
 ·exact wl hΦ hF
 refine wB ?_
 obtain ⟨b12, hb13, hψ9⟩ := hF
 refine pL hb13 (fun s5 => [(0, .v (.int .i64 a0)), (3, .v (.int .i64 s5))]) (fun s5 _ _ ho7 hg8 hF => ?_)
 refine wW ?_
 refine wI hF (fun h10 hF => ?_) (fun h10 hF => ?_)
 ·refine wW ?_
  refine wB ?_
  obtain ⟨g, hF⟩ := Rz g hF
  refine wK [0, 3, 16] ?_
  refine wI hF (fun h11 hF => ?_) (fun h11 hF => ?_)
  ·cases ho7 _ (zaa hF)
   cases hΦ _ (hr3 _ hψ9)
   refine wW ?_
   try simp [go_sem, g]
  refine wW ?_
  exact wT (hg8 _) (zaa hF)
 cases ho7 _ (zaa hF)
 exact wT (hj2 _) hψ9
def zbx (a0 : Int) (a1 : Int) (a2 : Int) : Option Int :=
 gd (a2 ≠ 0) <|
 ((zbO (σ := Int × Int × Int) (fun s4 =>
 if decide (0 < s4.2.1) = true then (
 ((if ((s4.2.1.tmod 2) == 1) = true then (
 gd (a2 ≠ 0) <|
 some ((i64.wrap (s4.2.2 * s4.1)).tmod a2)) else (
 some s4.2.2) : Option Int).bind fun x12 =>
 gd (a2 ≠ 0) <|
 some (.go ((i64.wrap (s4.1 * s4.1)).tmod a2, i64.wrap (s4.2.1.tdiv 2), x12)))) else (
 some (.out s4.2.2))) (a0, a1, (1 : Int).tmod a2) : Option Int).bind fun x3 =>
 some x3)
theorem zeW : ∀ {a0} {a1} {a2} {r}, zbx a0 a1 a2 = some r → PCalls Tryz.prog 100 [(.sh, .int .i64 a0), (.sh, .int .i64 a1), (.sh, .int .i64 a2)] (Eo (.int .i64 r) [.junk, .junk, .junk]) := by
 intro a0 a1 a2 r hr
 apply pF 28 [] [] [] [.tmp 6] hr zAS Tryz.func100
 intro Φ hΦ hF g
 unfold zbx at hF
 obtain ⟨g, hF⟩ := Rz g hF
 iterate 2 refine wW ?_
 refine wJ hF (fun x3 => [(7, .v (.int .i64 x3))]) (fun x3 hF => ?_) fun _ hj1 hF => ?_
 ·exact wl hΦ hF
 refine wB ?_
 obtain ⟨b14, hb15, hψ8⟩ := hF
 refine pL hb15 (fun s4 => [(0, .v (.int .i64 s4.1)), (1, .v (.int .i64 s4.2.1)), (2, .v (.int .i64 a2)), (7, .v (.int .i64 s4.2.2))]) (fun s4 _ _ ho6 hg7 hF => ?_)
 refine wW ?_
 refine wI hF (fun h9 hF => ?_) (fun h9 hF => ?_)
 ·refine wW ?_
  refine wB ?_
  have g := Ld g 2
  refine wW ?_
  refine wJ hF (fun x12 => [(0, .v (.int .i64 s4.1)), (1, .v (.int .i64 s4.2.1)), (2, .v (.int .i64 a2)), (7, .v (.int .i64 x12))]) (fun x12 hF => ?_) fun _ hj10 hF => ?_
  ·obtain ⟨g, hF⟩ := Rz g hF
   refine wK [0, 1, 2, 7] ?_
   exact wT (hg7 _) (zaa hF)
  refine wI hF (fun h13 hF => ?_) (fun h13 hF => ?_)
  ·obtain ⟨g, hF⟩ := Rz g hF
   exact wT (hj10 _) (zaa hF)
  exact wT (hj10 _) (zaa hF)
 cases ho6 _ (zaa hF)
 exact wT (hj1 _) hψ8
def zc3 (a0 : Int) : Option (Group × Bool) :=
 (((zbf a0 2 1000000).bind fun z4 =>
 if (!z4) = true then (
 some true) else (
 (zdt a0).bind fun z6 =>
 some (!z6)) : Option Bool).bind fun x3 =>
 if x3 = true then (
 some ((Group.mk 0 0 0), false)) else (
 ((zbO (σ := Int) (fun s11 =>
 if decide (s11 ≤ 2000000000) = true then (
 (zdt s11).bind fun z17 =>
 if (!z17) = true then (
 some (.go (i64.wrap (s11 + a0)))) else (
 ((zbO (σ := Int) (fun s22 =>
 gd (a0 ≠ 0) <|
 (zbx s22 (i64.wrap ((i64.wrap (s11 - 1)).tdiv a0)) s11).bind fun z27 =>
 if (z27 == 1) = true then (
 some (.go (i64.wrap (s22 + 1)))) else (
 some (.out s22))) 2 : Option Int).bind fun x21 =>
 gd (a0 ≠ 0) <|
 (zbx x21 (i64.wrap ((i64.wrap (s11 - 1)).tdiv a0)) s11).bind fun z31 =>
 some (.out (.inr ((Group.mk s11 a0 z31), true)))))) else (
 some (.out (.inl ())))) (i64.wrap (a0 + 1)) : Option (Unit ⊕ (Group × Bool))).bind (Sum.elim (fun x10 =>
 some ((Group.mk 0 0 0), false)) some))))
theorem zgV : ∀ {a0} {r}, zc3 a0 = some r → PCalls Tryz.prog 52 [(.sh, .int .i64 a0)] (Eo (.tup [vE r.1, .bool r.2]) [.junk]) := by
 intro a0 r hr
 apply pF 46 [] [] [] [.cell 2 24, .tmp 3] hr zEr Tryz.func52
 intro Φ hΦ hF g
 unfold zc3 at hF
 refine wW ?_
 refine wJ hF (fun x3 => [(0, .v (.int .i64 a0)), (2, .bl [.int .i64 0, .int .i64 0, .int .i64 0]), (13, .v (.bool x3))]) (fun x3 hF => ?_) fun _ hj1 hF => ?_
 ·refine wI hF (fun h7 hF => ?_) (fun h7 hF => ?_)
  ·exact wl hΦ hF
  iterate 2 refine wW ?_
  refine wS hF (fun x10 => [(2, .bl [.int .i64 0, .int .i64 0, .int .i64 0])]) (fun x10 hF => ?_) fun _ hj8 hr9 hF => ?_
  ·exact wl hΦ hF
  refine wB ?_
  obtain ⟨b32, hb33, hψ15⟩ := hF
  refine pL hb33 (fun s11 => [(0, .v (.int .i64 a0)), (2, .bl [.int .i64 0, .int .i64 0, .int .i64 0]), (4, .v (.int .i64 s11))]) (fun s11 _ _ ho13 hg14 hF => ?_)
  refine wW ?_
  refine wI hF (fun h16 hF => ?_) (fun h16 hF => ?_)
  ·refine wW ?_
   refine wB ?_
   refine wC hF [.sh] zgL (fun z17 hF => ?_)
   refine wK [0, 2, 4, 24] ?_
   refine wI hF (fun h18 hF => ?_) (fun h18 hF => ?_)
   ·refine wW ?_
    exact wT (hg14 _) (zaa hF)
   iterate 2 refine wW ?_
   refine wJ hF (fun x21 => [(0, .v (.int .i64 a0)), (2, .bl [.int .i64 0, .int .i64 0, .int .i64 0]), (4, .v (.int .i64 s11)), (5, .v (.int .i64 x21))]) (fun x21 hF => ?_) fun _ hj19 hF => ?_
   ·obtain ⟨g, hF⟩ := Rz g hF
    refine wC hF [.sh, .sh, .sh] zeW (fun z31 hF => ?_)
    refine wK [2, 3] ?_
    cases ho13 _ (zaa hF)
    cases hΦ _ (hr9 _ hψ15)
    try simp [go_sem, g]
   refine wB ?_
   obtain ⟨b29, hb30, hψ26⟩ := hF
   refine pL hb30 (fun s22 => [(0, .v (.int .i64 a0)), (2, .bl [.int .i64 0, .int .i64 0, .int .i64 0]), (4, .v (.int .i64 s11)), (5, .v (.int .i64 s22))]) (fun s22 _ _ ho24 hg25 hF => ?_)
   obtain ⟨g, hF⟩ := Rz g hF
   refine wC hF [.sh, .sh, .sh] zeW (fun z27 hF => ?_)
   refine wW ?_
   refine wI hF (fun h28 hF => ?_) (fun h28 hF => ?_)
   ·refine wW ?_
    refine wB ?_
    exact wT (hg25 _) (zaa hF)
   cases ho24 _ (zaa hF)
   exact wT (hj19 _) hψ26
  cases ho13 _ (zaa hF)
  exact wT (hj8 _) hψ15
 refine wC hF [.sh, .sh, .sh] zb1 (fun z4 hF => ?_)
 refine wG hF (fun h5 hF => ?_) fun h5 hF => ?_
 ·exact wV h5 (hj1 _) (zaa hF)
 try simp [go_sem, g, h5]
 refine wC hF [.sh] zgL (fun z6 hF => ?_)
 exact wV h5 (hj1 _) (zaa hF)
def zcX (a0c0 : List Int) (a0c1 : Int) (a0c2 : Int) : Option (Group × (List Int × Int × Int)) :=
 (zam a0c0 a0c1 a0c2 [3, 5, 5, 7, 11, 11, 13, 23]).bind fun z1 =>
 (zc3 z1.1).bind fun z2 =>
 some (z2.1, (z1.2.1, z1.2.2.1, z1.2.2.2))
theorem zjw : ∀ {a0c0} {a0c1} {a0c2} {r}, zcX a0c0 a0c1 a0c2 = some r → PCalls Tryz.prog 121 [(.io, vB a0c0 a0c1 a0c2)] (Eo (vE r.1) [vB r.2.1 r.2.2.1 r.2.2.2]) := by
 intro a0c0 a0c1 a0c2 r hr
 apply pF 13 [0] [] [] [.cell 2 24] hr zAU Tryz.func121
 intro Φ hΦ hF g
 unfold zcX at hF
 refine wW ?_
 refine wC hF [.io, .mv] zak (fun z1 hF => ?_)
 refine wC hF [.sh] zgV (fun z2 hF => ?_)
 refine wK [0, 2, 3] ?_
 exact wl hΦ hF
def zbQ (a0 : Int) (a1 : Int) : Option Int :=
 gd (a1 ≠ 0) <|
 gd (a1 ≠ 0) <|
 some ((i64.wrap ((a0.tmod a1) + a1)).tmod a1)
theorem zfM : ∀ {a0} {a1} {r}, zbQ a0 a1 = some r → PCalls Tryz.prog 107 [(.sh, .int .i64 a0), (.sh, .int .i64 a1)] (Eo (.int .i64 r) [.junk, .junk]) := by
 intro a0 a1 r hr
 apply pF 12 [] [] [] [.tmp 4] hr zCp Tryz.func107
 intro Φ hΦ hF g
 unfold zbQ at hF
 obtain ⟨g, hF⟩ := Rz g hF
 obtain ⟨g, hF⟩ := Rz g hF
 cases hΦ _ (zaa hF)
 iterate 2 refine wW ?_
 try simp [go_sem, g]
@[go_sem] def zAQ : List DE := [d0 0 [1], d0 1 [2], d1 2 [3] 3, d2 3 [9] 3 9, d1 5 [3] 3, d2 6 [12] 3 12, d3 4 [8, 10], d3 7 [7, 11, 13], d0 8 [14]]
def zaQ (a0 : Group) (a1 : Int) (a2 : Int) : Option Int :=
 (zbQ a2 a0.Q).bind fun z1 =>
 (zbx a1 z1 a0.P).bind fun z2 =>
 some z2
theorem zcn : ∀ {a0} {a1} {a2} {r}, zaQ a0 a1 a2 = some r → PCalls Tryz.prog 68 [(.sh, vE a0), (.sh, .int .i64 a1), (.sh, .int .i64 a2)] (Eo (.int .i64 r) [.junk, .junk, .junk]) := by
 intro a0 a1 a2 r hr
 apply pF 15 [] [] [] [.tmp 6] hr zEe Tryz.func68
 intro Φ hΦ hF g
 unfold zaQ at hF
 refine wW ?_
 refine wX zAQ follows ?_
 refine wC hF [.sh, .sh] zfM (fun z1 hF => ?_)
 refine wC hF [.sh, .sh, .sh] zeW (fun z2 hF => ?_)
 refine wK [6] ?_
 exact wm hΦ hF
@[go_sem] def zAD : List DE := [d2 0 [5] 5 5, d1 1 [5] 5, d2 2 [24] 5 24, d0 3 [0], d1 4 [5] 5, d2 5 [27] 5 27, d0 6 [28], d3 7 [26, 29], d0 8 [30], d3 9 [23, 25, 31], d1 10 [5] 5, d2 11 [33, 32] 5 33]
def zcC (a0c0 : List Int) (a0c1 : Int) (a0c2 : Int) : Option (Group × (List Int × Int × Int)) :=
 (zai a0c0 a0c1 a0c2 6).bind fun z1 =>
 if (z1.1 == 0) = true then (
 some ((Group.mk 1000000007 500000003 4), (z1.2.1, z1.2.2.1, z1.2.2.2))) else (
 if (z1.1 == 1) = true then (
 (zam z1.2.1 z1.2.2.1 z1.2.2.2 [101, 1009, 1019, 65537, 999983]).bind fun z4 =>
 (zc3 z4.1).bind fun z5 =>
 some (z5.1, (z4.2.1, z4.2.2.1, z4.2.2.2))) else (
 (zcX z1.2.1 z1.2.2.1 z1.2.2.2).bind fun z6 =>
 (zai z6.2.1 z6.2.2.1 z6.2.2.2 (i64.wrap (z6.1.Q - 1))).bind fun z7 =>
 (zaQ z6.1 z6.1.G (i64.wrap (1 + z7.1))).bind fun z8 =>
 some ((Group.mk z6.1.P z6.1.Q z8), (z7.2.1, z7.2.2.1, z7.2.2.2))))
theorem zi8 : ∀ {a0c0} {a0c1} {a0c2} {r}, zcC a0c0 a0c1 a0c2 = some r → PCalls Tryz.prog 82 [(.io, vB a0c0 a0c1 a0c2)] (Eo (vE r.1) [vB r.2.1 r.2.2.1 r.2.2.2]) := by
 intro a0c0 a0c1 a0c2 r hr
 apply pF 35 [0] [] [] [.cell 2 24] hr zGj Tryz.func82
 intro Φ hΦ hF g
 unfold zcC at hF
 refine wW ?_
 refine wC hF [.io, .sh] zao (fun z1 hF => ?_)
 refine wW ?_
 refine wB ?_
 refine wW ?_
 refine wI hF (fun h2 hF => ?_) (fun h2 hF => ?_)
 ·exact wl hΦ hF
 refine wW ?_
 refine wI hF (fun h3 hF => ?_) (fun h3 hF => ?_)
 ·refine wC hF [.io, .mv] zak (fun z4 hF => ?_)
  refine wC hF [.sh] zgV (fun z5 hF => ?_)
  refine wK [0, 2, 3] ?_
  exact wl hΦ hF
 refine wW ?_
 refine wC hF [.io] zjw (fun z6 hF => ?_)
 refine wK [0, 2, 5] ?_
 refine wX zAD follows ?_
 refine wC hF [.io, .sh] zao (fun z7 hF => ?_)
 refine wC hF [.sh, .sh, .sh] zcn (fun z8 hF => ?_)
 refine wK [0, 2, 5] ?_
 exact wl hΦ hF
def zbv (a0c0 : List Int) (a0c1 : Int) (a0c2 : Int) : Option (Group × (List Int × Int × Int)) :=
 (zcC a0c0 a0c1 a0c2).bind fun z1 =>
 (zai z1.2.1 z1.2.2.1 z1.2.2.2 24).bind fun z2 =>
 ((if (z2.1 == 0) = true then (
 (zam z2.2.1 z2.2.2.1 z2.2.2.2 [0, i64.wrap (z1.1.P + 2), 4, (-7)]).bind fun z7 =>
 some ((z7.2.1, z7.2.2.1, z7.2.2.2), z7.1, z1.1.Q, z1.1.G)) else (
 if (z2.1 == 1) = true then (
 (zam z2.2.1 z2.2.2.1 z2.2.2.2 [0, 1, i64.wrap (z1.1.Q + 1), i64.wrap (z1.1.P - 1)]).bind fun z9 =>
 some ((z9.2.1, z9.2.2.1, z9.2.2.2), z1.1.P, z9.1, z1.1.G)) else (
 if (z2.1 == 2) = true then (
 (zam z2.2.1 z2.2.2.1 z2.2.2.2 [0, 1, i64.wrap (z1.1.P - 1), z1.1.P, i64.wrap (z1.1.G + 1)]).bind fun z11 =>
 some ((z11.2.1, z11.2.2.1, z11.2.2.2), z1.1.P, z1.1.Q, z11.1)) else (
 some ((z2.2.1, z2.2.2.1, z2.2.2.2), z1.1.P, z1.1.Q, z1.1.G)))) : Option (((List Int × Int × Int) × Int × Int × Int))).bind fun x5 =>
 some ((Group.mk x5.2.1 x5.2.2.1 x5.2.2.2), (x5.1.1, x5.1.2.1, x5.1.2.2)))
theorem zfE : ∀ {a0c0} {a0c1} {a0c2} {r}, zbv a0c0 a0c1 a0c2 = some r → PCalls Tryz.prog 33 [(.io, vB a0c0 a0c1 a0c2)] (Eo (vE r.1) [vB r.2.1 r.2.2.1 r.2.2.2]) := by
 intro a0c0 a0c1 a0c2 r hr
 apply pF 44 [0] [] [] [.cell 2 24] hr zGV Tryz.func33
 intro Φ hΦ hF g
 unfold zbv at hF
 refine wW ?_
 refine wC hF [.io] zi8 (fun z1 hF => ?_)
 refine wW ?_
 refine wC hF [.io, .sh] zao (fun z2 hF => ?_)
 refine wW ?_
 refine wJ hF (fun x5 => [(0, .v (vB x5.1.1 x5.1.2.1 x5.1.2.2)), (2, .bl [.int .i64 0, .int .i64 0, .int .i64 0]), (3, .bl [.int .i64 x5.2.1, .int .i64 x5.2.2.1, .int .i64 x5.2.2.2])]) (fun x5 hF => ?_) fun _ hj3 hF => ?_
 ·exact wl hΦ hF
 refine wB ?_
 refine wW ?_
 refine wI hF (fun h6 hF => ?_) (fun h6 hF => ?_)
 ·refine wC hF [.io, .mv] zak (fun z7 hF => ?_)
  exact wT (hj3 _) (zaa hF)
 refine wK [0, 2, 3, 7, 17] ?_
 refine wI hF (fun h8 hF => ?_) (fun h8 hF => ?_)
 ·refine wC hF [.io, .mv] zak (fun z9 hF => ?_)
  exact wT (hj3 _) (zaa hF)
 refine wW ?_
 refine wI hF (fun h10 hF => ?_) (fun h10 hF => ?_)
 ·refine wC hF [.io, .mv] zak (fun z11 hF => ?_)
  exact wT (hj3 _) (zaa hF)
 exact wT (hj3 _) (zaa hF)
def zcl (a0c0 : List Int) (a0c1 : Int) (a0c2 : Int) : Option (Group × (List Int × Int × Int)) :=
 (za0 a0c0 a0c1 a0c2 16).bind fun z1 =>
 if z1.1 = true then (
 (zbv z1.2.1 z1.2.2.1 z1.2.2.2).bind fun z3 =>
 some (z3.1, (z3.2.1, z3.2.2.1, z3.2.2.2))) else (
 (zam z1.2.1 z1.2.2.1 z1.2.2.2 [11, 11, 13, 23, 23, 101, 1019]).bind fun z4 =>
 (zc3 z4.1).bind fun z5 =>
 some (z5.1, (z4.2.1, z4.2.2.1, z4.2.2.2)))
theorem ziI : ∀ {a0c0} {a0c1} {a0c2} {r}, zcl a0c0 a0c1 a0c2 = some r → PCalls Tryz.prog 14 [(.io, vB a0c0 a0c1 a0c2)] (Eo (vE r.1) [vB r.2.1 r.2.2.1 r.2.2.2]) := by
 intro a0c0 a0c1 a0c2 r hr
 apply pF 17 [0] [] [] [.cell 2 24] hr zGv Tryz.func14
 intro Φ hΦ hF g
 unfold zcl at hF
 refine wW ?_
 refine wC hF [.io, .sh] zcb (fun z1 hF => ?_)
 refine wW ?_
 refine wI hF (fun h2 hF => ?_) (fun h2 hF => ?_)
 ·refine wC hF [.io] zfE (fun z3 hF => ?_)
  exact wl hΦ hF
 refine wW ?_
 refine wC hF [.io, .mv] zak (fun z4 hF => ?_)
 refine wC hF [.sh] zgV (fun z5 hF => ?_)
 refine wK [0, 2, 3] ?_
 exact wl hΦ hF
def zdw (a0 : Group) : Option Bool :=
 (((zbf a0.P 3 2000000000).bind fun z4 =>
 if z4 = true then (
 (zbf a0.Q 2 (i64.wrap (a0.P - 1))).bind fun z6 =>
 if z6 = true then (
 gd (a0.Q ≠ 0) <|
 if (((i64.wrap (a0.P - 1)).tmod a0.Q) == 0) = true then (
 (zbf a0.G 2 (i64.wrap (a0.P - 1))).bind fun z9 =>
 if z9 = true then (
 (zbx a0.G a0.Q a0.P).bind fun z11 =>
 if (z11 == 1) = true then (
 (zdt a0.Q).bind fun z13 =>
 if z13 = true then (
 (zdt a0.P).bind fun z15 =>
 some z15) else (
 some false)) else (
 some false)) else (
 some false)) else (
 some false)) else (
 some false)) else (
 some false) : Option Bool).bind fun x3 =>
 some x3)
theorem zgM : ∀ {a0} {r}, zdw a0 = some r → PCalls Tryz.prog 58 [(.sh, vE a0)] (Eo (.bool r) [.junk]) := by
 intro a0 r hr
 apply pF 51 [] [] [] [.tmp 2] hr zHn Tryz.func58
 intro Φ hΦ hF g
 unfold zdw at hF
 refine wW ?_
 refine wJ hF (fun x3 => [(2, .v (.bool x3))]) (fun x3 hF => ?_) fun _ hj1 hF => ?_
 ·exact wm hΦ hF
 refine wC hF [.sh, .sh, .sh] zb1 (fun z4 hF => ?_)
 refine wG hF (fun h5 hF => ?_) fun h5 hF => ?_
 ·try simp [go_sem, g, h5]
  refine wC hF [.sh, .sh, .sh] zb1 (fun z6 hF => ?_)
  try simp [go_sem, g, h5]
  refine wG hF (fun h7 hF => ?_) fun h7 hF => ?_
  ·obtain ⟨g, hF⟩ := Rz g hF
   try simp [go_sem, g, h7]
   refine wG hF (fun h8 hF => ?_) fun h8 hF => ?_
   ·try simp [go_sem, g, h8]
    refine wC hF [.sh, .sh, .sh] zb1 (fun z9 hF => ?_)
    try simp [go_sem, g, h8]
    refine wG hF (fun h10 hF => ?_) fun h10 hF => ?_
    ·try simp [go_sem, g, h10]
     refine wC hF [.sh, .sh, .sh] zeW (fun z11 hF => ?_)
     try simp [go_sem, g, h10]
     refine wG hF (fun h12 hF => ?_) fun h12 hF => ?_
     ·try simp [go_sem, g, h12]
      refine wC hF [.sh] zgL (fun z13 hF => ?_)
      try simp [go_sem, g, h12]
      refine wG hF (fun h14 hF => ?_) fun h14 hF => ?_
      ·try simp [go_sem, g, h14]
       refine wC hF [.sh] zgL (fun z15 hF => ?_)
       exact wV h14 (hj1 _) (zaa hF)
      exact wV h14 (hj1 _) (zaa hF)
     exact wV h12 (hj1 _) (zaa hF)
    exact wV h10 (hj1 _) (zaa hF)
   exact wV h8 (hj1 _) (zaa hF)
  exact wV h7 (hj1 _) (zaa hF)
 exact wV h5 (hj1 _) (zaa hF)
def zdv (a0 : Group) : Option Bool :=
 (((zdw a0).bind fun z4 =>
 if z4 = true then (
 some (decide (7 < a0.Q))) else (
 some false) : Option Bool).bind fun x3 =>
 some x3)
theorem zgF : ∀ {a0} {r}, zdv a0 = some r → PCalls Tryz.prog 17 [(.sh, vE a0)] (Eo (.bool r) [.junk]) := by
 intro a0 r hr
 apply pF 10 [] [] [] [.tmp 2] hr zFS Tryz.func17
 intro Φ hΦ hF g
 unfold zdv at hF
 refine wW ?_
 refine wJ hF (fun x3 => [(2, .v (.bool x3))]) (fun x3 hF => ?_) fun _ hj1 hF => ?_
 ·exact wm hΦ hF
 refine wC hF [.sh] zgM (fun z4 hF => ?_)
 refine wG hF (fun h5 hF => ?_) fun h5 hF => ?_
 ·exact wV h5 (hj1 _) (zaa hF)
 exact wV h5 (hj1 _) (zaa hF)
@[go_sem] def zB4 : List DE := [d0 0 [0], d0 3 [0], d1 6 [3] 3, d2 7 [14] 3 14, d3 1 [8], d0 2 [9], d3 4 [11], d0 5 [10, 12], d0 8 [13, 15], d0 9 [16]]
def zaB (a0c0 : List Int) (a0c1 : Int) (a0c2 : Int) (a1 : Group) : Option (Int × (List Int × Int × Int)) :=
 if decide (a1.Q < 2) = true then (
 some (0, (a0c0, a0c1, a0c2))) else (
 (zai a0c0 a0c1 a0c2 60000).bind fun z2 =>
 (zai z2.2.1 z2.2.2.1 z2.2.2.2 60000).bind fun z3 =>
 gd (a1.Q ≠ 0) <|
 some ((i64.wrap ((i64.wrap (z2.1 * 60000)) + z3.1)).tmod a1.Q, (z3.2.1, z3.2.2.1, z3.2.2.2)))
theorem zax : ∀ {a0c0} {a0c1} {a0c2} {a1} {r}, zaB a0c0 a0c1 a0c2 a1 = some r → PCalls Tryz.prog 20 [(.io, vB a0c0 a0c1 a0c2), (.sh, vE a1)] (Eo (.int .i64 r.1) [vB r.2.1 r.2.2.1 r.2.2.2, .junk]) := by
 intro a0c0 a0c1 a0c2 a1 r hr
 apply pF 17 [0] [] [] [.tmp 4] hr zEQ Tryz.func20
 intro Φ hΦ hF g
 unfold zaB at hF
 iterate 2 refine wW ?_
 refine wI hF (fun h1 hF => ?_) (fun h1 hF => ?_)
 ·exact wl hΦ hF
 refine wW ?_
 refine wX zB4 follows ?_
 refine wC hF [.io, .sh] zao (fun z2 hF => ?_)
 refine wC hF [.io, .sh] zao (fun z3 hF => ?_)
 obtain ⟨g, hF⟩ := Rz g hF
 refine wK [0, 4] ?_
 exact wm hΦ hF
def zcA (a0c0 : List Int) (a0c1 : Int) (a0c2 : Int) (a1 : Group) (a2 : Int) : Option (List Int × (List Int × Int × Int)) :=
 ((zbO (σ := (List Int × Int × Int) × Int × List Int) (fun s11 =>
 if decide (0 < s11.2.1) = true then (
 (zaB s11.1.1 s11.1.2.1 s11.1.2.2 a1).bind fun z17 =>
 gd ((s11.2.2.length + 1) * 8 ≤ 140737488355328 ∧ s11.2.2.length + 1 ≤ 4611686018427387904) <|
 some (.go ((z17.2.1, z17.2.2.1, z17.2.2.2), i64.wrap (s11.2.1 - 1), s11.2.2 ++ [z17.1]))) else (
 some (.out ((s11.1.1, s11.1.2.1, s11.1.2.2), s11.2.2)))) ((a0c0, a0c1, a0c2), a2, []) : Option (((List Int × Int × Int) × List Int))).bind fun x3 =>
 some (x3.2, (x3.1.1, x3.1.2.1, x3.1.2.2)))
theorem zi9 : ∀ {a0c0} {a0c1} {a0c2} {a1} {a2} {r}, zcA a0c0 a0c1 a0c2 a1 a2 = some r → PCalls Tryz.prog 104 [(.io, vB a0c0 a0c1 a0c2), (.sh, vE a1), (.sh, .int .i64 a2)] (Eo (vD r.1) [vB r.2.1 r.2.2.1 r.2.2.2, .junk, .junk]) := by
 intro a0c0 a0c1 a0c2 a1 a2 r hr
 apply pF 19 [0] [] [] [.tmp 6] hr zBi Tryz.func104
 intro Φ hΦ hF g
 unfold zcA at hF
 iterate 2 refine wW ?_
 refine wJ hF (fun x3 => [(0, .v (vB x3.1.1 x3.1.2.1 x3.1.2.2)), (7, .v (vD x3.2))]) (fun x3 hF => ?_) fun _ hj1 hF => ?_
 ·exact wl hΦ hF
 refine wB ?_
 obtain ⟨b18, hb19, hψ15⟩ := hF
 refine pL hb19 (fun s11 => [(0, .v (vB s11.1.1 s11.1.2.1 s11.1.2.2)), (2, .v (.int .i64 s11.2.1)), (4, .bl [.int .i64 a1.P, .int .i64 a1.Q, .int .i64 a1.G]), (7, .v (vD s11.2.2))]) (fun s11 _ _ ho13 hg14 hF => ?_)
 refine wW ?_
 refine wI hF (fun h16 hF => ?_) (fun h16 hF => ?_)
 ·refine wW ?_
  refine wB ?_
  refine wC hF [.io, .sh] zax (fun z17 hF => ?_)
  obtain ⟨g, hF⟩ := Rg g hF
  refine wK [0, 2, 4, 7] ?_
  exact wT (hg14 _) (zaa hF)
 cases ho13 _ (zaa hF)
 exact wT (hj1 _) hψ15
def zbH (a0c0 : List Int) (a0c1 : Int) (a0c2 : Int) (a1 : Group) (a2 : Int) (a3 : Int) : Option ((List (List Int)) × (List Int × Int × Int)) :=
 ((zbO (σ := (List Int × Int × Int) × Int × (List (List Int))) (fun s18 =>
 if decide (0 < s18.2.1) = true then (
 (zcA s18.1.1 s18.1.2.1 s18.1.2.2 a1 a3).bind fun z24 =>
 gd ((s18.2.2.length + 1) * 24 ≤ 140737488355328 ∧ s18.2.2.length + 1 ≤ 4611686018427387904) <|
 some (.go ((z24.2.1, z24.2.2.1, z24.2.2.2), i64.wrap (s18.2.1 - 1), s18.2.2 ++ [z24.1]))) else (
 some (.out ((s18.1.1, s18.1.2.1, s18.1.2.2), s18.2.2)))) ((a0c0, a0c1, a0c2), a2, []) : Option (((List Int × Int × Int) × (List (List Int))))).bind fun x3 =>
 some (x3.2, (x3.1.1, x3.1.2.1, x3.1.2.2)))
theorem zhy : ∀ {a0c0} {a0c1} {a0c2} {a1} {a2} {a3} {r}, zbH a0c0 a0c1 a0c2 a1 a2 a3 = some r → PCalls Tryz.prog 55 [(.io, vB a0c0 a0c1 a0c2), (.sh, vE a1), (.sh, .int .i64 a2), (.sh, .int .i64 a3)] (Eo (vF r.1) [vB r.2.1 r.2.2.1 r.2.2.2, .junk, .junk, .junk]) := by
 intro a0c0 a0c1 a0c2 a1 a2 a3 r hr
 apply pF 22 [0] [] [] [.tmp 8] hr zF6 Tryz.func55
 intro Φ hΦ hF g
 unfold zbH at hF
 iterate 2 refine wW ?_
 refine wJ hF (fun x3 => [(0, .v (vB x3.1.1 x3.1.2.1 x3.1.2.2)), (9, .v (vF x3.2))]) (fun x3 hF => ?_) fun _ hj1 hF => ?_
 ·exact wl hΦ hF
 refine wB ?_
 obtain ⟨b25, hb26, hψ22⟩ := hF
 refine pL hb26 (fun s18 => [(0, .v (vB s18.1.1 s18.1.2.1 s18.1.2.2)), (2, .v (.int .i64 s18.2.1)), (3, .v (.int .i64 a3)), (5, .bl [.int .i64 a1.P, .int .i64 a1.Q, .int .i64 a1.G]), (9, .v (vF s18.2.2))]) (fun s18 _ _ ho20 hg21 hF => ?_)
 refine wW ?_
 refine wI hF (fun h23 hF => ?_) (fun h23 hF => ?_)
 ·refine wW ?_
  refine wB ?_
  refine wC hF [.io, .sh, .sh] zi9 (fun z24 hF => ?_)
  obtain ⟨g, hF⟩ := Rg g hF
  refine wK [0, 2, 3, 5, 9] ?_
  exact wT (hg21 _) (zaa hF)
 cases ho20 _ (zaa hF)
 exact wT (hj1 _) hψ22
def zgb (a0 : List Int) (a1 : Int) (a2 : Int) : Option Bool :=
 ((zap (σ := Unit) (fun i5 s4 =>
 (ix a0 i5).bind fun x11 =>
 (zbf x11 a1 a2).bind fun z12 =>
 if (!z12) = true then (
 some (.out (.inr false))) else (
 some (.go ()))) (fun s4 => .inl ()) (a0.length) 0 () : Option (Unit ⊕ Bool)).bind (Sum.elim (fun x3 =>
 some true) some))
theorem zqN : ∀ {a0} {a1} {a2} {r}, zgb a0 a1 a2 = some r → PCalls Tryz.prog 87 [(.sh, vC a0), (.sh, .int .i64 a1), (.sh, .int .i64 a2)] (Eo (.bool r) [.junk, .junk, .junk]) := by
 intro a0 a1 a2 r hr
 apply pF 21 [] [] [] [.tmp 6] hr zGI Tryz.func87
 intro Φ hΦ hF g
 unfold zgb at hF
 iterate 2 (try simp [go_sem, g]; try intros; refine zas ?_)
 refine wS hF (fun x3 => []) (fun x3 hF => ?_) fun _ hj1 hr2 hF => ?_
 ·exact wl hΦ hF
 refine wB ?_
 obtain ⟨b14, hb15, hψ8⟩ := hF
 refine pR hb15 (fun i5 s4 => [(1, .v (.int .i64 a1)), (2, .v (.int .i64 a2)), (9, .v (vC a0)), (10, .v (.int .i64 (a0.length : Int))), (11, .v (.int .i64 i5))]) (fun s4 _ hN16 => ?_) (fun i5 s4 _ _ hi9 hi10 ho6 hg7 hF => ?_)
 ·exact wn hN16 (hj1 _) hψ8
 refine wW ?_
 refine wu hi9 hi10 ?_
 refine wW ?_
 refine wB ?_
 obtain ⟨x11, g, hF⟩ := Rx g hF
 refine wW ?_
 refine wC hF [.sh, .sh, .sh] zb1 (fun z12 hF => ?_)
 refine wK [1, 2, 9, 10, 11, 19] ?_
 refine wI hF (fun h13 hF => ?_) (fun h13 hF => ?_)
 ·cases ho6 _ (zaa hF)
  cases hΦ _ (hr2 _ hψ8)
  refine wW ?_
  try simp [go_sem, g]
 refine wW ?_
 exact wi hi9 hi10 (hg7 _) (zaa hF)
def zd0 (a0 : Group) (a1 : List Int) : Option Bool :=
 (zgb a1 0 (i64.wrap (a0.Q - 1))).bind fun z1 =>
 some z1
theorem zhp : ∀ {a0} {a1} {r}, zd0 a0 a1 = some r → PCalls Tryz.prog 41 [(.sh, vE a0), (.sh, vC a1)] (Eo (.bool r) [.junk, .junk]) := by
 intro a0 a1 r hr
 apply pF 10 [] [] [] [.tmp 4] hr zFM Tryz.func41
 intro Φ hΦ hF g
 unfold zd0 at hF
 refine wW ?_
 refine wC hF [.sh, .sh, .sh] zqN (fun z1 hF => ?_)
 exact wl hΦ hF
def zeC (a0 : Int) (a1 : List Int) (a2 : Int) : Option Int :=
 ((zbO (σ := Int × Int) (fun s4 =>
 if decide (0 ≤ s4.2) = true then (
 (ix a1 s4.2).bind fun x10 =>
 gd (a0 ≠ 0) <|
 some (.go ((i64.wrap ((i64.wrap (s4.1 * a2)) + x10)).tmod a0, i64.wrap (s4.2 - 1)))) else (
 some (.out s4.1))) (0, i64.wrap ((a1.length : Int) - 1)) : Option Int).bind fun x3 =>
 some x3)
theorem zkY : ∀ {a0} {a1} {a2} {r}, zeC a0 a1 a2 = some r → PCalls Tryz.prog 103 [(.sh, .int .i64 a0), (.sh, vC a1), (.sh, .int .i64 a2)] (Eo (.int .i64 r) [.junk, .junk, .junk]) := by
 intro a0 a1 a2 r hr
 apply pF 27 [] [] [] [.tmp 6] hr zAh Tryz.func103
 intro Φ hΦ hF g
 unfold zeC at hF
 iterate 3 (try simp [go_sem, g]; try intros; refine zas ?_)
 refine wJ hF (fun x3 => [(7, .v (.int .i64 x3))]) (fun x3 hF => ?_) fun _ hj1 hF => ?_
 ·exact wl hΦ hF
 refine wB ?_
 obtain ⟨b11, hb12, hψ8⟩ := hF
 refine pL hb12 (fun s4 => [(0, .v (.int .i64 a0)), (1, .v (vC a1)), (2, .v (.int .i64 a2)), (7, .v (.int .i64 s4.1)), (8, .v (.int .i64 s4.2))]) (fun s4 _ _ ho6 hg7 hF => ?_)
 refine wW ?_
 refine wI hF (fun h9 hF => ?_) (fun h9 hF => ?_)
 ·refine wW ?_
  refine wB ?_
  obtain ⟨x10, g, hF⟩ := Rx g hF
  obtain ⟨g, hF⟩ := Rz g hF
  refine wK [0, 1, 2, 7, 8] ?_
  exact wT (hg7 _) (zaa hF)
 cases ho6 _ (zaa hF)
 exact wT (hj1 _) hψ8
@[go_sem] def zxn : List DE := [d1 0 [7] 7, d2 1 [33] 7 33, d1 2 [3] 3, d2 3 [35] 3 35, d0 4 [1], d0 5 [10], d3 6 [36, 37, 38], d0 7 [39], ⟨8, [34, 40], [], none, true, false, false⟩, d1 9 [7] 7, d2 10 [42, 41] 7 42]
@[go_sem] def zx1 : List DE := [d1 0 [7] 7, d2 1 [17] 7 17, d2 2 [3] 3 3, d1 3 [3] 3, d2 4 [20] 3 20, d0 5 [9], d3 6 [19, 21, 22], d0 7 [23], ⟨8, [18, 24], [], none, true, false, false⟩, d1 9 [7] 7, d2 10 [26, 25] 7 26]
def zf6 (a0 : Group) (a1 : List Int) (a2 : Int) : Option Dealing :=
 ((zap (σ := (List Int) × List Int) (fun i14 s13 =>
 (ix a1 i14).bind fun x20 =>
 (zaQ a0 a0.G x20).bind fun z21 =>
 gd ((s13.1.length + 1) * 8 ≤ 140737488355328 ∧ s13.1.length + 1 ≤ 4611686018427387904) <|
 some (.go (s13.1 ++ [z21], s13.2))) (fun s13 => (s13.1, s13.2)) (a1.length) 0 ([], []) : Option ((List Int × List Int))).bind fun x3 =>
 ((zbO (σ := (List Int) × List Int × Int) (fun s36 =>
 if decide (s36.2.2 ≤ a2) = true then (
 (zeC a0.Q a1 s36.2.2).bind fun z42 =>
 gd ((s36.2.1.length + 1) * 8 ≤ 140737488355328 ∧ s36.2.1.length + 1 ≤ 4611686018427387904) <|
 some (.go (s36.1, s36.2.1 ++ [z42], i64.wrap (s36.2.2 + 1)))) else (
 some (.out (s36.1, s36.2.1)))) (x3.1, x3.2, 1) : Option ((List Int × List Int))).bind fun x28 =>
 some (Dealing.mk x28.1 x28.2)))
theorem zqh : ∀ {a0} {a1} {a2} {r}, zf6 a0 a1 a2 = some r → PCalls Tryz.prog 101 [(.sh, vE a0), (.sh, vC a1), (.sh, .int .i64 a2)] (Eo (vJ r) [.junk, .junk, .junk]) := by
 intro a0 a1 a2 r hr
 apply pF 44 [] [] [] [.cell 6 135] hr zA0 Tryz.func101
 intro Φ hΦ hF g
 unfold zf6 at hF
 iterate 3 (try simp [go_sem, g]; try intros; refine zas ?_)
 refine wJ hF (fun x3 => [(1, .v (vC a1)), (2, .v (.int .i64 a2)), (3, .bl [.int .i64 a0.P, .int .i64 a0.Q, .int .i64 a0.G]), (6, .bl [.sl true 1 [], .sl true 1 []]), (7, .bl [vD x3.1, vD x3.2])]) (fun x3 hF => ?_) fun _ hj1 hF => ?_
 ·refine wW ?_
  refine wJ hF (fun x28 => [(6, .bl [.sl true 1 [], .sl true 1 []]), (7, .bl [vD x28.1, vD x28.2])]) (fun x28 hF => ?_) fun _ hj26 hF => ?_
  ·exact wl hΦ hF
  refine wB ?_
  obtain ⟨b43, hb44, hψ40⟩ := hF
  refine pL hb44 (fun s36 => [(1, .v (vC a1)), (2, .v (.int .i64 a2)), (3, .bl [.int .i64 a0.P, .int .i64 a0.Q, .int .i64 a0.G]), (6, .bl [.sl true 1 [], .sl true 1 []]), (7, .bl [vD s36.1, vD s36.2.1]), (10, .v (.int .i64 s36.2.2))]) (fun s36 _ _ ho38 hg39 hF => ?_)
  refine wK [1, 2, 3, 6, 7, 10, 30] ?_
  refine wI hF (fun h41 hF => ?_) (fun h41 hF => ?_)
  ·refine wW ?_
   refine wB ?_
   refine wX zxn follows ?_
   refine wC hF [.sh, .sh, .sh] zkY (fun z42 hF => ?_)
   obtain ⟨g, hF⟩ := Rg g hF
   refine wK [1, 2, 3, 6, 7, 10] ?_
   exact wT (hg39 _) (zaa hF)
  cases ho38 _ (zaa hF)
  exact wT (hj26 _) hψ40
 refine wB ?_
 obtain ⟨b22, hb23, hψ17⟩ := hF
 refine pR hb23 (fun i14 s13 => [(1, .v (vC a1)), (2, .v (.int .i64 a2)), (3, .bl [.int .i64 a0.P, .int .i64 a0.Q, .int .i64 a0.G]), (6, .bl [.sl true 1 [], .sl true 1 []]), (7, .bl [vD s13.1, vD s13.2]), (11, .v (vC a1)), (12, .v (.int .i64 (a1.length : Int))), (13, .v (.int .i64 i14))]) (fun s13 _ hN24 => ?_) (fun i14 s13 _ _ hi18 hi19 ho15 hg16 hF => ?_)
 ·exact wn hN24 (hj1 _) hψ17
 refine wW ?_
 refine wu hi18 hi19 ?_
 refine wW ?_
 refine wB ?_
 obtain ⟨x20, g, hF⟩ := Rx g hF
 refine wK [1, 2, 3, 6, 7, 9, 11, 12, 13] ?_
 refine wX zx1 follows ?_
 refine wC hF [.sh, .sh, .sh] zcn (fun z21 hF => ?_)
 obtain ⟨g, hF⟩ := Rg g hF
 refine wK [1, 2, 3, 6, 7, 11, 12, 13] ?_
 exact wi hi18 hi19 (hg16 _) (zaa hF)
def zbs (a0 : Group) (a1 : List Int) : Option Int :=
 ((zap (σ := Int) (fun i5 s4 =>
 (ix a1 i5).bind fun x11 =>
 gd (a0.P ≠ 0) <|
 some (.go ((i64.wrap (s4 * x11)).tmod a0.P))) (fun s4 => s4) (a1.length) 0 1 : Option Int).bind fun x3 =>
 some x3)
theorem zdY : ∀ {a0} {a1} {r}, zbs a0 a1 = some r → PCalls Tryz.prog 63 [(.sh, vE a0), (.sh, vC a1)] (Eo (.int .i64 r) [.junk, .junk]) := by
 intro a0 a1 r hr
 apply pF 22 [] [] [] [.tmp 4] hr zEd Tryz.func63
 intro Φ hΦ hF g
 unfold zbs at hF
 iterate 3 (try simp [go_sem, g]; try intros; refine zas ?_)
 refine wJ hF (fun x3 => [(5, .v (.int .i64 x3))]) (fun x3 hF => ?_) fun _ hj1 hF => ?_
 ·exact wl hΦ hF
 refine wB ?_
 obtain ⟨b12, hb13, hψ8⟩ := hF
 refine pR hb13 (fun i5 s4 => [(2, .bl [.int .i64 a0.P, .int .i64 a0.Q, .int .i64 a0.G]), (5, .v (.int .i64 s4)), (8, .v (vC a1)), (9, .v (.int .i64 (a1.length : Int))), (10, .v (.int .i64 i5))]) (fun s4 _ hN14 => ?_) (fun i5 s4 _ _ hi9 hi10 ho6 hg7 hF => ?_)
 ·exact wn hN14 (hj1 _) hψ8
 refine wW ?_
 refine wu hi9 hi10 ?_
 refine wW ?_
 refine wB ?_
 obtain ⟨x11, g, hF⟩ := Rx g hF
 refine wK [2, 5, 7, 8, 9, 10] ?_
 obtain ⟨g, hF⟩ := Rz g hF
 refine wW ?_
 exact wi hi9 hi10 (hg7 _) (zaa hF)
@[go_sem] def zyd : List DE := [d2 0 [3] 3 3, d0 1 [7], d2 2 [3] 3 3, d0 3 [10], d0 4 [8], d3 5 [19, 20, 21], d0 6 [18, 22], ⟨7, [17, 23], [], none, true, true, true⟩, d0 8 [24]]
def zfD (a0 : Group) (a1 : List Int) (a2 : Int) : Option Int :=
 ((zap (σ := Int × Int) (fun i5 s4 =>
 (ix a1 i5).bind fun x11 =>
 (zaQ a0 x11 s4.2).bind fun z12 =>
 (zbs a0 [s4.1, z12]).bind fun z13 =>
 gd (a0.Q ≠ 0) <|
 some (.go (z13, (i64.wrap (s4.2 * a2)).tmod a0.Q))) (fun s4 => s4.1) (a1.length) 0 (1, 1) : Option Int).bind fun x3 =>
 some x3)
theorem zng : ∀ {a0} {a1} {a2} {r}, zfD a0 a1 a2 = some r → PCalls Tryz.prog 144 [(.sh, vE a0), (.sh, vC a1), (.sh, .int .i64 a2)] (Eo (.int .i64 r) [.junk, .junk, .junk]) := by
 intro a0 a1 a2 r hr
 apply pF 33 [] [] [] [.tmp 6] hr zBz Tryz.func144
 intro Φ hΦ hF g
 unfold zfD at hF
 iterate 3 (try simp [go_sem, g]; try intros; refine zas ?_)
 refine wJ hF (fun x3 => [(7, .v (.int .i64 x3))]) (fun x3 hF => ?_) fun _ hj1 hF => ?_
 ·exact wl hΦ hF
 refine wB ?_
 obtain ⟨b14, hb15, hψ8⟩ := hF
 refine pR hb15 (fun i5 s4 => [(2, .v (.int .i64 a2)), (3, .bl [.int .i64 a0.P, .int .i64 a0.Q, .int .i64 a0.G]), (7, .v (.int .i64 s4.1)), (8, .v (.int .i64 s4.2)), (11, .v (vC a1)), (12, .v (.int .i64 (a1.length : Int))), (13, .v (.int .i64 i5))]) (fun s4 _ hN16 => ?_) (fun i5 s4 _ _ hi9 hi10 ho6 hg7 hF => ?_)
 ·exact wn hN16 (hj1 _) hψ8
 refine wW ?_
 refine wu hi9 hi10 ?_
 refine wW ?_
 refine wB ?_
 obtain ⟨x11, g, hF⟩ := Rx g hF
 refine wK [2, 3, 7, 8, 10, 11, 12, 13] ?_
 refine wX zyd follows ?_
 refine wC hF [.sh, .sh, .sh] zcn (fun z12 hF => ?_)
 refine wC hF [.sh, .sh] zdY (fun z13 hF => ?_)
 obtain ⟨g, hF⟩ := Rz g hF
 refine wW ?_
 refine wK [2, 3, 7, 8, 11, 12, 13] ?_
 exact wi hi9 hi10 (hg7 _) (zaa hF)
@[go_sem] def zzl : List DE := [d2 0 [4] 4 4, d1 1 [4] 4, d2 2 [10] 4 10, d0 3 [3], d2 5 [4] 4 4, d0 6 [1], d0 7 [2], d3 4 [9, 11, 12], d3 8 [14, 15, 16], d0 9 [13, 17], d0 10 [18]]
def zfn (a0 : Group) (a1 : List Int) (a2 : Int) (a3 : Int) : Option Bool :=
 (zaQ a0 a0.G a3).bind fun z1 =>
 (zfD a0 a1 a2).bind fun z2 =>
 some (z1 == z2)
theorem zkU : ∀ {a0} {a1} {a2} {a3} {r}, zfn a0 a1 a2 a3 = some r → PCalls Tryz.prog 134 [(.sh, vE a0), (.sh, vC a1), (.sh, .int .i64 a2), (.sh, .int .i64 a3)] (Eo (.bool r) [.junk, .junk, .junk, .junk]) := by
 intro a0 a1 a2 a3 r hr
 apply pF 19 [] [] [] [.tmp 8] hr zBJ Tryz.func134
 intro Φ hΦ hF g
 unfold zfn at hF
 refine wW ?_
 refine wX zzl follows ?_
 refine wC hF [.sh, .sh, .sh] zcn (fun z1 hF => ?_)
 refine wC hF [.sh, .sh, .sh] zng (fun z2 hF => ?_)
 refine wK [8] ?_
 exact wm hΦ hF
def zfP (a0 : Group) (a1 : Dealing) : Option ((List Int)) :=
 ((zap (σ := (List Int)) (fun i5 s4 =>
 (((ix a1.Shares i5).bind fun x14 =>
 (zfn a0 a1.Commits (i64.wrap (i5 + 1)) x14).bind fun z15 =>
 if (!z15) = true then (
 gd ((s4.length + 1) * 8 ≤ 140737488355328 ∧ s4.length + 1 ≤ 4611686018427387904) <|
 some (s4 ++ [i64.wrap (i5 + 1)])) else (
 some s4) : Option ((List Int))).bind fun x13 =>
 some (.go x13))) (fun s4 => s4) (a1.Shares.length) 0 [] : Option ((List Int))).bind fun x3 =>
 some x3)
theorem zl0 : ∀ {a0} {a1} {r}, zfP a0 a1 = some r → PCalls Tryz.prog 102 [(.sh, vE a0), (.sh, vM a1)] (Eo (vD r) [.junk, .junk]) := by
 intro a0 a1 r hr
 apply pF 31 [] [] [] [.tmp 4] hr zAc Tryz.func102
 intro Φ hΦ hF g
 unfold zfP at hF
 iterate 3 (try simp [go_sem, g]; try intros; refine zas ?_)
 refine wJ hF (fun x3 => [(5, .v (vD x3))]) (fun x3 hF => ?_) fun _ hj1 hF => ?_
 ·refine wK [4] ?_
  exact wm hΦ hF
 refine wB ?_
 obtain ⟨b17, hb18, hψ8⟩ := hF
 refine pR hb18 (fun i5 s4 => [(2, .bl [.int .i64 a0.P, .int .i64 a0.Q, .int .i64 a0.G]), (3, .bl [vC a1.Commits, vC a1.Shares]), (5, .v (vD s4)), (9, .v (vC a1.Shares)), (10, .v (.int .i64 (a1.Shares.length : Int))), (11, .v (.int .i64 i5))]) (fun s4 _ hN19 => ?_) (fun i5 s4 _ _ hi9 hi10 ho6 hg7 hF => ?_)
 ·exact wn hN19 (hj1 _) hψ8
 refine wW ?_
 refine wu hi9 hi10 ?_
 refine wW ?_
 refine wJ hF (fun x13 => [(2, .bl [.int .i64 a0.P, .int .i64 a0.Q, .int .i64 a0.G]), (3, .bl [vC a1.Commits, vC a1.Shares]), (5, .v (vD x13)), (9, .v (vC a1.Shares)), (10, .v (.int .i64 (a1.Shares.length : Int))), (11, .v (.int .i64 i5))]) (fun x13 hF => ?_) fun _ hj11 hF => ?_
 ·exact wi hi9 hi10 (hg7 _) (zaa hF)
 refine wB ?_
 obtain ⟨x14, g, hF⟩ := Rx g hF
 refine wK [2, 3, 5, 6, 7, 9, 10, 11] ?_
 refine wC hF [.sh, .sh, .sh, .sh] zkU (fun z15 hF => ?_)
 refine wW ?_
 refine wI hF (fun h16 hF => ?_) (fun h16 hF => ?_)
 ·obtain ⟨g, hF⟩ := Rg g hF
  exact wT (hj11 _) (zaa hF)
 exact wT (hj11 _) (zaa hF)
@[go_sem] def zyF : List DE := [d0 0 [16], d1 1 [15] 15, d2 2 [109] 15 109, d0 3 [110], d0 4 [16], d1 5 [15] 15, d2 6 [113] 15 113, d0 7 [114], d0 8 [112, 115], d0 9 [116], d1 10 [15] 15, d2 11 [118] 15 118, d0 12 [117, 119], d1 13 [3] 3, d2 14 [121] 3 121, d0 15 [120, 122], d0 16 [108, 111], d0 17 [124, 123]]
@[go_sem] def zyU : List DE := [d0 0 [13], d1 1 [15] 15, d2 2 [126] 15 126, d0 3 [127], d0 4 [13], d1 5 [15] 15, d2 6 [130] 15 130, d0 7 [131], d0 8 [129, 132], d0 9 [133], d0 10 [134], d1 11 [15, 135] 15, d2 12 [136, 135] 15 136, d0 13 [137, 135], d0 14 [135, 138], d0 15 [125, 128], d0 16 [140, 139]]
@[go_sem] def zze : List DE := [d2 0 [3] 3 3, d0 1 [10], d0 2 [18], d0 3 [148, 149], d0 4 [150], d0 7 [], d3 5 [147, 151], d0 6 [152]]
@[go_sem] def zy2 : List DE := [d0 0 [19], d1 1 [3] 3, d2 2 [164] 3 164, d0 3 [1], d0 4 [18], d0 5 [166, 167], d0 6 [168], d0 7 [21], d3 8 [165, 169, 170], d0 9 [171], ⟨10, [163, 172], [], none, true, false, false⟩, d0 11 [173]]
def zd6 (a0 : Group) (a1 : (List (List Int))) (a2 : List Fault) : Option (List Dealing × (List (List Int)) × Bool) :=
 (((zdv a0).bind fun z4 =>
 if (!z4) = true then (
 some true) else (
 (zbf (a1.length : Int) 1 7).bind fun z6 =>
 if (!z6) = true then (
 some true) else (
 (ix a1 0).bind fun x8 =>
 (zbf (x8.length : Int) 1 (a1.length : Int)).bind fun z9 =>
 if (!z9) = true then (
 some true) else (
 some (decide (20 < (a2.length : Int)))))) : Option Bool).bind fun x3 =>
 if x3 = true then (
 some ([], [], false)) else (
 ((zap (σ := (List Dealing)) (fun i32 s31 =>
 (ix a1 i32).bind fun x38 =>
 (((ix a1 0).bind fun x42 =>
 if ((x38.length : Int) != (x42.length : Int)) = true then (
 some true) else (
 (zd0 a0 x38).bind fun z44 =>
 some (!z44)) : Option Bool).bind fun x41 =>
 if x41 = true then (
 some (.out (.inr ([], [], false)))) else (
 (zf6 a0 x38 (a1.length : Int)).bind fun z46 =>
 gd ((s31.length + 1) * 48 ≤ 140737488355328 ∧ s31.length + 1 ≤ 4611686018427387904) <|
 some (.go (s31 ++ [z46]))))) (fun s31 => .inl s31) (a1.length) 0 [] : Option ((List Dealing) ⊕ (List Dealing × (List (List Int)) × Bool))).bind (Sum.elim (fun x14 =>
 gd (0 ≤ (a1.length : Int) ∧ (a1.length : Int) ≤ (a1.length : Int) ∧ 1 * (a1.length : Int) ≤ 140737488355328 ∧ (a1.length : Int) ≤ 4611686018427387904) <|
 (some (List.replicate a1.length false)).bind fun x51 =>
 ((zap (σ := (List Dealing) × List Bool) (fun i82 s81 =>
 (((ix a2 i82).bind fun x91 =>
 (((zbf x91.Dealer 1 (a1.length : Int)).bind fun z95 =>
 if (!z95) = true then (
 some true) else (
 (zbf x91.Trustee 1 (a1.length : Int)).bind fun z97 =>
 if (!z97) = true then (
 some true) else (
 (zd0 a0 [x91.Delta]).bind fun z99 =>
 some (!z99))) : Option Bool).bind fun x94 =>
 if x94 = true then (
 some (.inr (.out (.inr ([], [], false))))) else (
 (ix s81.1 (i64.wrap (x91.Dealer - 1))).bind fun x101 =>
 (ix x101.Shares (i64.wrap (x91.Trustee - 1))).bind fun x102 =>
 gd (a0.Q ≠ 0) <|
 (ix s81.2 (i64.wrap (x91.Dealer - 1))).bind fun x103 =>
 if x103 = true then (
 some (.inl (s81.1.set ((i64.wrap (x91.Dealer - 1)).toNat) (Dealing.mk x101.Commits (x101.Shares.set ((i64.wrap (x91.Trustee - 1)).toNat) ((i64.wrap (x102 + x91.Delta)).tmod a0.Q))), s81.2.set ((i64.wrap (x91.Dealer - 1)).toNat) true))) else (
 some (.inl (s81.1.set ((i64.wrap (x91.Dealer - 1)).toNat) (Dealing.mk x101.Commits (x101.Shares.set ((i64.wrap (x91.Trustee - 1)).toNat) ((i64.wrap (x102 + x91.Delta)).tmod a0.Q))), s81.2.set ((i64.wrap (x91.Dealer - 1)).toNat) (!x91.Answers)))))) : Option ((List Dealing × List Bool) ⊕ (Stp (List Dealing × List Bool) ((List Dealing × List Bool) ⊕ (List Dealing × (List (List Int)) × Bool))))).bind (Sum.elim (fun x90 =>
 some (.go (x90.1, x90.2))) some))) (fun s81 => .inl (s81.1, s81.2)) (a2.length) 0 (x14, x51) : Option ((List Dealing × List Bool) ⊕ (List Dealing × (List (List Int)) × Bool))).bind (Sum.elim (fun x56 =>
 ((zap (σ := (List (List Int))) (fun i144 s143 =>
 (ix x56.1 i144).bind fun x150 =>
 (zfP a0 x150).bind fun z151 =>
 ((zap (σ := (List Int)) (fun i156 s155 =>
 (((ix z151 i156).bind fun x165 =>
 (ix x56.2 i144).bind fun x166 =>
 if (!x166) = true then (
 (ix a1 i144).bind fun x168 =>
 (zeC a0.Q x168 x165).bind fun z169 =>
 gd ((s155.length + 1) * 8 ≤ 140737488355328 ∧ s155.length + 1 ≤ 4611686018427387904) <|
 some (s155 ++ [z169])) else (
 some s155) : Option ((List Int))).bind fun x164 =>
 some (.go x164))) (fun s155 => s155) (z151.length) 0 [] : Option ((List Int))).bind fun x154 =>
 gd ((s143.length + 1) * 24 ≤ 140737488355328 ∧ s143.length + 1 ≤ 4611686018427387904) <|
 some (.go (s143 ++ [x154])))) (fun s143 => s143) (x56.1.length) 0 [] : Option ((List (List Int)))).bind fun x111 =>
 some (x56.1, x111, true))) some))) some))))
set_option maxHeartbeats 1000000 in
theorem zlo : ∀ {a0} {a1} {a2} {r}, zd6 a0 a1 a2 = some r → PCalls Tryz.prog 54 [(.sh, vE a0), (.sh, vG a1), (.sh, vH a2)] (Eo (.tup [vK r.1, vF r.2.1, .bool r.2.2]) [.junk, .junk, .junk]) := by
 intro a0 a1 a2 r hr
 apply pF 182 [] [380] [] [.tmp 6, .tmp 7, .tmp 8] hr zGg Tryz.func54
 intro Φ hΦ hF g
 unfold zd6 at hF
 iterate 2 (try simp [go_sem, g]; try intros; refine zas ?_)
 refine wJ hF (fun x3 => [(1, .v (vG a1)), (2, .v (vH a2)), (3, .bl [.int .i64 a0.P, .int .i64 a0.Q, .int .i64 a0.G]), (9, .v (.int .i64 (a1.length : Int))), (45, .v (.bool x3))]) (fun x3 hF => ?_) fun _ hj1 hF => ?_
 ·refine wI hF (fun h11 hF => ?_) (fun h11 hF => ?_)
  ·refine wK [6, 7, 8] ?_
   exact wm hΦ hF
  iterate 2 (try simp [go_sem, g]; try intros; refine zas ?_)
  try simp [go_sem, g]
  try intros
  refine wK [1, 2, 3, 9, 10, 46, 47, 48] ?_
  refine wS hF (fun x14 => [(1, .v (vG a1)), (2, .v (vH a2)), (3, .bl [.int .i64 a0.P, .int .i64 a0.Q, .int .i64 a0.G]), (9, .v (.int .i64 (a1.length : Int))), (10, .v (vK x14))]) (fun x14 hF => ?_) fun _ hj12 hr13 hF => ?_
  ·obtain ⟨g, hF⟩ := Rg g hF
   obtain ⟨x51, e52, hF⟩ := zfR hF
   have g53 : List.replicate a1.length ([.bool false] : List PV) = x51.map zhP := by injection e52 with e52; rw [← e52]; simp [go_sem]
   iterate 2 (try simp [go_sem, g, g53]; try intros; refine zas ?_)
   refine wS hF (fun x56 => [(1, .v (vG a1)), (3, .bl [.int .i64 a0.P, .int .i64 a0.Q, .int .i64 a0.G]), (10, .v (vK x56.1)), (13, .v (vL x56.2))]) (fun x56 hF => ?_) fun _ hj54 hr55 hF => ?_
   ·try simp [go_sem, g]
    try intros
    refine zas ?_
    try simp [go_sem, g]
    try intros
    refine wK [1, 3, 10, 13, 17, 143, 144] ?_
    refine wJ hF (fun x111 => [(10, .v (vK x56.1)), (17, .v (vF x111))]) (fun x111 hF => ?_) fun _ hj109 hF => ?_
    ·exact wl hΦ hF
    refine wB ?_
    obtain ⟨b174, hb175, hψ147⟩ := hF
    refine pR hb175 (fun i144 s143 => [(1, .v (vG a1)), (3, .bl [.int .i64 a0.P, .int .i64 a0.Q, .int .i64 a0.G]), (10, .v (vK x56.1)), (13, .v (vL x56.2)), (17, .v (vF s143)), (143, .v (.int .i64 (x56.1.length : Int))), (144, .v (.int .i64 i144))]) (fun s143 _ hN176 => ?_) (fun i144 s143 _ _ hi148 hi149 ho145 hg146 hF => ?_)
    ·exact wn hN176 (hj109 _) hψ147
    refine wW ?_
    refine wu hi148 hi149 ?_
    refine wW ?_
    refine wB ?_
    iterate 2 refine wW ?_
    refine wX zze follows ?_
    obtain ⟨x150, g, hF⟩ := Rx g hF
    refine wC hF [.sh, .sh] zl0 (fun z151 hF => ?_)
    try simp [go_sem, g]
    try intros
    refine wK [1, 3, 10, 13, 17, 18, 19, 143, 144, 152, 153, 154] ?_
    refine wJ hF (fun x154 => [(1, .v (vG a1)), (3, .bl [.int .i64 a0.P, .int .i64 a0.Q, .int .i64 a0.G]), (10, .v (vK x56.1)), (13, .v (vL x56.2)), (17, .v (vF s143)), (19, .v (vD x154)), (143, .v (.int .i64 (x56.1.length : Int))), (144, .v (.int .i64 i144))]) (fun x154 hF => ?_) fun _ hj152 hF => ?_
    ·obtain ⟨g, hF⟩ := Rg g hF
     refine wW ?_
     exact wi hi148 hi149 (hg146 _) (zaa hF)
    refine wB ?_
    obtain ⟨b170, hb171, hψ159⟩ := hF
    refine pR hb171 (fun i156 s155 => [(1, .v (vG a1)), (3, .bl [.int .i64 a0.P, .int .i64 a0.Q, .int .i64 a0.G]), (10, .v (vK x56.1)), (13, .v (vL x56.2)), (17, .v (vF s143)), (18, .v (.int .i64 i144)), (19, .v (vD s155)), (143, .v (.int .i64 (x56.1.length : Int))), (144, .v (.int .i64 i144)), (152, .v (vD z151)), (153, .v (.int .i64 (z151.length : Int))), (154, .v (.int .i64 i156))]) (fun s155 _ hN172 => ?_) (fun i156 s155 _ _ hi160 hi161 ho157 hg158 hF => ?_)
    ·exact wn hN172 (hj152 _) hψ159
    refine wW ?_
    refine wu hi160 hi161 ?_
    refine wW ?_
    refine wJ hF (fun x164 => [(1, .v (vG a1)), (3, .bl [.int .i64 a0.P, .int .i64 a0.Q, .int .i64 a0.G]), (10, .v (vK x56.1)), (13, .v (vL x56.2)), (17, .v (vF s143)), (18, .v (.int .i64 i144)), (19, .v (vD x164)), (143, .v (.int .i64 (x56.1.length : Int))), (144, .v (.int .i64 i144)), (152, .v (vD z151)), (153, .v (.int .i64 (z151.length : Int))), (154, .v (.int .i64 i156))]) (fun x164 hF => ?_) fun _ hj162 hF => ?_
    ·exact wi hi160 hi161 (hg158 _) (zaa hF)
    refine wB ?_
    obtain ⟨x165, g, hF⟩ := Rx g hF
    obtain ⟨x166, g, hF⟩ := Rx g hF
    iterate 2 refine wW ?_
    refine wI hF (fun h167 hF => ?_) (fun h167 hF => ?_)
    ·refine wX zy2 follows ?_
     obtain ⟨x168, g, hF⟩ := Rx g hF
     refine wC hF [.sh, .sh, .sh] zkY (fun z169 hF => ?_)
     obtain ⟨g, hF⟩ := Rg g hF
     exact wT (hj162 _) (zaa hF)
    exact wT (hj162 _) (zaa hF)
   refine wB ?_
   obtain ⟨b105, hb106, hψ85⟩ := hF
   refine pR hb106 (fun i82 s81 => [(1, .v (vG a1)), (3, .bl [.int .i64 a0.P, .int .i64 a0.Q, .int .i64 a0.G]), (9, .v (.int .i64 (a1.length : Int))), (10, .v (vK s81.1)), (13, .v (vL s81.2)), (75, .v (vH a2)), (76, .v (.int .i64 (a2.length : Int))), (77, .v (.int .i64 i82))]) (fun s81 _ hN107 => ?_) (fun i82 s81 _ _ hi86 hi87 ho83 hg84 hF => ?_)
   ·exact wn hN107 (hj54 _) hψ85
   refine wW ?_
   refine wu hi86 hi87 ?_
   refine wW ?_
   refine wS hF (fun x90 => [(1, .v (vG a1)), (3, .bl [.int .i64 a0.P, .int .i64 a0.Q, .int .i64 a0.G]), (9, .v (.int .i64 (a1.length : Int))), (10, .v (vK x90.1)), (13, .v (vL x90.2)), (75, .v (vH a2)), (76, .v (.int .i64 (a2.length : Int))), (77, .v (.int .i64 i82))]) (fun x90 hF => ?_) fun _ hj88 hr89 hF => ?_
   ·exact wi hi86 hi87 (hg84 _) (zaa hF)
   refine wB ?_
   obtain ⟨x91, g, hF⟩ := Rx g hF
   refine wK [1, 3, 9, 10, 13, 15, 75, 76, 77] ?_
   refine wJ hF (fun x94 => [(1, .v (vG a1)), (3, .bl [.int .i64 a0.P, .int .i64 a0.Q, .int .i64 a0.G]), (9, .v (.int .i64 (a1.length : Int))), (10, .v (vK s81.1)), (13, .v (vL s81.2)), (15, .bl [.int .i64 x91.Dealer, .int .i64 x91.Trustee, .int .i64 x91.Delta, .bool x91.Answers]), (75, .v (vH a2)), (76, .v (.int .i64 (a2.length : Int))), (77, .v (.int .i64 i82)), (100, .v (.bool x94))]) (fun x94 hF => ?_) fun _ hj92 hF => ?_
   ·refine wI hF (fun h100 hF => ?_) (fun h100 hF => ?_)
    ·cases ho83 _ (hr89 _ (zaa hF))
     cases hΦ _ (hr55 _ hψ85)
     refine wW ?_
     try simp [go_sem, g]
    obtain ⟨x101, g, hF⟩ := Rx g hF
    iterate 2 refine wW ?_
    refine wX zyF follows ?_
    obtain ⟨x102, g, hF⟩ := Rx g hF
    obtain ⟨g, hF⟩ := Rz g hF
    refine wK [1, 3, 9, 10, 13, 15, 75, 76, 77] ?_
    refine wX zyU follows ?_
    obtain ⟨x103, g, hF⟩ := Rx g hF
    refine wH hF (fun h104 hF => ?_) fun h104 hF => ?_
    ·exact wV h104 (hj88 _) (zaa hF)
    exact wV h104 (hj88 _) (zaa hF)
   refine wC hF [.sh, .sh, .sh] zb1 (fun z95 hF => ?_)
   refine wG hF (fun h96 hF => ?_) fun h96 hF => ?_
   ·exact wV h96 (hj92 _) (zaa hF)
   try simp [go_sem, g, h96]
   refine wC hF [.sh, .sh, .sh] zb1 (fun z97 hF => ?_)
   try simp [go_sem, g, h96]
   refine wG hF (fun h98 hF => ?_) fun h98 hF => ?_
   ·exact wV h98 (hj92 _) (zaa hF)
   try simp [go_sem, g, h98]
   refine wC hF [.sh, .sh] zhp (fun z99 hF => ?_)
   exact wV h98 (hj92 _) (zaa hF)
  refine wB ?_
  obtain ⟨b47, hb48, hψ35⟩ := hF
  refine pR hb48 (fun i32 s31 => [(1, .v (vG a1)), (2, .v (vH a2)), (3, .bl [.int .i64 a0.P, .int .i64 a0.Q, .int .i64 a0.G]), (9, .v (.int .i64 (a1.length : Int))), (10, .v (vK s31)), (46, .v (vG a1)), (47, .v (.int .i64 (a1.length : Int))), (48, .v (.int .i64 i32))]) (fun s31 _ hN49 => ?_) (fun i32 s31 _ _ hi36 hi37 ho33 hg34 hF => ?_)
  ·exact wn hN49 (hj12 _) hψ35
  refine wW ?_
  refine wu hi36 hi37 ?_
  refine wW ?_
  refine wB ?_
  obtain ⟨x38, g, hF⟩ := Rx g hF
  refine wW ?_
  refine wJ hF (fun x41 => [(1, .v (vG a1)), (2, .v (vH a2)), (3, .bl [.int .i64 a0.P, .int .i64 a0.Q, .int .i64 a0.G]), (9, .v (.int .i64 (a1.length : Int))), (10, .v (vK s31)), (12, .v (vC x38)), (46, .v (vG a1)), (47, .v (.int .i64 (a1.length : Int))), (48, .v (.int .i64 i32)), (64, .v (.bool x41))]) (fun x41 hF => ?_) fun _ hj39 hF => ?_
  ·refine wI hF (fun h45 hF => ?_) (fun h45 hF => ?_)
   ·cases ho33 _ (zaa hF)
    cases hΦ _ (hr13 _ hψ35)
    refine wW ?_
    try simp [go_sem, g]
   refine wW ?_
   refine wC hF [.sh, .sh, .sh] zqh (fun z46 hF => ?_)
   obtain ⟨g, hF⟩ := Rg g hF
   refine wK [1, 2, 3, 9, 10, 46, 47, 48] ?_
   exact wi hi36 hi37 (hg34 _) (zaa hF)
  obtain ⟨x42, g, hF⟩ := Rxn g 0 hF
  try simp [go_sem, g]
  try intros
  refine wG hF (fun h43 hF => ?_) fun h43 hF => ?_
  ·exact wV h43 (hj39 _) (zaa hF)
  try simp [go_sem, g, h43]
  refine wC hF [.sh, .sh] zhp (fun z44 hF => ?_)
  exact wV h43 (hj39 _) (zaa hF)
 refine wC hF [.sh] zgF (fun z4 hF => ?_)
 refine wG hF (fun h5 hF => ?_) fun h5 hF => ?_
 ·exact wV h5 (hj1 _) (zaa hF)
 try simp [go_sem, g, h5]
 refine wC hF [.sh, .sh, .sh] zb1 (fun z6 hF => ?_)
 try simp [go_sem, g, h5]
 refine wG hF (fun h7 hF => ?_) fun h7 hF => ?_
 ·exact wV h7 (hj1 _) (zaa hF)
 obtain ⟨x8, g, hF⟩ := Rxn g 0 hF
 try simp [go_sem, g, h7]
 try intros
 refine wC hF [.sh, .sh, .sh] zb1 (fun z9 hF => ?_)
 try simp [go_sem, g, h7]
 refine wG hF (fun h10 hF => ?_) fun h10 hF => ?_
 ·exact wV h10 (hj1 _) (zaa hF)
 try simp [go_sem, g, h10]
 try intros
 exact wT (hj1 _) (zaa hF)
def zcP (a0 : List Int) : Option ((List Int)) :=
 gd (a0.length * 8 ≤ 140737488355328 ∧ a0.length ≤ 4611686018427387904) <|
 some a0
theorem zeD : ∀ {a0} {r}, zcP a0 = some r → PCalls Tryz.prog 109 [(.sh, vC a0)] (Eo (vD r) [.junk]) := by
 intro a0 r hr
 apply pF 6 [] [] [] [.tmp 2] hr zAG Tryz.func109
 intro Φ hΦ hF g
 unfold zcP at hF
 obtain ⟨g, hF⟩ := Rg g hF
 cases hΦ _ (zaa hF)
 iterate 2 refine wW ?_
 try simp [go_sem, g]
@[go_sem] def zxp : List DE := [d1 0 [9] 9, d2 1 [54] 9 54, d0 2 [11], d0 3 [56], d0 4 [2], d0 5 [10], d0 6 [58, 59], d0 7 [60], d0 8 [55, 57], d0 9 [62, 61]]
@[go_sem] def zzt : List DE := [d1 0 [4] 4, d2 1 [29] 4 29, d1 3 [4] 4, d2 4 [32] 4 32, d0 7 [], d3 2 [30], d3 5 [33], d0 6 [31, 34], d2 8 [9, 35] 9 9]
@[go_sem] def zyz : List DE := [d2 0 [3] 3 3, d1 1 [4] 4, d2 2 [44] 4 44, d0 3 [11], d0 4 [2], d0 5 [10], d0 6 [47, 48], d0 7 [49], d3 8 [43, 45, 46, 50], d0 9 [51]]
def zeX (a0 : Group) (a1 : Dealing) (a2 : List Int) : Option (Dealing × Bool) :=
 (zfP a0 a1).bind fun z1 =>
 ((if decide ((a1.Commits.length : Int) ≤ (z1.length : Int)) = true then (
 some true) else (
 some ((a2.length : Int) != (z1.length : Int))) : Option Bool).bind fun x4 =>
 if x4 = true then (
 some (a1, false)) else (
 (zcP a1.Commits).bind fun z7 =>
 (zcP a1.Shares).bind fun z8 =>
 ((zap (σ := (List Int) × List Int) (fun i25 s24 =>
 (ix z1 i25).bind fun x31 =>
 (ix a2 i25).bind fun x32 =>
 (zfn a0 a1.Commits x31 x32).bind fun z33 =>
 if (!z33) = true then (
 some (.out (.inr (a1, false)))) else (
 (ix s24.2 (i64.wrap (x31 - 1))).bind fun x35 =>
 some (.go (s24.1, s24.2.set ((i64.wrap (x31 - 1)).toNat) x32)))) (fun s24 => .inl (s24.1, s24.2)) (z1.length) 0 (z7, z8) : Option ((List Int × List Int) ⊕ (Dealing × Bool))).bind (Sum.elim (fun x11 =>
 some ((Dealing.mk x11.1 x11.2), true)) some))))
theorem znj : ∀ {a0} {a1} {a2} {r}, zeX a0 a1 a2 = some r → PCalls Tryz.prog 135 [(.sh, vE a0), (.sh, vM a1), (.sh, vC a2)] (Eo (.tup [vM r.1, .bool r.2]) [.junk, .junk, .junk]) := by
 intro a0 a1 a2 r hr
 apply pFz 65 [] [] [] [.cell 6 135, .tmp 7] hr zAW Tryz.func135
 intro Φ hΦ hF g
 unfold zeX at hF
 refine wW ?_
 refine wC hF [.sh, .sh] zl0 (fun z1 hF => ?_)
 refine wW ?_
 refine wJ hF (fun x4 => [(2, .v (vC a2)), (3, .bl [.int .i64 a0.P, .int .i64 a0.Q, .int .i64 a0.G]), (4, .bl [vC a1.Commits, vC a1.Shares]), (6, .bl [.sl true 1 [], .sl true 1 []]), (8, .v (vD z1)), (27, .v (.bool x4))]) (fun x4 hF => ?_) fun _ hj2 hF => ?_
 ·refine wI hF (fun h6 hF => ?_) (fun h6 hF => ?_)
  ·refine wK [6, 7] ?_
   exact wm hΦ hF
  refine wW ?_
  refine wX zzt follows ?_
  refine wC hF [.sh] zeD (fun z7 hF => ?_)
  refine wC hF [.sh] zeD (fun z8 hF => ?_)
  refine wK [2, 3, 4, 6, 8, 9] ?_
  try simp [go_sem, g]
  try intros
  refine zas ?_
  refine wS hF (fun x11 => [(6, .bl [.sl true 1 [], .sl true 1 []]), (9, .bl [vD x11.1, vD x11.2])]) (fun x11 hF => ?_) fun _ hj9 hr10 hF => ?_
  ·exact wl hΦ hF
  refine wB ?_
  obtain ⟨b36, hb37, hψ28⟩ := hF
  refine pR hb37 (fun i25 s24 => [(2, .v (vC a2)), (3, .bl [.int .i64 a0.P, .int .i64 a0.Q, .int .i64 a0.G]), (4, .bl [vC a1.Commits, vC a1.Shares]), (6, .bl [.sl true 1 [], .sl true 1 []]), (8, .v (vD z1)), (9, .bl [vD s24.1, vD s24.2]), (36, .rf 8 []), (37, .v (.int .i64 (z1.length : Int))), (38, .v (.int .i64 i25))]) (fun s24 _ hN38 => ?_) (fun i25 s24 _ _ hi29 hi30 ho26 hg27 hF => ?_)
  ·exact wn hN38 (hj9 _) hψ28
  refine wW ?_
  refine wu hi29 hi30 ?_
  refine wW ?_
  refine wB ?_
  obtain ⟨x31, g, hF⟩ := Rx g hF
  refine wW ?_
  refine wX zyz follows ?_
  obtain ⟨x32, g, hF⟩ := Rx g hF
  refine wC hF [.sh, .sh, .sh, .sh] zkU (fun z33 hF => ?_)
  refine wK [2, 3, 4, 6, 8, 9, 10, 11, 36, 37, 38, 52] ?_
  refine wI hF (fun h34 hF => ?_) (fun h34 hF => ?_)
  ·cases ho26 _ (zaa hF)
   cases hΦ _ (hr10 _ hψ28)
   refine wW ?_
   try simp [go_sem, g]
  refine wW ?_
  refine wX zxp follows ?_
  obtain ⟨x35, g, hF⟩ := Rx g hF
  refine wK [2, 3, 4, 6, 8, 9, 36, 37, 38] ?_
  exact wi hi29 hi30 (hg27 _) (zaa hF)
 try simp [go_sem, g]
 try intros
 refine wG hF (fun h5 hF => ?_) fun h5 hF => ?_
 ·exact wV h5 (hj2 _) (zaa hF)
 try simp [go_sem, g, h5]
 try intros
 exact wT (hj2 _) (zaa hF)
@[go_sem] def zyJ : List DE := [d2 0 [3] 3 3, d2 1 [11] 11 11, d0 2 [2], d0 3 [10], d0 4 [24, 25], d0 5 [26], d0 10 [], d3 6 [22, 23, 27], d0 7 [28], d0 8 [21], d0 9 [21], d2 11 [12, 29] 12 12, d0 12 [30]]
def zd1 (a0 : Group) (a1 : List Dealing) (a2 : (List (List Int))) : Option (List Int × List Dealing) :=
 ((zap (σ := (List Int) × List Dealing) (fun i5 s4 =>
 (((ix a1 i5).bind fun x14 =>
 (ix a2 i5).bind fun x15 =>
 (zeX a0 x14 x15).bind fun z16 =>
 if z16.2 = true then (
 gd ((s4.1.length + 1) * 8 ≤ 140737488355328 ∧ s4.1.length + 1 ≤ 4611686018427387904) <|
 gd ((s4.2.length + 1) * 48 ≤ 140737488355328 ∧ s4.2.length + 1 ≤ 4611686018427387904) <|
 some (s4.1 ++ [i64.wrap (i5 + 1)], s4.2 ++ [z16.1])) else (
 some (s4.1, s4.2)) : Option ((List Int × List Dealing))).bind fun x13 =>
 some (.go (x13.1, x13.2)))) (fun s4 => (s4.1, s4.2)) (a1.length) 0 ([], []) : Option ((List Int × List Dealing))).bind fun x3 =>
 some (x3.1, x3.2))
theorem zlk : ∀ {a0} {a1} {a2} {r}, zd1 a0 a1 a2 = some r → PCalls Tryz.prog 105 [(.sh, vE a0), (.sh, vO a1), (.sh, vG a2)] (Eo (.tup [vD r.1, vI r.2]) [.junk, .junk, .junk]) := by
 intro a0 a1 a2 r hr
 apply pF 44 [] [] [] [.tmp 6, .tmp 7] hr zB3 Tryz.func105
 intro Φ hΦ hF g
 unfold zd1 at hF
 iterate 4 (try simp [go_sem, g]; try intros; refine zas ?_)
 refine wJ hF (fun x3 => [(8, .v (vD x3.1)), (9, .v (vI x3.2))]) (fun x3 hF => ?_) fun _ hj1 hF => ?_
 ·refine wK [6, 7] ?_
  exact wm hΦ hF
 refine wB ?_
 obtain ⟨b18, hb19, hψ8⟩ := hF
 refine pR hb19 (fun i5 s4 => [(2, .v (vG a2)), (3, .bl [.int .i64 a0.P, .int .i64 a0.Q, .int .i64 a0.G]), (8, .v (vD s4.1)), (9, .v (vI s4.2)), (14, .v (vO a1)), (15, .v (.int .i64 (a1.length : Int))), (16, .v (.int .i64 i5))]) (fun s4 _ hN20 => ?_) (fun i5 s4 _ _ hi9 hi10 ho6 hg7 hF => ?_)
 ·exact wn hN20 (hj1 _) hψ8
 refine wW ?_
 refine wu hi9 hi10 ?_
 refine wW ?_
 refine wJ hF (fun x13 => [(2, .v (vG a2)), (3, .bl [.int .i64 a0.P, .int .i64 a0.Q, .int .i64 a0.G]), (8, .v (vD x13.1)), (9, .v (vI x13.2)), (14, .v (vO a1)), (15, .v (.int .i64 (a1.length : Int))), (16, .v (.int .i64 i5))]) (fun x13 hF => ?_) fun _ hj11 hF => ?_
 ·exact wi hi9 hi10 (hg7 _) (zaa hF)
 refine wB ?_
 obtain ⟨x14, g, hF⟩ := Rx g hF
 refine wK [2, 3, 8, 9, 10, 11, 14, 15, 16] ?_
 refine wX zyJ follows ?_
 obtain ⟨x15, g, hF⟩ := Rx g hF
 refine wC hF [.sh, .sh, .sh] znj (fun z16 hF => ?_)
 refine wK [2, 3, 8, 9, 10, 12, 13, 14, 15, 16] ?_
 refine wW ?_
 refine wI hF (fun h17 hF => ?_) (fun h17 hF => ?_)
 ·obtain ⟨g, hF⟩ := Rg g hF
  obtain ⟨g, hF⟩ := Rg g hF
  refine wW ?_
  exact wT (hj11 _) (zaa hF)
 exact wT (hj11 _) (zaa hF)
@[go_sem] def zzo : List DE := [d0 0 [1], d0 1 [12], d0 2 [13], d0 3 [14], d0 5 [1], d0 6 [17], d0 7 [18], d0 8 [19], d0 11 [], ⟨4, [15], [], none, false, true, false⟩, d3 9 [20], d0 10 [16, 21], d2 12 [5, 22] 5 5]
@[go_sem] def zxH : List DE := [d1 0 [5] 5, d2 1 [60] 5 60, d0 2 [10], d1 3 [5] 5, d2 4 [63] 5 63, d0 5 [10], d0 6 [64, 65], d0 7 [66], d0 8 [11], d0 9 [67, 68], d1 10 [2] 2, d2 11 [70] 2 70, d0 12 [69, 71], d0 13 [61, 62], d0 14 [73, 72]]
@[go_sem] def zyT : List DE := [d1 0 [5] 5, d2 1 [38] 5 38, d0 2 [8], d2 3 [2] 2 2, d1 4 [5] 5, d2 5 [42] 5 42, d0 6 [8], d0 7 [43, 44], d0 8 [45], d0 9 [9], d0 10 [46, 47], ⟨11, [41, 48], [], none, true, true, true⟩, d0 12 [39, 40], d0 13 [50, 49]]
def zgw (a0 : Group) (a1 : List Dealing) : Option Dealing :=
 (ix a1 0).bind fun x1 =>
 (zcP x1.Commits).bind fun z2 =>
 (zcP x1.Shares).bind fun z3 =>
 gd (1 ≤ a1.length ∧ a1.length ≤ a1.length) <|
 ((zap (σ := (List Int) × List Int) (fun i69 s68 =>
 (((ix ((a1.take a1.length).drop 1) i69).bind fun x79 =>
 ((zap (σ := (List Int) × List Int) (fun i94 s93 =>
 (ix x79.Commits i94).bind fun x100 =>
 (ix s93.1 i94).bind fun x101 =>
 (zbs a0 [x101, x100]).bind fun z102 =>
 some (.go (s93.1.set i94.toNat z102, s93.2))) (fun s93 => (s93.1, s93.2)) (x79.Commits.length) 0 (s68.1, s68.2) : Option ((List Int × List Int))).bind fun x82 =>
 zap (σ := (List Int) × List Int) (fun i117 s116 =>
 (ix x79.Shares i117).bind fun x123 =>
 (ix s116.2 i117).bind fun x124 =>
 gd (a0.Q ≠ 0) <|
 some (.go (s116.1, s116.2.set i117.toNat ((i64.wrap (x124 + x123)).tmod a0.Q)))) (fun s116 => (s116.1, s116.2)) (x79.Shares.length) 0 (x82.1, x82.2)) : Option ((List Int × List Int))).bind fun x78 =>
 some (.go (x78.1, x78.2)))) (fun s68 => (s68.1, s68.2)) (((a1.take a1.length).drop 1).length) 0 (z2, z3) : Option ((List Int × List Int))).bind fun x6 =>
 some (Dealing.mk x6.1 x6.2))
theorem zri : ∀ {a0} {a1} {r}, zgw a0 a1 = some r → PCalls Tryz.prog 106 [(.sh, vE a0), (.sh, vO a1)] (Eo (vJ r) [.junk, .junk]) := by
 intro a0 a1 r hr
 apply pF 77 [] [] [] [.cell 4 135] hr zz4 Tryz.func106
 intro Φ hΦ hF g
 unfold zgw at hF
 refine wW ?_
 refine wX zzo follows ?_
 obtain ⟨x1, g, hF⟩ := Rxn g 0 hF
 refine wD hF zeD (fun z2 hF => ?_)
 refine wC hF [.sh] zeD (fun z3 hF => ?_)
 refine wK [1, 2, 4, 5] ?_
 obtain ⟨g, hF⟩ := Rg g hF
 try simp [go_sem, g]
 try intros
 refine zas ?_
 refine wJ hF (fun x6 => [(4, .bl [.sl true 1 [], .sl true 1 []]), (5, .bl [vD x6.1, vD x6.2])]) (fun x6 hF => ?_) fun _ hj4 hF => ?_
 ·exact wl hΦ hF
 refine wB ?_
 obtain ⟨b129, hb130, hψ72⟩ := hF
 refine pR hb130 (fun i69 s68 => [(2, .bl [.int .i64 a0.P, .int .i64 a0.Q, .int .i64 a0.G]), (4, .bl [.sl true 1 [], .sl true 1 []]), (5, .bl [vD s68.1, vD s68.2]), (24, .v (vO ((a1.take a1.length).drop 1))), (25, .v (.int .i64 (((a1.take a1.length).drop 1).length : Int))), (26, .v (.int .i64 i69))]) (fun s68 _ hN131 => ?_) (fun i69 s68 _ _ hi73 hi74 ho70 hg71 hF => ?_)
 ·exact wn hN131 (hj4 _) hψ72
 have hi75 := hi74
 try simp at hi75
 refine wW ?_
 refine wt ?_ (hb := by simp [go_sem, g, hi73, hi74, hi75] <;> omega)
 refine wW ?_
 refine wJ hF (fun x78 => [(2, .bl [.int .i64 a0.P, .int .i64 a0.Q, .int .i64 a0.G]), (4, .bl [.sl true 1 [], .sl true 1 []]), (5, .bl [vD x78.1, vD x78.2]), (24, .v (vO ((a1.take a1.length).drop 1))), (25, .v (.int .i64 (((a1.take a1.length).drop 1).length : Int))), (26, .v (.int .i64 i69))]) (fun x78 hF => ?_) fun _ hj76 hF => ?_
 ·exact wT (hg71 (x78.1, x78.2)) (zaa hF) (a := by simp [go_sem, g, zqz hi73 hi74 (by first | assumption | (simp; assumption) | (simp; omega))])
 refine wB ?_
 obtain ⟨x79, g, hF⟩ := Rxq g hF
 try simp [go_sem, g]
 try intros
 refine zas ?_
 try simp [go_sem, g]
 try intros
 refine wK [2, 4, 5, 7, 24, 25, 26, 31, 32, 33] ?_
 refine wJ hF (fun x82 => [(2, .bl [.int .i64 a0.P, .int .i64 a0.Q, .int .i64 a0.G]), (4, .bl [.sl true 1 [], .sl true 1 []]), (5, .bl [vD x82.1, vD x82.2]), (7, .bl [vC x79.Commits, vC x79.Shares]), (24, .v (vO ((a1.take a1.length).drop 1))), (25, .v (.int .i64 (((a1.take a1.length).drop 1).length : Int))), (26, .v (.int .i64 i69))]) (fun x82 hF => ?_) fun _ hj80 hF => ?_
 ·try simp [go_sem, g]
  try intros
  refine zas ?_
  refine wB ?_
  obtain ⟨b125, hb126, hψ120⟩ := hF
  refine pR hb126 (fun i117 s116 => [(2, .bl [.int .i64 a0.P, .int .i64 a0.Q, .int .i64 a0.G]), (4, .bl [.sl true 1 [], .sl true 1 []]), (5, .bl [vD s116.1, vD s116.2]), (24, .v (vO ((a1.take a1.length).drop 1))), (25, .v (.int .i64 (((a1.take a1.length).drop 1).length : Int))), (26, .v (.int .i64 i69)), (53, .v (vC x79.Shares)), (54, .v (.int .i64 (x79.Shares.length : Int))), (55, .v (.int .i64 i117))]) (fun s116 _ hN127 => ?_) (fun i117 s116 _ _ hi121 hi122 ho118 hg119 hF => ?_)
  ·exact wn hN127 (hj76 _) hψ120
  refine wW ?_
  refine wu hi121 hi122 ?_
  refine wW ?_
  refine wB ?_
  obtain ⟨x123, g, hF⟩ := Rx g hF
  refine wK [2, 4, 5, 10, 11, 24, 25, 26, 53, 54, 55] ?_
  refine wX zxH follows ?_
  obtain ⟨x124, g, hF⟩ := Rx g hF
  obtain ⟨g, hF⟩ := Rz g hF
  refine wK [2, 4, 5, 24, 25, 26, 53, 54, 55] ?_
  exact wi hi121 hi122 (hg119 _) (zaa hF)
 refine wB ?_
 obtain ⟨b103, hb104, hψ97⟩ := hF
 refine pR hb104 (fun i94 s93 => [(2, .bl [.int .i64 a0.P, .int .i64 a0.Q, .int .i64 a0.G]), (4, .bl [.sl true 1 [], .sl true 1 []]), (5, .bl [vD s93.1, vD s93.2]), (7, .bl [vC x79.Commits, vC x79.Shares]), (24, .v (vO ((a1.take a1.length).drop 1))), (25, .v (.int .i64 (((a1.take a1.length).drop 1).length : Int))), (26, .v (.int .i64 i69)), (31, .v (vC x79.Commits)), (32, .v (.int .i64 (x79.Commits.length : Int))), (33, .v (.int .i64 i94))]) (fun s93 _ hN105 => ?_) (fun i94 s93 _ _ hi98 hi99 ho95 hg96 hF => ?_)
 ·exact wn hN105 (hj80 _) hψ97
 refine wW ?_
 refine wu hi98 hi99 ?_
 refine wW ?_
 refine wB ?_
 obtain ⟨x100, g, hF⟩ := Rx g hF
 refine wW ?_
 refine wX zyT follows ?_
 obtain ⟨x101, g, hF⟩ := Rx g hF
 refine wC hF [.sh, .sh] zdY (fun z102 hF => ?_)
 refine wK [2, 4, 5, 7, 24, 25, 26, 31, 32, 33] ?_
 exact wi hi98 hi99 (hg96 _) (zaa hF)
@[go_sem] def zAo : List DE := [d0 0 [8], d1 1 [10] 10, d2 2 [26] 10 26, d0 3 [27], d0 4 [28], d1 5 [10] 10, d2 6 [30] 10 30, d1 7 [10] 10, d2 8 [32] 10 32, d0 9 [25, 29, 31, 33], d2 10 [6, 34] 6 6, d0 11 []]
def zey (a0 : Group) (a1 : List Dealing) (a2 : (List (List Int))) : Option (KeyGen × Bool) :=
 (zd1 a0 a1 a2).bind fun z1 =>
 if ((z1.1.length : Int) == 0) = true then (
 some ((KeyGen.mk [] 0 [] []), false)) else (
 (zgw a0 z1.2).bind fun z3 =>
 (ix z3.Commits 0).bind fun x4 =>
 some ((KeyGen.mk z1.1 x4 z3.Commits z3.Shares), true))
theorem zml : ∀ {a0} {a1} {a2} {r}, zey a0 a1 a2 = some r → PCalls Tryz.prog 56 [(.sh, vE a0), (.sh, vO a1), (.sh, vG a2)] (Eo (.tup [vP r.1, .bool r.2]) [.junk, .junk, .junk]) := by
 intro a0 a1 a2 r hr
 apply pFz 35 [] [29, 31, 33] [] [.cell 6 52, .tmp 7] hr zEa Tryz.func56
 intro Φ hΦ hF g
 unfold zey at hF
 refine wW ?_
 refine wC hF [.sh, .sh, .sh] zlk (fun z1 hF => ?_)
 refine wK [3, 6, 8, 9] ?_
 try simp [go_sem, g]
 try intros
 refine zas ?_
 refine wI hF (fun h2 hF => ?_) (fun h2 hF => ?_)
 ·exact wl hΦ hF
 refine wW ?_
 refine wC hF [.sh, .sh] zri (fun z3 hF => ?_)
 refine wW ?_
 refine wX zAo follows ?_
 obtain ⟨x4, g, hF⟩ := Rxn g 0 hF
 refine wK [6, 7] ?_
 exact wm hΦ hF
@[go_sem] def zCc : List DE := [d2 0 [3] 3 3, d0 1 [0], d2 2 [3] 3 3, d0 3 [5], d0 4 [0], d0 5 [5], d3 6 [26, 27], d0 7 [28], d3 8 [23, 24, 25, 29], d3 9 [22, 30], d0 10 [31], d0 11 [21], d0 12 [21], d0 13 [21], d0 14 [32], d0 15 [33], d0 16 [34]]
def zcy (a0c0 : List Int) (a0c1 : Int) (a0c2 : Int) (a1 : Group) : Option (KeyGen × (List Int × Int × Int)) :=
 (zai a0c0 a0c1 a0c2 5).bind fun z1 =>
 (zdv a1).bind fun z2 =>
 if (!z2) = true then (
 some ((KeyGen.mk [1] 1 [1] [0]), (z1.2.1, z1.2.2.1, z1.2.2.2))) else (
 (zai z1.2.1 z1.2.2.1 z1.2.2.2 (i64.wrap (1 + z1.1))).bind fun z4 =>
 (zbH z4.2.1 z4.2.2.1 z4.2.2.2 a1 (i64.wrap (1 + z1.1)) (i64.wrap (1 + z4.1))).bind fun z5 =>
 (zd6 a1 z5.1 []).bind fun z6 =>
 (zey a1 z6.1 z6.2.1).bind fun z7 =>
 some (z7.1, (z5.2.1, z5.2.2.1, z5.2.2.2)))
theorem zi5 : ∀ {a0c0} {a0c1} {a0c2} {a1} {r}, zcy a0c0 a0c1 a0c2 a1 = some r → PCalls Tryz.prog 15 [(.io, vB a0c0 a0c1 a0c2), (.sh, vE a1)] (Eo (vP r.1) [vB r.2.1 r.2.2.1 r.2.2.2, .junk]) := by
 intro a0c0 a0c1 a0c2 a1 r hr
 apply pFz 43 [0] [37, 38] [] [.cell 4 52] hr zHf Tryz.func15
 intro Φ hΦ hF g
 unfold zcy at hF
 refine wW ?_
 refine wC hF [.io, .sh] zao (fun z1 hF => ?_)
 refine wW ?_
 refine wC hF [.sh] zgF (fun z2 hF => ?_)
 refine wW ?_
 refine wI hF (fun h3 hF => ?_) (fun h3 hF => ?_)
 ·refine wK [0, 4] ?_
  exact wm hΦ hF
 refine wW ?_
 refine wX zCc follows ?_
 refine wC hF [.io, .sh] zao (fun z4 hF => ?_)
 refine wC hF [.io, .sh, .sh, .sh] zhy (fun z5 hF => ?_)
 refine wC hF [.sh, .sh, .sh] zlo (fun z6 hF => ?_)
 refine wK [0, 3, 4, 6, 7] ?_
 refine wC hF [.sh, .sh, .sh] zml (fun z7 hF => ?_)
 refine wK [0, 4, 9] ?_
 exact wl hΦ hF
@[go_sem] def zAu : List DE := [d2 0 [3] 3 3, d1 1 [3] 3, d2 2 [14] 3 14, d1 3 [3] 3, d2 4 [16] 3 16, d0 6 [0], d2 7 [3] 3 3, d3 5 [15, 17], d3 8 [19, 20], d3 9 [13, 18, 21], d0 10 [22]]
def zay (a0c0 : List Int) (a0c1 : Int) (a0c2 : Int) (a1 : Group) : Option (Int × (List Int × Int × Int)) :=
 ((if decide (a1.P < 3) = true then (
 some true) else (
 some (decide (a1.Q < 1))) : Option Bool).bind fun x3 =>
 if x3 = true then (
 some (1, (a0c0, a0c1, a0c2))) else (
 (zbQ a1.G a1.P).bind fun z6 =>
 (zaB a0c0 a0c1 a0c2 a1).bind fun z7 =>
 (zaQ a1 z6 z7.1).bind fun z8 =>
 some (z8, (z7.2.1, z7.2.2.1, z7.2.2.2))))
theorem zaC : ∀ {a0c0} {a0c1} {a0c2} {a1} {r}, zay a0c0 a0c1 a0c2 a1 = some r → PCalls Tryz.prog 57 [(.io, vB a0c0 a0c1 a0c2), (.sh, vE a1)] (Eo (.int .i64 r.1) [vB r.2.1 r.2.2.1 r.2.2.2, .junk]) := by
 intro a0c0 a0c1 a0c2 a1 r hr
 apply pF 23 [0] [] [] [.tmp 4] hr zFc Tryz.func57
 intro Φ hΦ hF g
 unfold zay at hF
 refine wW ?_
 refine wJ hF (fun x3 => [(0, .v (vB a0c0 a0c1 a0c2)), (3, .bl [.int .i64 a1.P, .int .i64 a1.Q, .int .i64 a1.G]), (12, .v (.bool x3))]) (fun x3 hF => ?_) fun _ hj1 hF => ?_
 ·refine wI hF (fun h5 hF => ?_) (fun h5 hF => ?_)
  ·exact wl hΦ hF
  refine wW ?_
  refine wX zAu follows ?_
  refine wC hF [.sh, .sh] zfM (fun z6 hF => ?_)
  refine wC hF [.io, .sh] zax (fun z7 hF => ?_)
  refine wC hF [.sh, .sh, .sh] zcn (fun z8 hF => ?_)
  refine wK [0, 4] ?_
  exact wm hΦ hF
 refine wG hF (fun h4 hF => ?_) fun h4 hF => ?_
 ·exact wV h4 (hj1 _) (zaa hF)
 exact wV h4 (hj1 _) (zaa hF)
@[go_sem] def zAC : List DE := [d0 0 [0], d2 1 [3] 3 3, d0 3 [0], d2 4 [3] 3 3, d3 2 [5, 6], d3 5 [8, 9], d0 6 [7, 10], d2 7 [4, 11] 4 4]
def zbc (a0c0 : List Int) (a0c1 : Int) (a0c2 : Int) (a1 : Group) : Option (Cipher × (List Int × Int × Int)) :=
 (zay a0c0 a0c1 a0c2 a1).bind fun z1 =>
 (zay z1.2.1 z1.2.2.1 z1.2.2.2 a1).bind fun z2 =>
 some ((Cipher.mk z1.1 z2.1), (z2.2.1, z2.2.2.1, z2.2.2.2))
theorem zf7 : ∀ {a0c0} {a0c1} {a0c2} {a1} {r}, zbc a0c0 a0c1 a0c2 a1 = some r → PCalls Tryz.prog 16 [(.io, vB a0c0 a0c1 a0c2), (.sh, vE a1)] (Eo (vQ r.1) [vB r.2.1 r.2.2.1 r.2.2.2, .junk]) := by
 intro a0c0 a0c1 a0c2 a1 r hr
 apply pF 12 [0] [] [] [.cell 4 27] hr zGB Tryz.func16
 intro Φ hΦ hF g
 unfold zbc at hF
 refine wW ?_
 refine wX zAC follows ?_
 refine wC hF [.io, .sh] zaC (fun z1 hF => ?_)
 refine wC hF [.io, .sh] zaC (fun z2 hF => ?_)
 refine wK [0, 4] ?_
 exact wm hΦ hF
@[go_sem] def zAd : List DE := [d2 0 [4] 4 4, d1 1 [4] 4, d2 2 [10] 4 10, d0 3 [3], d2 5 [4] 4 4, d0 6 [2], d2 7 [4] 4 4, d0 8 [1], d0 9 [3], d3 4 [9, 11, 12], d3 10 [16, 17, 18], d0 11 [15, 19], ⟨12, [14, 20], [], none, true, true, true⟩, d0 13 [13, 21], d2 14 [8, 22] 8 8]
def zfL (a0 : Group) (a1 : Int) (a2 : Int) (a3 : Int) : Option Cipher :=
 (zaQ a0 a0.G a3).bind fun z1 =>
 (zaQ a0 a1 a3).bind fun z2 =>
 (zbs a0 [a2, z2]).bind fun z3 =>
 some (Cipher.mk z1 z3)
theorem zqY : ∀ {a0} {a1} {a2} {a3} {r}, zfL a0 a1 a2 a3 = some r → PCalls Tryz.prog 60 [(.sh, vE a0), (.sh, .int .i64 a1), (.sh, .int .i64 a2), (.sh, .int .i64 a3)] (Eo (vQ r) [.junk, .junk, .junk, .junk]) := by
 intro a0 a1 a2 a3 r hr
 apply pF 23 [] [] [] [.cell 8 27] hr zF8 Tryz.func60
 intro Φ hΦ hF g
 unfold zfL at hF
 refine wW ?_
 refine wX zAd follows ?_
 refine wC hF [.sh, .sh, .sh] zcn (fun z1 hF => ?_)
 refine wC hF [.sh, .sh, .sh] zcn (fun z2 hF => ?_)
 refine wC hF [.sh, .sh] zdY (fun z3 hF => ?_)
 refine wK [8] ?_
 exact wm hΦ hF
@[go_sem] def zAi : List DE := [d2 0 [2] 2 2, d1 1 [5] 5, d2 2 [16] 5 16, d1 3 [7] 7, d2 4 [18] 7 18, d0 5 [17, 19], d2 7 [2] 2 2, d1 8 [5] 5, d2 9 [23] 5 23, d1 10 [7] 7, d2 11 [25] 7 25, d0 12 [24, 26], ⟨6, [15, 20], [], none, true, true, true⟩, ⟨13, [22, 27], [], none, true, true, true⟩, d0 14 [21, 28], d2 15 [5, 29] 5 5]
def zcT (a0 : Group) (a1 : List Cipher) : Option Cipher :=
 ((zap (σ := Int × Int) (fun i15 s14 =>
 (ix a1 i15).bind fun x21 =>
 (zbs a0 [s14.1, x21.A]).bind fun z22 =>
 (zbs a0 [s14.2, x21.B]).bind fun z23 =>
 some (.go (z22, z23))) (fun s14 => (s14.1, s14.2)) (a1.length) 0 (1, 1) : Option ((Int × Int))).bind fun x3 =>
 some (Cipher.mk x3.1 x3.2))
theorem zma : ∀ {a0} {a1} {r}, zcT a0 a1 = some r → PCalls Tryz.prog 59 [(.sh, vE a0), (.sh, vR a1)] (Eo (vQ r) [.junk, .junk]) := by
 intro a0 a1 r hr
 apply pF 32 [] [] [] [.cell 4 27] hr zEi Tryz.func59
 intro Φ hΦ hF g
 unfold zcT at hF
 iterate 3 (try simp [go_sem, g]; try intros; refine zas ?_)
 refine wJ hF (fun x3 => [(4, .bl [.int .i64 0, .int .i64 0]), (5, .bl [.int .i64 x3.1, .int .i64 x3.2])]) (fun x3 hF => ?_) fun _ hj1 hF => ?_
 ·refine wK [4] ?_
  exact wm hΦ hF
 refine wB ?_
 obtain ⟨b24, hb25, hψ18⟩ := hF
 refine pR hb25 (fun i15 s14 => [(2, .bl [.int .i64 a0.P, .int .i64 a0.Q, .int .i64 a0.G]), (4, .bl [.int .i64 0, .int .i64 0]), (5, .bl [.int .i64 s14.1, .int .i64 s14.2]), (9, .v (vR a1)), (10, .v (.int .i64 (a1.length : Int))), (11, .v (.int .i64 i15))]) (fun s14 _ hN26 => ?_) (fun i15 s14 _ _ hi19 hi20 ho16 hg17 hF => ?_)
 ·exact wn hN26 (hj1 _) hψ18
 refine wW ?_
 refine wu hi19 hi20 ?_
 refine wW ?_
 refine wB ?_
 obtain ⟨x21, g, hF⟩ := Rx g hF
 refine wK [2, 4, 5, 7, 9, 10, 11] ?_
 refine wX zAi follows ?_
 refine wC hF [.sh, .sh] zdY (fun z22 hF => ?_)
 refine wC hF [.sh, .sh] zdY (fun z23 hF => ?_)
 refine wK [2, 4, 5, 9, 10, 11] ?_
 exact wi hi19 hi20 (hg17 _) (zaa hF)
@[go_sem] def zBG : List DE := [d2 0 [4] 4 4, d2 1 [6] 6 6, d2 2 [4] 4 4, d0 3 [1], d0 4 [3], d3 5 [11, 12, 13], d0 6 [10, 14], ⟨7, [9, 15], [], none, true, true, true⟩, d2 8 [8, 16] 8 8]
def ze2 (a0 : Group) (a1 : Int) (a2 : Cipher) (a3 : Int) : Option Cipher :=
 (zfL a0 a1 1 a3).bind fun z1 =>
 (zcT a0 [a2, z1]).bind fun z2 =>
 some z2
theorem zkA : ∀ {a0} {a1} {a2} {a3} {r}, ze2 a0 a1 a2 a3 = some r → PCalls Tryz.prog 19 [(.sh, vE a0), (.sh, .int .i64 a1), (.sh, vQ a2), (.sh, .int .i64 a3)] (Eo (vQ r) [.junk, .junk, .junk, .junk]) := by
 intro a0 a1 a2 a3 r hr
 apply pF 17 [] [] [] [.cell 8 27] hr zFl Tryz.func19
 intro Φ hΦ hF g
 unfold ze2 at hF
 refine wW ?_
 refine wX zBG follows ?_
 refine wC hF [.sh, .sh, .sh, .sh] zqY (fun z1 hF => ?_)
 refine wC hF [.sh, .sh] zma (fun z2 hF => ?_)
 refine wK [8] ?_
 exact wm hΦ hF
def zfi (a0 : Group) (a1 : Int) : Option Int :=
 (zbx a1 (i64.wrap (a0.Q - 1)) a0.P).bind fun z1 =>
 some z1
theorem zjx : ∀ {a0} {a1} {r}, zfi a0 a1 = some r → PCalls Tryz.prog 64 [(.sh, vE a0), (.sh, .int .i64 a1)] (Eo (.int .i64 r) [.junk, .junk]) := by
 intro a0 a1 r hr
 apply pF 12 [] [] [] [.tmp 4] hr zGZ Tryz.func64
 intro Φ hΦ hF g
 unfold zfi at hF
 refine wW ?_
 refine wC hF [.sh, .sh, .sh] zeW (fun z1 hF => ?_)
 refine wK [4] ?_
 exact wm hΦ hF
@[go_sem] def zBg : List DE := [d2 0 [3] 3 3, d1 1 [4] 4, d2 2 [8] 4 8, d2 3 [3] 3 3, d1 4 [5] 5, d2 5 [11] 5 11, d2 9 [3] 3 3, d1 10 [4] 4, d2 11 [17] 4 17, d2 12 [3] 3 3, d1 13 [5] 5, d2 14 [20] 5 20, d3 6 [10, 12], d0 7 [9, 13], ⟨8, [7, 14], [], none, true, true, true⟩, d3 15 [19, 21], d0 16 [18, 22], ⟨17, [16, 23], [], none, true, true, true⟩, d0 18 [15, 24], d2 19 [6, 25] 6 6]
def zdX (a0 : Group) (a1 : Cipher) (a2 : Cipher) : Option Cipher :=
 (zfi a0 a2.A).bind fun z1 =>
 (zbs a0 [a1.A, z1]).bind fun z2 =>
 (zfi a0 a2.B).bind fun z3 =>
 (zbs a0 [a1.B, z3]).bind fun z4 =>
 some (Cipher.mk z2 z4)
theorem zjy : ∀ {a0} {a1} {a2} {r}, zdX a0 a1 a2 = some r → PCalls Tryz.prog 22 [(.sh, vE a0), (.sh, vQ a1), (.sh, vQ a2)] (Eo (vQ r) [.junk, .junk, .junk]) := by
 intro a0 a1 a2 r hr
 apply pF 26 [] [] [] [.cell 6 27] hr zGz Tryz.func22
 intro Φ hΦ hF g
 unfold zdX at hF
 refine wW ?_
 refine wX zBg follows ?_
 refine wC hF [.sh, .sh] zjx (fun z1 hF => ?_)
 refine wC hF [.sh, .sh] zdY (fun z2 hF => ?_)
 refine wC hF [.sh, .sh] zjx (fun z3 hF => ?_)
 refine wC hF [.sh, .sh] zdY (fun z4 hF => ?_)
 refine wK [6] ?_
 exact wm hΦ hF
def zdo (a0 : Group) (a1 : List Int) : Option Bool :=
 ((zap (σ := Unit) (fun i5 s4 =>
 (ix a1 i5).bind fun x11 =>
 (((zbf x11 1 (i64.wrap (a0.P - 1))).bind fun z15 =>
 if (!z15) = true then (
 some true) else (
 (zbx x11 a0.Q a0.P).bind fun z17 =>
 some (z17 != 1)) : Option Bool).bind fun x14 =>
 if x14 = true then (
 some (.out (.inr false))) else (
 some (.go ())))) (fun s4 => .inl ()) (a1.length) 0 () : Option (Unit ⊕ Bool)).bind (Sum.elim (fun x3 =>
 some true) some))
theorem zhs : ∀ {a0} {a1} {r}, zdo a0 a1 = some r → PCalls Tryz.prog 78 [(.sh, vE a0), (.sh, vC a1)] (Eo (.bool r) [.junk, .junk]) := by
 intro a0 a1 r hr
 apply pF 29 [] [] [] [.tmp 4] hr zGn Tryz.func78
 intro Φ hΦ hF g
 unfold zdo at hF
 iterate 2 (try simp [go_sem, g]; try intros; refine zas ?_)
 refine wS hF (fun x3 => []) (fun x3 hF => ?_) fun _ hj1 hr2 hF => ?_
 ·exact wl hΦ hF
 refine wB ?_
 obtain ⟨b19, hb20, hψ8⟩ := hF
 refine pR hb20 (fun i5 s4 => [(2, .bl [.int .i64 a0.P, .int .i64 a0.Q, .int .i64 a0.G]), (7, .v (vC a1)), (8, .v (.int .i64 (a1.length : Int))), (9, .v (.int .i64 i5))]) (fun s4 _ hN21 => ?_) (fun i5 s4 _ _ hi9 hi10 ho6 hg7 hF => ?_)
 ·exact wn hN21 (hj1 _) hψ8
 refine wW ?_
 refine wu hi9 hi10 ?_
 refine wW ?_
 refine wB ?_
 obtain ⟨x11, g, hF⟩ := Rx g hF
 refine wW ?_
 refine wJ hF (fun x14 => [(2, .bl [.int .i64 a0.P, .int .i64 a0.Q, .int .i64 a0.G]), (7, .v (vC a1)), (8, .v (.int .i64 (a1.length : Int))), (9, .v (.int .i64 i5)), (27, .v (.bool x14))]) (fun x14 hF => ?_) fun _ hj12 hF => ?_
 ·refine wI hF (fun h18 hF => ?_) (fun h18 hF => ?_)
  ·refine wK [4] ?_
   cases ho6 _ (zaa hF)
   cases hΦ _ (hr2 _ hψ8)
   try simp [go_sem, g]
  refine wW ?_
  exact wi hi9 hi10 (hg7 _) (zaa hF)
 refine wC hF [.sh, .sh, .sh] zb1 (fun z15 hF => ?_)
 refine wG hF (fun h16 hF => ?_) fun h16 hF => ?_
 ·exact wV h16 (hj12 _) (zaa hF)
 try simp [go_sem, g, h16]
 refine wC hF [.sh, .sh, .sh] zeW (fun z17 hF => ?_)
 exact wV h16 (hj12 _) (zaa hF)
def zcR (a0 : Group) (a1 : List Cipher) : Option Bool :=
 if decide (24 < (a1.length : Int)) = true then (
 some false) else (
 ((zap (σ := Unit) (fun i6 s5 =>
 (ix a1 i6).bind fun x12 =>
 (zdo a0 [x12.A, x12.B]).bind fun z13 =>
 if (!z13) = true then (
 some (.out (.inr false))) else (
 some (.go ()))) (fun s5 => .inl ()) (a1.length) 0 () : Option (Unit ⊕ Bool)).bind (Sum.elim (fun x4 =>
 some true) some)))
theorem zfo : ∀ {a0} {a1} {r}, zcR a0 a1 = some r → PCalls Tryz.prog 30 [(.sh, vE a0), (.sh, vR a1)] (Eo (.bool r) [.junk, .junk]) := by
 intro a0 a1 r hr
 apply pF 25 [] [] [] [.tmp 4] hr zFa Tryz.func30
 intro Φ hΦ hF g
 unfold zcR at hF
 iterate 2 (try simp [go_sem, g]; try intros; refine zas ?_)
 refine wI hF (fun h1 hF => ?_) (fun h1 hF => ?_)
 ·exact wl hΦ hF
 iterate 2 (try simp [go_sem, g]; try intros; refine zas ?_)
 refine wS hF (fun x4 => []) (fun x4 hF => ?_) fun _ hj2 hr3 hF => ?_
 ·exact wl hΦ hF
 refine wB ?_
 obtain ⟨b15, hb16, hψ9⟩ := hF
 refine pR hb16 (fun i6 s5 => [(2, .bl [.int .i64 a0.P, .int .i64 a0.Q, .int .i64 a0.G]), (10, .v (vR a1)), (11, .v (.int .i64 (a1.length : Int))), (12, .v (.int .i64 i6))]) (fun s5 _ hN17 => ?_) (fun i6 s5 _ _ hi10 hi11 ho7 hg8 hF => ?_)
 ·exact wn hN17 (hj2 _) hψ9
 refine wW ?_
 refine wu hi10 hi11 ?_
 refine wW ?_
 refine wB ?_
 obtain ⟨x12, g, hF⟩ := Rx g hF
 refine wK [2, 6, 10, 11, 12] ?_
 refine wC hF [.sh, .sh] zhs (fun z13 hF => ?_)
 refine wW ?_
 refine wI hF (fun h14 hF => ?_) (fun h14 hF => ?_)
 ·cases ho7 _ (zaa hF)
  cases hΦ _ (hr3 _ hψ9)
  refine wW ?_
  try simp [go_sem, g]
 refine wW ?_
 exact wi hi10 hi11 (hg8 _) (zaa hF)
@[go_sem] def zyq : List DE := [d2 0 [3] 3 3, d1 1 [4] 4, d2 2 [8] 4 8, d0 3 [2], d2 5 [3] 3 3, d1 6 [4] 4, d2 7 [13] 4 13, d0 8 [2], d3 4 [7, 9, 10], d3 9 [12, 14, 15], d0 10 [11, 16], d2 11 [6, 17] 6 6]
def zhO (a0 : Group) (a1 : Cipher) (a2 : Int) : Option Cipher :=
 (zaQ a0 a1.A a2).bind fun z1 =>
 (zaQ a0 a1.B a2).bind fun z2 =>
 some (Cipher.mk z1 z2)
theorem zl5 : ∀ {a0} {a1} {a2} {r}, zhO a0 a1 a2 = some r → PCalls Tryz.prog 108 [(.sh, vE a0), (.sh, vQ a1), (.sh, .int .i64 a2)] (Eo (vQ r) [.junk, .junk, .junk]) := by
 intro a0 a1 a2 r hr
 apply pF 18 [] [] [] [.cell 6 27] hr zBq Tryz.func108
 intro Φ hΦ hF g
 unfold zhO at hF
 refine wW ?_
 refine wX zyq follows ?_
 refine wC hF [.sh, .sh, .sh] zcn (fun z1 hF => ?_)
 refine wC hF [.sh, .sh, .sh] zcn (fun z2 hF => ?_)
 refine wK [6] ?_
 exact wm hΦ hF
@[go_sem] def zBe : List DE := [d0 0 [7], d2 1 [3] 3 3, d0 2 [9], d0 3 [2], d0 4 [8], d0 5 [20, 21], d0 6 [22], d1 9 [3] 3, d2 10 [26] 3 26, d3 7 [18, 19, 23], d0 8 [17, 24], d0 11 [25, 27], d0 12 [28]]
def zcV (a0 : Group) (a1 : List Int) (a2 : List Int) : Option Int :=
 ((zap (σ := Int) (fun i5 s4 =>
 (ix a1 i5).bind fun x11 =>
 (ix a2 i5).bind fun x12 =>
 (zaQ a0 x11 x12).bind fun z13 =>
 gd (a0.P ≠ 0) <|
 some (.go ((i64.wrap (s4 * z13)).tmod a0.P))) (fun s4 => s4) (a1.length) 0 1 : Option Int).bind fun x3 =>
 some x3)
theorem zi0 : ∀ {a0} {a1} {a2} {r}, zcV a0 a1 a2 = some r → PCalls Tryz.prog 80 [(.sh, vE a0), (.sh, vC a1), (.sh, vC a2)] (Eo (.int .i64 r) [.junk, .junk, .junk]) := by
 intro a0 a1 a2 r hr
 apply pF 31 [] [] [] [.tmp 6] hr zFx Tryz.func80
 intro Φ hΦ hF g
 unfold zcV at hF
 iterate 3 (try simp [go_sem, g]; try intros; refine zas ?_)
 refine wJ hF (fun x3 => [(7, .v (.int .i64 x3))]) (fun x3 hF => ?_) fun _ hj1 hF => ?_
 ·exact wl hΦ hF
 refine wB ?_
 obtain ⟨b14, hb15, hψ8⟩ := hF
 refine pR hb15 (fun i5 s4 => [(2, .v (vC a2)), (3, .bl [.int .i64 a0.P, .int .i64 a0.Q, .int .i64 a0.G]), (7, .v (.int .i64 s4)), (10, .v (vC a1)), (11, .v (.int .i64 (a1.length : Int))), (12, .v (.int .i64 i5))]) (fun s4 _ hN16 => ?_) (fun i5 s4 _ _ hi9 hi10 ho6 hg7 hF => ?_)
 ·exact wn hN16 (hj1 _) hψ8
 refine wW ?_
 refine wu hi9 hi10 ?_
 refine wW ?_
 refine wB ?_
 obtain ⟨x11, g, hF⟩ := Rx g hF
 refine wK [2, 3, 7, 8, 9, 10, 11, 12] ?_
 refine wX zBe follows ?_
 obtain ⟨x12, g, hF⟩ := Rx g hF
 refine wC hF [.sh, .sh, .sh] zcn (fun z13 hF => ?_)
 obtain ⟨g, hF⟩ := Rz g hF
 refine wK [2, 3, 7, 10, 11, 12] ?_
 exact wi hi9 hi10 (hg7 _) (zaa hF)
def zbX (a0 : Group) (a1 : (List (List Int))) (a2 : List Int) : Option ((List Int)) :=
 ((zap (σ := (List Int)) (fun i5 s4 =>
 (ix a1 i5).bind fun x11 =>
 (zcV a0 x11 a2).bind fun z12 =>
 gd ((s4.length + 1) * 8 ≤ 140737488355328 ∧ s4.length + 1 ≤ 4611686018427387904) <|
 some (.go (s4 ++ [z12]))) (fun s4 => s4) (a1.length) 0 [] : Option ((List Int))).bind fun x3 =>
 some x3)
theorem zjW : ∀ {a0} {a1} {a2} {r}, zbX a0 a1 a2 = some r → PCalls Tryz.prog 88 [(.sh, vE a0), (.sh, vG a1), (.sh, vC a2)] (Eo (vD r) [.junk, .junk, .junk]) := by
 intro a0 a1 a2 r hr
 apply pF 25 [] [] [] [.tmp 6] hr zDO Tryz.func88
 intro Φ hΦ hF g
 unfold zbX at hF
 iterate 3 (try simp [go_sem, g]; try intros; refine zas ?_)
 refine wJ hF (fun x3 => [(7, .v (vD x3))]) (fun x3 hF => ?_) fun _ hj1 hF => ?_
 ·exact wl hΦ hF
 refine wB ?_
 obtain ⟨b13, hb14, hψ8⟩ := hF
 refine pR hb14 (fun i5 s4 => [(2, .v (vC a2)), (3, .bl [.int .i64 a0.P, .int .i64 a0.Q, .int .i64 a0.G]), (7, .v (vD s4)), (10, .v (vG a1)), (11, .v (.int .i64 (a1.length : Int))), (12, .v (.int .i64 i5))]) (fun s4 _ hN15 => ?_) (fun i5 s4 _ _ hi9 hi10 ho6 hg7 hF => ?_)
 ·exact wn hN15 (hj1 _) hψ8
 refine wW ?_
 refine wu hi9 hi10 ?_
 refine wW ?_
 refine wB ?_
 obtain ⟨x11, g, hF⟩ := Rx g hF
 refine wK [2, 3, 7, 9, 10, 11, 12] ?_
 refine wC hF [.sh, .sh, .sh] zi0 (fun z12 hF => ?_)
 obtain ⟨g, hF⟩ := Rg g hF
 refine wW ?_
 exact wi hi9 hi10 (hg7 _) (zaa hF)
def zdp (a0 : (List (List Int))) (a1 : List Int) (a2 : List Int) : Option ((List Int)) :=
 ((zap (σ := (List Int)) (fun i5 s4 =>
 (ix a0 i5).bind fun x11 =>
 gd ((s4.length + x11.length) * 8 ≤ 140737488355328 ∧ s4.length + x11.length ≤ 4611686018427387904) <|
 some (.go (s4 ++ x11))) (fun s4 => s4) (a0.length) 0 [] : Option ((List Int))).bind fun x3 =>
 gd ((x3.length + a1.length) * 8 ≤ 140737488355328 ∧ x3.length + a1.length ≤ 4611686018427387904) <|
 gd (((x3 ++ a1).length + a2.length) * 8 ≤ 140737488355328 ∧ (x3 ++ a1).length + a2.length ≤ 4611686018427387904) <|
 some (x3 ++ a1 ++ a2))
theorem zic : ∀ {a0} {a1} {a2} {r}, zdp a0 a1 a2 = some r → PCalls Tryz.prog 90 [(.sh, vG a0), (.sh, vC a1), (.sh, vC a2)] (Eo (vD r) [.junk, .junk, .junk]) := by
 intro a0 a1 a2 r hr
 apply pF 25 [] [] [] [.tmp 6] hr zG5 Tryz.func90
 intro Φ hΦ hF g
 unfold zdp at hF
 iterate 3 (try simp [go_sem, g]; try intros; refine zas ?_)
 refine wJ hF (fun x3 => [(1, .v (vC a1)), (2, .v (vC a2)), (7, .v (vD x3))]) (fun x3 hF => ?_) fun _ hj1 hF => ?_
 ·obtain ⟨g, hF⟩ := Rg g hF
  obtain ⟨g, hF⟩ := Rg g hF
  refine wK [6] ?_
  exact wm hΦ hF
 refine wB ?_
 obtain ⟨b12, hb13, hψ8⟩ := hF
 refine pR hb13 (fun i5 s4 => [(1, .v (vC a1)), (2, .v (vC a2)), (7, .v (vD s4)), (10, .v (vG a0)), (11, .v (.int .i64 (a0.length : Int))), (12, .v (.int .i64 i5))]) (fun s4 _ hN14 => ?_) (fun i5 s4 _ _ hi9 hi10 ho6 hg7 hF => ?_)
 ·exact wn hN14 (hj1 _) hψ8
 refine wW ?_
 refine wu hi9 hi10 ?_
 refine wW ?_
 refine wB ?_
 obtain ⟨x11, g, hF⟩ := Rx g hF
 obtain ⟨g, hF⟩ := Rg g hF
 refine wW ?_
 refine wK [1, 2, 7, 10, 11, 12] ?_
 exact wi hi9 hi10 (hg7 _) (zaa hF)
def zfK (a0 : ByteArray) (a1 : List Int) : Option ((List Int)) :=
 ((zbO (σ := (List Int) × Int) (fun s4 =>
 if decide (s4.2 < (a0.size : Int)) = true then (
 (ixs a0 s4.2).bind fun x10 =>
 gd ((s4.1.length + 1) * 8 ≤ 140737488355328 ∧ s4.1.length + 1 ≤ 4611686018427387904) <|
 some (.go (s4.1 ++ [i64.wrap x10], i64.wrap (s4.2 + 1)))) else (
 some (.out s4.1))) ([(a0.size : Int)], 0) : Option ((List Int))).bind fun x3 =>
 gd ((x3.length + a1.length) * 8 ≤ 140737488355328 ∧ x3.length + a1.length ≤ 4611686018427387904) <|
 some (x3 ++ a1))
theorem zo9 : ∀ {a0} {a1} {r}, zfK a0 a1 = some r → PCalls Tryz.prog 152 [(.sh, .str a0), (.sh, vC a1)] (Eo (vD r) [.junk, .junk]) := by
 intro a0 a1 r hr
 apply pF 26 [] [] [] [.tmp 4] hr zBA Tryz.func152
 intro Φ hΦ hF g
 unfold zfK at hF
 iterate 3 refine wW ?_
 refine wJ hF (fun x3 => [(1, .v (vC a1)), (5, .v (vD x3))]) (fun x3 hF => ?_) fun _ hj1 hF => ?_
 ·obtain ⟨g, hF⟩ := Rg g hF
  refine wK [4] ?_
  exact wm hΦ hF
 refine wB ?_
 obtain ⟨b11, hb12, hψ8⟩ := hF
 refine pL hb12 (fun s4 => [(0, .v (.str a0)), (1, .v (vC a1)), (5, .v (vD s4.1)), (6, .v (.int .i64 s4.2))]) (fun s4 _ _ ho6 hg7 hF => ?_)
 refine wK [0, 1, 5, 6, 13] ?_
 refine wI hF (fun h9 hF => ?_) (fun h9 hF => ?_)
 ·refine wW ?_
  refine wB ?_
  obtain ⟨x10, g, hF⟩ := Rxs g hF
  obtain ⟨g, hF⟩ := Rg g hF
  refine wW ?_
  exact wT (hg7 _) (zaa hF)
 cases ho6 _ (zaa hF)
 exact wT (hj1 _) hψ8
def zbw (a0c0 : Int) (a0c1 : Int) (a1 : Int) : Option ((Int × Int)) :=
 (some [a1.tmod 2147483648, i64.wrap (a1.tdiv 2147483648)]).bind fun x1 =>
 zbO (σ := (Int × Int) × Int) (fun s10 =>
 if decide (s10.2 < (x1.length : Int)) = true then (
 (ix x1 s10.2).bind fun x16 =>
 some (.go (((i64.wrap ((i64.wrap ((i64.wrap (48271 * s10.1.1)) + x16)) + 1)).tmod 2147483647, (i64.wrap ((i64.wrap ((i64.wrap (69621 * s10.1.2)) + x16)) + 1)).tmod 2147483647), i64.wrap (s10.2 + 1)))) else (
 some (.out (s10.1.1, s10.1.2)))) ((a0c0, a0c1), 0)
theorem zfI : ∀ {a0c0} {a0c1} {a1} {r}, zbw a0c0 a0c1 a1 = some r → PCalls Tryz.prog 158 [(.io, vS a0c0 a0c1), (.sh, .int .i64 a1)] (Eo (.junk) [vS r.1 r.2, .junk]) := by
 intro a0c0 a0c1 a1 r hr
 apply pF 41 [0] [] [] [] hr zAa Tryz.func158
 intro Φ hΦ hF g
 unfold zbw at hF
 have g := Ld g 2147483648
 obtain ⟨x1, e2, hF⟩ := zfR hF
 have g := And.intro g (show [[.int .i64 (a1.tmod 2147483648)], [.int .i64 (i64.wrap (a1.tdiv 2147483648))]] = x1.map zag by injection e2 with e2; rw [← e2]; simp [go_sem])
 try simp [go_sem, g]
 try intros
 refine zas ?_
 refine wB ?_
 obtain ⟨b17, hb18, hψ14⟩ := hF
 refine pL hb18 (fun s10 => [(0, .v (vS s10.1.1 s10.1.2)), (10, .v (vD x1)), (11, .v (.int .i64 (x1.length : Int))), (12, .v (.int .i64 s10.2))]) (fun s10 _ _ ho12 hg13 hF => ?_)
 refine wW ?_
 refine wI hF (fun h15 hF => ?_) (fun h15 hF => ?_)
 ·refine wW ?_
  refine wB ?_
  obtain ⟨x16, g, hF⟩ := Rx g hF
  refine wK [0, 5, 10, 11, 12] ?_
  have g := Ld g 2147483647
  refine wK [0, 5, 10, 11, 12] ?_
  refine wK [0, 10, 11, 12] ?_
  exact wT (hg13 _) (zaa hF)
 cases ho12 _ (zaa hF)
 cases hΦ _ hψ14
 try simp [go_sem, g]
@[go_sem] def zzr : List DE := [d0 0 [3], d0 1 [22], d0 2 [23], d0 3 [24], d0 4 [25], d0 5 [3], d0 6 [27], d0 7 [28], d0 8 [29], d0 9 [26, 30], d0 10 [31]]
def zf3 (a0 : List Int) : Option Int :=
 (zbw 1 2 (a0.length : Int)).bind fun z1 =>
 ((zap (σ := (Int × Int)) (fun i15 s14 =>
 (ix a0 i15).bind fun x21 =>
 (zbw s14.1 s14.2 x21).bind fun z22 =>
 some (.go (z22.1, z22.2))) (fun s14 => (s14.1, s14.2)) (a0.length) 0 (z1.1, z1.2) : Option ((Int × Int))).bind fun x4 =>
 some (i64.wrap ((i64.wrap (x4.1 * 2147483648)) + x4.2)))
theorem zqO : ∀ {a0} {r}, zf3 a0 = some r → PCalls Tryz.prog 151 [(.sh, vC a0)] (Eo (.int .i64 r) [.junk]) := by
 intro a0 r hr
 apply pF 32 [] [] [7] [.tmp 2] hr zB7 Tryz.func151
 intro Φ hΦ hF g
 unfold zf3 at hF
 iterate 2 (try simp [go_sem, g]; try intros; refine zas ?_)
 try simp [go_sem, g]
 try intros
 refine wC hF [.io, .sh] zfI (fun z1 hF => ?_)
 try simp [go_sem, g]
 try intros
 refine zas ?_
 try simp [go_sem, g]
 try intros
 refine wK [3, 12, 13, 14] ?_
 refine wJ hF (fun x4 => [(3, .v (vS x4.1 x4.2))]) (fun x4 hF => ?_) fun _ hj2 hF => ?_
 ·refine wX zzr follows ?_
  refine wK [2] ?_
  exact wm hΦ hF
 refine wB ?_
 obtain ⟨b23, hb24, hψ18⟩ := hF
 refine pR hb24 (fun i15 s14 => [(3, .v (vS s14.1 s14.2)), (12, .v (vC a0)), (13, .v (.int .i64 (a0.length : Int))), (14, .v (.int .i64 i15))]) (fun s14 _ hN25 => ?_) (fun i15 s14 _ _ hi19 hi20 ho16 hg17 hF => ?_)
 ·exact wn hN25 (hj2 _) hψ18
 refine wW ?_
 refine wu hi19 hi20 ?_
 refine wW ?_
 refine wB ?_
 obtain ⟨x21, g, hF⟩ := Rx g hF
 refine wW ?_
 refine wC hF [.io, .sh] zfI (fun z22 hF => ?_)
 refine wW ?_
 exact wi hi19 hi20 (hg17 _) (zaa hF)
def zeI (a0 : ByteArray) (a1 : List Int) : Option Int :=
 (zfK a0 a1).bind fun z1 =>
 (zf3 z1).bind fun z2 =>
 some z2
theorem zmP : ∀ {a0} {a1} {r}, zeI a0 a1 = some r → PCalls Tryz.prog 128 [(.sh, .str a0), (.sh, vC a1)] (Eo (.int .i64 r) [.junk, .junk]) := by
 intro a0 a1 r hr
 apply pF 9 [] [] [] [.tmp 4] hr zzU Tryz.func128
 intro Φ hΦ hF g
 unfold zeI at hF
 refine wW ?_
 refine wC hF [.sh, .sh] zo9 (fun z1 hF => ?_)
 refine wC hF [.sh] zqO (fun z2 hF => ?_)
 exact wl hΦ hF
@[go_sem] def zBr : List DE := [d0 0 [1], d1 1 [3] 3, d2 2 [8] 3 8, d1 3 [3] 3, d2 4 [10] 3 10, d1 5 [3] 3, d2 6 [12] 3 12, d0 7 [9, 11, 13], d0 8 [2], d1 11 [3] 3, d2 12 [18] 3 18, ⟨9, [14, 15], [], none, true, false, false⟩, d3 10 [7, 16], d0 13 [17, 19], d0 14 [20]]
def zcD (a0 : Group) (a1 : ByteArray) (a2 : List Int) : Option Int :=
 gd (([a0.P, a0.Q, a0.G].length + a2.length) * 8 ≤ 140737488355328 ∧ [a0.P, a0.Q, a0.G].length + a2.length ≤ 4611686018427387904) <|
 (zeI a1 ([a0.P, a0.Q, a0.G] ++ a2)).bind fun z1 =>
 gd (a0.Q ≠ 0) <|
 some (z1.tmod a0.Q)
theorem zib : ∀ {a0} {a1} {a2} {r}, zcD a0 a1 a2 = some r → PCalls Tryz.prog 89 [(.sh, vE a0), (.sh, .str a1), (.sh, vC a2)] (Eo (.int .i64 r) [.junk, .junk, .junk]) := by
 intro a0 a1 a2 r hr
 apply pF 21 [] [] [] [.tmp 6] hr zD5 Tryz.func89
 intro Φ hΦ hF g
 unfold zcD at hF
 refine wW ?_
 refine wX zBr follows ?_
 obtain ⟨g, hF⟩ := Rg g hF
 refine wC hF [.sh, .sh] zmP (fun z1 hF => ?_)
 obtain ⟨g, hF⟩ := Rz g hF
 refine wK [6] ?_
 exact wm hΦ hF
@[go_sem] def zBy : List DE := [d2 0 [5] 5 5, d0 1 [1], d0 2 [2], d2 3 [5] 5 5, d0 4 [2], d0 5 [3], d1 7 [11] 11, d2 8 [27] 11 27, d3 6 [23, 24, 25], d3 9 [22, 26, 28], d3 10 [20, 21, 29], d0 11 [30]]
@[go_sem] def zBX : List DE := [d1 0 [11] 11, d2 1 [41] 11 41, d0 2 [4], d0 3 [13], d0 4 [43, 44], d0 5 [45], d0 6 [12], d0 7 [14], d0 8 [47, 48], d0 9 [46, 49], d1 10 [5] 5, d2 11 [51] 5 51, d0 12 [50, 52], d0 13 [53], ⟨14, [42, 54], [], none, true, false, false⟩, d1 15 [11] 11, d2 16 [56, 55] 11 56]
def zcm (a0 : Group) (a1 : ByteArray) (a2 : (List (List Int))) (a3 : List Int) (a4 : List Int) : Option Proof :=
 (zbX a0 a2 a4).bind fun z1 =>
 (zbX a0 a2 a3).bind fun z2 =>
 (zdp a2 z2 z1).bind fun z3 =>
 (zcD a0 a1 z3).bind fun z4 =>
 ((zap (σ := (List Int) × List Int × List Int) (fun i18 s17 =>
 (ix a3 i18).bind fun x24 =>
 (ix a4 i18).bind fun x25 =>
 gd (a0.Q ≠ 0) <|
 gd ((s17.2.2.length + 1) * 8 ≤ 140737488355328 ∧ s17.2.2.length + 1 ≤ 4611686018427387904) <|
 some (.go (s17.1, s17.2.1, s17.2.2 ++ [(i64.wrap (x25 + (i64.wrap (z4 * x24)))).tmod a0.Q]))) (fun s17 => (s17.1, s17.2.1, s17.2.2)) (a3.length) 0 (z1, [z4], []) : Option ((List Int × List Int × List Int))).bind fun x7 =>
 some (Proof.mk x7.1 x7.2.1 x7.2.2))
theorem zfF : ∀ {a0} {a1} {a2} {a3} {a4} {r}, zcm a0 a1 a2 a3 a4 = some r → PCalls Tryz.prog 42 [(.sh, vE a0), (.sh, .str a1), (.sh, vG a2), (.sh, vC a3), (.sh, vC a4)] (Eo (vT r) [.junk, .junk, .junk, .junk, .junk]) := by
 intro a0 a1 a2 a3 a4 r hr
 apply pF 59 [] [] [] [.cell 10 37] hr zEK Tryz.func42
 intro Φ hΦ hF g
 unfold zcm at hF
 refine wW ?_
 refine wC hF [.sh, .sh, .sh] zjW (fun z1 hF => ?_)
 refine wW ?_
 refine wX zBy follows ?_
 refine wC hF [.sh, .sh, .sh] zjW (fun z2 hF => ?_)
 refine wC hF [.sh, .sh, .sh] zic (fun z3 hF => ?_)
 refine wC hF [.sh, .sh, .sh] zib (fun z4 hF => ?_)
 refine wK [3, 4, 5, 10, 11, 12] ?_
 iterate 2 (try simp [go_sem, g]; try intros; refine zas ?_)
 refine wJ hF (fun x7 => [(10, .bl [.sl true 1 [], .sl true 1 [], .sl true 1 []]), (11, .bl [vD x7.1, vD x7.2.1, vD x7.2.2])]) (fun x7 hF => ?_) fun _ hj5 hF => ?_
 ·exact wl hΦ hF
 refine wB ?_
 obtain ⟨b26, hb27, hψ21⟩ := hF
 refine pR hb27 (fun i18 s17 => [(4, .v (vC a4)), (5, .bl [.int .i64 a0.P, .int .i64 a0.Q, .int .i64 a0.G]), (10, .bl [.sl true 1 [], .sl true 1 [], .sl true 1 []]), (11, .bl [vD s17.1, vD s17.2.1, vD s17.2.2]), (12, .v (.int .i64 z4)), (34, .v (vC a3)), (35, .v (.int .i64 (a3.length : Int))), (36, .v (.int .i64 i18))]) (fun s17 _ hN28 => ?_) (fun i18 s17 _ _ hi22 hi23 ho19 hg20 hF => ?_)
 ·exact wn hN28 (hj5 _) hψ21
 refine wW ?_
 refine wu hi22 hi23 ?_
 refine wW ?_
 refine wB ?_
 obtain ⟨x24, g, hF⟩ := Rx g hF
 refine wK [4, 5, 10, 11, 12, 13, 14, 34, 35, 36] ?_
 refine wX zBX follows ?_
 obtain ⟨x25, g, hF⟩ := Rx g hF
 obtain ⟨g, hF⟩ := Rz g hF
 obtain ⟨g, hF⟩ := Rg g hF
 refine wK [4, 5, 10, 11, 12, 34, 35, 36] ?_
 exact wi hi22 hi23 (hg20 _) (zaa hF)
@[go_sem] def zAy : List DE := [d0 0 [2], d2 1 [5] 5 5, d2 2 [6] 6 6, d0 3 [3], d2 5 [5] 5 5, d1 6 [6] 6, d2 7 [17] 6 17, d0 8 [18], d1 9 [6] 6, d2 10 [20] 6 20, d0 11 [21], d0 13 [3], d0 14 [24], d0 15 [4], d0 16 [26], d3 4 [12, 13, 14], ⟨12, [19, 22], [], none, true, true, false⟩, ⟨17, [16, 23, 25, 27], [], none, true, true, true⟩, d0 18 [11, 15, 28], d2 19 [10, 29] 10 10]
@[go_sem] def zxj : List DE := [d0 0 [2], d2 1 [5] 5 5, d2 2 [6] 6 6, d0 3 [3], d2 5 [5] 5 5, d1 6 [6] 6, d2 7 [17] 6 17, d0 8 [18], d1 9 [6] 6, d2 10 [20] 6 20, d0 11 [21], d0 13 [3], d0 14 [24], d0 15 [4], d0 16 [26], ⟨12, [19, 22], [], none, true, true, false⟩, d3 4 [12, 13, 14], ⟨17, [16, 23, 25, 27], [], none, true, true, true⟩, d0 18 [11, 15, 28], d2 19 [10, 29] 10 10]
def zgJ (a0 : Group) (a1 : Cipher) (a2 : Int) (a3 : Int) (a4 : Int) : Option Blind :=
 (zhO a0 a1 a3).bind fun z1 =>
 (zcm a0 (⟨#[98, 108, 105, 110, 100]⟩ : ByteArray) [[a1.A], [a1.B]] [a3] [a4]).bind fun z2 =>
 some (Blind.mk a2 z1 z2)
theorem zo5 : ∀ {a0} {a1} {a2} {a3} {a4} {r}, zgJ a0 a1 a2 a3 a4 = some r → PCalls Tryz.prog 61 [(.sh, vE a0), (.sh, vQ a1), (.sh, .int .i64 a2), (.sh, .int .i64 a3), (.sh, .int .i64 a4)] (Eo (vU r) [.junk, .junk, .junk, .junk, .junk]) := by
 intro a0 a1 a2 a3 a4 r hr
 apply pF 30 [] [] [] [.cell 10 101] hr zFk Tryz.func61
 intro Φ hΦ hF g
 unfold zgJ at hF
 refine wW ?_
 repeat rw [sq]
 refine zkg 4 12 zAy zxj follows (by decide) (by kernel_rfl) (by kernel_rfl) rfl rfl ?_ ?_
 ·refine wC hF [.sh, .sh, .sh] zl5 (fun z1 hF => ?_)
  refine wC hF [.sh, .sh, .sh, .sh, .sh] zfF (fun z2 hF => ?_)
  refine wK [10] ?_
  exact wm hΦ hF
 refine wC hF [.sh, .sh, .sh] zl5 (fun z1 hF => ?_)
 refine wC hF [.sh, .sh, .sh, .sh, .sh] zfF (fun z2 hF => ?_)
 refine wK [10] ?_
 exact wm hΦ hF
def zaS (a0c0 : List Int) (a0c1 : Int) (a0c2 : Int) (a1 : Group) : Option (Int × (List Int × Int × Int)) :=
 (za0 a0c0 a0c1 a0c2 20).bind fun z1 =>
 if z1.1 = true then (
 (zam z1.2.1 z1.2.2.1 z1.2.2.2 [0, 1, i64.wrap (a1.P - 1), a1.P, (-1), 5]).bind fun z3 =>
 some (z3.1, (z3.2.1, z3.2.2.1, z3.2.2.2))) else (
 (zay z1.2.1 z1.2.2.1 z1.2.2.2 a1).bind fun z4 =>
 some (z4.1, (z4.2.1, z4.2.2.1, z4.2.2.2)))
theorem zcq : ∀ {a0c0} {a0c1} {a0c2} {a1} {r}, zaS a0c0 a0c1 a0c2 a1 = some r → PCalls Tryz.prog 34 [(.io, vB a0c0 a0c1 a0c2), (.sh, vE a1)] (Eo (.int .i64 r.1) [vB r.2.1 r.2.2.1 r.2.2.2, .junk]) := by
 intro a0c0 a0c1 a0c2 a1 r hr
 apply pF 18 [0] [] [] [.tmp 4] hr zEv Tryz.func34
 intro Φ hΦ hF g
 unfold zaS at hF
 refine wW ?_
 refine wC hF [.io, .sh] zcb (fun z1 hF => ?_)
 refine wW ?_
 refine wI hF (fun h2 hF => ?_) (fun h2 hF => ?_)
 ·refine wC hF [.io, .mv] zak (fun z3 hF => ?_)
  refine wK [0, 4] ?_
  exact wm hΦ hF
 refine wW ?_
 refine wC hF [.io, .sh] zaC (fun z4 hF => ?_)
 exact wl hΦ hF
@[go_sem] def zz1 : List DE := [d1 0 [5] 5, d2 1 [9] 5 9, d1 3 [5] 5, d2 4 [12] 5 12, d1 6 [5] 5, d2 7 [15] 5 15, d3 2 [10], d3 5 [13], d3 8 [16], d0 9 [11, 14, 17], d2 10 [5, 18] 5 5]
@[go_sem] def zCg : List DE := [d1 0 [5] 5, d2 1 [23] 5 23, d1 2 [5] 5, d2 3 [25] 5 25, d1 4 [5] 5, d2 5 [27] 5 27, d0 6 [24, 26, 28], d0 7 [0], d3 8 [30], ⟨9, [29, 31], [], none, true, true, false⟩, d0 10 [32], d0 11 [33]]
@[go_sem] def zoo : List DE := [d0 0 [7], d0 1 [8], d0 2 [0], d0 3 [0], d2 4 [4] 4 4, d0 6 [0], d2 7 [4] 4 4, d1 9 [4] 4, d2 10 [50] 4 50, d0 11 [7], d0 12 [8], d0 13 [52, 53], d0 14 [54], d0 15 [55], d3 5 [44, 45], d3 8 [47, 48], d0 16 [46, 49, 51, 56], ⟨17, [43, 57], [], none, true, true, true⟩, d0 18 [41, 42], d0 19 [59, 58]]
@[go_sem] def znM : List DE := [d0 0 [7], d0 1 [8], d0 2 [0], d0 3 [0], d2 4 [4] 4 4, d0 6 [0], d2 7 [4] 4 4, d1 9 [4] 4, d2 10 [50] 4 50, d0 11 [7], d0 12 [8], d0 13 [52, 53], d3 5 [44, 45], d0 14 [54], d0 15 [55], d3 8 [47, 48], d0 16 [46, 49, 51, 56], ⟨17, [43, 57], [], none, true, true, true⟩, d0 18 [41, 42], d0 19 [59, 58]]
@[go_sem] def znP : List DE := [d0 0 [7], d0 1 [8], d0 2 [0], d0 3 [0], d2 4 [4] 4 4, d0 6 [0], d2 7 [4] 4 4, d1 9 [4] 4, d2 10 [50] 4 50, d0 11 [7], d0 12 [8], d0 13 [52, 53], d3 5 [44, 45], d3 8 [47, 48], d0 14 [54], d0 15 [55], d0 16 [46, 49, 51, 56], ⟨17, [43, 57], [], none, true, true, true⟩, d0 18 [41, 42], d0 19 [59, 58]]
def zcW (a0c0 : List Int) (a0c1 : Int) (a0c2 : Int) (a1 : Group) (a2 : Proof) : Option (Proof × (List Int × Int × Int)) :=
 (zcP a2.Commits).bind fun z1 =>
 (zcP a2.Challenges).bind fun z2 =>
 (zcP a2.Responses).bind fun z3 =>
 (za0 a0c0 a0c1 a0c2 3).bind fun z4 =>
 if (!z4.1) = true then (
 some ((Proof.mk z1 z2 z3), (z4.2.1, z4.2.2.1, z4.2.2.2))) else (
 (zai z4.2.1 z4.2.2.1 z4.2.2.2 3).bind fun z6 =>
 if (z6.1 == 0) = true then (
 ((if decide (0 < (z1.length : Int)) = true then (
 (zai z6.2.1 z6.2.2.1 z6.2.2.2 (z1.length : Int)).bind fun z11 =>
 (ix z1 z11.1).bind fun x12 =>
 (zaB z11.2.1 z11.2.2.1 z11.2.2.2 a1).bind fun z13 =>
 (zay z13.2.1 z13.2.2.1 z13.2.2.2 a1).bind fun z14 =>
 (zam z14.2.1 z14.2.2.1 z14.2.2.2 [z13.1, z14.1, (-1), a1.Q, i64.wrap (x12 + 1)]).bind fun z15 =>
 some ((z15.2.1, z15.2.2.1, z15.2.2.2), z1.set z11.1.toNat z15.1, z2, z3)) else (
 some ((z6.2.1, z6.2.2.1, z6.2.2.2), z1, z2, z3)) : Option (((List Int × Int × Int) × List Int × List Int × List Int))).bind fun x9 =>
 (zai x9.1.1 x9.1.2.1 x9.1.2.2 10).bind fun z16 =>
 ((if (z16.1 == 0) = true then (
 gd ((x9.2.1.length + 1) * 8 ≤ 140737488355328 ∧ x9.2.1.length + 1 ≤ 4611686018427387904) <|
 some (x9.2.1 ++ [1], x9.2.2.1, x9.2.2.2)) else (
 if (z16.1 == 1) = true then (
 some (x9.2.1, x9.2.2.1, [])) else (
 if (z16.1 == 2) = true then (
 gd ((x9.2.2.1.length + 1) * 8 ≤ 140737488355328 ∧ x9.2.2.1.length + 1 ≤ 4611686018427387904) <|
 some (x9.2.1, x9.2.2.1 ++ [0], x9.2.2.2)) else (
 some (x9.2.1, x9.2.2.1, x9.2.2.2)))) : Option ((List Int × List Int × List Int))).bind fun x19 =>
 some ((Proof.mk x19.1 x19.2.1 x19.2.2), (z16.2.1, z16.2.2.1, z16.2.2.2))))) else (
 if (z6.1 == 1) = true then (
 ((if decide (0 < (z2.length : Int)) = true then (
 (zai z6.2.1 z6.2.2.1 z6.2.2.2 (z2.length : Int)).bind fun z27 =>
 (ix z2 z27.1).bind fun x28 =>
 (zaB z27.2.1 z27.2.2.1 z27.2.2.2 a1).bind fun z29 =>
 (zay z29.2.1 z29.2.2.1 z29.2.2.2 a1).bind fun z30 =>
 (zam z30.2.1 z30.2.2.1 z30.2.2.2 [z29.1, z30.1, (-1), a1.Q, i64.wrap (x28 + 1)]).bind fun z31 =>
 some ((z31.2.1, z31.2.2.1, z31.2.2.2), z1, z2.set z27.1.toNat z31.1, z3)) else (
 some ((z6.2.1, z6.2.2.1, z6.2.2.2), z1, z2, z3)) : Option (((List Int × Int × Int) × List Int × List Int × List Int))).bind fun x25 =>
 (zai x25.1.1 x25.1.2.1 x25.1.2.2 10).bind fun z32 =>
 ((if (z32.1 == 0) = true then (
 gd ((x25.2.1.length + 1) * 8 ≤ 140737488355328 ∧ x25.2.1.length + 1 ≤ 4611686018427387904) <|
 some (x25.2.1 ++ [1], x25.2.2.1, x25.2.2.2)) else (
 if (z32.1 == 1) = true then (
 some (x25.2.1, x25.2.2.1, [])) else (
 if (z32.1 == 2) = true then (
 gd ((x25.2.2.1.length + 1) * 8 ≤ 140737488355328 ∧ x25.2.2.1.length + 1 ≤ 4611686018427387904) <|
 some (x25.2.1, x25.2.2.1 ++ [0], x25.2.2.2)) else (
 some (x25.2.1, x25.2.2.1, x25.2.2.2)))) : Option ((List Int × List Int × List Int))).bind fun x35 =>
 some ((Proof.mk x35.1 x35.2.1 x35.2.2), (z32.2.1, z32.2.2.1, z32.2.2.2))))) else (
 if (z6.1 == 2) = true then (
 ((if decide (0 < (z3.length : Int)) = true then (
 (zai z6.2.1 z6.2.2.1 z6.2.2.2 (z3.length : Int)).bind fun z43 =>
 (ix z3 z43.1).bind fun x44 =>
 (zaB z43.2.1 z43.2.2.1 z43.2.2.2 a1).bind fun z45 =>
 (zay z45.2.1 z45.2.2.1 z45.2.2.2 a1).bind fun z46 =>
 (zam z46.2.1 z46.2.2.1 z46.2.2.2 [z45.1, z46.1, (-1), a1.Q, i64.wrap (x44 + 1)]).bind fun z47 =>
 some ((z47.2.1, z47.2.2.1, z47.2.2.2), z1, z2, z3.set z43.1.toNat z47.1)) else (
 some ((z6.2.1, z6.2.2.1, z6.2.2.2), z1, z2, z3)) : Option (((List Int × Int × Int) × List Int × List Int × List Int))).bind fun x41 =>
 (zai x41.1.1 x41.1.2.1 x41.1.2.2 10).bind fun z48 =>
 ((if (z48.1 == 0) = true then (
 gd ((x41.2.1.length + 1) * 8 ≤ 140737488355328 ∧ x41.2.1.length + 1 ≤ 4611686018427387904) <|
 some (x41.2.1 ++ [1], x41.2.2.1, x41.2.2.2)) else (
 if (z48.1 == 1) = true then (
 some (x41.2.1, x41.2.2.1, [])) else (
 if (z48.1 == 2) = true then (
 gd ((x41.2.2.1.length + 1) * 8 ≤ 140737488355328 ∧ x41.2.2.1.length + 1 ≤ 4611686018427387904) <|
 some (x41.2.1, x41.2.2.1 ++ [0], x41.2.2.2)) else (
 some (x41.2.1, x41.2.2.1, x41.2.2.2)))) : Option ((List Int × List Int × List Int))).bind fun x51 =>
 some ((Proof.mk x51.1 x51.2.1 x51.2.2), (z48.2.1, z48.2.2.1, z48.2.2.2))))) else (
 none))))
set_option maxHeartbeats 1000000 in
theorem zjG : ∀ {a0c0} {a0c1} {a0c2} {a1} {a2} {r}, zcW a0c0 a0c1 a0c2 a1 a2 = some r → PCalls Tryz.prog 62 [(.io, vB a0c0 a0c1 a0c2), (.sh, vE a1), (.sh, vV a2)] (Eo (vT r.1) [vB r.2.1 r.2.2.1 r.2.2.2, .junk, .junk]) := by
 intro a0c0 a0c1 a0c2 a1 a2 r hr
 apply pF 80 [0] [167, 189] [] [.cell 6 37] hr zDA Tryz.func62
 intro Φ hΦ hF g
 unfold zcW at hF
 refine wW ?_
 refine wX zz1 follows ?_
 refine wC hF [.sh] zeD (fun z1 hF => ?_)
 refine wC hF [.sh] zeD (fun z2 hF => ?_)
 refine wC hF [.sh] zeD (fun z3 hF => ?_)
 refine wK [0, 4, 5, 6] ?_
 refine wC hF [.io, .sh] zcb (fun z4 hF => ?_)
 refine wW ?_
 refine wI hF (fun h5 hF => ?_) (fun h5 hF => ?_)
 ·exact wl hΦ hF
 refine wW ?_
 refine wX zCg follows ?_
 refine wC hF [.io, .sh] zao (fun z6 hF => ?_)
 refine pX g hF (fun g hF => ?_) fun hF => ?_
 ·refine wK [0, 4, 5, 6, 7] ?_
  try simp [go_sem, g]
  try intros
  refine zas ?_
  refine wJ hF (fun x9 => [(0, .v (vB x9.1.1 x9.1.2.1 x9.1.2.2)), (5, .bl [vD x9.2.1, vD x9.2.2.1, vD x9.2.2.2]), (6, .bl [.sl true 1 [], .sl true 1 [], .sl true 1 []])]) (fun x9 hF => ?_) fun _ hj7 hF => ?_
  ·refine wC hF [.io, .sh] zao (fun z16 hF => ?_)
   refine wW ?_
   refine wJ hF (fun x19 => [(0, .v (vB z16.2.1 z16.2.2.1 z16.2.2.2)), (5, .bl [vD x19.1, vD x19.2.1, vD x19.2.2]), (6, .bl [.sl true 1 [], .sl true 1 [], .sl true 1 []])]) (fun x19 hF => ?_) fun _ hj17 hF => ?_
   ·exact wl hΦ hF
   refine wB ?_
   refine wW ?_
   refine wI hF (fun h20 hF => ?_) (fun h20 hF => ?_)
   ·obtain ⟨g, hF⟩ := Rg g hF
    exact wT (hj17 _) (zaa hF)
   refine wW ?_
   refine wI hF (fun h21 hF => ?_) (fun h21 hF => ?_)
   ·exact wT (hj17 _) (zaa hF)
   refine wK [0, 5, 6, 72] ?_
   refine wI hF (fun h22 hF => ?_) (fun h22 hF => ?_)
   ·obtain ⟨g, hF⟩ := Rg g hF
    exact wT (hj17 _) (zaa hF)
   exact wT (hj17 _) (zaa hF)
  refine wI hF (fun h10 hF => ?_) (fun h10 hF => ?_)
  ·try simp [go_sem, g]
   try intros
   refine wC hF [.io, .sh] zao (fun z11 hF => ?_)
   refine wW ?_
   repeat rw [sq]
   refine zmQ 14 5 14 8 0 1 zoo znM znP follows (by decide) (by kernel_rfl) (by kernel_rfl) (by kernel_rfl) (by kernel_rfl) rfl rfl rfl ?_ ?_ ?_
   ·obtain ⟨x12, g, hF⟩ := Rx g hF
    refine wC hF [.io, .sh] zax (fun z13 hF => ?_)
    refine wC hF [.io, .sh] zaC (fun z14 hF => ?_)
    refine wC hF [.io, .mv] zak (fun z15 hF => ?_)
    exact wT (hj7 _) (zaa hF)
   ·obtain ⟨x12, g, hF⟩ := Rx g hF
    refine wC hF [.io, .sh] zax (fun z13 hF => ?_)
    refine wC hF [.io, .sh] zaC (fun z14 hF => ?_)
    refine wC hF [.io, .mv] zak (fun z15 hF => ?_)
    exact wT (hj7 _) (zaa hF)
   obtain ⟨x12, g, hF⟩ := Rx g hF
   refine wC hF [.io, .sh] zax (fun z13 hF => ?_)
   refine wC hF [.io, .sh] zaC (fun z14 hF => ?_)
   refine wC hF [.io, .mv] zak (fun z15 hF => ?_)
   exact wT (hj7 _) (zaa hF)
  exact wT (hj7 _) (zaa hF)
 refine pX g hF (fun g hF => ?_) fun hF => ?_
 ·refine wK [0, 4, 5, 6, 7] ?_
  try simp [go_sem, g]
  try intros
  refine zas ?_
  refine wJ hF (fun x25 => [(0, .v (vB x25.1.1 x25.1.2.1 x25.1.2.2)), (5, .bl [vD x25.2.1, vD x25.2.2.1, vD x25.2.2.2]), (6, .bl [.sl true 1 [], .sl true 1 [], .sl true 1 []])]) (fun x25 hF => ?_) fun _ hj23 hF => ?_
  ·refine wC hF [.io, .sh] zao (fun z32 hF => ?_)
   refine wW ?_
   refine wJ hF (fun x35 => [(0, .v (vB z32.2.1 z32.2.2.1 z32.2.2.2)), (5, .bl [vD x35.1, vD x35.2.1, vD x35.2.2]), (6, .bl [.sl true 1 [], .sl true 1 [], .sl true 1 []])]) (fun x35 hF => ?_) fun _ hj33 hF => ?_
   ·exact wl hΦ hF
   refine wB ?_
   refine wW ?_
   refine wI hF (fun h36 hF => ?_) (fun h36 hF => ?_)
   ·obtain ⟨g, hF⟩ := Rg g hF
    exact wT (hj33 _) (zaa hF)
   refine wW ?_
   refine wI hF (fun h37 hF => ?_) (fun h37 hF => ?_)
   ·exact wT (hj33 _) (zaa hF)
   refine wK [0, 5, 6, 72] ?_
   refine wI hF (fun h38 hF => ?_) (fun h38 hF => ?_)
   ·obtain ⟨g, hF⟩ := Rg g hF
    exact wT (hj33 _) (zaa hF)
   exact wT (hj33 _) (zaa hF)
  refine wI hF (fun h26 hF => ?_) (fun h26 hF => ?_)
  ·try simp [go_sem, g]
   try intros
   refine wC hF [.io, .sh] zao (fun z27 hF => ?_)
   refine wW ?_
   repeat rw [sq]
   refine zmQ 14 5 14 8 0 1 zoo znM znP follows (by decide) (by kernel_rfl) (by kernel_rfl) (by kernel_rfl) (by kernel_rfl) rfl rfl rfl ?_ ?_ ?_
   ·obtain ⟨x28, g, hF⟩ := Rx g hF
    refine wC hF [.io, .sh] zax (fun z29 hF => ?_)
    refine wC hF [.io, .sh] zaC (fun z30 hF => ?_)
    refine wC hF [.io, .mv] zak (fun z31 hF => ?_)
    exact wT (hj23 _) (zaa hF)
   ·obtain ⟨x28, g, hF⟩ := Rx g hF
    refine wC hF [.io, .sh] zax (fun z29 hF => ?_)
    refine wC hF [.io, .sh] zaC (fun z30 hF => ?_)
    refine wC hF [.io, .mv] zak (fun z31 hF => ?_)
    exact wT (hj23 _) (zaa hF)
   obtain ⟨x28, g, hF⟩ := Rx g hF
   refine wC hF [.io, .sh] zax (fun z29 hF => ?_)
   refine wC hF [.io, .sh] zaC (fun z30 hF => ?_)
   refine wC hF [.io, .mv] zak (fun z31 hF => ?_)
   exact wT (hj23 _) (zaa hF)
  exact wT (hj23 _) (zaa hF)
 refine pX g hF (fun g hF => ?_) fun hF => ?_
 ·refine wK [0, 4, 5, 6, 7] ?_
  try simp [go_sem, g]
  try intros
  refine zas ?_
  refine wJ hF (fun x41 => [(0, .v (vB x41.1.1 x41.1.2.1 x41.1.2.2)), (5, .bl [vD x41.2.1, vD x41.2.2.1, vD x41.2.2.2]), (6, .bl [.sl true 1 [], .sl true 1 [], .sl true 1 []])]) (fun x41 hF => ?_) fun _ hj39 hF => ?_
  ·refine wC hF [.io, .sh] zao (fun z48 hF => ?_)
   refine wW ?_
   refine wJ hF (fun x51 => [(0, .v (vB z48.2.1 z48.2.2.1 z48.2.2.2)), (5, .bl [vD x51.1, vD x51.2.1, vD x51.2.2]), (6, .bl [.sl true 1 [], .sl true 1 [], .sl true 1 []])]) (fun x51 hF => ?_) fun _ hj49 hF => ?_
   ·exact wl hΦ hF
   refine wB ?_
   refine wW ?_
   refine wI hF (fun h52 hF => ?_) (fun h52 hF => ?_)
   ·obtain ⟨g, hF⟩ := Rg g hF
    exact wT (hj49 _) (zaa hF)
   refine wW ?_
   refine wI hF (fun h53 hF => ?_) (fun h53 hF => ?_)
   ·exact wT (hj49 _) (zaa hF)
   refine wK [0, 5, 6, 72] ?_
   refine wI hF (fun h54 hF => ?_) (fun h54 hF => ?_)
   ·obtain ⟨g, hF⟩ := Rg g hF
    exact wT (hj49 _) (zaa hF)
   exact wT (hj49 _) (zaa hF)
  refine wI hF (fun h42 hF => ?_) (fun h42 hF => ?_)
  ·try simp [go_sem, g]
   try intros
   refine wC hF [.io, .sh] zao (fun z43 hF => ?_)
   refine wW ?_
   repeat rw [sq]
   refine zmQ 14 5 14 8 0 1 zoo znM znP follows (by decide) (by kernel_rfl) (by kernel_rfl) (by kernel_rfl) (by kernel_rfl) rfl rfl rfl ?_ ?_ ?_
   ·obtain ⟨x44, g, hF⟩ := Rx g hF
    refine wC hF [.io, .sh] zax (fun z45 hF => ?_)
    refine wC hF [.io, .sh] zaC (fun z46 hF => ?_)
    refine wC hF [.io, .mv] zak (fun z47 hF => ?_)
    exact wT (hj39 _) (zaa hF)
   ·obtain ⟨x44, g, hF⟩ := Rx g hF
    refine wC hF [.io, .sh] zax (fun z45 hF => ?_)
    refine wC hF [.io, .sh] zaC (fun z46 hF => ?_)
    refine wC hF [.io, .mv] zak (fun z47 hF => ?_)
    exact wT (hj39 _) (zaa hF)
   obtain ⟨x44, g, hF⟩ := Rx g hF
   refine wC hF [.io, .sh] zax (fun z45 hF => ?_)
   refine wC hF [.io, .sh] zaC (fun z46 hF => ?_)
   refine wC hF [.io, .mv] zak (fun z47 hF => ?_)
   exact wT (hj39 _) (zaa hF)
  exact wT (hj39 _) (zaa hF)
 exact (zor hF).elim
@[go_sem] def zBd : List DE := [d2 0 [5] 5 5, d2 1 [6] 6 6, d0 2 [10], d0 3 [0], d1 4 [5] 5, d2 5 [32] 5 32, d0 6 [33], d0 10 [0], d2 11 [5] 5 5, d0 14 [], d3 7 [31, 34], d0 8 [35], d0 9 [36], d3 12 [38, 39], d3 13 [28, 29, 30, 37, 40], d2 15 [11, 41] 11 11]
def zcf (a0c0 : List Int) (a0c1 : Int) (a0c2 : Int) (a1 : Group) (a2 : Cipher) (a3 : Int) : Option (List Blind × (List Int × Int × Int)) :=
 (((zdw a1).bind fun z4 =>
 if (!z4) = true then (
 some true) else (
 (zcR a1 [a2]).bind fun z6 =>
 some (!z6)) : Option Bool).bind fun x3 =>
 if x3 = true then (
 some ([], (a0c0, a0c1, a0c2))) else (
 ((zbO (σ := (List Int × Int × Int) × List Blind × Int) (fun s51 =>
 if decide (s51.2.2 ≤ a3) = true then (
 (zai s51.1.1 s51.1.2.1 s51.1.2.2 (i64.wrap (a1.Q - 1))).bind fun z57 =>
 (zaB z57.2.1 z57.2.2.1 z57.2.2.2 a1).bind fun z58 =>
 (zgJ a1 a2 s51.2.2 (i64.wrap ((z57.1.tmod 60000) + 1)) z58.1).bind fun z59 =>
 (zai z58.2.1 z58.2.2.1 z58.2.2.2 14).bind fun z60 =>
 ((if (z60.1 == 0) = true then (
 (zaS z60.2.1 z60.2.2.1 z60.2.2.2 a1).bind fun z65 =>
 some ((z65.2.1, z65.2.2.1, z65.2.2.2), z59.Index, z65.1, z59.Value.B, z59.Pi.Commits, z59.Pi.Challenges, z59.Pi.Responses)) else (
 if (z60.1 == 1) = true then (
 (zam z60.2.1 z60.2.2.1 z60.2.2.2 [0, 1, 8]).bind fun z67 =>
 some ((z67.2.1, z67.2.2.1, z67.2.2.2), z67.1, z59.Value.A, z59.Value.B, z59.Pi.Commits, z59.Pi.Challenges, z59.Pi.Responses)) else (
 if (z60.1 == 2) = true then (
 (zcW z60.2.1 z60.2.2.1 z60.2.2.2 a1 z59.Pi).bind fun z69 =>
 some ((z69.2.1, z69.2.2.1, z69.2.2.2), z59.Index, z59.Value.A, z59.Value.B, z69.1.Commits, z69.1.Challenges, z69.1.Responses)) else (
 if (z60.1 == 3) = true then (
 some ((z60.2.1, z60.2.2.1, z60.2.2.2), z59.Index, 1, 1, z59.Pi.Commits, z59.Pi.Challenges, z59.Pi.Responses)) else (
 some ((z60.2.1, z60.2.2.1, z60.2.2.2), z59.Index, z59.Value.A, z59.Value.B, z59.Pi.Commits, z59.Pi.Challenges, z59.Pi.Responses))))) : Option (((List Int × Int × Int) × Int × Int × Int × List Int × List Int × List Int))).bind fun x63 =>
 gd ((s51.2.1.length + 1) * 96 ≤ 140737488355328 ∧ s51.2.1.length + 1 ≤ 4611686018427387904) <|
 some (.go ((x63.1.1, x63.1.2.1, x63.1.2.2), s51.2.1 ++ [(Blind.mk x63.2.1 (Cipher.mk x63.2.2.1 x63.2.2.2.1) (Proof.mk x63.2.2.2.2.1 x63.2.2.2.2.2.1 x63.2.2.2.2.2.2))], i64.wrap (s51.2.2 + 1))))) else (
 some (.out ((s51.1.1, s51.1.2.1, s51.1.2.2), s51.2.1)))) ((a0c0, a0c1, a0c2), [], 1) : Option (((List Int × Int × Int) × List Blind))).bind fun x10 =>
 some (x10.2, (x10.1.1, x10.1.2.1, x10.1.2.2)))))
theorem ziZ : ∀ {a0c0} {a0c1} {a0c2} {a1} {a2} {a3} {r}, zcf a0c0 a0c1 a0c2 a1 a2 a3 = some r → PCalls Tryz.prog 21 [(.io, vB a0c0 a0c1 a0c2), (.sh, vE a1), (.sh, vQ a2), (.sh, .int .i64 a3)] (Eo (vX r.1) [vB r.2.1 r.2.2.1 r.2.2.2, .junk, .junk, .junk]) := by
 intro a0c0 a0c1 a0c2 a1 a2 a3 r hr
 apply pF 74 [0] [62] [] [.tmp 8] hr zGR Tryz.func21
 intro Φ hΦ hF g
 unfold zcf at hF
 iterate 2 refine wW ?_
 refine wJ hF (fun x3 => [(0, .v (vB a0c0 a0c1 a0c2)), (3, .v (.int .i64 a3)), (5, .bl [.int .i64 a1.P, .int .i64 a1.Q, .int .i64 a1.G]), (6, .bl [.int .i64 a2.A, .int .i64 a2.B]), (9, .v (.sl true 6 [])), (21, .v (.bool x3))]) (fun x3 hF => ?_) fun _ hj1 hF => ?_
 ·refine wI hF (fun h7 hF => ?_) (fun h7 hF => ?_)
  ·exact wl hΦ hF
  iterate 2 refine wW ?_
  refine wJ hF (fun x10 => [(0, .v (vB x10.1.1 x10.1.2.1 x10.1.2.2)), (9, .v (vX x10.2))]) (fun x10 hF => ?_) fun _ hj8 hF => ?_
  ·exact wl hΦ hF
  refine wB ?_
  obtain ⟨b71, hb72, hψ55⟩ := hF
  refine pL hb72 (fun s51 => [(0, .v (vB s51.1.1 s51.1.2.1 s51.1.2.2)), (3, .v (.int .i64 a3)), (5, .bl [.int .i64 a1.P, .int .i64 a1.Q, .int .i64 a1.G]), (6, .bl [.int .i64 a2.A, .int .i64 a2.B]), (9, .v (vX s51.2.1)), (10, .v (.int .i64 s51.2.2))]) (fun s51 _ _ ho53 hg54 hF => ?_)
  refine wW ?_
  refine wI hF (fun h56 hF => ?_) (fun h56 hF => ?_)
  ·refine wW ?_
   refine wB ?_
   refine wX zBd follows ?_
   refine wC hF [.io, .sh] zao (fun z57 hF => ?_)
   have g := Ld g 60000
   refine wC hF [.io, .sh] zax (fun z58 hF => ?_)
   refine wC hF [.sh, .sh, .sh, .sh, .sh] zo5 (fun z59 hF => ?_)
   refine wK [0, 3, 5, 6, 9, 10, 11] ?_
   refine wC hF [.io, .sh] zao (fun z60 hF => ?_)
   refine wW ?_
   refine wJ hF (fun x63 => [(0, .v (vB x63.1.1 x63.1.2.1 x63.1.2.2)), (3, .v (.int .i64 a3)), (5, .bl [.int .i64 a1.P, .int .i64 a1.Q, .int .i64 a1.G]), (6, .bl [.int .i64 a2.A, .int .i64 a2.B]), (9, .v (vX s51.2.1)), (10, .v (.int .i64 s51.2.2)), (11, .bl [.int .i64 x63.2.1, .int .i64 x63.2.2.1, .int .i64 x63.2.2.2.1, vD x63.2.2.2.2.1, vD x63.2.2.2.2.2.1, vD x63.2.2.2.2.2.2])]) (fun x63 hF => ?_) fun _ hj61 hF => ?_
   ·obtain ⟨g, hF⟩ := Rg g hF
    refine wW ?_
    exact wT (hg54 _) (zaa hF)
   refine wB ?_
   refine wW ?_
   refine wI hF (fun h64 hF => ?_) (fun h64 hF => ?_)
   ·refine wC hF [.io, .sh] zcq (fun z65 hF => ?_)
    exact wT (hj61 _) (zaa hF)
   refine wW ?_
   refine wI hF (fun h66 hF => ?_) (fun h66 hF => ?_)
   ·refine wC hF [.io, .mv] zak (fun z67 hF => ?_)
    exact wT (hj61 _) (zaa hF)
   refine wW ?_
   refine wI hF (fun h68 hF => ?_) (fun h68 hF => ?_)
   ·refine wC hF [.io, .sh, .sh] zjG (fun z69 hF => ?_)
    exact wT (hj61 _) (zaa hF)
   refine wK [0, 3, 5, 6, 9, 10, 11, 65] ?_
   refine wI hF (fun h70 hF => ?_) (fun h70 hF => ?_)
   ·exact wT (hj61 _) (zaa hF)
   exact wT (hj61 _) (zaa hF)
  cases ho53 _ (zaa hF)
  exact wT (hj8 _) hψ55
 refine wC hF [.sh] zgM (fun z4 hF => ?_)
 refine wG hF (fun h5 hF => ?_) fun h5 hF => ?_
 ·exact wV h5 (hj1 _) (zaa hF)
 try simp [go_sem, g, h5]
 refine wC hF [.sh, .sh] zfo (fun z6 hF => ?_)
 exact wV h5 (hj1 _) (zaa hF)
def zd5 (a0 : List Int) (a1 : Int) : Option Bool :=
 ((zap (σ := Unit) (fun i5 s4 =>
 (ix a0 i5).bind fun x11 =>
 if (x11 == a1) = true then (
 some (.out (.inr true))) else (
 some (.go ()))) (fun s4 => .inl ()) (a0.length) 0 () : Option (Unit ⊕ Bool)).bind (Sum.elim (fun x3 =>
 some false) some))
theorem zkX : ∀ {a0} {a1} {r}, zd5 a0 a1 = some r → PCalls Tryz.prog 66 [(.sh, vC a0), (.sh, .int .i64 a1)] (Eo (.bool r) [.junk, .junk]) := by
 intro a0 a1 r hr
 apply pF 17 [] [] [] [.tmp 4] hr zF7 Tryz.func66
 intro Φ hΦ hF g
 unfold zd5 at hF
 iterate 2 (try simp [go_sem, g]; try intros; refine zas ?_)
 refine wS hF (fun x3 => []) (fun x3 hF => ?_) fun _ hj1 hr2 hF => ?_
 ·exact wl hΦ hF
 refine wB ?_
 obtain ⟨b13, hb14, hψ8⟩ := hF
 refine pR hb14 (fun i5 s4 => [(1, .v (.int .i64 a1)), (7, .v (vC a0)), (8, .v (.int .i64 (a0.length : Int))), (9, .v (.int .i64 i5))]) (fun s4 _ hN15 => ?_) (fun i5 s4 _ _ hi9 hi10 ho6 hg7 hF => ?_)
 ·exact wn hN15 (hj1 _) hψ8
 refine wW ?_
 refine wu hi9 hi10 ?_
 refine wW ?_
 refine wB ?_
 obtain ⟨x11, g, hF⟩ := Rx g hF
 refine wW ?_
 refine wK [1, 7, 8, 9, 15] ?_
 refine wI hF (fun h12 hF => ?_) (fun h12 hF => ?_)
 ·cases ho6 _ (zaa hF)
  cases hΦ _ (hr2 _ hψ8)
  refine wW ?_
  try simp [go_sem, g]
 refine wW ?_
 exact wi hi9 hi10 (hg7 _) (zaa hF)
def zfO (a0 : Cipher) : Option Bool :=
 ((if (a0.A == 1) = true then (
 some (a0.B == 1)) else (
 some false) : Option Bool).bind fun x3 =>
 some x3)
theorem zl8 : ∀ {a0} {r}, zfO a0 = some r → PCalls Tryz.prog 110 [(.sh, vQ a0)] (Eo (.bool r) [.junk]) := by
 intro a0 r hr
 apply pF 11 [] [] [] [.tmp 2] hr zCx Tryz.func110
 intro Φ hΦ hF g
 unfold zfO at hF
 refine wW ?_
 refine wJ hF (fun x3 => [(2, .v (.bool x3))]) (fun x3 hF => ?_) fun _ hj1 hF => ?_
 ·exact wm hΦ hF
 refine wG hF (fun h4 hF => ?_) fun h4 hF => ?_
 ·exact wV h4 (hj1 _) (zaa hF)
 exact wV h4 (hj1 _) (zaa hF)
@[go_sem] def zyx : List DE := [d1 0 [9] 9, d2 1 [14] 9 14, d0 2 [15], d0 3 [2], d0 4 [17], d0 5 [16, 18], d0 6 [19], d1 7 [9, 20] 9, d2 8 [21, 20] 9 21, d0 9 [22, 20], d0 10 [23, 20], d0 11 [20, 24], d0 12 [25], d1 13 [9, 26] 9, d2 14 [27, 26] 9 27, d0 15 [28, 26], d0 16 [2, 26], d0 17 [30, 26], d0 18 [31, 26], d0 19 [32, 26], d0 20 [29, 33, 26], d0 21 [26, 34], d0 22 [35], d2 23 [5, 36] 5 5, d1 24 [9, 36] 9, d2 25 [38, 36] 9 38, d3 26 [37, 39, 36], d0 27 [40, 36], d0 28 [36, 41], d0 29 [42], d2 30 [5, 43] 5 5, d1 31 [9, 43] 9, d2 32 [45, 43] 9 45, d3 33 [44, 46, 43], d0 34 [47, 43], d0 35 [43, 48]]
@[go_sem] def zyh : List DE := [d0 0 [11], d2 1 [5] 5 5, d0 2 [1], d0 3 [2], d0 4 [3], d1 5 [9] 9, d2 6 [59] 9 59, d3 7 [57, 58, 60], d3 8 [55, 56, 61], d0 9 [54, 62]]
@[go_sem] def zya : List DE := [d2 0 [5] 5 5, d0 1 [13], d1 2 [9] 9, d2 3 [73] 9 73, d2 5 [5] 5 5, d1 6 [9] 9, d2 7 [77] 9 77, d0 8 [12], d0 9 [78, 79], d0 10 [80], d2 11 [5] 5 5, d0 12 [3], d0 13 [12], d0 14 [83, 84], d0 15 [85], d0 16 [11], ⟨4, [71, 72, 74], [], none, false, true, false⟩, ⟨17, [82, 86, 87], [], none, false, true, false⟩, d0 18 [81, 88], ⟨19, [76, 89], [], none, true, true, true⟩, d0 20 [75, 90]]
def zdK (a0 : Group) (a1 : ByteArray) (a2 : (List (List Int))) (a3 : List Int) (a4 : Proof) : Option Bool :=
 ((if ((a4.Commits.length : Int) != (a2.length : Int)) = true then (
 some true) else (
 if ((a4.Challenges.length : Int) != 1) = true then (
 some true) else (
 (ix a2 0).bind fun x6 =>
 if ((a4.Responses.length : Int) != (x6.length : Int)) = true then (
 some true) else (
 (zdo a0 a4.Commits).bind fun z8 =>
 if (!z8) = true then (
 some true) else (
 (zd0 a0 a4.Responses).bind fun z10 =>
 some (!z10))))) : Option Bool).bind fun x3 =>
 if x3 = true then (
 some false) else (
 (ix a4.Challenges 0).bind fun x12 =>
 (zdp a2 a3 a4.Commits).bind fun z13 =>
 (zcD a0 a1 z13).bind fun z14 =>
 if (x12 != z14) = true then (
 some false) else (
 ((zap (σ := Unit) (fun i20 s19 =>
 (ix a2 i20).bind fun x26 =>
 (ix a4.Commits i20).bind fun x27 =>
 (ix a3 i20).bind fun x28 =>
 (zcV a0 x26 a4.Responses).bind fun z29 =>
 (zaQ a0 x28 x12).bind fun z30 =>
 (zbs a0 [x27, z30]).bind fun z31 =>
 if (z29 != z31) = true then (
 some (.out (.inr false))) else (
 some (.go ()))) (fun s19 => .inl ()) (a2.length) 0 () : Option (Unit ⊕ Bool)).bind (Sum.elim (fun x18 =>
 some true) some)))))
theorem zn1 : ∀ {a0} {a1} {a2} {a3} {a4} {r}, zdK a0 a1 a2 a3 a4 = some r → PCalls Tryz.prog 136 [(.sh, vE a0), (.sh, .str a1), (.sh, vG a2), (.sh, vC a3), (.sh, vV a4)] (Eo (.bool r) [.junk, .junk, .junk, .junk, .junk]) := by
 intro a0 a1 a2 a3 a4 r hr
 apply pF 93 [] [] [] [.tmp 10] hr zCi Tryz.func136
 intro Φ hΦ hF g
 unfold zdK at hF
 refine wW ?_
 refine wJ hF (fun x3 => [(1, .v (.str a1)), (2, .v (vG a2)), (3, .v (vC a3)), (5, .bl [.int .i64 a0.P, .int .i64 a0.Q, .int .i64 a0.G]), (9, .bl [vC a4.Commits, vC a4.Challenges, vC a4.Responses]), (49, .v (.bool x3))]) (fun x3 hF => ?_) fun _ hj1 hF => ?_
 ·refine wI hF (fun h11 hF => ?_) (fun h11 hF => ?_)
  ·exact wl hΦ hF
  obtain ⟨x12, g, hF⟩ := Rxn g 0 hF
  iterate 2 refine wW ?_
  refine wX zyh follows ?_
  refine wC hF [.sh, .sh, .sh] zic (fun z13 hF => ?_)
  refine wC hF [.sh, .sh, .sh] zib (fun z14 hF => ?_)
  refine wK [2, 3, 5, 9, 11, 63] ?_
  refine wI hF (fun h15 hF => ?_) (fun h15 hF => ?_)
  ·exact wl hΦ hF
  iterate 2 (try simp [go_sem, g]; try intros; refine zas ?_)
  refine wS hF (fun x18 => []) (fun x18 hF => ?_) fun _ hj16 hr17 hF => ?_
  ·exact wl hΦ hF
  refine wB ?_
  obtain ⟨b33, hb34, hψ23⟩ := hF
  refine pR hb34 (fun i20 s19 => [(3, .v (vC a3)), (5, .bl [.int .i64 a0.P, .int .i64 a0.Q, .int .i64 a0.G]), (9, .bl [vC a4.Commits, vC a4.Challenges, vC a4.Responses]), (11, .v (.int .i64 x12)), (64, .v (vG a2)), (65, .v (.int .i64 (a2.length : Int))), (66, .v (.int .i64 i20))]) (fun s19 _ hN35 => ?_) (fun i20 s19 _ _ hi24 hi25 ho21 hg22 hF => ?_)
  ·exact wn hN35 (hj16 _) hψ23
  refine wW ?_
  refine wu hi24 hi25 ?_
  refine wW ?_
  refine wB ?_
  obtain ⟨x26, g, hF⟩ := Rx g hF
  refine wW ?_
  refine wX zya follows ?_
  obtain ⟨x27, g, hF⟩ := Rx g hF
  obtain ⟨x28, g, hF⟩ := Rx g hF
  refine wD hF zi0 (fun z29 hF => ?_)
  refine wD hF zcn (fun z30 hF => ?_)
  refine wC hF [.sh, .sh] zdY (fun z31 hF => ?_)
  refine wK [3, 5, 9, 11, 64, 65, 66, 91] ?_
  refine wI hF (fun h32 hF => ?_) (fun h32 hF => ?_)
  ·cases ho21 _ (zaa hF)
   cases hΦ _ (hr17 _ hψ23)
   refine wW ?_
   try simp [go_sem, g]
  refine wW ?_
  exact wi hi24 hi25 (hg22 _) (zaa hF)
 refine wX zyx follows ?_
 try simp [go_sem, g]
 try intros
 refine wH hF (fun h4 hF => ?_) fun h4 hF => ?_
 ·exact wV h4 (hj1 _) (zaa hF)
 try simp [go_sem, g, h4]
 try intros
 refine wH hF (fun h5 hF => ?_) fun h5 hF => ?_
 ·exact wV h5 (hj1 _) (zaa hF)
 obtain ⟨x6, g, hF⟩ := Rxn g 0 hF
 try simp [go_sem, g, h5]
 try intros
 refine wH hF (fun h7 hF => ?_) fun h7 hF => ?_
 ·exact wV h7 (hj1 _) (zaa hF)
 try simp [go_sem, g, h7]
 refine wC hF [.sh, .sh] zhs (fun z8 hF => ?_)
 try simp [go_sem, g, h7]
 refine wH hF (fun h9 hF => ?_) fun h9 hF => ?_
 ·exact wV h9 (hj1 _) (zaa hF)
 try simp [go_sem, g, h9]
 refine wC hF [.sh, .sh] zhp (fun z10 hF => ?_)
 exact wV h9 (hj1 _) (zaa hF)
def zcg (a0 : Group) (a1 : ByteArray) (a2 : EqualLog) (a3 : Proof) : Option Bool :=
 (zdK a0 a1 [[a2.G1], [a2.G2]] [a2.Y1, a2.Y2] a3).bind fun z1 =>
 some z1
theorem ziX : ∀ {a0} {a1} {a2} {a3} {r}, zcg a0 a1 a2 a3 = some r → PCalls Tryz.prog 111 [(.sh, vE a0), (.sh, .str a1), (.sh, vY a2), (.sh, vV a3)] (Eo (.bool r) [.junk, .junk, .junk, .junk]) := by
 intro a0 a1 a2 a3 r hr
 apply pF 25 [] [] [] [.tmp 8] hr zCu Tryz.func111
 intro Φ hΦ hF g
 unfold zcg at hF
 refine wW ?_
 refine wC hF [.sh, .sh, .sh, .sh, .sh] zn1 (fun z1 hF => ?_)
 refine wK [8] ?_
 exact wm hΦ hF
def zda (a0 : Group) (a1 : Cipher) (a2 : Blind) : Option Bool :=
 (((zbf a2.Index 1 7).bind fun z4 =>
 if (!z4) = true then (
 some true) else (
 (zcR a0 [a2.Value]).bind fun z6 =>
 if (!z6) = true then (
 some true) else (
 (zfO a2.Value).bind fun z8 =>
 if z8 = true then (
 (zfO a1).bind fun z10 =>
 some (!z10)) else (
 some false))) : Option Bool).bind fun x3 =>
 if x3 = true then (
 some false) else (
 (zcg a0 (⟨#[98, 108, 105, 110, 100]⟩ : ByteArray) (EqualLog.mk a1.A a2.Value.A a1.B a2.Value.B) a2.Pi).bind fun z12 =>
 some z12))
theorem znV : ∀ {a0} {a1} {a2} {r}, zda a0 a1 a2 = some r → PCalls Tryz.prog 67 [(.sh, vE a0), (.sh, vQ a1), (.sh, vZ a2)] (Eo (.bool r) [.junk, .junk, .junk]) := by
 intro a0 a1 a2 r hr
 apply pF 44 [] [] [] [.tmp 6] hr zG2 Tryz.func67
 intro Φ hΦ hF g
 unfold zda at hF
 refine wW ?_
 refine wJ hF (fun x3 => [(3, .bl [.int .i64 a0.P, .int .i64 a0.Q, .int .i64 a0.G]), (4, .bl [.int .i64 a1.A, .int .i64 a1.B]), (5, .bl [.int .i64 a2.Index, .int .i64 a2.Value.A, .int .i64 a2.Value.B, vC a2.Pi.Commits, vC a2.Pi.Challenges, vC a2.Pi.Responses]), (28, .v (.bool x3))]) (fun x3 hF => ?_) fun _ hj1 hF => ?_
 ·refine wI hF (fun h11 hF => ?_) (fun h11 hF => ?_)
  ·exact wl hΦ hF
  refine wW ?_
  refine wC hF [.sh, .sh, .sh, .sh] ziX (fun z12 hF => ?_)
  refine wK [6] ?_
  exact wm hΦ hF
 refine wC hF [.sh, .sh, .sh] zb1 (fun z4 hF => ?_)
 refine wG hF (fun h5 hF => ?_) fun h5 hF => ?_
 ·exact wV h5 (hj1 _) (zaa hF)
 try simp [go_sem, g, h5]
 refine wC hF [.sh, .sh] zfo (fun z6 hF => ?_)
 try simp [go_sem, g, h5]
 refine wG hF (fun h7 hF => ?_) fun h7 hF => ?_
 ·exact wV h7 (hj1 _) (zaa hF)
 try simp [go_sem, g, h7]
 refine wC hF [.sh] zl8 (fun z8 hF => ?_)
 try simp [go_sem, g, h7]
 refine wG hF (fun h9 hF => ?_) fun h9 hF => ?_
 ·try simp [go_sem, g, h9]
  refine wC hF [.sh] zl8 (fun z10 hF => ?_)
  try simp [go_sem, g, h9, h7]
  exact wT (hj1 _) (zaa hF)
 try simp [go_sem, g, h9, h7]
 exact wT (hj1 _) (zaa hF)
def zdn (a0 : Group) (a1 : Cipher) (a2 : List Blind) : Option (Cipher × List Int) :=
 ((zap (σ := Int × Int × List Int) (fun i24 s23 =>
 (((ix a2 i24).bind fun x33 =>
 (((zd5 s23.2.2 x33.Index).bind fun z37 =>
 if (!z37) = true then (
 (zda a0 a1 x33).bind fun z39 =>
 some z39) else (
 some false) : Option Bool).bind fun x36 =>
 if x36 = true then (
 (zcT a0 [(Cipher.mk s23.1 s23.2.1), x33.Value]).bind fun z41 =>
 gd ((s23.2.2.length + 1) * 8 ≤ 140737488355328 ∧ s23.2.2.length + 1 ≤ 4611686018427387904) <|
 some (z41.A, z41.B, s23.2.2 ++ [x33.Index])) else (
 some (s23.1, s23.2.1, s23.2.2))) : Option ((Int × Int × List Int))).bind fun x32 =>
 some (.go (x32.1, x32.2.1, x32.2.2)))) (fun s23 => (s23.1, s23.2.1, s23.2.2)) (a2.length) 0 (1, 1, []) : Option ((Int × Int × List Int))).bind fun x3 =>
 some ((Cipher.mk x3.1 x3.2.1), x3.2.2))
theorem zja : ∀ {a0} {a1} {a2} {r}, zdn a0 a1 a2 = some r → PCalls Tryz.prog 24 [(.sh, vE a0), (.sh, vQ a1), (.sh, vAA a2)] (Eo (.tup [vQ r.1, vD r.2]) [.junk, .junk, .junk]) := by
 intro a0 a1 a2 r hr
 apply pF 44 [] [] [] [.cell 6 27, .tmp 7] hr zF9 Tryz.func24
 intro Φ hΦ hF g
 unfold zdn at hF
 iterate 3 (try simp [go_sem, g]; try intros; refine zas ?_)
 try simp [go_sem, g]
 try intros
 refine wK [3, 4, 6, 8, 9, 13, 14, 15] ?_
 refine wJ hF (fun x3 => [(6, .bl [.int .i64 0, .int .i64 0]), (8, .bl [.int .i64 x3.1, .int .i64 x3.2.1]), (9, .v (vD x3.2.2))]) (fun x3 hF => ?_) fun _ hj1 hF => ?_
 ·exact wl hΦ hF
 refine wB ?_
 obtain ⟨b42, hb43, hψ27⟩ := hF
 refine pR hb43 (fun i24 s23 => [(3, .bl [.int .i64 a0.P, .int .i64 a0.Q, .int .i64 a0.G]), (4, .bl [.int .i64 a1.A, .int .i64 a1.B]), (6, .bl [.int .i64 0, .int .i64 0]), (8, .bl [.int .i64 s23.1, .int .i64 s23.2.1]), (9, .v (vD s23.2.2)), (13, .v (vAA a2)), (14, .v (.int .i64 (a2.length : Int))), (15, .v (.int .i64 i24))]) (fun s23 _ hN44 => ?_) (fun i24 s23 _ _ hi28 hi29 ho25 hg26 hF => ?_)
 ·exact wn hN44 (hj1 _) hψ27
 refine wW ?_
 refine wu hi28 hi29 ?_
 refine wW ?_
 refine wJ hF (fun x32 => [(3, .bl [.int .i64 a0.P, .int .i64 a0.Q, .int .i64 a0.G]), (4, .bl [.int .i64 a1.A, .int .i64 a1.B]), (6, .bl [.int .i64 0, .int .i64 0]), (8, .bl [.int .i64 x32.1, .int .i64 x32.2.1]), (9, .v (vD x32.2.2)), (13, .v (vAA a2)), (14, .v (.int .i64 (a2.length : Int))), (15, .v (.int .i64 i24))]) (fun x32 hF => ?_) fun _ hj30 hF => ?_
 ·exact wi hi28 hi29 (hg26 _) (zaa hF)
 refine wB ?_
 obtain ⟨x33, g, hF⟩ := Rx g hF
 refine wW ?_
 refine wJ hF (fun x36 => [(3, .bl [.int .i64 a0.P, .int .i64 a0.Q, .int .i64 a0.G]), (4, .bl [.int .i64 a1.A, .int .i64 a1.B]), (6, .bl [.int .i64 0, .int .i64 0]), (8, .bl [.int .i64 s23.1, .int .i64 s23.2.1]), (9, .v (vD s23.2.2)), (11, .bl [.int .i64 x33.Index, .int .i64 x33.Value.A, .int .i64 x33.Value.B, vC x33.Pi.Commits, vC x33.Pi.Challenges, vC x33.Pi.Responses]), (13, .v (vAA a2)), (14, .v (.int .i64 (a2.length : Int))), (15, .v (.int .i64 i24)), (29, .v (.bool x36))]) (fun x36 hF => ?_) fun _ hj34 hF => ?_
 ·refine wI hF (fun h40 hF => ?_) (fun h40 hF => ?_)
  ·refine wC hF [.sh, .sh] zma (fun z41 hF => ?_)
   refine wK [3, 4, 6, 8, 9, 11, 13, 14, 15] ?_
   obtain ⟨g, hF⟩ := Rg g hF
   exact wT (hj30 _) (zaa hF)
  exact wT (hj30 _) (zaa hF)
 refine wC hF [.sh, .sh] zkX (fun z37 hF => ?_)
 refine wG hF (fun h38 hF => ?_) fun h38 hF => ?_
 ·try simp [go_sem, g, h38]
  refine wC hF [.sh, .sh, .sh] znV (fun z39 hF => ?_)
  exact wV h38 (hj34 _) (zaa hF)
 exact wV h38 (hj34 _) (zaa hF)
def zfb (a0 : Group) (a1 : Cipher) (a2 : Int) (a3 : Int) (a4 : Int) : Option Partial :=
 (zaQ a0 a1.A a3).bind fun z1 =>
 (zcm a0 (⟨#[112, 97, 114, 116, 105, 97, 108]⟩ : ByteArray) [[a0.G], [a1.A]] [a3] [a4]).bind fun z2 =>
 some (Partial.mk a2 z1 z2)
theorem zm8 : ∀ {a0} {a1} {a2} {a3} {a4} {r}, zfb a0 a1 a2 a3 a4 = some r → PCalls Tryz.prog 25 [(.sh, vE a0), (.sh, vQ a1), (.sh, .int .i64 a2), (.sh, .int .i64 a3), (.sh, .int .i64 a4)] (Eo (vAB r) [.junk, .junk, .junk, .junk, .junk]) := by
 intro a0 a1 a2 a3 a4 r hr
 apply pF 33 [] [] [] [.cell 10 65] hr zHp Tryz.func25
 intro Φ hΦ hF g
 unfold zfb at hF
 refine wW ?_
 refine wC hF [.sh, .sh, .sh] zcn (fun z1 hF => ?_)
 refine wW ?_
 refine wC hF [.sh, .sh, .sh, .sh, .sh] zfF (fun z2 hF => ?_)
 refine wK [10] ?_
 exact wm hΦ hF
@[go_sem] def zBT : List DE := [d0 0 [8], d2 1 [9] 9 9, d2 2 [9] 9 9, d2 3 [11] 11 11, d2 4 [12] 12 12, d0 6 [8], d3 5 [53, 54, 55], d3 7 [57], d0 8 [58], d3 9 [51, 52, 56, 59], d0 10 [60]]
@[go_sem] def zBm : List DE := [d2 0 [9] 9 9, d2 1 [9] 9 9, d2 2 [11] 11 11, d2 3 [12] 12 12, d0 5 [13], d0 10 [], d3 4 [63, 64, 65], d3 6 [62, 66, 67], d0 7 [68], d0 8 [61], d0 9 [61], d2 11 [14, 69] 14 14, d0 12 [70]]
@[go_sem] def zAR : List DE := [d0 0 [16], d2 1 [9] 9 9, d2 2 [14] 14 14, d0 3 [17], d0 4 [85], d0 5 [18], d0 6 [8], d2 7 [9] 9 9, d3 8 [88, 89], d3 9 [83, 84, 86, 87, 90], d0 10 [91], ⟨11, [82, 92], [], none, true, false, false⟩, d0 12 [93]]
@[go_sem] def zBf : List DE := [d2 0 [9] 9 9, d1 1 [10] 10, d2 2 [96] 10 96, d2 3 [11] 11 11, d2 4 [12] 12 12, d0 5 [13], d0 6 [16], d2 7 [2, 95] 2 2, d0 8 [97], d2 9 [4, 98] 4 4, d2 10 [5, 99] 5 5, d0 11 [100], d0 12 [101]]
@[go_sem] def zG6 : List DE := [d2 0 [9] 9 9, d1 1 [10] 10, d2 2 [37] 10 37, d2 3 [11] 11 11, d2 4 [12] 12 12, d2 5 [2, 36] 2 2, d0 6 [38], d2 7 [4, 39] 4 4, d2 8 [5, 40] 5 5, d0 9 [], d0 10 []]
@[go_sem] def zD2 : List DE := [d2 0 [9] 9 9, d1 1 [10] 10, d2 2 [44] 10 44, d2 3 [11] 11 11, d0 4 [8], d2 5 [9] 9 9, d3 6 [47, 48], d3 7 [43, 45, 46, 49], d2 8 [12, 50] 12 12]
def zde (a0 : List Int) : Option (Group × List Int × Cipher × Cipher × List Blind × List Partial) :=
 (zcl a0 0 0).bind fun z1 =>
 (zcy z1.2.1 z1.2.2.1 z1.2.2.2 z1.1).bind fun z2 =>
 (zbc z2.2.1 z2.2.2.1 z2.2.2.2 z1.1).bind fun z3 =>
 (zbc z3.2.1 z3.2.2.1 z3.2.2.2 z1.1).bind fun z4 =>
 (zdv z1.1).bind fun z5 =>
 if (!z5) = true then (
 some (z1.1, z2.1.Commits, z3.1, z4.1, [], [])) else (
 (za0 z4.2.1 z4.2.2.1 z4.2.2.2 2).bind fun z7 =>
 ((if z7.1 = true then (
 (zaB z7.2.1 z7.2.2.1 z7.2.2.2 z1.1).bind fun z12 =>
 (ze2 z1.1 z2.1.Key z3.1 z12.1).bind fun z13 =>
 some ((z12.2.1, z12.2.2.1, z12.2.2.2), z13.A, z13.B)) else (
 some ((z7.2.1, z7.2.2.1, z7.2.2.2), z4.1.A, z4.1.B)) : Option (((List Int × Int × Int) × Int × Int))).bind fun x10 =>
 (zdX z1.1 z3.1 (Cipher.mk x10.2.1 x10.2.2)).bind fun z14 =>
 (zai x10.1.1 x10.1.2.1 x10.1.2.2 3).bind fun z15 =>
 (zcf z15.2.1 z15.2.2.1 z15.2.2.2 z1.1 z14 (i64.wrap (1 + z15.1))).bind fun z16 =>
 (zdX z1.1 z3.1 (Cipher.mk x10.2.1 x10.2.2)).bind fun z17 =>
 (zdn z1.1 z17 z16.1).bind fun z18 =>
 ((zap (σ := (List Int × Int × Int) × List Partial) (fun i53 s52 =>
 (((ix z2.1.Shares i53).bind fun x62 =>
 (za0 s52.1.1 s52.1.2.1 s52.1.2.2 8).bind fun z63 =>
 if (!z63.1) = true then (
 (zaB z63.2.1 z63.2.2.1 z63.2.2.2 z1.1).bind fun z65 =>
 (zfb z1.1 z18.1 (i64.wrap (i53 + 1)) x62 z65.1).bind fun z66 =>
 gd ((s52.2.length + 1) * 88 ≤ 140737488355328 ∧ s52.2.length + 1 ≤ 4611686018427387904) <|
 some ((z65.2.1, z65.2.2.1, z65.2.2.2), s52.2 ++ [z66])) else (
 some ((z63.2.1, z63.2.2.1, z63.2.2.2), s52.2)) : Option (((List Int × Int × Int) × List Partial))).bind fun x61 =>
 some (.go ((x61.1.1, x61.1.2.1, x61.1.2.2), x61.2)))) (fun s52 => s52.2) (z2.1.Shares.length) 0 ((z16.2.1, z16.2.2.1, z16.2.2.2), []) : Option ((List Partial))).bind fun x21 =>
 some (z1.1, z2.1.Commits, z3.1, (Cipher.mk x10.2.1 x10.2.2), z16.1, x21))))
theorem zj9 : ∀ {a0} {r}, zde a0 = some r → PCalls Tryz.prog 4 [(.sh, vA a0)] (Eo (.tup [vE r.1, vC r.2.1, vQ r.2.2.1, vQ r.2.2.2.1, vX r.2.2.2.2.1, vAC r.2.2.2.2.2]) [.junk]) := by
 intro a0 r hr
 apply pF 102 [] [] [21] [.cell 2 24, .tmp 3, .cell 4 27, .cell 5 27, .tmp 6, .tmp 7] hr cl4 Tryz.func4
 intro Φ hΦ hF g
 unfold zde at hF
 refine wW ?_
 refine wK [2, 4, 5, 8] ?_
 refine wC hF [.io] ziI (fun z1 hF => ?_)
 refine wW ?_
 refine wC hF [.io, .sh] zi5 (fun z2 hF => ?_)
 refine wW ?_
 refine wC hF [.io, .sh] zf7 (fun z3 hF => ?_)
 refine wK [2, 4, 5, 8, 9, 10, 11] ?_
 refine wC hF [.io, .sh] zf7 (fun z4 hF => ?_)
 refine wW ?_
 refine wC hF [.sh] zgF (fun z5 hF => ?_)
 refine wW ?_
 refine wI hF (fun h6 hF => ?_) (fun h6 hF => ?_)
 ·refine wX zG6 follows ?_
  refine wK [2, 3, 4, 5, 6, 7] ?_
  exact wm hΦ hF
 refine wW ?_
 refine wC hF [.io, .sh] zcb (fun z7 hF => ?_)
 refine wK [2, 4, 5, 8, 9, 10, 11, 12, 42] ?_
 refine wJ hF (fun x10 => [(2, .bl [.int .i64 0, .int .i64 0, .int .i64 0]), (4, .bl [.int .i64 0, .int .i64 0]), (5, .bl [.int .i64 0, .int .i64 0]), (8, .v (vB x10.1.1 x10.1.2.1 x10.1.2.2)), (9, .bl [.int .i64 z1.1.P, .int .i64 z1.1.Q, .int .i64 z1.1.G]), (10, .bl [vC z2.1.Qualified, .int .i64 z2.1.Key, vC z2.1.Commits, vC z2.1.Shares]), (11, .bl [.int .i64 z3.1.A, .int .i64 z3.1.B]), (12, .bl [.int .i64 x10.2.1, .int .i64 x10.2.2])]) (fun x10 hF => ?_) fun _ hj8 hF => ?_
 ·refine wX zBT follows ?_
  refine wC hF [.sh, .sh, .sh] zjy (fun z14 hF => ?_)
  refine wC hF [.io, .sh] zao (fun z15 hF => ?_)
  refine wC hF [.io, .sh, .sh, .sh] ziZ (fun z16 hF => ?_)
  refine wK [2, 4, 5, 8, 9, 10, 11, 12, 13] ?_
  refine wX zBm follows ?_
  refine wC hF [.sh, .sh, .sh] zjy (fun z17 hF => ?_)
  refine wC hF [.sh, .sh, .sh] zja (fun z18 hF => ?_)
  refine wK [2, 4, 5, 8, 9, 10, 11, 12, 13, 14] ?_
  iterate 2 (try simp [go_sem, g]; try intros; refine zas ?_)
  refine wJ hF (fun x21 => [(2, .bl [.int .i64 0, .int .i64 0, .int .i64 0]), (4, .bl [.int .i64 0, .int .i64 0]), (5, .bl [.int .i64 0, .int .i64 0]), (9, .bl [.int .i64 z1.1.P, .int .i64 z1.1.Q, .int .i64 z1.1.G]), (10, .bl [vC z2.1.Qualified, .int .i64 z2.1.Key, vC z2.1.Commits, vC z2.1.Shares]), (11, .bl [.int .i64 z3.1.A, .int .i64 z3.1.B]), (12, .bl [.int .i64 x10.2.1, .int .i64 x10.2.2]), (13, .v (vX z16.1)), (16, .v (vAC x21))]) (fun x21 hF => ?_) fun _ hj19 hF => ?_
  ·refine wX zBf follows ?_
   refine wK [2, 3, 4, 5, 6, 7] ?_
   exact wm hΦ hF
  refine wB ?_
  obtain ⟨b67, hb68, hψ56⟩ := hF
  refine pR hb68 (fun i53 s52 => [(2, .bl [.int .i64 0, .int .i64 0, .int .i64 0]), (4, .bl [.int .i64 0, .int .i64 0]), (5, .bl [.int .i64 0, .int .i64 0]), (8, .v (vB s52.1.1 s52.1.2.1 s52.1.2.2)), (9, .bl [.int .i64 z1.1.P, .int .i64 z1.1.Q, .int .i64 z1.1.G]), (10, .bl [vC z2.1.Qualified, .int .i64 z2.1.Key, vC z2.1.Commits, vC z2.1.Shares]), (11, .bl [.int .i64 z3.1.A, .int .i64 z3.1.B]), (12, .bl [.int .i64 x10.2.1, .int .i64 x10.2.2]), (13, .v (vX z16.1)), (14, .bl [.int .i64 z18.1.A, .int .i64 z18.1.B]), (16, .v (vAC s52.2)), (72, .v (vC z2.1.Shares)), (73, .v (.int .i64 (z2.1.Shares.length : Int))), (74, .v (.int .i64 i53))]) (fun s52 _ hN69 => ?_) (fun i53 s52 _ _ hi57 hi58 ho54 hg55 hF => ?_)
  ·exact wn hN69 (hj19 _) hψ56
  refine wW ?_
  refine wu hi57 hi58 ?_
  refine wW ?_
  refine wJ hF (fun x61 => [(2, .bl [.int .i64 0, .int .i64 0, .int .i64 0]), (4, .bl [.int .i64 0, .int .i64 0]), (5, .bl [.int .i64 0, .int .i64 0]), (8, .v (vB x61.1.1 x61.1.2.1 x61.1.2.2)), (9, .bl [.int .i64 z1.1.P, .int .i64 z1.1.Q, .int .i64 z1.1.G]), (10, .bl [vC z2.1.Qualified, .int .i64 z2.1.Key, vC z2.1.Commits, vC z2.1.Shares]), (11, .bl [.int .i64 z3.1.A, .int .i64 z3.1.B]), (12, .bl [.int .i64 x10.2.1, .int .i64 x10.2.2]), (13, .v (vX z16.1)), (14, .bl [.int .i64 z18.1.A, .int .i64 z18.1.B]), (16, .v (vAC x61.2)), (72, .v (vC z2.1.Shares)), (73, .v (.int .i64 (z2.1.Shares.length : Int))), (74, .v (.int .i64 i53))]) (fun x61 hF => ?_) fun _ hj59 hF => ?_
  ·exact wi hi57 hi58 (hg55 _) (zaa hF)
  refine wB ?_
  obtain ⟨x62, g, hF⟩ := Rx g hF
  refine wK [2, 4, 5, 8, 9, 10, 11, 12, 13, 14, 16, 17, 18, 72, 73, 74] ?_
  refine wC hF [.io, .sh] zcb (fun z63 hF => ?_)
  refine wW ?_
  refine wI hF (fun h64 hF => ?_) (fun h64 hF => ?_)
  ·refine wX zAR follows ?_
   refine wC hF [.io, .sh] zax (fun z65 hF => ?_)
   refine wC hF [.sh, .sh, .sh, .sh, .sh] zm8 (fun z66 hF => ?_)
   obtain ⟨g, hF⟩ := Rg g hF
   exact wT (hj59 _) (zaa hF)
  exact wT (hj59 _) (zaa hF)
 refine wI hF (fun h11 hF => ?_) (fun h11 hF => ?_)
 ·refine wX zD2 follows ?_
  refine wC hF [.io, .sh] zax (fun z12 hF => ?_)
  refine wC hF [.sh, .sh, .sh, .sh] zkA (fun z13 hF => ?_)
  exact wT (hj8 _) (zaa hF)
 exact wT (hj8 _) (zaa hF)
def za8 (a0 : Int) (a1 : Int) (a2 : Int) : Option Bool :=
 ((if decide (a1 ≤ a0) = true then (
 some (decide (a0 ≤ a2))) else (
 some false) : Option Bool).bind fun x3 =>
 some x3)
theorem zbU : ∀ {a0} {a1} {a2} {r}, za8 a0 a1 a2 = some r → PCalls Tryz.prog 91 [(.sh, .int .i64 a0), (.sh, .int .i64 a1), (.sh, .int .i64 a2)] (Eo (.bool r) [.junk, .junk, .junk]) := by
 intro a0 a1 a2 r hr
 apply pF 15 [] [] [] [.tmp 6] hr zE1 Tryz.func91
 intro Φ hΦ hF g
 unfold za8 at hF
 refine wW ?_
 refine wJ hF (fun x3 => [(6, .v (.bool x3))]) (fun x3 hF => ?_) fun _ hj1 hF => ?_
 ·exact wm hΦ hF
 refine wG hF (fun h4 hF => ?_) fun h4 hF => ?_
 ·exact wV h4 (hj1 _) (zaa hF)
 exact wV h4 (hj1 _) (zaa hF)
def zex (a0 : Int) : Option Bool :=
 (za8 a0 2 2000000000).bind fun z1 =>
 some z1
theorem zmm : ∀ {a0} {r}, zex a0 = some r → PCalls Tryz.prog 129 [(.sh, .int .i64 a0)] (Eo (.bool r) [.junk]) := by
 intro a0 r hr
 apply pF 5 [] [] [] [.tmp 2] hr zBa Tryz.func129
 intro Φ hΦ hF g
 unfold zex at hF
 refine wW ?_
 refine wC hF [.sh, .sh, .sh] zbU (fun z1 hF => ?_)
 exact wl hΦ hF
def zeu (a0 : Int) : Option Bool :=
 (((zex a0).bind fun z4 =>
 if (!z4) = true then (
 some true) else (
 if ((a0.tmod 2) == 0) = true then (
 some (a0 != 2)) else (
 some false)) : Option Bool).bind fun x3 =>
 if x3 = true then (
 some false) else (
 ((zbO (σ := Int) (fun s11 =>
 if decide ((i64.wrap (s11 * s11)) ≤ a0) = true then (
 gd (s11 ≠ 0) <|
 if ((a0.tmod s11) == 0) = true then (
 some (.out (.inr false))) else (
 some (.go (i64.wrap (s11 + 2))))) else (
 some (.out (.inl ())))) 3 : Option (Unit ⊕ Bool)).bind (Sum.elim (fun x10 =>
 some true) some))))
theorem zjO : ∀ {a0} {r}, zeu a0 = some r → PCalls Tryz.prog 92 [(.sh, .int .i64 a0)] (Eo (.bool r) [.junk]) := by
 intro a0 r hr
 apply pF 27 [] [] [] [.tmp 2] hr zDQ Tryz.func92
 intro Φ hΦ hF g
 unfold zeu at hF
 refine wW ?_
 refine wJ hF (fun x3 => [(0, .v (.int .i64 a0)), (15, .v (.bool x3))]) (fun x3 hF => ?_) fun _ hj1 hF => ?_
 ·refine wI hF (fun h7 hF => ?_) (fun h7 hF => ?_)
  ·exact wl hΦ hF
  iterate 2 refine wW ?_
  refine wS hF (fun x10 => []) (fun x10 hF => ?_) fun _ hj8 hr9 hF => ?_
  ·exact wl hΦ hF
  refine wB ?_
  obtain ⟨b18, hb19, hψ15⟩ := hF
  refine pL hb19 (fun s11 => [(0, .v (.int .i64 a0)), (3, .v (.int .i64 s11))]) (fun s11 _ _ ho13 hg14 hF => ?_)
  refine wW ?_
  refine wI hF (fun h16 hF => ?_) (fun h16 hF => ?_)
  ·refine wW ?_
   refine wB ?_
   obtain ⟨g, hF⟩ := Rz g hF
   refine wK [0, 3, 26] ?_
   refine wI hF (fun h17 hF => ?_) (fun h17 hF => ?_)
   ·cases ho13 _ (zaa hF)
    cases hΦ _ (hr9 _ hψ15)
    refine wW ?_
    try simp [go_sem, g]
   refine wW ?_
   exact wT (hg14 _) (zaa hF)
  cases ho13 _ (zaa hF)
  exact wT (hj8 _) hψ15
 refine wC hF [.sh] zmm (fun z4 hF => ?_)
 refine wG hF (fun h5 hF => ?_) fun h5 hF => ?_
 ·exact wV h5 (hj1 _) (zaa hF)
 have g := Ld g 2
 try simp [go_sem, g, h5]
 refine wG hF (fun h6 hF => ?_) fun h6 hF => ?_
 ·try simp [go_sem, g, h6, h5]
  exact wT (hj1 _) (zaa hF)
 try simp [go_sem, g, h6, h5]
 exact wT (hj1 _) (zaa hF)
def zdZ (a0 : Int) (a1 : Int) (a2 : Int) : Option Int :=
 gd (a2 ≠ 0) <|
 ((zbO (σ := Int × Int × Int) (fun s4 =>
 if decide (0 < s4.2.1) = true then (
 ((if ((i64.wrap ((BitVec.ofInt i64.bits s4.2.1 &&& BitVec.ofInt i64.bits 1).toNat)) == 1) = true then (
 gd (a2 ≠ 0) <|
 some ((i64.wrap (s4.2.2 * s4.1)).tmod a2)) else (
 some s4.2.2) : Option Int).bind fun x12 =>
 gd (a2 ≠ 0) <|
 some (.go ((i64.wrap (s4.1 * s4.1)).tmod a2, s4.2.1.fdiv 2, x12)))) else (
 some (.out s4.2.2))) (a0, a1, (1 : Int).tmod a2) : Option Int).bind fun x3 =>
 some x3)
theorem ziM : ∀ {a0} {a1} {a2} {r}, zdZ a0 a1 a2 = some r → PCalls Tryz.prog 93 [(.sh, .int .i64 a0), (.sh, .int .i64 a1), (.sh, .int .i64 a2)] (Eo (.int .i64 r) [.junk, .junk, .junk]) := by
 intro a0 a1 a2 r hr
 apply pF 28 [] [] [] [.tmp 6] hr zFs Tryz.func93
 intro Φ hΦ hF g
 unfold zdZ at hF
 obtain ⟨g, hF⟩ := Rz g hF
 iterate 2 refine wW ?_
 refine wJ hF (fun x3 => [(7, .v (.int .i64 x3))]) (fun x3 hF => ?_) fun _ hj1 hF => ?_
 ·exact wl hΦ hF
 refine wB ?_
 obtain ⟨b14, hb15, hψ8⟩ := hF
 refine pL hb15 (fun s4 => [(0, .v (.int .i64 s4.1)), (1, .v (.int .i64 s4.2.1)), (2, .v (.int .i64 a2)), (7, .v (.int .i64 s4.2.2))]) (fun s4 _ _ ho6 hg7 hF => ?_)
 refine wW ?_
 refine wI hF (fun h9 hF => ?_) (fun h9 hF => ?_)
 ·refine wW ?_
  refine wB ?_
  refine wW ?_
  refine wJ hF (fun x12 => [(0, .v (.int .i64 s4.1)), (1, .v (.int .i64 s4.2.1)), (2, .v (.int .i64 a2)), (7, .v (.int .i64 x12))]) (fun x12 hF => ?_) fun _ hj10 hF => ?_
  ·obtain ⟨g, hF⟩ := Rz g hF
   refine wK [0, 1, 2, 7] ?_
   have g := Ls g 1
   exact wT (hg7 _) (zaa hF)
  refine wI hF (fun h13 hF => ?_) (fun h13 hF => ?_)
  ·obtain ⟨g, hF⟩ := Rz g hF
   exact wT (hj10 _) (zaa hF)
  exact wT (hj10 _) (zaa hF)
 cases ho6 _ (zaa hF)
 exact wT (hj1 _) hψ8
def zaL (a0 : Group) : Option Bool :=
 (((za8 a0.P 3 2000000000).bind fun z4 =>
 if z4 = true then (
 (za8 a0.Q 2 (i64.wrap (a0.P - 1))).bind fun z6 =>
 if z6 = true then (
 gd (a0.Q ≠ 0) <|
 if (((i64.wrap (a0.P - 1)).tmod a0.Q) == 0) = true then (
 (za8 a0.G 2 (i64.wrap (a0.P - 1))).bind fun z9 =>
 if z9 = true then (
 (zeu a0.P).bind fun z11 =>
 if z11 = true then (
 (zeu a0.Q).bind fun z13 =>
 if z13 = true then (
 (zdZ a0.G a0.Q a0.P).bind fun z15 =>
 some (z15 == 1)) else (
 some false)) else (
 some false)) else (
 some false)) else (
 some false)) else (
 some false)) else (
 some false) : Option Bool).bind fun x3 =>
 some x3)
theorem zbe : ∀ {a0} {r}, zaL a0 = some r → PCalls Tryz.prog 44 [(.sh, vE a0)] (Eo (.bool r) [.junk]) := by
 intro a0 r hr
 apply pF 51 [] [] [] [.tmp 2] hr zFA Tryz.func44
 intro Φ hΦ hF g
 unfold zaL at hF
 refine wW ?_
 refine wJ hF (fun x3 => [(2, .v (.bool x3))]) (fun x3 hF => ?_) fun _ hj1 hF => ?_
 ·exact wm hΦ hF
 refine wC hF [.sh, .sh, .sh] zbU (fun z4 hF => ?_)
 refine wG hF (fun h5 hF => ?_) fun h5 hF => ?_
 ·try simp [go_sem, g, h5]
  refine wC hF [.sh, .sh, .sh] zbU (fun z6 hF => ?_)
  try simp [go_sem, g, h5]
  refine wG hF (fun h7 hF => ?_) fun h7 hF => ?_
  ·obtain ⟨g, hF⟩ := Rz g hF
   try simp [go_sem, g, h7]
   refine wG hF (fun h8 hF => ?_) fun h8 hF => ?_
   ·try simp [go_sem, g, h8]
    refine wC hF [.sh, .sh, .sh] zbU (fun z9 hF => ?_)
    try simp [go_sem, g, h8]
    refine wG hF (fun h10 hF => ?_) fun h10 hF => ?_
    ·try simp [go_sem, g, h10]
     refine wC hF [.sh] zjO (fun z11 hF => ?_)
     try simp [go_sem, g, h10]
     refine wG hF (fun h12 hF => ?_) fun h12 hF => ?_
     ·try simp [go_sem, g, h12]
      refine wC hF [.sh] zjO (fun z13 hF => ?_)
      try simp [go_sem, g, h12]
      refine wG hF (fun h14 hF => ?_) fun h14 hF => ?_
      ·try simp [go_sem, g, h14]
       refine wC hF [.sh, .sh, .sh] ziM (fun z15 hF => ?_)
       exact wV h14 (hj1 _) (zaa hF)
      exact wV h14 (hj1 _) (zaa hF)
     exact wV h12 (hj1 _) (zaa hF)
    exact wV h10 (hj1 _) (zaa hF)
   exact wV h8 (hj1 _) (zaa hF)
  exact wV h7 (hj1 _) (zaa hF)
 exact wV h5 (hj1 _) (zaa hF)
def zbC (a0 : Group) (a1 : Int) : Option Bool :=
 (((za8 a1 1 (i64.wrap (a0.P - 1))).bind fun z4 =>
 if z4 = true then (
 (zdZ a1 a0.Q a0.P).bind fun z6 =>
 some (z6 == 1)) else (
 some false) : Option Bool).bind fun x3 =>
 some x3)
theorem zdI : ∀ {a0} {a1} {r}, zbC a0 a1 = some r → PCalls Tryz.prog 45 [(.sh, vE a0), (.sh, .int .i64 a1)] (Eo (.bool r) [.junk, .junk]) := by
 intro a0 a1 r hr
 apply pF 19 [] [] [] [.tmp 4] hr zHj Tryz.func45
 intro Φ hΦ hF g
 unfold zbC at hF
 refine wW ?_
 refine wJ hF (fun x3 => [(4, .v (.bool x3))]) (fun x3 hF => ?_) fun _ hj1 hF => ?_
 ·exact wm hΦ hF
 refine wC hF [.sh, .sh, .sh] zbU (fun z4 hF => ?_)
 refine wG hF (fun h5 hF => ?_) fun h5 hF => ?_
 ·try simp [go_sem, g, h5]
  refine wC hF [.sh, .sh, .sh] ziM (fun z6 hF => ?_)
  exact wV h5 (hj1 _) (zaa hF)
 exact wV h5 (hj1 _) (zaa hF)
def zaK (a0 : Group) (a1 : Cipher) : Option Bool :=
 (((zbC a0 a1.A).bind fun z4 =>
 if z4 = true then (
 (zbC a0 a1.B).bind fun z6 =>
 some z6) else (
 some false) : Option Bool).bind fun x3 =>
 some x3)
theorem zbn : ∀ {a0} {a1} {r}, zaK a0 a1 = some r → PCalls Tryz.prog 46 [(.sh, vE a0), (.sh, vQ a1)] (Eo (.bool r) [.junk, .junk]) := by
 intro a0 a1 r hr
 apply pF 15 [] [] [] [.tmp 4] hr zDZ Tryz.func46
 intro Φ hΦ hF g
 unfold zaK at hF
 refine wW ?_
 refine wJ hF (fun x3 => [(4, .v (.bool x3))]) (fun x3 hF => ?_) fun _ hj1 hF => ?_
 ·exact wm hΦ hF
 refine wC hF [.sh, .sh] zdI (fun z4 hF => ?_)
 refine wG hF (fun h5 hF => ?_) fun h5 hF => ?_
 ·try simp [go_sem, g, h5]
  refine wC hF [.sh, .sh] zdI (fun z6 hF => ?_)
  exact wV h5 (hj1 _) (zaa hF)
 exact wV h5 (hj1 _) (zaa hF)
def zdS (a0 : Int) (a1 : Int) : Option Int :=
 gd (a1 ≠ 0) <|
 gd (a1 ≠ 0) <|
 some ((i64.wrap ((a0.tmod a1) + a1)).tmod a1)
theorem zin : ∀ {a0} {a1} {r}, zdS a0 a1 = some r → PCalls Tryz.prog 133 [(.sh, .int .i64 a0), (.sh, .int .i64 a1)] (Eo (.int .i64 r) [.junk, .junk]) := by
 intro a0 a1 r hr
 apply pF 12 [] [] [] [.tmp 4] hr zBs Tryz.func133
 intro Φ hΦ hF g
 unfold zdS at hF
 obtain ⟨g, hF⟩ := Rz g hF
 obtain ⟨g, hF⟩ := Rz g hF
 cases hΦ _ (zaa hF)
 iterate 2 refine wW ?_
 try simp [go_sem, g]
@[go_sem] def zBh : List DE := [d0 0 [1], d0 1 [2], d1 2 [3] 3, d2 3 [9] 3 9, d1 5 [3] 3, d2 6 [12] 3 12, d3 4 [8, 10], d3 7 [7, 11, 13], d0 8 [14]]
def za6 (a0 : Group) (a1 : Int) (a2 : Int) : Option Int :=
 (zdS a2 a0.Q).bind fun z1 =>
 (zdZ a1 z1 a0.P).bind fun z2 =>
 some z2
theorem zch : ∀ {a0} {a1} {a2} {r}, za6 a0 a1 a2 = some r → PCalls Tryz.prog 97 [(.sh, vE a0), (.sh, .int .i64 a1), (.sh, .int .i64 a2)] (Eo (.int .i64 r) [.junk, .junk, .junk]) := by
 intro a0 a1 a2 r hr
 apply pF 15 [] [] [] [.tmp 6] hr zGy Tryz.func97
 intro Φ hΦ hF g
 unfold za6 at hF
 refine wW ?_
 refine wX zBh follows ?_
 refine wC hF [.sh, .sh] zin (fun z1 hF => ?_)
 refine wC hF [.sh, .sh, .sh] ziM (fun z2 hF => ?_)
 refine wK [6] ?_
 exact wm hΦ hF
def zc5 (a0 : Group) (a1 : Int) : Option Int :=
 (za6 a0 a1 (-1)).bind fun z1 =>
 some z1
theorem ziH : ∀ {a0} {a1} {r}, zc5 a0 a1 = some r → PCalls Tryz.prog 74 [(.sh, vE a0), (.sh, .int .i64 a1)] (Eo (.int .i64 r) [.junk, .junk]) := by
 intro a0 a1 r hr
 apply pF 8 [] [] [] [.tmp 4] hr zGu Tryz.func74
 intro Φ hΦ hF g
 unfold zc5 at hF
 refine wW ?_
 refine wC hF [.sh, .sh, .sh] zch (fun z1 hF => ?_)
 exact wl hΦ hF
def zaV (a0 : Group) (a1 : List Int) : Option Int :=
 ((zap (σ := Int) (fun i5 s4 =>
 (ix a1 i5).bind fun x11 =>
 gd (a0.P ≠ 0) <|
 some (.go ((i64.wrap (s4 * x11)).tmod a0.P))) (fun s4 => s4) (a1.length) 0 1 : Option Int).bind fun x3 =>
 some x3)
theorem zck : ∀ {a0} {a1} {r}, zaV a0 a1 = some r → PCalls Tryz.prog 73 [(.sh, vE a0), (.sh, vC a1)] (Eo (.int .i64 r) [.junk, .junk]) := by
 intro a0 a1 r hr
 apply pF 22 [] [] [] [.tmp 4] hr zEj Tryz.func73
 intro Φ hΦ hF g
 unfold zaV at hF
 iterate 3 (try simp [go_sem, g]; try intros; refine zas ?_)
 refine wJ hF (fun x3 => [(5, .v (.int .i64 x3))]) (fun x3 hF => ?_) fun _ hj1 hF => ?_
 ·exact wl hΦ hF
 refine wB ?_
 obtain ⟨b12, hb13, hψ8⟩ := hF
 refine pR hb13 (fun i5 s4 => [(2, .bl [.int .i64 a0.P, .int .i64 a0.Q, .int .i64 a0.G]), (5, .v (.int .i64 s4)), (8, .v (vC a1)), (9, .v (.int .i64 (a1.length : Int))), (10, .v (.int .i64 i5))]) (fun s4 _ hN14 => ?_) (fun i5 s4 _ _ hi9 hi10 ho6 hg7 hF => ?_)
 ·exact wn hN14 (hj1 _) hψ8
 refine wW ?_
 refine wu hi9 hi10 ?_
 refine wW ?_
 refine wB ?_
 obtain ⟨x11, g, hF⟩ := Rx g hF
 refine wK [2, 5, 7, 8, 9, 10] ?_
 obtain ⟨g, hF⟩ := Rz g hF
 refine wW ?_
 exact wi hi9 hi10 (hg7 _) (zaa hF)
@[go_sem] def zAA : List DE := [d2 0 [3] 3 3, d0 1 [1], d2 2 [3] 3 3, d0 3 [2], d3 4 [9, 10], d0 5 [8, 11], ⟨6, [7, 12], [], none, true, true, true⟩, d0 7 [13]]
def zdq (a0 : Group) (a1 : Int) (a2 : Int) : Option Int :=
 (zc5 a0 a2).bind fun z1 =>
 (zaV a0 [a1, z1]).bind fun z2 =>
 some z2
theorem zid : ∀ {a0} {a1} {a2} {r}, zdq a0 a1 a2 = some r → PCalls Tryz.prog 95 [(.sh, vE a0), (.sh, .int .i64 a1), (.sh, .int .i64 a2)] (Eo (.int .i64 r) [.junk, .junk, .junk]) := by
 intro a0 a1 a2 r hr
 apply pF 14 [] [] [] [.tmp 6] hr zHl Tryz.func95
 intro Φ hΦ hF g
 unfold zdq at hF
 refine wW ?_
 refine wX zAA follows ?_
 refine wC hF [.sh, .sh] ziH (fun z1 hF => ?_)
 refine wC hF [.sh, .sh] zck (fun z2 hF => ?_)
 refine wK [6] ?_
 exact wm hΦ hF
@[go_sem] def zCm : List DE := [d2 0 [3] 3 3, d1 1 [4] 4, d2 2 [8] 4 8, d1 3 [5] 5, d2 4 [10] 5 10, d2 6 [3] 3 3, d1 7 [4] 4, d2 8 [14] 4 14, d1 9 [5] 5, d2 10 [16] 5 16, d3 5 [7, 9, 11], d3 11 [13, 15, 17], d0 12 [12, 18], d2 13 [6, 19] 6 6]
def zcc (a0 : Group) (a1 : Cipher) (a2 : Cipher) : Option Cipher :=
 (zdq a0 a1.A a2.A).bind fun z1 =>
 (zdq a0 a1.B a2.B).bind fun z2 =>
 some (Cipher.mk z1 z2)
theorem zg9 : ∀ {a0} {a1} {a2} {r}, zcc a0 a1 a2 = some r → PCalls Tryz.prog 48 [(.sh, vE a0), (.sh, vQ a1), (.sh, vQ a2)] (Eo (vQ r) [.junk, .junk, .junk]) := by
 intro a0 a1 a2 r hr
 apply pF 20 [] [] [] [.cell 6 27] hr zGp Tryz.func48
 intro Φ hΦ hF g
 unfold zcc at hF
 refine wW ?_
 refine wX zCm follows ?_
 refine wC hF [.sh, .sh, .sh] zid (fun z1 hF => ?_)
 refine wC hF [.sh, .sh, .sh] zid (fun z2 hF => ?_)
 refine wK [6] ?_
 exact wm hΦ hF
def zb3 (a0 : Group) (a1 : Cipher) (a2 : Cipher) : Option (Cipher × Bool) :=
 (((zaL a0).bind fun z4 =>
 if (!z4) = true then (
 some true) else (
 (zaK a0 a1).bind fun z6 =>
 if (!z6) = true then (
 some true) else (
 (zaK a0 a2).bind fun z8 =>
 some (!z8))) : Option Bool).bind fun x3 =>
 if x3 = true then (
 some ((Cipher.mk 0 0), false)) else (
 (zcc a0 a1 a2).bind fun z10 =>
 some (z10, true)))
theorem zia : ∀ {a0} {a1} {a2} {r}, zb3 a0 a1 a2 = some r → PCalls Tryz.prog 12 [(.sh, vE a0), (.sh, vQ a1), (.sh, vQ a2)] (Eo (.tup [vQ r.1, .bool r.2]) [.junk, .junk, .junk]) := by
 intro a0 a1 a2 r hr
 apply pF 28 [] [] [] [.cell 6 27, .tmp 7] hr zEM Tryz.func12
 intro Φ hΦ hF g
 unfold zb3 at hF
 refine wW ?_
 refine wJ hF (fun x3 => [(3, .bl [.int .i64 a0.P, .int .i64 a0.Q, .int .i64 a0.G]), (4, .bl [.int .i64 a1.A, .int .i64 a1.B]), (5, .bl [.int .i64 a2.A, .int .i64 a2.B]), (6, .bl [.int .i64 0, .int .i64 0]), (22, .v (.bool x3))]) (fun x3 hF => ?_) fun _ hj1 hF => ?_
 ·refine wI hF (fun h9 hF => ?_) (fun h9 hF => ?_)
  ·exact wl hΦ hF
  refine wW ?_
  refine wC hF [.sh, .sh, .sh] zg9 (fun z10 hF => ?_)
  refine wK [6, 7] ?_
  exact wm hΦ hF
 refine wC hF [.sh] zbe (fun z4 hF => ?_)
 refine wG hF (fun h5 hF => ?_) fun h5 hF => ?_
 ·exact wV h5 (hj1 _) (zaa hF)
 try simp [go_sem, g, h5]
 refine wC hF [.sh, .sh] zbn (fun z6 hF => ?_)
 try simp [go_sem, g, h5]
 refine wG hF (fun h7 hF => ?_) fun h7 hF => ?_
 ·exact wV h7 (hj1 _) (zaa hF)
 try simp [go_sem, g, h7]
 refine wC hF [.sh, .sh] zbn (fun z8 hF => ?_)
 exact wV h7 (hj1 _) (zaa hF)
def zdL (a0 : Group) : Option Bool :=
 ((if decide (7 < a0.Q) = true then (
 (zaL a0).bind fun z5 =>
 some z5) else (
 some false) : Option Bool).bind fun x3 =>
 some x3)
theorem zi2 : ∀ {a0} {r}, zdL a0 = some r → PCalls Tryz.prog 26 [(.sh, vE a0)] (Eo (.bool r) [.junk]) := by
 intro a0 r hr
 apply pF 10 [] [] [] [.tmp 2] hr zE6 Tryz.func26
 intro Φ hΦ hF g
 unfold zdL at hF
 refine wW ?_
 refine wJ hF (fun x3 => [(2, .v (.bool x3))]) (fun x3 hF => ?_) fun _ hj1 hF => ?_
 ·exact wm hΦ hF
 refine wG hF (fun h4 hF => ?_) fun h4 hF => ?_
 ·try simp [go_sem, g, h4]
  refine wC hF [.sh] zbe (fun z5 hF => ?_)
  exact wV h4 (hj1 _) (zaa hF)
 exact wV h4 (hj1 _) (zaa hF)
def zbZ (a0 : List Int) (a1 : Int) : Option Int :=
 ((zap (σ := Unit) (fun i5 s4 =>
 (ix a0 i5).bind fun x11 =>
 if (a1 == x11) = true then (
 some (.out (.inr i5))) else (
 some (.go ()))) (fun s4 => .inl ()) (a0.length) 0 () : Option (Unit ⊕ Int)).bind (Sum.elim (fun x3 =>
 some (-1)) some))
theorem zjC : ∀ {a0} {a1} {r}, zbZ a0 a1 = some r → PCalls Tryz.prog 112 [(.sh, vC a0), (.sh, .int .i64 a1)] (Eo (.int .i64 r) [.junk, .junk]) := by
 intro a0 a1 r hr
 apply pF 19 [] [] [] [.tmp 4] hr zAj Tryz.func112
 intro Φ hΦ hF g
 unfold zbZ at hF
 iterate 2 (try simp [go_sem, g]; try intros; refine zas ?_)
 refine wS hF (fun x3 => []) (fun x3 hF => ?_) fun _ hj1 hr2 hF => ?_
 ·exact wl hΦ hF
 refine wB ?_
 obtain ⟨b13, hb14, hψ8⟩ := hF
 refine pR hb14 (fun i5 s4 => [(0, .v (vC a0)), (1, .v (.int .i64 a1)), (7, .v (.int .i64 (a0.length : Int))), (8, .v (.int .i64 i5))]) (fun s4 _ hN15 => ?_) (fun i5 s4 _ _ hi9 hi10 ho6 hg7 hF => ?_)
 ·exact wn hN15 (hj1 _) hψ8
 refine wW ?_
 refine wu hi9 hi10 ?_
 refine wW ?_
 refine wB ?_
 obtain ⟨x11, g, hF⟩ := Rx g hF
 refine wW ?_
 refine wK [0, 1, 5, 7, 8, 16] ?_
 refine wI hF (fun h12 hF => ?_) (fun h12 hF => ?_)
 ·cases ho6 _ (zaa hF)
  cases hΦ _ (hr2 _ hψ8)
  refine wW ?_
  try simp [go_sem, g]
 refine wW ?_
 exact wi hi9 hi10 (hg7 _) (zaa hF)
def za3 (a0 : List Int) (a1 : Int) : Option Bool :=
 (zbZ a0 a1).bind fun z1 =>
 some (decide (0 ≤ z1))
theorem zfY : ∀ {a0} {a1} {r}, za3 a0 a1 = some r → PCalls Tryz.prog 69 [(.sh, vC a0), (.sh, .int .i64 a1)] (Eo (.bool r) [.junk, .junk]) := by
 intro a0 a1 r hr
 apply pF 9 [] [] [] [.tmp 4] hr zGF Tryz.func69
 intro Φ hΦ hF g
 unfold za3 at hF
 refine wW ?_
 refine wC hF [.sh, .sh] zjC (fun z1 hF => ?_)
 exact wl hΦ hF
def zdQ (a0 : Int) : Option Bool :=
 (za8 a0 1 7).bind fun z1 =>
 some z1
theorem ziW : ∀ {a0} {r}, zdQ a0 = some r → PCalls Tryz.prog 113 [(.sh, .int .i64 a0)] (Eo (.bool r) [.junk]) := by
 intro a0 r hr
 apply pF 5 [] [] [] [.tmp 2] hr zCw Tryz.func113
 intro Φ hΦ hF g
 unfold zdQ at hF
 refine wW ?_
 refine wC hF [.sh, .sh, .sh] zbU (fun z1 hF => ?_)
 exact wl hΦ hF
def zed (a0 : Cipher) (a1 : Cipher) : Option EqualLog :=
 some (EqualLog.mk a0.A a1.A a0.B a1.B)
theorem zjP : ∀ {a0} {a1} {r}, zed a0 a1 = some r → PCalls Tryz.prog 114 [(.sh, vQ a0), (.sh, vQ a1)] (Eo (vY r) [.junk, .junk]) := by
 intro a0 a1 r hr
 apply pF 14 [] [] [] [.cell 4 77] hr zz3 Tryz.func114
 intro Φ hΦ hF g
 unfold zed at hF
 refine wW ?_
 refine wK [4] ?_
 exact wm hΦ hF
def zdG (a0 : EqualLog) : Option ((List (List Int))) :=
 some [[a0.G1], [a0.G2]]
theorem ziC : ∀ {a0} {r}, zdG a0 = some r → PCalls Tryz.prog 86 [(.sh, vY a0)] (Eo (vF r) [.junk]) := by
 intro a0 r hr
 apply pF 10 [] [] [] [.tmp 2] hr zFq Tryz.func86
 intro Φ hΦ hF g
 unfold zdG at hF
 refine wW ?_
 refine wK [2] ?_
 exact wm hΦ hF
def zdO (a0 : ByteArray) : Option Bool :=
 some (decide ((a0.size : Int) ≤ 40))
theorem zhE : ∀ {a0} {r}, zdO a0 = some r → PCalls Tryz.prog 124 [(.sh, .str a0)] (Eo (.bool r) [.junk]) := by
 intro a0 r hr
 apply pF 6 [] [] [] [.tmp 2] hr zAv Tryz.func124
 intro Φ hΦ hF g
 unfold zdO at hF
 cases hΦ _ (zaa hF)
 iterate 2 refine wW ?_
 try simp [go_sem, g]
def zbt (a0 : Int) (a1c0x0 : Group) : Option Bool :=
 (zbC a1c0x0 a0).bind fun z1 =>
 some (!z1)
theorem zhe : ∀ {a0} {a1c0x0} {r}, zbt a0 a1c0x0 = some r → PCalls Tryz.prog 132 [(.sh, .int .i64 a0), (.sh, .fp [.func (.func 45) [vE a1c0x0] []])] (Eo (.bool r) [.junk, .junk]) := by
 intro a0 a1c0x0 r hr
 apply pF 8 [] [] [] [.tmp 3] hr ztk Tryz.func132
 intro Φ hΦ hF g
 unfold zbt at hF
 refine wW ?_
 refine wC hF [.sh] zdI (fun z1 hF => ?_)
 exact wl hΦ hF
def zaM (a0 : List Int) (a1u0c0x0 : Group) : Option Int :=
 ((zap (σ := Unit) (fun i5 s4 =>
 (ix a0 i5).bind fun x11 =>
 (zbt x11 a1u0c0x0).bind fun z12 =>
 if z12 = true then (
 some (.out (.inr i5))) else (
 some (.go ()))) (fun s4 => .inl ()) (a0.length) 0 () : Option (Unit ⊕ Int)).bind (Sum.elim (fun x3 =>
 some (-1)) some))
theorem zdP : ∀ {a0} {a1u0c0x0} {r}, zaM a0 a1u0c0x0 = some r → PCalls Tryz.prog 153 [(.sh, vC a0), (.sh, .func (.func 132) [] [.fp [.func (.func 45) [vE a1u0c0x0] []]])] (Eo (.int .i64 r) [.junk, .junk]) := by
 intro a0 a1u0c0x0 r hr
 apply pF 19 [] [] [] [.tmp 4] hr zsN Tryz.func153
 intro Φ hΦ hF g
 unfold zaM at hF
 iterate 2 (try simp [go_sem, g]; try intros; refine zas ?_)
 refine wS hF (fun x3 => []) (fun x3 hF => ?_) fun _ hj1 hr2 hF => ?_
 ·exact wl hΦ hF
 refine wB ?_
 obtain ⟨b14, hb15, hψ8⟩ := hF
 refine pR hb15 (fun i5 s4 => [(0, .v (vC a0)), (1, .v (.func (.func 132) [] [.fp [.func (.func 45) [vE a1u0c0x0] []]])), (7, .v (.int .i64 (a0.length : Int))), (8, .v (.int .i64 i5))]) (fun s4 _ hN16 => ?_) (fun i5 s4 _ _ hi9 hi10 ho6 hg7 hF => ?_)
 ·exact wn hN16 (hj1 _) hψ8
 refine wW ?_
 refine wu hi9 hi10 ?_
 refine wW ?_
 refine wB ?_
 obtain ⟨x11, g, hF⟩ := Rx g hF
 refine wW ?_
 refine wC hF [.sh] zhe (fun z12 hF => ?_)
 refine wK [0, 1, 5, 7, 8, 16] ?_
 refine wI hF (fun h13 hF => ?_) (fun h13 hF => ?_)
 ·cases ho6 _ (zaa hF)
  cases hΦ _ (hr2 _ hψ8)
  refine wW ?_
  try simp [go_sem, g]
 refine wW ?_
 exact wi hi9 hi10 (hg7 _) (zaa hF)
def zaG (a0 : List Int) (a1u0c0x0 : Group) : Option Bool :=
 (zaM a0 a1u0c0x0).bind fun z1 =>
 some (decide (0 ≤ z1))
theorem zds : ∀ {a0} {a1u0c0x0} {r}, zaG a0 a1u0c0x0 = some r → PCalls Tryz.prog 131 [(.sh, vC a0), (.sh, .func (.func 132) [] [.fp [.func (.func 45) [vE a1u0c0x0] []]])] (Eo (.bool r) [.junk, .junk]) := by
 intro a0 a1u0c0x0 r hr
 apply pF 9 [] [] [] [.tmp 4] hr zs0 Tryz.func131
 intro Φ hΦ hF g
 unfold zaG at hF
 refine wW ?_
 refine wC hF [.sh, .sh] zdP (fun z1 hF => ?_)
 exact wl hΦ hF
def zce (a0 : List Int) (a1x0 : Group) : Option Bool :=
 (zaG a0 a1x0).bind fun z1 =>
 some (!z1)
theorem zhx : ∀ {a0} {a1x0} {r}, zce a0 a1x0 = some r → PCalls Tryz.prog 96 [(.sh, vC a0), (.sh, .func (.func 45) [vE a1x0] [])] (Eo (.bool r) [.junk, .junk]) := by
 intro a0 a1x0 r hr
 apply pF 9 [] [] [1000000] [.tmp 4] hr zvJ Tryz.func96
 intro Φ hΦ hF g
 unfold zce at hF
 refine wW ?_
 refine wC hF [.sh, .sh] zds (fun z1 hF => ?_)
 exact wl hΦ hF
def za2 (a0 : Group) (a1 : List Int) : Option Bool :=
 (zce a1 a0).bind fun z1 =>
 some z1
theorem zcN : ∀ {a0} {a1} {r}, za2 a0 a1 = some r → PCalls Tryz.prog 49 [(.sh, vE a0), (.sh, vC a1)] (Eo (.bool r) [.junk, .junk]) := by
 intro a0 a1 r hr
 apply pF 9 [] [] [] [.tmp 4] hr zGX Tryz.func49
 intro Φ hΦ hF g
 unfold za2 at hF
 refine wW ?_
 refine wC hF [.sh, .sh] zhx (fun z1 hF => ?_)
 exact wl hΦ hF
def zcz (a0 : List Int) (a1c0 : (List (List Int))) (a2c0 : Int) (a2c1 : Int) (a2c2 : Int) : Option Bool :=
 (((ix a1c0 0).bind fun x4 =>
 if ((a0.length : Int) != (x4.length : Int)) = true then (
 some true) else (
 (za2 (Group.mk a2c0 a2c1 a2c2) a0).bind fun z6 =>
 some (!z6)) : Option Bool).bind fun x3 =>
 some x3)
theorem zi7 : ∀ {a0} {a1c0} {a2c0} {a2c1} {a2c2} {r}, zcz a0 a1c0 a2c0 a2c1 a2c2 = some r → PCalls Tryz.prog 146 [(.sh, vC a0), (.sh, .fp [vG a1c0]), (.sh, .fp [.int .i64 a2c0, .int .i64 a2c1, .int .i64 a2c2])] (Eo (.bool r) [.junk, .junk, .junk]) := by
 intro a0 a1c0 a2c0 a2c1 a2c2 r hr
 apply pF 18 [] [] [] [.tmp 4] hr zCq Tryz.func146
 intro Φ hΦ hF g
 unfold zcz at hF
 refine wW ?_
 refine wJ hF (fun x3 => [(4, .v (.bool x3))]) (fun x3 hF => ?_) fun _ hj1 hF => ?_
 ·exact wm hΦ hF
 obtain ⟨x4, g, hF⟩ := Rxn g 0 hF
 try simp [go_sem, g]
 try intros
 refine wG hF (fun h5 hF => ?_) fun h5 hF => ?_
 ·exact wV h5 (hj1 _) (zaa hF)
 try simp [go_sem, g, h5]
 refine wC hF [.sh, .sh] zcN (fun z6 hF => ?_)
 exact wV h5 (hj1 _) (zaa hF)
def zaJ (a0 : (List (List Int))) (a1u0c0 : (List (List Int))) (a1u1c0 : Int) (a1u1c1 : Int) (a1u1c2 : Int) : Option Int :=
 ((zap (σ := Unit) (fun i5 s4 =>
 (ix a0 i5).bind fun x11 =>
 (zcz x11 a1u0c0 a1u1c0 a1u1c1 a1u1c2).bind fun z12 =>
 if z12 = true then (
 some (.out (.inr i5))) else (
 some (.go ()))) (fun s4 => .inl ()) (a0.length) 0 () : Option (Unit ⊕ Int)).bind (Sum.elim (fun x3 =>
 some (-1)) some))
theorem zeH : ∀ {a0} {a1u0c0} {a1u1c0} {a1u1c1} {a1u1c2} {r}, zaJ a0 a1u0c0 a1u1c0 a1u1c1 a1u1c2 = some r → PCalls Tryz.prog 155 [(.sh, vG a0), (.sh, .func (.func 146) [] [.fp [vG a1u0c0], .fp [.int .i64 a1u1c0, .int .i64 a1u1c1, .int .i64 a1u1c2]])] (Eo (.int .i64 r) [.junk, .junk]) := by
 intro a0 a1u0c0 a1u1c0 a1u1c1 a1u1c2 r hr
 apply pF 19 [] [] [] [.tmp 4] hr zBx Tryz.func155
 intro Φ hΦ hF g
 unfold zaJ at hF
 iterate 2 (try simp [go_sem, g]; try intros; refine zas ?_)
 refine wS hF (fun x3 => []) (fun x3 hF => ?_) fun _ hj1 hr2 hF => ?_
 ·exact wl hΦ hF
 refine wB ?_
 obtain ⟨b14, hb15, hψ8⟩ := hF
 refine pR hb15 (fun i5 s4 => [(0, .v (vG a0)), (1, .v (.func (.func 146) [] [.fp [vG a1u0c0], .fp [.int .i64 a1u1c0, .int .i64 a1u1c1, .int .i64 a1u1c2]])), (7, .v (.int .i64 (a0.length : Int))), (8, .v (.int .i64 i5))]) (fun s4 _ hN16 => ?_) (fun i5 s4 _ _ hi9 hi10 ho6 hg7 hF => ?_)
 ·exact wn hN16 (hj1 _) hψ8
 refine wW ?_
 refine wu hi9 hi10 ?_
 refine wW ?_
 refine wB ?_
 obtain ⟨x11, g, hF⟩ := Rx g hF
 refine wW ?_
 refine wC hF [.sh] zi7 (fun z12 hF => ?_)
 refine wK [0, 1, 5, 7, 8, 16] ?_
 refine wI hF (fun h13 hF => ?_) (fun h13 hF => ?_)
 ·cases ho6 _ (zaa hF)
  cases hΦ _ (hr2 _ hψ8)
  refine wW ?_
  try simp [go_sem, g]
 refine wW ?_
 exact wi hi9 hi10 (hg7 _) (zaa hF)
def zaR (a0 : (List (List Int))) (a1u0c0 : (List (List Int))) (a1u1c0 : Int) (a1u1c1 : Int) (a1u1c2 : Int) : Option Bool :=
 (zaJ a0 a1u0c0 a1u1c0 a1u1c1 a1u1c2).bind fun z1 =>
 some (decide (0 ≤ z1))
theorem zel : ∀ {a0} {a1u0c0} {a1u1c0} {a1u1c1} {a1u1c2} {r}, zaR a0 a1u0c0 a1u1c0 a1u1c1 a1u1c2 = some r → PCalls Tryz.prog 145 [(.sh, vG a0), (.sh, .func (.func 146) [] [.fp [vG a1u0c0], .fp [.int .i64 a1u1c0, .int .i64 a1u1c1, .int .i64 a1u1c2]])] (Eo (.bool r) [.junk, .junk]) := by
 intro a0 a1u0c0 a1u1c0 a1u1c1 a1u1c2 r hr
 apply pF 9 [] [] [] [.tmp 4] hr zA2 Tryz.func145
 intro Φ hΦ hF g
 unfold zaR at hF
 refine wW ?_
 refine wC hF [.sh, .sh] zeH (fun z1 hF => ?_)
 exact wl hΦ hF
def zbS (a0 : Group) (a1 : (List (List Int))) : Option Bool :=
 (((za8 (a1.length : Int) 1 8).bind fun z4 =>
 if (!z4) = true then (
 some true) else (
 (ix a1 0).bind fun x6 =>
 (za8 (x6.length : Int) 1 8).bind fun z7 =>
 some (!z7)) : Option Bool).bind fun x3 =>
 if x3 = true then (
 some false) else (
 (zaR a1 a1 a0.P a0.Q a0.G).bind fun z9 =>
 some (!z9)))
theorem zfv : ∀ {a0} {a1} {r}, zbS a0 a1 = some r → PCalls Tryz.prog 125 [(.sh, vE a0), (.sh, vG a1)] (Eo (.bool r) [.junk, .junk]) := by
 intro a0 a1 r hr
 apply pF 21 [] [] [1000000] [.tmp 4] hr zBU Tryz.func125
 intro Φ hΦ hF g
 unfold zbS at hF
 refine wW ?_
 refine wJ hF (fun x3 => [(2, .bl [.int .i64 a0.P, .int .i64 a0.Q, .int .i64 a0.G]), (3, .bl [vG a1]), (16, .v (.bool x3))]) (fun x3 hF => ?_) fun _ hj1 hF => ?_
 ·refine wI hF (fun h8 hF => ?_) (fun h8 hF => ?_)
  ·exact wl hΦ hF
  refine wW ?_
  refine wC hF [.sh, .sh] zel (fun z9 hF => ?_)
  exact wl hΦ hF
 try simp [go_sem, g]
 try intros
 refine wC hF [.sh, .sh, .sh] zbU (fun z4 hF => ?_)
 refine wG hF (fun h5 hF => ?_) fun h5 hF => ?_
 ·exact wV h5 (hj1 _) (zaa hF)
 obtain ⟨x6, g, hF⟩ := Rxn g 0 hF
 try simp [go_sem, g, h5]
 try intros
 refine wC hF [.sh, .sh, .sh] zbU (fun z7 hF => ?_)
 exact wV h5 (hj1 _) (zaa hF)
def zby (a0 : Group) (a1 : Int) : Option Bool :=
 (za8 a1 0 (i64.wrap (a0.Q - 1))).bind fun z1 =>
 some z1
theorem zeY : ∀ {a0} {a1} {r}, zby a0 a1 = some r → PCalls Tryz.prog 50 [(.sh, vE a0), (.sh, .int .i64 a1)] (Eo (.bool r) [.junk, .junk]) := by
 intro a0 a1 r hr
 apply pF 10 [] [] [] [.tmp 4] hr zHb Tryz.func50
 intro Φ hΦ hF g
 unfold zby at hF
 refine wW ?_
 refine wC hF [.sh, .sh, .sh] zbU (fun z1 hF => ?_)
 exact wl hΦ hF
def zbl (a0 : Int) (a1c0x0 : Group) : Option Bool :=
 (zby a1c0x0 a0).bind fun z1 =>
 some (!z1)
theorem zgt : ∀ {a0} {a1c0x0} {r}, zbl a0 a1c0x0 = some r → PCalls Tryz.prog 132 [(.sh, .int .i64 a0), (.sh, .fp [.func (.func 50) [vE a1c0x0] []])] (Eo (.bool r) [.junk, .junk]) := by
 intro a0 a1c0x0 r hr
 apply pF 8 [] [] [] [.tmp 3] hr ztk Tryz.func132
 intro Φ hΦ hF g
 unfold zbl at hF
 refine wW ?_
 refine wC hF [.sh] zeY (fun z1 hF => ?_)
 exact wl hΦ hF
def zaY (a0 : List Int) (a1u0c0x0 : Group) : Option Int :=
 ((zap (σ := Unit) (fun i5 s4 =>
 (ix a0 i5).bind fun x11 =>
 (zbl x11 a1u0c0x0).bind fun z12 =>
 if z12 = true then (
 some (.out (.inr i5))) else (
 some (.go ()))) (fun s4 => .inl ()) (a0.length) 0 () : Option (Unit ⊕ Int)).bind (Sum.elim (fun x3 =>
 some (-1)) some))
theorem zdy : ∀ {a0} {a1u0c0x0} {r}, zaY a0 a1u0c0x0 = some r → PCalls Tryz.prog 153 [(.sh, vC a0), (.sh, .func (.func 132) [] [.fp [.func (.func 50) [vE a1u0c0x0] []]])] (Eo (.int .i64 r) [.junk, .junk]) := by
 intro a0 a1u0c0x0 r hr
 apply pF 19 [] [] [] [.tmp 4] hr zsN Tryz.func153
 intro Φ hΦ hF g
 unfold zaY at hF
 iterate 2 (try simp [go_sem, g]; try intros; refine zas ?_)
 refine wS hF (fun x3 => []) (fun x3 hF => ?_) fun _ hj1 hr2 hF => ?_
 ·exact wl hΦ hF
 refine wB ?_
 obtain ⟨b14, hb15, hψ8⟩ := hF
 refine pR hb15 (fun i5 s4 => [(0, .v (vC a0)), (1, .v (.func (.func 132) [] [.fp [.func (.func 50) [vE a1u0c0x0] []]])), (7, .v (.int .i64 (a0.length : Int))), (8, .v (.int .i64 i5))]) (fun s4 _ hN16 => ?_) (fun i5 s4 _ _ hi9 hi10 ho6 hg7 hF => ?_)
 ·exact wn hN16 (hj1 _) hψ8
 refine wW ?_
 refine wu hi9 hi10 ?_
 refine wW ?_
 refine wB ?_
 obtain ⟨x11, g, hF⟩ := Rx g hF
 refine wW ?_
 refine wC hF [.sh] zgt (fun z12 hF => ?_)
 refine wK [0, 1, 5, 7, 8, 16] ?_
 refine wI hF (fun h13 hF => ?_) (fun h13 hF => ?_)
 ·cases ho6 _ (zaa hF)
  cases hΦ _ (hr2 _ hψ8)
  refine wW ?_
  try simp [go_sem, g]
 refine wW ?_
 exact wi hi9 hi10 (hg7 _) (zaa hF)
def zaU (a0 : List Int) (a1u0c0x0 : Group) : Option Bool :=
 (zaY a0 a1u0c0x0).bind fun z1 =>
 some (decide (0 ≤ z1))
theorem zdc : ∀ {a0} {a1u0c0x0} {r}, zaU a0 a1u0c0x0 = some r → PCalls Tryz.prog 131 [(.sh, vC a0), (.sh, .func (.func 132) [] [.fp [.func (.func 50) [vE a1u0c0x0] []]])] (Eo (.bool r) [.junk, .junk]) := by
 intro a0 a1u0c0x0 r hr
 apply pF 9 [] [] [] [.tmp 4] hr zs0 Tryz.func131
 intro Φ hΦ hF g
 unfold zaU at hF
 refine wW ?_
 refine wC hF [.sh, .sh] zdy (fun z1 hF => ?_)
 exact wl hΦ hF
def zbV (a0 : List Int) (a1x0 : Group) : Option Bool :=
 (zaU a0 a1x0).bind fun z1 =>
 some (!z1)
theorem zhd : ∀ {a0} {a1x0} {r}, zbV a0 a1x0 = some r → PCalls Tryz.prog 96 [(.sh, vC a0), (.sh, .func (.func 50) [vE a1x0] [])] (Eo (.bool r) [.junk, .junk]) := by
 intro a0 a1x0 r hr
 apply pF 9 [] [] [1000000] [.tmp 4] hr zvJ Tryz.func96
 intro Φ hΦ hF g
 unfold zbV at hF
 refine wW ?_
 refine wC hF [.sh, .sh] zdc (fun z1 hF => ?_)
 exact wl hΦ hF
def zba (a0 : Group) (a1 : List Int) : Option Bool :=
 (zbV a1 a0).bind fun z1 =>
 some z1
theorem zdl : ∀ {a0} {a1} {r}, zba a0 a1 = some r → PCalls Tryz.prog 126 [(.sh, vE a0), (.sh, vC a1)] (Eo (.bool r) [.junk, .junk]) := by
 intro a0 a1 r hr
 apply pF 9 [] [] [] [.tmp 4] hr zCj Tryz.func126
 intro Φ hΦ hF g
 unfold zba at hF
 refine wW ?_
 refine wC hF [.sh, .sh] zhd (fun z1 hF => ?_)
 exact wl hΦ hF
theorem zAH : zs3 Tryz.prog 157 25 := by
 intro n H e b es by_ z e1 e2 h0 h1 h2 h3 h4 h5
 refine ziY zCs Tryz.func157 rfl rfl (by simp [Tryz.f157]) fun hw => ?_
 have hn : ¬ n < 0 := by omega
 have hw1 : i64.wrap n = n := wrI (by omega)
 have hw0 : i64.wrap 0 = 0 := wrI (by omega)
 have ei : (zec Tryz.prog 3).isSome = true := by kernel_rfl
 by_cases hp : 0 < n
 ·have hne : n ≠ 0 := by omega
  have h5' := h5
  simp [zan] at h5'
  simp [Tryz.f157, awp, zgj, aop, ahp, zaP, za7, zaW, mat, za1, zau, zku, FR.put, FR.init, rdv, rda, zbB, zcO, zan, Am.lenV, zd4, zb4, bnd, zjM, zox, zhw, zh9, zkz, hn, e1, e2, ei, hw1, hw0, hp, h1, h2, h3, h4, hne]
  first | exact h5' | exact .inl h5'
 have hz : n = 0 := by omega
 subst hz
 simp [Tryz.f157, awp, zgj, aop, ahp, zaP, za7, zaW, mat, za1, zau, zku, FR.put, FR.init, rdv, rda, zbB, zcO, zan, Am.lenV, zd4, zb4, bnd, zjM, zox, zhw, zh9, zkz, hn, e1, e2, hw1, hw0, hp]
def zbh (a0 : (List (List Int))) : Option ((List Int)) :=
 ((zap (σ := Int) (fun i5 s4 =>
 (ix a0 i5).bind fun x11 =>
 if decide ((i64.wrap (s4 + (x11.length : Int))) < 0) = true then (
 none) else (
 some (.go (i64.wrap (s4 + (x11.length : Int)))))) (fun s4 => s4) (a0.length) 0 0 : Option Int).bind fun x3 =>
 gd (0 ≤ x3 ∧ 8 * x3 ≤ 140737488355328 ∧ x3 ≤ 4611686018427387904) <|
 ((zap (σ := (List Int)) (fun i22 s21 =>
 (ix a0 i22).bind fun x28 =>
 gd ((s21.length + x28.length) * 8 ≤ 140737488355328 ∧ s21.length + x28.length ≤ 4611686018427387904) <|
 some (.go (s21 ++ x28))) (fun s21 => s21) (a0.length) 0 [] : Option ((List Int))).bind fun x20 =>
 some x20))
theorem zdA : ∀ {a0} {r}, zbh a0 = some r → PCalls Tryz.prog 149 [(.sh, vG a0)] (Eo (vD r) [.junk]) := by
 intro a0 r hr
 apply pF 36 [] [] [] [.tmp 2] hr zBV Tryz.func149
 intro Φ hΦ hF g
 unfold zbh at hF
 iterate 3 (try simp [go_sem, g]; try intros; refine zas ?_)
 refine wJ hF (fun x3 => [(0, .v (vG a0)), (3, .v (.int .i64 x3))]) (fun x3 hF => ?_) fun _ hj1 hF => ?_
 ·obtain ⟨g17, hF⟩ := zie hF
  try simp [go_sem, g]
  refine zxy zAH zEb (by simp [go_sem, g]) g17 ?_
  try simp [go_sem, g]
  try intros
  refine zas ?_
  try simp [go_sem, g]
  try intros
  refine wK [6, 25, 26, 27] ?_
  refine wJ hF (fun x20 => [(6, .v (vD x20))]) (fun x20 hF => ?_) fun _ hj18 hF => ?_
  ·exact wl hΦ hF
  refine wB ?_
  obtain ⟨b29, hb30, hψ25⟩ := hF
  refine pR hb30 (fun i22 s21 => [(6, .v (vD s21)), (25, .v (vG a0)), (26, .v (.int .i64 (a0.length : Int))), (27, .v (.int .i64 i22))]) (fun s21 _ hN31 => ?_) (fun i22 s21 _ _ hi26 hi27 ho23 hg24 hF => ?_)
  ·exact wn hN31 (hj18 _) hψ25
  refine wW ?_
  refine wu hi26 hi27 ?_
  refine wW ?_
  refine wB ?_
  obtain ⟨x28, g, hF⟩ := Rx g hF
  obtain ⟨g, hF⟩ := Rg g hF
  iterate 2 refine wW ?_
  exact wi hi26 hi27 (hg24 _) (zaa hF)
 refine wB ?_
 obtain ⟨b13, hb14, hψ8⟩ := hF
 refine pR hb14 (fun i5 s4 => [(0, .v (vG a0)), (3, .v (.int .i64 s4)), (9, .v (vG a0)), (10, .v (.int .i64 (a0.length : Int))), (11, .v (.int .i64 i5))]) (fun s4 _ hN15 => ?_) (fun i5 s4 _ _ hi9 hi10 ho6 hg7 hF => ?_)
 ·exact wn hN15 (hj1 _) hψ8
 refine wW ?_
 refine wu hi9 hi10 ?_
 refine wW ?_
 refine wB ?_
 obtain ⟨x11, g, hF⟩ := Rx g hF
 try simp [go_sem, g]
 try intros
 refine zas ?_
 try simp [go_sem, g]
 try intros
 refine wK [0, 3, 9, 10, 11] ?_
 refine wW ?_
 refine wI hF (fun h12 hF => ?_) (fun h12 hF => ?_)
 ·exact (zor hF).elim
 refine wW ?_
 exact wi hi9 hi10 (hg7 _) (zaa hF)
def zfZ (a0 : ByteArray) (a1 : List Int) : Option ((List Int)) :=
 ((zbO (σ := (List Int) × Int) (fun s4 =>
 if decide (s4.2 < (a0.size : Int)) = true then (
 (ixs a0 s4.2).bind fun x10 =>
 gd ((s4.1.length + 1) * 8 ≤ 140737488355328 ∧ s4.1.length + 1 ≤ 4611686018427387904) <|
 some (.go (s4.1 ++ [i64.wrap x10], i64.wrap (s4.2 + 1)))) else (
 some (.out s4.1))) ([(a0.size : Int)], 0) : Option ((List Int))).bind fun x3 =>
 gd ((x3.length + a1.length) * 8 ≤ 140737488355328 ∧ x3.length + a1.length ≤ 4611686018427387904) <|
 some (x3 ++ a1))
theorem znh : ∀ {a0} {a1} {r}, zfZ a0 a1 = some r → PCalls Tryz.prog 160 [(.sh, .str a0), (.sh, vC a1)] (Eo (vD r) [.junk, .junk]) := by
 intro a0 a1 r hr
 apply pF 26 [] [] [] [.tmp 4] hr zBP Tryz.func160
 intro Φ hΦ hF g
 unfold zfZ at hF
 iterate 3 refine wW ?_
 refine wJ hF (fun x3 => [(1, .v (vC a1)), (5, .v (vD x3))]) (fun x3 hF => ?_) fun _ hj1 hF => ?_
 ·obtain ⟨g, hF⟩ := Rg g hF
  refine wK [4] ?_
  exact wm hΦ hF
 refine wB ?_
 obtain ⟨b11, hb12, hψ8⟩ := hF
 refine pL hb12 (fun s4 => [(0, .v (.str a0)), (1, .v (vC a1)), (5, .v (vD s4.1)), (11, .v (.int .i64 (a0.size : Int))), (12, .v (.int .i64 s4.2))]) (fun s4 _ _ ho6 hg7 hF => ?_)
 refine wW ?_
 refine wI hF (fun h9 hF => ?_) (fun h9 hF => ?_)
 ·refine wW ?_
  refine wB ?_
  refine wK [0, 1, 5, 6, 11, 12] ?_
  obtain ⟨x10, g, hF⟩ := Rxs g hF
  obtain ⟨g, hF⟩ := Rg g hF
  refine wW ?_
  exact wT (hg7 _) (zaa hF)
 cases ho6 _ (zaa hF)
 exact wT (hj1 _) hψ8
def zfa (a0 : Int) : Option Bool :=
 (za8 a0 0 4611686018427387903).bind fun z1 =>
 some z1
theorem znf : ∀ {a0} {r}, zfa a0 = some r → PCalls Tryz.prog 163 [(.sh, .int .i64 a0)] (Eo (.bool r) [.junk]) := by
 intro a0 r hr
 apply pF 5 [] [] [] [.tmp 2] hr zAY Tryz.func163
 intro Φ hΦ hF g
 unfold zfa at hF
 refine wW ?_
 refine wC hF [.sh, .sh, .sh] zbU (fun z1 hF => ?_)
 exact wl hΦ hF
def zbA (a0 : Int) : Option Bool :=
 (zfa a0).bind fun z1 =>
 some (!z1)
theorem zhk : ∀ {a0} {r}, zbA a0 = some r → PCalls Tryz.prog 132 [(.sh, .int .i64 a0), (.sh, .fp [.func (.func 163) [] []])] (Eo (.bool r) [.junk, .junk]) := by
 intro a0 r hr
 apply pF 8 [] [] [] [.tmp 3] hr ztk Tryz.func132
 intro Φ hΦ hF g
 unfold zbA at hF
 refine wW ?_
 refine wC hF [.sh] znf (fun z1 hF => ?_)
 exact wl hΦ hF
def za9 (a0 : List Int) : Option Int :=
 ((zap (σ := Unit) (fun i5 s4 =>
 (ix a0 i5).bind fun x11 =>
 (zbA x11).bind fun z12 =>
 if z12 = true then (
 some (.out (.inr i5))) else (
 some (.go ()))) (fun s4 => .inl ()) (a0.length) 0 () : Option (Unit ⊕ Int)).bind (Sum.elim (fun x3 =>
 some (-1)) some))
theorem zdV : ∀ {a0} {r}, za9 a0 = some r → PCalls Tryz.prog 153 [(.sh, vC a0), (.sh, .func (.func 132) [] [.fp [.func (.func 163) [] []]])] (Eo (.int .i64 r) [.junk, .junk]) := by
 intro a0 r hr
 apply pF 19 [] [] [] [.tmp 4] hr zsN Tryz.func153
 intro Φ hΦ hF g
 unfold za9 at hF
 iterate 2 (try simp [go_sem, g]; try intros; refine zas ?_)
 refine wS hF (fun x3 => []) (fun x3 hF => ?_) fun _ hj1 hr2 hF => ?_
 ·exact wl hΦ hF
 refine wB ?_
 obtain ⟨b14, hb15, hψ8⟩ := hF
 refine pR hb15 (fun i5 s4 => [(0, .v (vC a0)), (1, .v (.func (.func 132) [] [.fp [.func (.func 163) [] []]])), (7, .v (.int .i64 (a0.length : Int))), (8, .v (.int .i64 i5))]) (fun s4 _ hN16 => ?_) (fun i5 s4 _ _ hi9 hi10 ho6 hg7 hF => ?_)
 ·exact wn hN16 (hj1 _) hψ8
 refine wW ?_
 refine wu hi9 hi10 ?_
 refine wW ?_
 refine wB ?_
 obtain ⟨x11, g, hF⟩ := Rx g hF
 refine wW ?_
 refine wC hF [.sh] zhk (fun z12 hF => ?_)
 refine wK [0, 1, 5, 7, 8, 16] ?_
 refine wI hF (fun h13 hF => ?_) (fun h13 hF => ?_)
 ·cases ho6 _ (zaa hF)
  cases hΦ _ (hr2 _ hψ8)
  refine wW ?_
  try simp [go_sem, g]
 refine wW ?_
 exact wi hi9 hi10 (hg7 _) (zaa hF)
def zaZ (a0 : List Int) : Option Bool :=
 (za9 a0).bind fun z1 =>
 some (decide (0 ≤ z1))
theorem zdx : ∀ {a0} {r}, zaZ a0 = some r → PCalls Tryz.prog 131 [(.sh, vC a0), (.sh, .func (.func 132) [] [.fp [.func (.func 163) [] []]])] (Eo (.bool r) [.junk, .junk]) := by
 intro a0 r hr
 apply pF 9 [] [] [] [.tmp 4] hr zs0 Tryz.func131
 intro Φ hΦ hF g
 unfold zaZ at hF
 refine wW ?_
 refine wC hF [.sh, .sh] zdV (fun z1 hF => ?_)
 exact wl hΦ hF
def zcr (a0 : List Int) : Option Bool :=
 (zaZ a0).bind fun z1 =>
 some (!z1)
theorem zhD : ∀ {a0} {r}, zcr a0 = some r → PCalls Tryz.prog 96 [(.sh, vC a0), (.sh, .func (.func 163) [] [])] (Eo (.bool r) [.junk, .junk]) := by
 intro a0 r hr
 apply pF 9 [] [] [1000000] [.tmp 4] hr zvJ Tryz.func96
 intro Φ hΦ hF g
 unfold zcr at hF
 refine wW ?_
 refine wC hF [.sh, .sh] zdx (fun z1 hF => ?_)
 exact wl hΦ hF
def zej (a0 : List Int) : Option Bool :=
 ((if decide ((a0.length : Int) ≤ 400) = true then (
 (zcr a0).bind fun z5 =>
 some z5) else (
 some false) : Option Bool).bind fun x3 =>
 some x3)
theorem zlZ : ∀ {a0} {r}, zej a0 = some r → PCalls Tryz.prog 161 [(.sh, vC a0)] (Eo (.bool r) [.junk]) := by
 intro a0 r hr
 apply pF 10 [] [] [] [.tmp 2] hr zCe Tryz.func161
 intro Φ hΦ hF g
 unfold zej at hF
 refine wW ?_
 refine wJ hF (fun x3 => [(2, .v (.bool x3))]) (fun x3 hF => ?_) fun _ hj1 hF => ?_
 ·exact wm hΦ hF
 try simp [go_sem, g]
 try intros
 refine wG hF (fun h4 hF => ?_) fun h4 hF => ?_
 ·try simp [go_sem, g, h4]
  refine wC hF [.sh, .sh] zhD (fun z5 hF => ?_)
  exact wV h4 (hj1 _) (zaa hF)
 exact wV h4 (hj1 _) (zaa hF)
def zgE (a0 : List Int) : Option Int :=
 gd (([(a0.length : Int)].length + a0.length) * 8 ≤ 140737488355328 ∧ [(a0.length : Int)].length + a0.length ≤ 4611686018427387904) <|
 (some ([(a0.length : Int)] ++ a0)).bind fun x1 =>
 ((zap (σ := Int × Int) (fun i7 s6 =>
 (ix x1 i7).bind fun x13 =>
 some (.go ((i64.wrap ((i64.wrap ((i64.wrap (48271 * ((i64.wrap ((i64.wrap ((i64.wrap (48271 * s6.1)) + (i64.wrap ((BitVec.ofInt i64.bits x13 &&& BitVec.ofInt i64.bits 2147483647).toNat)))) + 1)).tmod 2147483647))) + (x13.fdiv 2147483648))) + 1)).tmod 2147483647, (i64.wrap ((i64.wrap ((i64.wrap (69621 * ((i64.wrap ((i64.wrap ((i64.wrap (69621 * s6.2)) + (i64.wrap ((BitVec.ofInt i64.bits x13 &&& BitVec.ofInt i64.bits 2147483647).toNat)))) + 1)).tmod 2147483647))) + (x13.fdiv 2147483648))) + 1)).tmod 2147483647))) (fun s6 => (s6.1, s6.2)) (x1.length) 0 (1, 2) : Option ((Int × Int))).bind fun x5 =>
 some (i64.wrap ((i64.wrap (x5.1 * 2147483648)) + x5.2)))
theorem zq2 : ∀ {a0} {r}, zgE a0 = some r → PCalls Tryz.prog 162 [(.sh, vC a0)] (Eo (.int .i64 r) [.junk]) := by
 intro a0 r hr
 apply pF 52 [] [] [] [.tmp 2] hr zzX Tryz.func162
 intro Φ hΦ hF g
 unfold zgE at hF
 obtain ⟨g, hF⟩ := Rg g hF
 obtain ⟨x1, e2, hF⟩ := zfR hF
 have g := And.intro g (show [.int .i64 (a0.length : Int)] :: (List.map zag a0) = x1.map zag by injection e2 with e2; rw [← e2]; simp [go_sem])
 iterate 2 (try simp [go_sem, g]; try intros; refine zas ?_)
 try simp [go_sem, g]
 try intros
 refine wK [3, 4, 13, 14, 15] ?_
 refine wJ hF (fun x5 => [(3, .v (.int .i64 x5.1)), (4, .v (.int .i64 x5.2))]) (fun x5 hF => ?_) fun _ hj3 hF => ?_
 ·have g := Ls g 31
  exact wl hΦ hF
 refine wB ?_
 obtain ⟨b14, hb15, hψ10⟩ := hF
 refine pR hb15 (fun i7 s6 => [(3, .v (.int .i64 s6.1)), (4, .v (.int .i64 s6.2)), (13, .v (vD x1)), (14, .v (.int .i64 (x1.length : Int))), (15, .v (.int .i64 i7))]) (fun s6 _ hN16 => ?_) (fun i7 s6 _ _ hi11 hi12 ho8 hg9 hF => ?_)
 ·exact wn hN16 (hj3 _) hψ10
 refine wW ?_
 refine wu hi11 hi12 ?_
 refine wW ?_
 refine wB ?_
 obtain ⟨x13, g, hF⟩ := Rx g hF
 have g := Ls g 31
 refine wW ?_
 refine wK [3, 4, 7, 8, 13, 14, 15] ?_
 have g := Ld g 2147483647
 refine wW ?_
 refine wK [3, 4, 7, 8, 13, 14, 15] ?_
 refine wW ?_
 refine wK [3, 4, 13, 14, 15] ?_
 exact wi hi11 hi12 (hg9 _) (zaa hF)
def ze6 (a0 : List Int) : Option (Int × Bool) :=
 (zej a0).bind fun z1 =>
 if (!z1) = true then (
 some (0, false)) else (
 (zgE a0).bind fun z3 =>
 some (z3, true))
theorem znF : ∀ {a0} {r}, ze6 a0 = some r → PCalls Tryz.prog 159 [(.sh, vC a0)] (Eo (.tup [.int .i64 r.1, .bool r.2]) [.junk]) := by
 intro a0 r hr
 apply pF 9 [] [] [] [.tmp 2, .tmp 3] hr zA1 Tryz.func159
 intro Φ hΦ hF g
 unfold ze6 at hF
 refine wW ?_
 refine wC hF [.sh] zlZ (fun z1 hF => ?_)
 refine wW ?_
 refine wI hF (fun h2 hF => ?_) (fun h2 hF => ?_)
 ·exact wl hΦ hF
 refine wW ?_
 refine wC hF [.sh] zq2 (fun z3 hF => ?_)
 exact wl hΦ hF
def zdD (a0 : ByteArray) (a1 : List Int) : Option (Int × Bool) :=
 ((if decide (40 < (a0.size : Int)) = true then (
 some true) else (
 some (decide (400 < (a1.length : Int)))) : Option Bool).bind fun x3 =>
 if x3 = true then (
 some (0, false)) else (
 (zfZ a0 a1).bind fun z6 =>
 (ze6 z6).bind fun z7 =>
 some (z7.1, z7.2)))
theorem zkM : ∀ {a0} {a1} {r}, zdD a0 a1 = some r → PCalls Tryz.prog 156 [(.sh, .str a0), (.sh, vC a1)] (Eo (.tup [.int .i64 r.1, .bool r.2]) [.junk, .junk]) := by
 intro a0 a1 r hr
 apply pF 20 [] [] [] [.tmp 4, .tmp 5] hr zzZ Tryz.func156
 intro Φ hΦ hF g
 unfold zdD at hF
 refine wW ?_
 refine wJ hF (fun x3 => [(0, .v (.str a0)), (1, .v (vC a1)), (13, .v (.bool x3))]) (fun x3 hF => ?_) fun _ hj1 hF => ?_
 ·refine wI hF (fun h5 hF => ?_) (fun h5 hF => ?_)
  ·exact wl hΦ hF
  refine wW ?_
  refine wC hF [.sh, .sh] znh (fun z6 hF => ?_)
  refine wC hF [.sh] znF (fun z7 hF => ?_)
  refine wK [4, 5] ?_
  exact wm hΦ hF
 refine wG hF (fun h4 hF => ?_) fun h4 hF => ?_
 ·exact wV h4 (hj1 _) (zaa hF)
 try simp [go_sem, g, h4]
 try intros
 exact wT (hj1 _) (zaa hF)
def zbD (a0 : Group) (a1 : ByteArray) (a2 : List Int) : Option (Int × Bool) :=
 gd (([a0.P, a0.Q, a0.G].length + a2.length) * 8 ≤ 140737488355328 ∧ [a0.P, a0.Q, a0.G].length + a2.length ≤ 4611686018427387904) <|
 (zdD a1 ([a0.P, a0.Q, a0.G] ++ a2)).bind fun z1 =>
 if (!z1.2) = true then (
 some (0, false)) else (
 gd (a0.Q ≠ 0) <|
 some (z1.1.tmod a0.Q, true))
theorem zgA : ∀ {a0} {a1} {a2} {r}, zbD a0 a1 a2 = some r → PCalls Tryz.prog 148 [(.sh, vE a0), (.sh, .str a1), (.sh, vC a2)] (Eo (.tup [.int .i64 r.1, .bool r.2]) [.junk, .junk, .junk]) := by
 intro a0 a1 a2 r hr
 apply pF 30 [] [] [] [.tmp 6, .tmp 7] hr zz5 Tryz.func148
 intro Φ hΦ hF g
 unfold zbD at hF
 obtain ⟨g, hF⟩ := Rg g hF
 refine wW ?_
 refine wC hF [.sh, .sh] zkM (fun z1 hF => ?_)
 refine wK [3, 8, 9] ?_
 refine wW ?_
 refine wI hF (fun h2 hF => ?_) (fun h2 hF => ?_)
 ·exact wl hΦ hF
 obtain ⟨g, hF⟩ := Rz g hF
 cases hΦ _ (zaa hF)
 iterate 2 refine wW ?_
 try simp [go_sem, g]
@[go_sem] def zAx : List DE := [d2 0 [3] 3 3, d0 1 [7], d2 2 [3] 3 3, d0 3 [9], d0 4 [2], d0 5 [8], d0 6 [21, 22], d0 7 [23], d3 8 [19, 20, 24], d0 9 [18, 25], ⟨10, [17, 26], [], none, true, true, true⟩, d0 11 [27]]
def zcK (a0 : Group) (a1 : List Int) (a2 : List Int) : Option Int :=
 ((zap (σ := Int) (fun i5 s4 =>
 (ix a1 i5).bind fun x11 =>
 (ix a2 i5).bind fun x12 =>
 (za6 a0 x11 x12).bind fun z13 =>
 (zaV a0 [s4, z13]).bind fun z14 =>
 some (.go z14)) (fun s4 => s4) (a1.length) 0 1 : Option Int).bind fun x3 =>
 some x3)
theorem zhz : ∀ {a0} {a1} {a2} {r}, zcK a0 a1 a2 = some r → PCalls Tryz.prog 75 [(.sh, vE a0), (.sh, vC a1), (.sh, vC a2)] (Eo (.int .i64 r) [.junk, .junk, .junk]) := by
 intro a0 a1 a2 r hr
 apply pF 30 [] [] [] [.tmp 6] hr zGP Tryz.func75
 intro Φ hΦ hF g
 unfold zcK at hF
 iterate 3 (try simp [go_sem, g]; try intros; refine zas ?_)
 refine wJ hF (fun x3 => [(7, .v (.int .i64 x3))]) (fun x3 hF => ?_) fun _ hj1 hF => ?_
 ·exact wl hΦ hF
 refine wB ?_
 obtain ⟨b15, hb16, hψ8⟩ := hF
 refine pR hb16 (fun i5 s4 => [(2, .v (vC a2)), (3, .bl [.int .i64 a0.P, .int .i64 a0.Q, .int .i64 a0.G]), (7, .v (.int .i64 s4)), (10, .v (vC a1)), (11, .v (.int .i64 (a1.length : Int))), (12, .v (.int .i64 i5))]) (fun s4 _ hN17 => ?_) (fun i5 s4 _ _ hi9 hi10 ho6 hg7 hF => ?_)
 ·exact wn hN17 (hj1 _) hψ8
 refine wW ?_
 refine wu hi9 hi10 ?_
 refine wW ?_
 refine wB ?_
 obtain ⟨x11, g, hF⟩ := Rx g hF
 refine wK [2, 3, 7, 8, 9, 10, 11, 12] ?_
 refine wX zAx follows ?_
 obtain ⟨x12, g, hF⟩ := Rx g hF
 refine wC hF [.sh, .sh, .sh] zch (fun z13 hF => ?_)
 refine wC hF [.sh, .sh] zck (fun z14 hF => ?_)
 refine wK [2, 3, 7, 10, 11, 12] ?_
 exact wi hi9 hi10 (hg7 _) (zaa hF)
def zbI (a0 : Group) (a1 : (List (List Int))) (a2 : List Int) : Option ((List Int)) :=
 ((zap (σ := (List Int)) (fun i5 s4 =>
 (ix a1 i5).bind fun x11 =>
 (zcK a0 x11 a2).bind fun z12 =>
 gd ((s4.length + 1) * 8 ≤ 140737488355328 ∧ s4.length + 1 ≤ 4611686018427387904) <|
 some (.go (s4 ++ [z12]))) (fun s4 => s4) (a1.length) 0 [] : Option ((List Int))).bind fun x3 =>
 some x3)
theorem zfU : ∀ {a0} {a1} {a2} {r}, zbI a0 a1 a2 = some r → PCalls Tryz.prog 147 [(.sh, vE a0), (.sh, vG a1), (.sh, vC a2)] (Eo (vD r) [.junk, .junk, .junk]) := by
 intro a0 a1 a2 r hr
 apply pF 26 [] [] [] [.tmp 6] hr zAT Tryz.func147
 intro Φ hΦ hF g
 unfold zbI at hF
 iterate 3 (try simp [go_sem, g]; try intros; refine zas ?_)
 refine wJ hF (fun x3 => [(7, .v (vD x3))]) (fun x3 hF => ?_) fun _ hj1 hF => ?_
 ·exact wl hΦ hF
 refine wB ?_
 obtain ⟨b13, hb14, hψ8⟩ := hF
 refine pR hb14 (fun i5 s4 => [(2, .v (vC a2)), (3, .bl [.int .i64 a0.P, .int .i64 a0.Q, .int .i64 a0.G]), (7, .v (vD s4)), (11, .v (vG a1)), (12, .v (.int .i64 (a1.length : Int))), (13, .v (.int .i64 i5))]) (fun s4 _ hN15 => ?_) (fun i5 s4 _ _ hi9 hi10 ho6 hg7 hF => ?_)
 ·exact wn hN15 (hj1 _) hψ8
 refine wW ?_
 refine wu hi9 hi10 ?_
 refine wW ?_
 refine wB ?_
 obtain ⟨x11, g, hF⟩ := Rx g hF
 refine wK [2, 3, 7, 9, 11, 12, 13] ?_
 refine wC hF [.sh, .sh, .sh] zhz (fun z12 hF => ?_)
 obtain ⟨g, hF⟩ := Rg g hF
 refine wW ?_
 exact wi hi9 hi10 (hg7 _) (zaa hF)
@[go_sem] def zyf : List DE := [d1 0 [9] 9, d2 1 [15] 9 15, d0 2 [16], d0 3 [2], d0 4 [18], d0 5 [17, 19], d0 6 [20], d1 7 [9, 21] 9, d2 8 [22, 21] 9 22, d0 9 [23, 21], d0 10 [24, 21], d0 11 [21, 25], d0 12 [26], d1 13 [9, 27] 9, d2 14 [28, 27] 9 28, d0 15 [29, 27], d0 16 [2, 27], d0 17 [31, 27], d0 18 [32, 27], d0 19 [33, 27], d0 20 [30, 34, 27], d0 21 [27, 35], d0 22 [36], d2 23 [5, 37] 5 5, d1 24 [9, 37] 9, d2 25 [39, 37] 9 39, d3 26 [38, 40, 37], d0 27 [41, 37], d0 28 [37, 42], d0 29 [43], d2 30 [5, 44] 5 5, d1 31 [9, 44] 9, d2 32 [46, 44] 9 46, d3 33 [45, 47, 44], d0 34 [48, 44], d0 35 [44, 49]]
@[go_sem] def zyW : List DE := [d2 0 [5] 5 5, d0 1 [1], d0 2 [2], d0 4 [3], d1 5 [9] 9, d2 6 [57] 9 57, d3 3 [54], d0 7 [55, 56, 58], ⟨8, [59], [], none, true, true, true⟩, d3 9 [52, 53, 60], d0 10 [61], d0 11 [51], d0 12 [51], d0 13 [62], d0 14 [63]]
@[go_sem] def zyA : List DE := [d0 0 [14], d2 1 [5] 5 5, d1 2 [9] 9, d2 3 [87] 9 87, d0 4 [13], d0 5 [88, 89], d0 6 [90], d2 7 [5] 5 5, d0 8 [3], d0 9 [13], d0 10 [93, 94], d0 11 [95], d0 12 [11], ⟨13, [92, 96, 97], [], none, false, true, false⟩, d0 14 [91, 98], ⟨15, [86, 99], [], none, true, true, true⟩, d0 16 [85, 100]]
def zbG (a0 : Group) (a1 : ByteArray) (a2 : (List (List Int))) (a3 : List Int) (a4 : Proof) : Option Bool :=
 ((if ((a4.Commits.length : Int) != (a2.length : Int)) = true then (
 some true) else (
 if ((a4.Challenges.length : Int) != 1) = true then (
 some true) else (
 (ix a2 0).bind fun x6 =>
 if ((a4.Responses.length : Int) != (x6.length : Int)) = true then (
 some true) else (
 (za2 a0 a4.Commits).bind fun z8 =>
 if (!z8) = true then (
 some true) else (
 (zba a0 a4.Responses).bind fun z10 =>
 some (!z10))))) : Option Bool).bind fun x3 =>
 if x3 = true then (
 some false) else (
 (zbh a2).bind fun z12 =>
 (zbh [z12, a3, a4.Commits]).bind fun z13 =>
 (zbD a0 a1 z13).bind fun z14 =>
 ((if (!z14.2) = true then (
 some true) else (
 (ix a4.Challenges 0).bind fun x19 =>
 some (x19 != z14.1)) : Option Bool).bind fun x17 =>
 if x17 = true then (
 some false) else (
 (zbI a0 a2 a4.Responses).bind fun z21 =>
 ((zap (σ := Unit) (fun i26 s25 =>
 (ix z21 i26).bind fun x32 =>
 (ix a4.Commits i26).bind fun x33 =>
 (ix a3 i26).bind fun x34 =>
 (za6 a0 x34 z14.1).bind fun z35 =>
 (zaV a0 [x33, z35]).bind fun z36 =>
 if (x32 != z36) = true then (
 some (.out (.inr false))) else (
 some (.go ()))) (fun s25 => .inl ()) (z21.length) 0 () : Option (Unit ⊕ Bool)).bind (Sum.elim (fun x24 =>
 some true) some))))))
end
end Go.Pm
