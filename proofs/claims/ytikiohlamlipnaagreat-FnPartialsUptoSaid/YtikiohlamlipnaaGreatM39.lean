/-
  Plain functions and their walks. Written by wip/tools/lift.py.
-/
import Derived.Test.YtikiohlamlipnaaGreatSo
namespace Go.Pm
open Go.Am IntKind
open Go.Proofs
set_option maxRecDepth 100000
attribute [local irreducible] pw pwx pw1 pwg qv qz qf
attribute [-simp] List.map_set
set_option linter.unusedSimpArgs false
set_option linter.unusedVariables false
noncomputable section
structure Group where
 P : Int
 Q : Int
 G : Int
structure Cipher where
 A : Int
 B : Int
structure Proof where
 Commits : (List Int)
 Challenges : (List Int)
 Responses : (List Int)
structure Partial where
 Index : Int
 Value : Int
 Pi : Proof
structure l1Cur where
 code : (List Int)
 at_ : Int
 seed : Int
structure KeyGen where
 Qualified : (List Int)
 Key : Int
 Commits : (List Int)
 Shares : (List Int)
structure Fault where
 Dealer : Int
 Trustee : Int
 Delta : Int
 Answers : Bool
structure Dealing where
 Commits : (List Int)
 Shares : (List Int)
structure l3State where
 s : Int
 t : Int
structure EqualLog where
 G1 : Int
 Y1 : Int
 G2 : Int
 Y2 : Int
def zeP (x : Int) : List PV := [.int .u8 x]
@[go_sem] theorem zCc {x : Int} : zeP x = [.int .u8 x] := (rfl)
@[go_sem] theorem zp3 {l : List Int} : List.map (List.map drop ∘ zeP) l = l.map zeP := by refine List.map_congr_left fun x _ => ?_; simp [go_sem]
@[go_sem] theorem zxD {l : List Int} : List.map (List.map drop) (l.map zeP) = l.map zeP := by rw [List.map_map]; exact zp3
@[go_sem] theorem zBp {l : List Int} {i : Nat} {a : Int} : (l.map zeP).set i [.int .u8 a] = (l.set i a).map zeP := by rw [List.map_set]; rfl
def zag (x : Int) : List PV := [.int .i64 x]
@[go_sem] theorem zz7 {x : Int} : zag x = [.int .i64 x] := (rfl)
@[go_sem] theorem zo1 {l : List Int} : List.map (List.map drop ∘ zag) l = l.map zag := by refine List.map_congr_left fun x _ => ?_; simp [go_sem]
@[go_sem] theorem zw9 {l : List Int} : List.map (List.map drop) (l.map zag) = l.map zag := by rw [List.map_map]; exact zo1
@[go_sem] theorem zzg {l : List Int} {i : Nat} {a : Int} : (l.map zag).set i [.int .i64 a] = (l.set i a).map zag := by rw [List.map_set]; rfl
def zds (x : List Int) : List PV := [.sl false 1 (x.map zag)]
@[go_sem] theorem zy5 {x : (List Int)} : zds x = [.sl false 1 (x.map zag)] := (rfl)
@[go_sem] theorem znZ {l : List (List Int)} : List.map (List.map drop ∘ zds) l = l.map zds := by refine List.map_congr_left fun x _ => ?_; simp [go_sem]
@[go_sem] theorem zwP {l : List (List Int)} : List.map (List.map drop) (l.map zds) = l.map zds := by rw [List.map_map]; exact znZ
@[go_sem] theorem zyw {l : List (List Int)} {i : Nat} {a : (List Int)} : (l.map zds).set i [.sl false 1 (a.map zag)] = (l.set i a).map zds := by rw [List.map_set]; rfl
def zgl (x : List Int) : List PV := [.sl true 1 (x.map zag)]
@[go_sem] theorem zyU {x : (List Int)} : zgl x = [.sl true 1 (x.map zag)] := (rfl)
@[go_sem] theorem zn3 {l : List (List Int)} : List.map (List.map drop ∘ zgl) l = l.map zds := by refine List.map_congr_left fun x _ => ?_; simp [go_sem]
@[go_sem] theorem zws {l : List (List Int)} : List.map (List.map drop) (l.map zgl) = l.map zds := by rw [List.map_map]; exact zn3
@[go_sem] theorem zxw {l : List (List Int)} {i : Nat} {a : (List Int)} : (l.map zgl).set i [.sl true 1 (a.map zag)] = (l.set i a).map zgl := by rw [List.map_set]; rfl
def zev (x : Fault) : List PV := [.int .i64 x.Dealer, .int .i64 x.Trustee, .int .i64 x.Delta, .bool x.Answers]
@[go_sem] theorem zys {x : Fault} : zev x = [.int .i64 x.Dealer, .int .i64 x.Trustee, .int .i64 x.Delta, .bool x.Answers] := (rfl)
@[go_sem] theorem znh {l : List Fault} : List.map (List.map drop ∘ zev) l = l.map zev := by refine List.map_congr_left fun x _ => ?_; simp [go_sem]
@[go_sem] theorem zvx {l : List Fault} : List.map (List.map drop) (l.map zev) = l.map zev := by rw [List.map_map]; exact znh
@[go_sem] theorem zxf {l : List Fault} {i : Nat} {Dealer : Int} {Trustee : Int} {Delta : Int} {Answers : Bool} : (l.map zev).set i [.int .i64 Dealer, .int .i64 Trustee, .int .i64 Delta, .bool Answers] = (l.set i (Fault.mk Dealer Trustee Delta Answers)).map zev := by rw [List.map_set]; rfl
def zbg (x : Dealing) : List PV := [.sl false 1 (x.Commits.map zag), .sl false 1 (x.Shares.map zag)]
@[go_sem] theorem zum {x : Dealing} : zbg x = [.sl false 1 (x.Commits.map zag), .sl false 1 (x.Shares.map zag)] := (rfl)
@[go_sem] theorem zj6 {l : List Dealing} : List.map (List.map drop ∘ zbg) l = l.map zbg := by refine List.map_congr_left fun x _ => ?_; simp [go_sem]
@[go_sem] theorem zso {l : List Dealing} : List.map (List.map drop) (l.map zbg) = l.map zbg := by rw [List.map_map]; exact zj6
@[go_sem] theorem zt9 {l : List Dealing} {i : Nat} {Commits : (List Int)} {Shares : (List Int)} : (l.map zbg).set i [.sl false 1 (Commits.map zag), .sl false 1 (Shares.map zag)] = (l.set i (Dealing.mk Commits Shares)).map zbg := by rw [List.map_set]; rfl
def zdl (x : Dealing) : List PV := [.sl true 1 (x.Commits.map zag), .sl true 1 (x.Shares.map zag)]
@[go_sem] theorem zun {x : Dealing} : zdl x = [.sl true 1 (x.Commits.map zag), .sl true 1 (x.Shares.map zag)] := (rfl)
@[go_sem] theorem zj5 {l : List Dealing} : List.map (List.map drop ∘ zdl) l = l.map zbg := by refine List.map_congr_left fun x _ => ?_; simp [go_sem]
@[go_sem] theorem zsC {l : List Dealing} : List.map (List.map drop) (l.map zdl) = l.map zbg := by rw [List.map_map]; exact zj5
@[go_sem] theorem ztI {l : List Dealing} {i : Nat} {Commits : (List Int)} {Shares : (List Int)} : (l.map zdl).set i [.sl true 1 (Commits.map zag), .sl true 1 (Shares.map zag)] = (l.set i (Dealing.mk Commits Shares)).map zdl := by rw [List.map_set]; rfl
def zhq (x : Bool) : List PV := [.bool x]
@[go_sem] theorem zDa {x : Bool} : zhq x = [.bool x] := (rfl)
@[go_sem] theorem zrH {l : List Bool} : List.map (List.map drop ∘ zhq) l = l.map zhq := by refine List.map_congr_left fun x _ => ?_; simp [go_sem]
@[go_sem] theorem zy9 {l : List Bool} : List.map (List.map drop) (l.map zhq) = l.map zhq := by rw [List.map_map]; exact zrH
@[go_sem] theorem zCE {l : List Bool} {i : Nat} {a : Bool} : (l.map zhq).set i [.bool a] = (l.set i a).map zhq := by rw [List.map_set]; rfl
def zbz (x : Partial) : List PV := [.int .i64 x.Index, .int .i64 x.Value, .sl false 1 (x.Pi.Commits.map zag), .sl false 1 (x.Pi.Challenges.map zag), .sl false 1 (x.Pi.Responses.map zag)]
@[go_sem] theorem zwt {x : Partial} : zbz x = [.int .i64 x.Index, .int .i64 x.Value, .sl false 1 (x.Pi.Commits.map zag), .sl false 1 (x.Pi.Challenges.map zag), .sl false 1 (x.Pi.Responses.map zag)] := (rfl)
@[go_sem] theorem zlo {l : List Partial} : List.map (List.map drop ∘ zbz) l = l.map zbz := by refine List.map_congr_left fun x _ => ?_; simp [go_sem]
@[go_sem] theorem zul {l : List Partial} : List.map (List.map drop) (l.map zbz) = l.map zbz := by rw [List.map_map]; exact zlo
@[go_sem] theorem zvb {l : List Partial} {i : Nat} {Index : Int} {Value : Int} {PiCommits : (List Int)} {PiChallenges : (List Int)} {PiResponses : (List Int)} : (l.map zbz).set i [.int .i64 Index, .int .i64 Value, .sl false 1 (PiCommits.map zag), .sl false 1 (PiChallenges.map zag), .sl false 1 (PiResponses.map zag)] = (l.set i (Partial.mk Index Value (Proof.mk PiCommits PiChallenges PiResponses))).map zbz := by rw [List.map_set]; rfl
@[go_sem] theorem zvA {l : List Partial} {i : Nat} {Index : Int} {Value : Int} {Pi : Proof} : (l.map zbz).set i [.int .i64 Index, .int .i64 Value, .sl false 1 (Pi.Commits.map zag), .sl false 1 (Pi.Challenges.map zag), .sl false 1 (Pi.Responses.map zag)] = (l.set i (Partial.mk Index Value Pi)).map zbz := by rw [List.map_set]; rfl
def zb3 (x : Partial) : List PV := [.int .i64 x.Index, .int .i64 x.Value, .sl true 1 (x.Pi.Commits.map zag), .sl true 1 (x.Pi.Challenges.map zag), .sl true 1 (x.Pi.Responses.map zag)]
@[go_sem] theorem zsI {x : Partial} : zb3 x = [.int .i64 x.Index, .int .i64 x.Value, .sl true 1 (x.Pi.Commits.map zag), .sl true 1 (x.Pi.Challenges.map zag), .sl true 1 (x.Pi.Responses.map zag)] := (rfl)
@[go_sem] theorem zjQ {l : List Partial} : List.map (List.map drop ∘ zb3) l = l.map zbz := by refine List.map_congr_left fun x _ => ?_; simp [go_sem]
@[go_sem] theorem zrb {l : List Partial} : List.map (List.map drop) (l.map zb3) = l.map zbz := by rw [List.map_map]; exact zjQ
@[go_sem] theorem zrW {l : List Partial} {i : Nat} {Index : Int} {Value : Int} {PiCommits : (List Int)} {PiChallenges : (List Int)} {PiResponses : (List Int)} : (l.map zb3).set i [.int .i64 Index, .int .i64 Value, .sl true 1 (PiCommits.map zag), .sl true 1 (PiChallenges.map zag), .sl true 1 (PiResponses.map zag)] = (l.set i (Partial.mk Index Value (Proof.mk PiCommits PiChallenges PiResponses))).map zb3 := by rw [List.map_set]; rfl
@[go_sem] theorem zsE {l : List Partial} {i : Nat} {Index : Int} {Value : Int} {Pi : Proof} : (l.map zb3).set i [.int .i64 Index, .int .i64 Value, .sl true 1 (Pi.Commits.map zag), .sl true 1 (Pi.Challenges.map zag), .sl true 1 (Pi.Responses.map zag)] = (l.set i (Partial.mk Index Value Pi)).map zb3 := by rw [List.map_set]; rfl
def zdV (x : Cipher) : List PV := [.int .i64 x.A, .int .i64 x.B]
@[go_sem] theorem zxa {x : Cipher} : zdV x = [.int .i64 x.A, .int .i64 x.B] := (rfl)
@[go_sem] theorem zmx {l : List Cipher} : List.map (List.map drop ∘ zdV) l = l.map zdV := by refine List.map_congr_left fun x _ => ?_; simp [go_sem]
@[go_sem] theorem zuE {l : List Cipher} : List.map (List.map drop) (l.map zdV) = l.map zdV := by rw [List.map_map]; exact zmx
@[go_sem] theorem zw7 {l : List Cipher} {i : Nat} {A : Int} {B : Int} : (l.map zdV).set i [.int .i64 A, .int .i64 B] = (l.set i (Cipher.mk A B)).map zdV := by rw [List.map_set]; rfl
def vA (x : List Int) : PV := .sl false 1 (x.map zeP)
@[go_sem] theorem zLb {x : (List Int)} : vA x = .sl false 1 (x.map zeP) := (rfl)
def vB (x0 : List Int) (x1 : Int) (x2 : Int) : PV := .bx [.sl false 1 (x0.map zeP), .int .i64 x1, .int .u64 x2]
@[go_sem] theorem zKX {x0 : (List Int)} {x1 : Int} {x2 : Int} : vB x0 x1 x2 = .bx [.sl false 1 (x0.map zeP), .int .i64 x1, .int .u64 x2] := (rfl)
def vC (x : List Int) : PV := .sl false 1 (x.map zag)
@[go_sem] theorem zLs {x : (List Int)} : vC x = .sl false 1 (x.map zag) := (rfl)
def vD (x : List Int) : PV := .sl true 1 (x.map zag)
@[go_sem] theorem zKP {x : (List Int)} : vD x = .sl true 1 (x.map zag) := (rfl)
def vE (x : Group) : PV := .agg [.int .i64 x.P, .int .i64 x.Q, .int .i64 x.G]
@[go_sem] theorem zJ8 {x : Group} : vE x = .agg [.int .i64 x.P, .int .i64 x.Q, .int .i64 x.G] := (rfl)
def vF (x : (List (List Int))) : PV := .sl true 1 (x.map zgl)
@[go_sem] theorem zLn {x : (List (List Int))} : vF x = .sl true 1 (x.map zgl) := (rfl)
def vG (x : (List (List Int))) : PV := .sl false 1 (x.map zds)
@[go_sem] theorem zKY {x : (List (List Int))} : vG x = .sl false 1 (x.map zds) := (rfl)
def vH (x : List Fault) : PV := .sl false 4 (x.map zev)
@[go_sem] theorem zK6 {x : (List Fault)} : vH x = .sl false 4 (x.map zev) := (rfl)
def vI (x : List Dealing) : PV := .sl true 2 (x.map zbg)
@[go_sem] theorem zKN {x : (List Dealing)} : vI x = .sl true 2 (x.map zbg) := (rfl)
def vJ (x : Dealing) : PV := .agg [.sl true 1 (x.Commits.map zag), .sl true 1 (x.Shares.map zag)]
@[go_sem] theorem zKH {x : Dealing} : vJ x = .agg [.sl true 1 (x.Commits.map zag), .sl true 1 (x.Shares.map zag)] := (rfl)
def vK (x : List Dealing) : PV := .sl true 2 (x.map zdl)
@[go_sem] theorem zKA {x : (List Dealing)} : vK x = .sl true 2 (x.map zdl) := (rfl)
def vL (x : List Bool) : PV := .sl true 1 (x.map zhq)
@[go_sem] theorem zKG {x : (List Bool)} : vL x = .sl true 1 (x.map zhq) := (rfl)
def vM (x : Dealing) : PV := .agg [.sl false 1 (x.Commits.map zag), .sl false 1 (x.Shares.map zag)]
@[go_sem] theorem zKq {x : Dealing} : vM x = .agg [.sl false 1 (x.Commits.map zag), .sl false 1 (x.Shares.map zag)] := (rfl)
def vN (x : (List (List Int))) : PV := .sl true 1 (x.map zds)
@[go_sem] theorem zKn {x : (List (List Int))} : vN x = .sl true 1 (x.map zds) := (rfl)
def vO (x : List Dealing) : PV := .sl false 2 (x.map zbg)
@[go_sem] theorem zKJ {x : (List Dealing)} : vO x = .sl false 2 (x.map zbg) := (rfl)
def vP (x : KeyGen) : PV := .agg [.sl false 1 (x.Qualified.map zag), .int .i64 x.Key, .sl false 1 (x.Commits.map zag), .sl false 1 (x.Shares.map zag)]
@[go_sem] theorem zLj {x : KeyGen} : vP x = .agg [.sl false 1 (x.Qualified.map zag), .int .i64 x.Key, .sl false 1 (x.Commits.map zag), .sl false 1 (x.Shares.map zag)] := (rfl)
def vQ (x : Cipher) : PV := .agg [.int .i64 x.A, .int .i64 x.B]
@[go_sem] theorem zKZ {x : Cipher} : vQ x = .agg [.int .i64 x.A, .int .i64 x.B] := (rfl)
def vR (x0 : Int) (x1 : Int) : PV := .bx [.int .i64 x0, .int .i64 x1]
@[go_sem] theorem zLt {x0 : Int} {x1 : Int} : vR x0 x1 = .bx [.int .i64 x0, .int .i64 x1] := (rfl)
def vS (x : Proof) : PV := .agg [.sl true 1 (x.Commits.map zag), .sl true 1 (x.Challenges.map zag), .sl true 1 (x.Responses.map zag)]
@[go_sem] theorem zKI {x : Proof} : vS x = .agg [.sl true 1 (x.Commits.map zag), .sl true 1 (x.Challenges.map zag), .sl true 1 (x.Responses.map zag)] := (rfl)
def vT (x : Partial) : PV := .agg [.int .i64 x.Index, .int .i64 x.Value, .sl true 1 (x.Pi.Commits.map zag), .sl true 1 (x.Pi.Challenges.map zag), .sl true 1 (x.Pi.Responses.map zag)]
@[go_sem] theorem zKl {x : Partial} : vT x = .agg [.int .i64 x.Index, .int .i64 x.Value, .sl true 1 (x.Pi.Commits.map zag), .sl true 1 (x.Pi.Challenges.map zag), .sl true 1 (x.Pi.Responses.map zag)] := (rfl)
def vU (x : Proof) : PV := .agg [.sl false 1 (x.Commits.map zag), .sl false 1 (x.Challenges.map zag), .sl false 1 (x.Responses.map zag)]
@[go_sem] theorem zKV {x : Proof} : vU x = .agg [.sl false 1 (x.Commits.map zag), .sl false 1 (x.Challenges.map zag), .sl false 1 (x.Responses.map zag)] := (rfl)
def vV (x : List Partial) : PV := .sl true 5 (x.map zb3)
@[go_sem] theorem zJ3 {x : (List Partial)} : vV x = .sl true 5 (x.map zb3) := (rfl)
def vW (x : List Partial) : PV := .sl true 5 (x.map zbz)
@[go_sem] theorem zJ6 {x : (List Partial)} : vW x = .sl true 5 (x.map zbz) := (rfl)
def vX (x : List Partial) : PV := .sl false 5 (x.map zbz)
@[go_sem] theorem zJ4 {x : (List Partial)} : vX x = .sl false 5 (x.map zbz) := (rfl)
def vY (x : Partial) : PV := .agg [.int .i64 x.Index, .int .i64 x.Value, .sl false 1 (x.Pi.Commits.map zag), .sl false 1 (x.Pi.Challenges.map zag), .sl false 1 (x.Pi.Responses.map zag)]
@[go_sem] theorem zKg {x : Partial} : vY x = .agg [.int .i64 x.Index, .int .i64 x.Value, .sl false 1 (x.Pi.Commits.map zag), .sl false 1 (x.Pi.Challenges.map zag), .sl false 1 (x.Pi.Responses.map zag)] := (rfl)
def vZ (x : List Cipher) : PV := .sl false 2 (x.map zdV)
@[go_sem] theorem zLm {x : (List Cipher)} : vZ x = .sl false 2 (x.map zdV) := (rfl)
def vAA (x : EqualLog) : PV := .agg [.int .i64 x.G1, .int .i64 x.Y1, .int .i64 x.G2, .int .i64 x.Y2]
@[go_sem] theorem zIx {x : EqualLog} : vAA x = .agg [.int .i64 x.G1, .int .i64 x.Y1, .int .i64 x.G2, .int .i64 x.Y2] := (rfl)
@[go_sem] def zzM : List DE := [d0 0 [0], d0 1 [4], d0 2 [5], d0 3 [6], d0 4 [0], d0 5 [8], d0 6 [9], d0 7 [10], d0 8 [11], d0 9 [7, 12]]
@[go_sem] def zzW : List DE := [d0 0 [0], d0 1 [14], d0 2 [15], d0 3 [16], d0 4 [0], d0 5 [18], d0 6 [19], d0 7 [20], d0 8 [17, 21], d0 9 [22], d0 10 [23], d0 11 [24]]
@[go_sem] def zzn : List DE := [d0 0 [0], d0 1 [44], d0 2 [45], d0 3 [46], d0 4 [0], d0 5 [48], d0 6 [49], d0 7 [50], d0 8 [51], d0 9 [47, 52]]
def zbW (a0c0 : List Int) (a0c1 : Int) (a0c2 : Int) : Option (Int × (List Int × Int × Int)) :=
 ((if decide (a0c1 < (a0c0.length : Int)) = true then (
 (ix a0c0 a0c1).bind fun x5 =>
 some (i64.wrap x5)) else (
 some 0) : Option Int).bind fun x3 =>
 if decide ((i64.wrap (a0c1 + 1)) ≤ (a0c0.length : Int)) = true then (
 some (x3, (a0c0, i64.wrap (a0c1 + 1), u64.wrap ((u64.wrap ((u64.wrap (a0c2 * 6364136223846793005)) + (u64.wrap x3))) + 1442695040888963407)))) else (
 some (i64.wrap (u64.wrap ((BitVec.ofInt u64.bits ((u64.wrap ((u64.wrap ((u64.wrap (a0c2 * 6364136223846793005)) + (u64.wrap x3))) + 1442695040888963407)).fdiv 1099511627776) &&& BitVec.ofInt u64.bits 255).toNat)), (a0c0, i64.wrap (a0c1 + 1), u64.wrap ((u64.wrap ((u64.wrap (a0c2 * 6364136223846793005)) + (u64.wrap x3))) + 1442695040888963407)))))
theorem zf8 : ∀ {a0c0} {a0c1} {a0c2} {r}, zbW a0c0 a0c1 a0c2 = some r → PCalls Tryz.prog 98 [(.io, vB a0c0 a0c1 a0c2)] (Eo (.int .i64 r.1) [vB r.2.1 r.2.2.1 r.2.2.2]) := by
 intro a0c0 a0c1 a0c2 r hr
 apply pF 62 [0] [] [] [.tmp 2] hr zC2 Tryz.func98
 intro Φ hΦ hF g
 unfold zbW at hF
 iterate 2 refine wW ?_
 refine wX zzM follows ?_
 try simp [go_sem, g]
 try intros
 refine wK [0, 3, 13] ?_
 refine wJ hF (fun x3 => [(0, .v (vB a0c0 a0c1 a0c2)), (3, .v (.int .i64 x3))]) (fun x3 hF => ?_) fun _ hj1 hF => ?_
 ·refine wW ?_
  refine wK [0, 3] ?_
  refine wX zzn follows ?_
  try simp [go_sem, g]
  try intros
  refine wK [0, 3, 53] ?_
  refine wI hF (fun h6 hF => ?_) (fun h6 hF => ?_)
  ·exact wl hΦ hF
  have g := Ls g 40
  cases hΦ _ (zaa hF)
  iterate 2 refine wW ?_
  try simp [go_sem, g]
 refine wI hF (fun h4 hF => ?_) (fun h4 hF => ?_)
 ·refine wX zzW follows ?_
  obtain ⟨x5, g, hF⟩ := Rx g hF
  exact wT (hj1 _) (zaa hF)
 exact wT (hj1 _) (zaa hF)
def zah (a0c0 : List Int) (a0c1 : Int) (a0c2 : Int) (a1 : Int) : Option (Int × (List Int × Int × Int)) :=
 if decide (a1 ≤ 1) = true then (
 some (0, (a0c0, a0c1, a0c2))) else (
 (zbW a0c0 a0c1 a0c2).bind fun z2 =>
 ((if decide (200 < a1) = true then (
 (zbW z2.2.1 z2.2.2.1 z2.2.2.2).bind fun z7 =>
 some ((z7.2.1, z7.2.2.1, z7.2.2.2), i64.wrap ((i64.wrap (z2.1 * 256)) + z7.1))) else (
 some ((z2.2.1, z2.2.2.1, z2.2.2.2), z2.1)) : Option (((List Int × Int × Int) × Int))).bind fun x5 =>
 gd (a1 ≠ 0) <|
 some (x5.2.tmod a1, (x5.1.1, x5.1.2.1, x5.1.2.2))))
theorem zaj : ∀ {a0c0} {a0c1} {a0c2} {a1} {r}, zah a0c0 a0c1 a0c2 a1 = some r → PCalls Tryz.prog 43 [(.io, vB a0c0 a0c1 a0c2), (.sh, .int .i64 a1)] (Eo (.int .i64 r.1) [vB r.2.1 r.2.2.1 r.2.2.2, .junk]) := by
 intro a0c0 a0c1 a0c2 a1 r hr
 apply pF 20 [0] [] [] [.tmp 4] hr zEt Tryz.func43
 intro Φ hΦ hF g
 unfold zah at hF
 iterate 2 refine wW ?_
 refine wI hF (fun h1 hF => ?_) (fun h1 hF => ?_)
 ·exact wl hΦ hF
 refine wW ?_
 refine wC hF [.io] zf8 (fun z2 hF => ?_)
 iterate 2 refine wW ?_
 refine wJ hF (fun x5 => [(0, .v (vB x5.1.1 x5.1.2.1 x5.1.2.2)), (1, .v (.int .i64 a1)), (5, .v (.int .i64 x5.2))]) (fun x5 hF => ?_) fun _ hj3 hF => ?_
 ·obtain ⟨g, hF⟩ := Rz g hF
  refine wK [0, 4] ?_
  exact wm hΦ hF
 refine wI hF (fun h6 hF => ?_) (fun h6 hF => ?_)
 ·refine wC hF [.io] zf8 (fun z7 hF => ?_)
  exact wT (hj3 _) (zaa hF)
 exact wT (hj3 _) (zaa hF)
def zaM (a0c0 : List Int) (a0c1 : Int) (a0c2 : Int) (a1 : Int) : Option (Bool × (List Int × Int × Int)) :=
 (zah a0c0 a0c1 a0c2 a1).bind fun z1 =>
 some ((z1.1 == 0), (z1.2.1, z1.2.2.1, z1.2.2.2))
theorem zbm : ∀ {a0c0} {a0c1} {a0c2} {a1} {r}, zaM a0c0 a0c1 a0c2 a1 = some r → PCalls Tryz.prog 28 [(.io, vB a0c0 a0c1 a0c2), (.sh, .int .i64 a1)] (Eo (.bool r.1) [vB r.2.1 r.2.2.1 r.2.2.2, .junk]) := by
 intro a0c0 a0c1 a0c2 a1 r hr
 apply pF 9 [0] [] [] [.tmp 4] hr zD6 Tryz.func28
 intro Φ hΦ hF g
 unfold zaM at hF
 refine wW ?_
 refine wC hF [.io, .sh] zaj (fun z1 hF => ?_)
 exact wl hΦ hF
def zfQ (a0c0 : List Int) (a0c1 : Int) (a0c2 : Int) (a1 : List Int) : Option (Int × (List Int × Int × Int)) :=
 (zah a0c0 a0c1 a0c2 (a1.length : Int)).bind fun z1 =>
 (ix a1 z1.1).bind fun x2 =>
 some (x2, (z1.2.1, z1.2.2.1, z1.2.2.2))
theorem zpX : ∀ {a0c0} {a0c1} {a0c2} {a1} {r}, zfQ a0c0 a0c1 a0c2 a1 = some r → PCalls Tryz.prog 77 [(.io, vB a0c0 a0c1 a0c2), (.sh, vC a1)] (Eo (.int .i64 r.1) [vB r.2.1 r.2.2.1 r.2.2.2, .junk]) := by
 intro a0c0 a0c1 a0c2 a1 r hr
 apply pF 12 [0] [] [] [.tmp 4] hr zx8 Tryz.func77
 intro Φ hΦ hF g
 unfold zfQ at hF
 try simp [go_sem, g]
 try intros
 refine zav ?_
 try simp [go_sem, g]
 try intros
 refine wC hF [.io, .sh] zaj (fun z1 hF => ?_)
 obtain ⟨x2, g, hF⟩ := Rx g hF
 exact wl hΦ hF
def zan (a0c0 : List Int) (a0c1 : Int) (a0c2 : Int) (a1 : List Int) : Option (Int × (List Int × Int × Int)) :=
 (zah a0c0 a0c1 a0c2 (a1.length : Int)).bind fun z1 =>
 (ix a1 z1.1).bind fun x2 =>
 some (x2, (z1.2.1, z1.2.2.1, z1.2.2.2))
theorem zal : ∀ {a0c0} {a0c1} {a0c2} {a1} {r}, zan a0c0 a0c1 a0c2 a1 = some r → PCalls Tryz.prog 77 [(.io, vB a0c0 a0c1 a0c2), (.mv, vD a1)] (Eo (.int .i64 r.1) [vB r.2.1 r.2.2.1 r.2.2.2, .junk]) := by
 intro a0c0 a0c1 a0c2 a1 r hr
 apply pF 12 [0] [] [] [.tmp 4] hr zx8 Tryz.func77
 intro Φ hΦ hF g
 unfold zan at hF
 try simp [go_sem, g]
 try intros
 refine zav ?_
 try simp [go_sem, g]
 try intros
 refine wC hF [.io, .sh] zaj (fun z1 hF => ?_)
 obtain ⟨x2, g, hF⟩ := Rx g hF
 exact wl hΦ hF
def za3 (a0 : Int) (a1 : Int) (a2 : Int) : Option Bool :=
 ((if decide (a1 ≤ a0) = true then (
 some (decide (a0 ≤ a2))) else (
 some false) : Option Bool).bind fun x3 =>
 some x3)
theorem zbI : ∀ {a0} {a1} {a2} {r}, za3 a0 a1 a2 = some r → PCalls Tryz.prog 63 [(.sh, .int .i64 a0), (.sh, .int .i64 a1), (.sh, .int .i64 a2)] (Eo (.bool r) [.junk, .junk, .junk]) := by
 intro a0 a1 a2 r hr
 apply pF 15 [] [] [] [.tmp 6] hr zDT Tryz.func63
 intro Φ hΦ hF g
 unfold za3 at hF
 refine wW ?_
 refine wJ hF (fun x3 => [(6, .v (.bool x3))]) (fun x3 hF => ?_) fun _ hj1 hF => ?_
 ·exact wm hΦ hF
 refine wG hF (fun h4 hF => ?_) fun h4 hF => ?_
 ·exact wV h4 (hj1 _) (zaa hF)
 exact wV h4 (hj1 _) (zaa hF)
def zda (a0 : Int) : Option Bool :=
 if decide (a0 < 2) = true then (
 some false) else (
 ((zbc (σ := Int) (fun s5 =>
 if decide ((i64.wrap (s5 * s5)) ≤ a0) = true then (
 gd (s5 ≠ 0) <|
 if ((a0.tmod s5) == 0) = true then (
 some (.out (.inr false))) else (
 some (.go (i64.wrap (s5 + 1))))) else (
 some (.out (.inl ())))) 2 : Option (Unit ⊕ Bool)).bind (Sum.elim (fun x4 =>
 some true) some)))
theorem zgd : ∀ {a0} {r}, zda a0 = some r → PCalls Tryz.prog 127 [(.sh, .int .i64 a0)] (Eo (.bool r) [.junk]) := by
 intro a0 r hr
 apply pF 17 [] [] [] [.tmp 2] hr zzG Tryz.func127
 intro Φ hΦ hF g
 unfold zda at hF
 iterate 2 refine wW ?_
 refine wI hF (fun h1 hF => ?_) (fun h1 hF => ?_)
 ·exact wl hΦ hF
 iterate 2 refine wW ?_
 refine wS hF (fun x4 => []) (fun x4 hF => ?_) fun _ hj2 hr3 hF => ?_
 ·exact wl hΦ hF
 refine wB ?_
 obtain ⟨b12, hb13, hψ9⟩ := hF
 refine pL hb13 (fun s5 => [(0, .v (.int .i64 a0)), (3, .v (.int .i64 s5))]) (fun s5 _ _ ho7 hg8 hF => ?_)
 refine wW ?_
 refine wI hF (fun h10 hF => ?_) (fun h10 hF => ?_)
 ·refine wW ?_
  refine wB ?_
  obtain ⟨g, hF⟩ := Rz g hF
  refine wK [0, 3, 16] ?_
  refine wI hF (fun h11 hF => ?_) (fun h11 hF => ?_)
  ·cases ho7 _ (zaa hF)
   cases hΦ _ (hr3 _ hψ9)
   refine wW ?_
   try simp [go_sem, g]
  refine wW ?_
  exact wT (hg8 _) (zaa hF)
 cases ho7 _ (zaa hF)
 exact wT (hj2 _) hψ9
def zbt (a0 : Int) (a1 : Int) (a2 : Int) : Option Int :=
 gd (a2 ≠ 0) <|
 ((zbc (σ := Int × Int × Int) (fun s4 =>
 if decide (0 < s4.2.1) = true then (
 ((if ((s4.2.1.tmod 2) == 1) = true then (
 gd (a2 ≠ 0) <|
 some ((i64.wrap (s4.2.2 * s4.1)).tmod a2)) else (
 some s4.2.2) : Option Int).bind fun x12 =>
 gd (a2 ≠ 0) <|
 some (.go ((i64.wrap (s4.1 * s4.1)).tmod a2, i64.wrap (s4.2.1.tdiv 2), x12)))) else (
 some (.out s4.2.2))) (a0, a1, (1 : Int).tmod a2) : Option Int).bind fun x3 =>
 some x3)
theorem zen : ∀ {a0} {a1} {a2} {r}, zbt a0 a1 a2 = some r → PCalls Tryz.prog 128 [(.sh, .int .i64 a0), (.sh, .int .i64 a1), (.sh, .int .i64 a2)] (Eo (.int .i64 r) [.junk, .junk, .junk]) := by
 intro a0 a1 a2 r hr
 apply pF 28 [] [] [] [.tmp 6] hr zz6 Tryz.func128
 intro Φ hΦ hF g
 unfold zbt at hF
 obtain ⟨g, hF⟩ := Rz g hF
 iterate 2 refine wW ?_
 refine wJ hF (fun x3 => [(7, .v (.int .i64 x3))]) (fun x3 hF => ?_) fun _ hj1 hF => ?_
 ·exact wl hΦ hF
 refine wB ?_
 obtain ⟨b14, hb15, hψ8⟩ := hF
 refine pL hb15 (fun s4 => [(0, .v (.int .i64 s4.1)), (1, .v (.int .i64 s4.2.1)), (2, .v (.int .i64 a2)), (7, .v (.int .i64 s4.2.2))]) (fun s4 _ _ ho6 hg7 hF => ?_)
 refine wW ?_
 refine wI hF (fun h9 hF => ?_) (fun h9 hF => ?_)
 ·refine wW ?_
  refine wB ?_
  have g := Ld g 2
  refine wW ?_
  refine wJ hF (fun x12 => [(0, .v (.int .i64 s4.1)), (1, .v (.int .i64 s4.2.1)), (2, .v (.int .i64 a2)), (7, .v (.int .i64 x12))]) (fun x12 hF => ?_) fun _ hj10 hF => ?_
  ·obtain ⟨g, hF⟩ := Rz g hF
   refine wK [0, 1, 2, 7] ?_
   exact wT (hg7 _) (zaa hF)
  refine wI hF (fun h13 hF => ?_) (fun h13 hF => ?_)
  ·obtain ⟨g, hF⟩ := Rz g hF
   exact wT (hj10 _) (zaa hF)
  exact wT (hj10 _) (zaa hF)
 cases ho6 _ (zaa hF)
 exact wT (hj1 _) hψ8
def zcN (a0 : Int) : Option (Group × Bool) :=
 (((za3 a0 2 1000000).bind fun z4 =>
 if (!z4) = true then (
 some true) else (
 (zda a0).bind fun z6 =>
 some (!z6)) : Option Bool).bind fun x3 =>
 if x3 = true then (
 some ((Group.mk 0 0 0), false)) else (
 ((zbc (σ := Int) (fun s11 =>
 if decide (s11 ≤ 2000000000) = true then (
 (zda s11).bind fun z17 =>
 if (!z17) = true then (
 some (.go (i64.wrap (s11 + a0)))) else (
 ((zbc (σ := Int) (fun s22 =>
 gd (a0 ≠ 0) <|
 (zbt s22 (i64.wrap ((i64.wrap (s11 - 1)).tdiv a0)) s11).bind fun z27 =>
 if (z27 == 1) = true then (
 some (.go (i64.wrap (s22 + 1)))) else (
 some (.out s22))) 2 : Option Int).bind fun x21 =>
 gd (a0 ≠ 0) <|
 (zbt x21 (i64.wrap ((i64.wrap (s11 - 1)).tdiv a0)) s11).bind fun z31 =>
 some (.out (.inr ((Group.mk s11 a0 z31), true)))))) else (
 some (.out (.inl ())))) (i64.wrap (a0 + 1)) : Option (Unit ⊕ (Group × Bool))).bind (Sum.elim (fun x10 =>
 some ((Group.mk 0 0 0), false)) some))))
theorem zgi : ∀ {a0} {r}, zcN a0 = some r → PCalls Tryz.prog 76 [(.sh, .int .i64 a0)] (Eo (.tup [vE r.1, .bool r.2]) [.junk]) := by
 intro a0 r hr
 apply pF 46 [] [] [] [.cell 2 24, .tmp 3] hr zFg Tryz.func76
 intro Φ hΦ hF g
 unfold zcN at hF
 refine wW ?_
 refine wJ hF (fun x3 => [(0, .v (.int .i64 a0)), (2, .bl [.int .i64 0, .int .i64 0, .int .i64 0]), (13, .v (.bool x3))]) (fun x3 hF => ?_) fun _ hj1 hF => ?_
 ·refine wI hF (fun h7 hF => ?_) (fun h7 hF => ?_)
  ·exact wl hΦ hF
  iterate 2 refine wW ?_
  refine wS hF (fun x10 => [(2, .bl [.int .i64 0, .int .i64 0, .int .i64 0])]) (fun x10 hF => ?_) fun _ hj8 hr9 hF => ?_
  ·exact wl hΦ hF
  refine wB ?_
  obtain ⟨b32, hb33, hψ15⟩ := hF
  refine pL hb33 (fun s11 => [(0, .v (.int .i64 a0)), (2, .bl [.int .i64 0, .int .i64 0, .int .i64 0]), (4, .v (.int .i64 s11))]) (fun s11 _ _ ho13 hg14 hF => ?_)
  refine wW ?_
  refine wI hF (fun h16 hF => ?_) (fun h16 hF => ?_)
  ·refine wW ?_
   refine wB ?_
   refine wC hF [.sh] zgd (fun z17 hF => ?_)
   refine wK [0, 2, 4, 24] ?_
   refine wI hF (fun h18 hF => ?_) (fun h18 hF => ?_)
   ·refine wW ?_
    exact wT (hg14 _) (zaa hF)
   iterate 2 refine wW ?_
   refine wJ hF (fun x21 => [(0, .v (.int .i64 a0)), (2, .bl [.int .i64 0, .int .i64 0, .int .i64 0]), (4, .v (.int .i64 s11)), (5, .v (.int .i64 x21))]) (fun x21 hF => ?_) fun _ hj19 hF => ?_
   ·obtain ⟨g, hF⟩ := Rz g hF
    refine wC hF [.sh, .sh, .sh] zen (fun z31 hF => ?_)
    refine wK [2, 3] ?_
    cases ho13 _ (zaa hF)
    cases hΦ _ (hr9 _ hψ15)
    try simp [go_sem, g]
   refine wB ?_
   obtain ⟨b29, hb30, hψ26⟩ := hF
   refine pL hb30 (fun s22 => [(0, .v (.int .i64 a0)), (2, .bl [.int .i64 0, .int .i64 0, .int .i64 0]), (4, .v (.int .i64 s11)), (5, .v (.int .i64 s22))]) (fun s22 _ _ ho24 hg25 hF => ?_)
   obtain ⟨g, hF⟩ := Rz g hF
   refine wC hF [.sh, .sh, .sh] zen (fun z27 hF => ?_)
   refine wW ?_
   refine wI hF (fun h28 hF => ?_) (fun h28 hF => ?_)
   ·refine wW ?_
    refine wB ?_
    exact wT (hg25 _) (zaa hF)
   cases ho24 _ (zaa hF)
   exact wT (hj19 _) hψ26
  cases ho13 _ (zaa hF)
  exact wT (hj8 _) hψ15
 refine wC hF [.sh, .sh, .sh] zbI (fun z4 hF => ?_)
 refine wG hF (fun h5 hF => ?_) fun h5 hF => ?_
 ·exact wV h5 (hj1 _) (zaa hF)
 try simp [go_sem, g, h5]
 refine wC hF [.sh] zgd (fun z6 hF => ?_)
 exact wV h5 (hj1 _) (zaa hF)
def zcG (a0c0 : List Int) (a0c1 : Int) (a0c2 : Int) : Option (Group × (List Int × Int × Int)) :=
 (zan a0c0 a0c1 a0c2 [3, 5, 5, 7, 11, 11, 13, 23]).bind fun z1 =>
 (zcN z1.1).bind fun z2 =>
 some (z2.1, (z1.2.1, z1.2.2.1, z1.2.2.2))
theorem zi0 : ∀ {a0c0} {a0c1} {a0c2} {r}, zcG a0c0 a0c1 a0c2 = some r → PCalls Tryz.prog 78 [(.io, vB a0c0 a0c1 a0c2)] (Eo (vE r.1) [vB r.2.1 r.2.2.1 r.2.2.2]) := by
 intro a0c0 a0c1 a0c2 r hr
 apply pF 13 [0] [] [] [.cell 2 24] hr zGb Tryz.func78
 intro Φ hΦ hF g
 unfold zcG at hF
 refine wW ?_
 refine wC hF [.io, .mv] zal (fun z1 hF => ?_)
 refine wC hF [.sh] zgi (fun z2 hF => ?_)
 refine wK [0, 2, 3] ?_
 exact wl hΦ hF
def zbL (a0 : Int) (a1 : Int) : Option Int :=
 gd (a1 ≠ 0) <|
 gd (a1 ≠ 0) <|
 some ((i64.wrap ((a0.tmod a1) + a1)).tmod a1)
theorem zfg : ∀ {a0} {a1} {r}, zbL a0 a1 = some r → PCalls Tryz.prog 129 [(.sh, .int .i64 a0), (.sh, .int .i64 a1)] (Eo (.int .i64 r) [.junk, .junk]) := by
 intro a0 a1 r hr
 apply pF 12 [] [] [] [.tmp 4] hr zBC Tryz.func129
 intro Φ hΦ hF g
 unfold zbL at hF
 obtain ⟨g, hF⟩ := Rz g hF
 obtain ⟨g, hF⟩ := Rz g hF
 cases hΦ _ (zaa hF)
 iterate 2 refine wW ?_
 try simp [go_sem, g]
@[go_sem] def zAa : List DE := [d0 0 [1], d0 1 [2], d1 2 [3] 3, d2 3 [9] 3 9, d1 5 [3] 3, d2 6 [12] 3 12, d3 4 [8, 10], d3 7 [7, 11, 13], d0 8 [14]]
def zaP (a0 : Group) (a1 : Int) (a2 : Int) : Option Int :=
 (zbL a2 a0.Q).bind fun z1 =>
 (zbt a1 z1 a0.P).bind fun z2 =>
 some z2
theorem zcE : ∀ {a0} {a1} {a2} {r}, zaP a0 a1 a2 = some r → PCalls Tryz.prog 79 [(.sh, vE a0), (.sh, .int .i64 a1), (.sh, .int .i64 a2)] (Eo (.int .i64 r) [.junk, .junk, .junk]) := by
 intro a0 a1 a2 r hr
 apply pF 15 [] [] [] [.tmp 6] hr zF0 Tryz.func79
 intro Φ hΦ hF g
 unfold zaP at hF
 refine wW ?_
 refine wX zAa follows ?_
 refine wC hF [.sh, .sh] zfg (fun z1 hF => ?_)
 refine wC hF [.sh, .sh, .sh] zen (fun z2 hF => ?_)
 refine wK [6] ?_
 exact wm hΦ hF
@[go_sem] def zAP : List DE := [d2 0 [5] 5 5, d1 1 [5] 5, d2 2 [24] 5 24, d0 3 [0], d1 4 [5] 5, d2 5 [27] 5 27, d0 6 [28], d3 7 [26, 29], d0 8 [30], d3 9 [23, 25, 31], d1 10 [5] 5, d2 11 [33, 32] 5 33]
def zcn (a0c0 : List Int) (a0c1 : Int) (a0c2 : Int) : Option (Group × (List Int × Int × Int)) :=
 (zah a0c0 a0c1 a0c2 6).bind fun z1 =>
 if (z1.1 == 0) = true then (
 some ((Group.mk 1000000007 500000003 4), (z1.2.1, z1.2.2.1, z1.2.2.2))) else (
 if (z1.1 == 1) = true then (
 (zan z1.2.1 z1.2.2.1 z1.2.2.2 [101, 1009, 1019, 65537, 999983]).bind fun z4 =>
 (zcN z4.1).bind fun z5 =>
 some (z5.1, (z4.2.1, z4.2.2.1, z4.2.2.2))) else (
 (zcG z1.2.1 z1.2.2.1 z1.2.2.2).bind fun z6 =>
 (zah z6.2.1 z6.2.2.1 z6.2.2.2 (i64.wrap (z6.1.Q - 1))).bind fun z7 =>
 (zaP z6.1 z6.1.G (i64.wrap (1 + z7.1))).bind fun z8 =>
 some ((Group.mk z6.1.P z6.1.Q z8), (z7.2.1, z7.2.2.1, z7.2.2.2))))
theorem zix : ∀ {a0c0} {a0c1} {a0c2} {r}, zcn a0c0 a0c1 a0c2 = some r → PCalls Tryz.prog 27 [(.io, vB a0c0 a0c1 a0c2)] (Eo (vE r.1) [vB r.2.1 r.2.2.1 r.2.2.2]) := by
 intro a0c0 a0c1 a0c2 r hr
 apply pF 35 [0] [] [] [.cell 2 24] hr zCU Tryz.func27
 intro Φ hΦ hF g
 unfold zcn at hF
 refine wW ?_
 refine wC hF [.io, .sh] zaj (fun z1 hF => ?_)
 refine wW ?_
 refine wB ?_
 refine wW ?_
 refine wI hF (fun h2 hF => ?_) (fun h2 hF => ?_)
 ·exact wl hΦ hF
 refine wW ?_
 refine wI hF (fun h3 hF => ?_) (fun h3 hF => ?_)
 ·refine wC hF [.io, .mv] zal (fun z4 hF => ?_)
  refine wC hF [.sh] zgi (fun z5 hF => ?_)
  refine wK [0, 2, 3] ?_
  exact wl hΦ hF
 refine wW ?_
 refine wC hF [.io] zi0 (fun z6 hF => ?_)
 refine wK [0, 2, 5] ?_
 refine wX zAP follows ?_
 refine wC hF [.io, .sh] zaj (fun z7 hF => ?_)
 refine wC hF [.sh, .sh, .sh] zcE (fun z8 hF => ?_)
 refine wK [0, 2, 5] ?_
 exact wl hΦ hF
def zbQ (a0c0 : List Int) (a0c1 : Int) (a0c2 : Int) : Option (Group × (List Int × Int × Int)) :=
 (zcn a0c0 a0c1 a0c2).bind fun z1 =>
 (zah z1.2.1 z1.2.2.1 z1.2.2.2 24).bind fun z2 =>
 ((if (z2.1 == 0) = true then (
 (zan z2.2.1 z2.2.2.1 z2.2.2.2 [0, i64.wrap (z1.1.P + 2), 4, (-7)]).bind fun z7 =>
 some ((z7.2.1, z7.2.2.1, z7.2.2.2), z7.1, z1.1.Q, z1.1.G)) else (
 if (z2.1 == 1) = true then (
 (zan z2.2.1 z2.2.2.1 z2.2.2.2 [0, 1, i64.wrap (z1.1.Q + 1), i64.wrap (z1.1.P - 1)]).bind fun z9 =>
 some ((z9.2.1, z9.2.2.1, z9.2.2.2), z1.1.P, z9.1, z1.1.G)) else (
 if (z2.1 == 2) = true then (
 (zan z2.2.1 z2.2.2.1 z2.2.2.2 [0, 1, i64.wrap (z1.1.P - 1), z1.1.P, i64.wrap (z1.1.G + 1)]).bind fun z11 =>
 some ((z11.2.1, z11.2.2.1, z11.2.2.2), z1.1.P, z1.1.Q, z11.1)) else (
 some ((z2.2.1, z2.2.2.1, z2.2.2.2), z1.1.P, z1.1.Q, z1.1.G)))) : Option (((List Int × Int × Int) × Int × Int × Int))).bind fun x5 =>
 some ((Group.mk x5.2.1 x5.2.2.1 x5.2.2.2), (x5.1.1, x5.1.2.1, x5.1.2.2)))
theorem zhF : ∀ {a0c0} {a0c1} {a0c2} {r}, zbQ a0c0 a0c1 a0c2 = some r → PCalls Tryz.prog 29 [(.io, vB a0c0 a0c1 a0c2)] (Eo (vE r.1) [vB r.2.1 r.2.2.1 r.2.2.2]) := by
 intro a0c0 a0c1 a0c2 r hr
 apply pF 44 [0] [] [] [.cell 2 24] hr zFk Tryz.func29
 intro Φ hΦ hF g
 unfold zbQ at hF
 refine wW ?_
 refine wC hF [.io] zix (fun z1 hF => ?_)
 refine wW ?_
 refine wC hF [.io, .sh] zaj (fun z2 hF => ?_)
 refine wW ?_
 refine wJ hF (fun x5 => [(0, .v (vB x5.1.1 x5.1.2.1 x5.1.2.2)), (2, .bl [.int .i64 0, .int .i64 0, .int .i64 0]), (3, .bl [.int .i64 x5.2.1, .int .i64 x5.2.2.1, .int .i64 x5.2.2.2])]) (fun x5 hF => ?_) fun _ hj3 hF => ?_
 ·exact wl hΦ hF
 refine wB ?_
 refine wW ?_
 refine wI hF (fun h6 hF => ?_) (fun h6 hF => ?_)
 ·refine wC hF [.io, .mv] zal (fun z7 hF => ?_)
  exact wT (hj3 _) (zaa hF)
 refine wK [0, 2, 3, 7, 17] ?_
 refine wI hF (fun h8 hF => ?_) (fun h8 hF => ?_)
 ·refine wC hF [.io, .mv] zal (fun z9 hF => ?_)
  exact wT (hj3 _) (zaa hF)
 refine wW ?_
 refine wI hF (fun h10 hF => ?_) (fun h10 hF => ?_)
 ·refine wC hF [.io, .mv] zal (fun z11 hF => ?_)
  exact wT (hj3 _) (zaa hF)
 exact wT (hj3 _) (zaa hF)
def zbE (a0c0 : List Int) (a0c1 : Int) (a0c2 : Int) : Option (Group × (List Int × Int × Int)) :=
 (zaM a0c0 a0c1 a0c2 16).bind fun z1 =>
 if z1.1 = true then (
 (zbQ z1.2.1 z1.2.2.1 z1.2.2.2).bind fun z3 =>
 some (z3.1, (z3.2.1, z3.2.2.1, z3.2.2.2))) else (
 (zan z1.2.1 z1.2.2.1 z1.2.2.2 [11, 11, 13, 23, 23, 101, 1019]).bind fun z4 =>
 (zcN z4.1).bind fun z5 =>
 some (z5.1, (z4.2.1, z4.2.2.1, z4.2.2.2)))
theorem zfI : ∀ {a0c0} {a0c1} {a0c2} {r}, zbE a0c0 a0c1 a0c2 = some r → PCalls Tryz.prog 54 [(.io, vB a0c0 a0c1 a0c2)] (Eo (vE r.1) [vB r.2.1 r.2.2.1 r.2.2.2]) := by
 intro a0c0 a0c1 a0c2 r hr
 apply pF 17 [0] [] [] [.cell 2 24] hr zDy Tryz.func54
 intro Φ hΦ hF g
 unfold zbE at hF
 refine wW ?_
 refine wC hF [.io, .sh] zbm (fun z1 hF => ?_)
 refine wW ?_
 refine wI hF (fun h2 hF => ?_) (fun h2 hF => ?_)
 ·refine wC hF [.io] zhF (fun z3 hF => ?_)
  exact wl hΦ hF
 refine wW ?_
 refine wC hF [.io, .mv] zal (fun z4 hF => ?_)
 refine wC hF [.sh] zgi (fun z5 hF => ?_)
 refine wK [0, 2, 3] ?_
 exact wl hΦ hF
def zfa (a0 : Group) : Option Bool :=
 (((za3 a0.P 3 2000000000).bind fun z4 =>
 if z4 = true then (
 (za3 a0.Q 2 (i64.wrap (a0.P - 1))).bind fun z6 =>
 if z6 = true then (
 gd (a0.Q ≠ 0) <|
 if (((i64.wrap (a0.P - 1)).tmod a0.Q) == 0) = true then (
 (za3 a0.G 2 (i64.wrap (a0.P - 1))).bind fun z9 =>
 if z9 = true then (
 (zbt a0.G a0.Q a0.P).bind fun z11 =>
 if (z11 == 1) = true then (
 (zda a0.Q).bind fun z13 =>
 if z13 = true then (
 (zda a0.P).bind fun z15 =>
 some z15) else (
 some false)) else (
 some false)) else (
 some false)) else (
 some false)) else (
 some false)) else (
 some false) : Option Bool).bind fun x3 =>
 some x3)
theorem zn5 : ∀ {a0} {r}, zfa a0 = some r → PCalls Tryz.prog 81 [(.sh, vE a0)] (Eo (.bool r) [.junk]) := by
 intro a0 r hr
 apply pF 51 [] [] [] [.tmp 2] hr zFD Tryz.func81
 intro Φ hΦ hF g
 unfold zfa at hF
 refine wW ?_
 refine wJ hF (fun x3 => [(2, .v (.bool x3))]) (fun x3 hF => ?_) fun _ hj1 hF => ?_
 ·exact wm hΦ hF
 refine wC hF [.sh, .sh, .sh] zbI (fun z4 hF => ?_)
 refine wG hF (fun h5 hF => ?_) fun h5 hF => ?_
 ·try simp [go_sem, g, h5]
  refine wC hF [.sh, .sh, .sh] zbI (fun z6 hF => ?_)
  try simp [go_sem, g, h5]
  refine wG hF (fun h7 hF => ?_) fun h7 hF => ?_
  ·obtain ⟨g, hF⟩ := Rz g hF
   try simp [go_sem, g, h7]
   refine wG hF (fun h8 hF => ?_) fun h8 hF => ?_
   ·try simp [go_sem, g, h8]
    refine wC hF [.sh, .sh, .sh] zbI (fun z9 hF => ?_)
    try simp [go_sem, g, h8]
    refine wG hF (fun h10 hF => ?_) fun h10 hF => ?_
    ·try simp [go_sem, g, h10]
     refine wC hF [.sh, .sh, .sh] zen (fun z11 hF => ?_)
     try simp [go_sem, g, h10]
     refine wG hF (fun h12 hF => ?_) fun h12 hF => ?_
     ·try simp [go_sem, g, h12]
      refine wC hF [.sh] zgd (fun z13 hF => ?_)
      try simp [go_sem, g, h12]
      refine wG hF (fun h14 hF => ?_) fun h14 hF => ?_
      ·try simp [go_sem, g, h14]
       refine wC hF [.sh] zgd (fun z15 hF => ?_)
       exact wV h14 (hj1 _) (zaa hF)
      exact wV h14 (hj1 _) (zaa hF)
     exact wV h12 (hj1 _) (zaa hF)
    exact wV h10 (hj1 _) (zaa hF)
   exact wV h8 (hj1 _) (zaa hF)
  exact wV h7 (hj1 _) (zaa hF)
 exact wV h5 (hj1 _) (zaa hF)
def zcJ (a0 : Group) : Option Bool :=
 (((zfa a0).bind fun z4 =>
 if z4 = true then (
 some (decide (7 < a0.Q))) else (
 some false) : Option Bool).bind fun x3 =>
 some x3)
theorem zfb : ∀ {a0} {r}, zcJ a0 = some r → PCalls Tryz.prog 61 [(.sh, vE a0)] (Eo (.bool r) [.junk]) := by
 intro a0 r hr
 apply pF 10 [] [] [] [.tmp 2] hr zFX Tryz.func61
 intro Φ hΦ hF g
 unfold zcJ at hF
 refine wW ?_
 refine wJ hF (fun x3 => [(2, .v (.bool x3))]) (fun x3 hF => ?_) fun _ hj1 hF => ?_
 ·exact wm hΦ hF
 refine wC hF [.sh] zn5 (fun z4 hF => ?_)
 refine wG hF (fun h5 hF => ?_) fun h5 hF => ?_
 ·exact wV h5 (hj1 _) (zaa hF)
 exact wV h5 (hj1 _) (zaa hF)
@[go_sem] def zzv : List DE := [d0 0 [0], d0 3 [0], d1 6 [3] 3, d2 7 [14] 3 14, d3 1 [8], d0 2 [9], d3 4 [11], d0 5 [10, 12], d0 8 [13, 15], d0 9 [16]]
def zaE (a0c0 : List Int) (a0c1 : Int) (a0c2 : Int) (a1 : Group) : Option (Int × (List Int × Int × Int)) :=
 if decide (a1.Q < 2) = true then (
 some (0, (a0c0, a0c1, a0c2))) else (
 (zah a0c0 a0c1 a0c2 60000).bind fun z2 =>
 (zah z2.2.1 z2.2.2.1 z2.2.2.2 60000).bind fun z3 =>
 gd (a1.Q ≠ 0) <|
 some ((i64.wrap ((i64.wrap (z2.1 * 60000)) + z3.1)).tmod a1.Q, (z3.2.1, z3.2.2.1, z3.2.2.2)))
theorem zaB : ∀ {a0c0} {a0c1} {a0c2} {a1} {r}, zaE a0c0 a0c1 a0c2 a1 = some r → PCalls Tryz.prog 80 [(.io, vB a0c0 a0c1 a0c2), (.sh, vE a1)] (Eo (.int .i64 r.1) [vB r.2.1 r.2.2.1 r.2.2.2, .junk]) := by
 intro a0c0 a0c1 a0c2 a1 r hr
 apply pF 17 [0] [] [] [.tmp 4] hr zE7 Tryz.func80
 intro Φ hΦ hF g
 unfold zaE at hF
 iterate 2 refine wW ?_
 refine wI hF (fun h1 hF => ?_) (fun h1 hF => ?_)
 ·exact wl hΦ hF
 refine wW ?_
 refine wX zzv follows ?_
 refine wC hF [.io, .sh] zaj (fun z2 hF => ?_)
 refine wC hF [.io, .sh] zaj (fun z3 hF => ?_)
 obtain ⟨g, hF⟩ := Rz g hF
 refine wK [0, 4] ?_
 exact wm hΦ hF
def zco (a0c0 : List Int) (a0c1 : Int) (a0c2 : Int) (a1 : Group) (a2 : Int) : Option (List Int × (List Int × Int × Int)) :=
 ((zbc (σ := (List Int × Int × Int) × Int × List Int) (fun s11 =>
 if decide (0 < s11.2.1) = true then (
 (zaE s11.1.1 s11.1.2.1 s11.1.2.2 a1).bind fun z17 =>
 gd ((s11.2.2.length + 1) * 8 ≤ 140737488355328 ∧ s11.2.2.length + 1 ≤ 4611686018427387904) <|
 some (.go ((z17.2.1, z17.2.2.1, z17.2.2.2), i64.wrap (s11.2.1 - 1), s11.2.2 ++ [z17.1]))) else (
 some (.out ((s11.1.1, s11.1.2.1, s11.1.2.2), s11.2.2)))) ((a0c0, a0c1, a0c2), a2, []) : Option (((List Int × Int × Int) × List Int))).bind fun x3 =>
 some (x3.2, (x3.1.1, x3.1.2.1, x3.1.2.2)))
theorem ziv : ∀ {a0c0} {a0c1} {a0c2} {a1} {a2} {r}, zco a0c0 a0c1 a0c2 a1 a2 = some r → PCalls Tryz.prog 86 [(.io, vB a0c0 a0c1 a0c2), (.sh, vE a1), (.sh, .int .i64 a2)] (Eo (vD r.1) [vB r.2.1 r.2.2.1 r.2.2.2, .junk, .junk]) := by
 intro a0c0 a0c1 a0c2 a1 a2 r hr
 apply pF 19 [0] [] [] [.tmp 6] hr zEi Tryz.func86
 intro Φ hΦ hF g
 unfold zco at hF
 iterate 2 refine wW ?_
 refine wJ hF (fun x3 => [(0, .v (vB x3.1.1 x3.1.2.1 x3.1.2.2)), (7, .v (vD x3.2))]) (fun x3 hF => ?_) fun _ hj1 hF => ?_
 ·exact wl hΦ hF
 refine wB ?_
 obtain ⟨b18, hb19, hψ15⟩ := hF
 refine pL hb19 (fun s11 => [(0, .v (vB s11.1.1 s11.1.2.1 s11.1.2.2)), (2, .v (.int .i64 s11.2.1)), (4, .bl [.int .i64 a1.P, .int .i64 a1.Q, .int .i64 a1.G]), (7, .v (vD s11.2.2))]) (fun s11 _ _ ho13 hg14 hF => ?_)
 refine wW ?_
 refine wI hF (fun h16 hF => ?_) (fun h16 hF => ?_)
 ·refine wW ?_
  refine wB ?_
  refine wC hF [.io, .sh] zaB (fun z17 hF => ?_)
  obtain ⟨g, hF⟩ := Rg g hF
  refine wK [0, 2, 4, 7] ?_
  exact wT (hg14 _) (zaa hF)
 cases ho13 _ (zaa hF)
 exact wT (hj1 _) hψ15
def zbC (a0c0 : List Int) (a0c1 : Int) (a0c2 : Int) (a1 : Group) (a2 : Int) (a3 : Int) : Option ((List (List Int)) × (List Int × Int × Int)) :=
 ((zbc (σ := (List Int × Int × Int) × Int × (List (List Int))) (fun s18 =>
 if decide (0 < s18.2.1) = true then (
 (zco s18.1.1 s18.1.2.1 s18.1.2.2 a1 a3).bind fun z24 =>
 gd ((s18.2.2.length + 1) * 24 ≤ 140737488355328 ∧ s18.2.2.length + 1 ≤ 4611686018427387904) <|
 some (.go ((z24.2.1, z24.2.2.1, z24.2.2.2), i64.wrap (s18.2.1 - 1), s18.2.2 ++ [z24.1]))) else (
 some (.out ((s18.1.1, s18.1.2.1, s18.1.2.2), s18.2.2)))) ((a0c0, a0c1, a0c2), a2, []) : Option (((List Int × Int × Int) × (List (List Int))))).bind fun x3 =>
 some (x3.2, (x3.1.1, x3.1.2.1, x3.1.2.2)))
theorem zgX : ∀ {a0c0} {a0c1} {a0c2} {a1} {a2} {a3} {r}, zbC a0c0 a0c1 a0c2 a1 a2 a3 = some r → PCalls Tryz.prog 149 [(.io, vB a0c0 a0c1 a0c2), (.sh, vE a1), (.sh, .int .i64 a2), (.sh, .int .i64 a3)] (Eo (vF r.1) [vB r.2.1 r.2.2.1 r.2.2.2, .junk, .junk, .junk]) := by
 intro a0c0 a0c1 a0c2 a1 a2 a3 r hr
 apply pF 22 [0] [] [] [.tmp 8] hr zzA Tryz.func149
 intro Φ hΦ hF g
 unfold zbC at hF
 iterate 2 refine wW ?_
 refine wJ hF (fun x3 => [(0, .v (vB x3.1.1 x3.1.2.1 x3.1.2.2)), (9, .v (vF x3.2))]) (fun x3 hF => ?_) fun _ hj1 hF => ?_
 ·exact wl hΦ hF
 refine wB ?_
 obtain ⟨b25, hb26, hψ22⟩ := hF
 refine pL hb26 (fun s18 => [(0, .v (vB s18.1.1 s18.1.2.1 s18.1.2.2)), (2, .v (.int .i64 s18.2.1)), (3, .v (.int .i64 a3)), (5, .bl [.int .i64 a1.P, .int .i64 a1.Q, .int .i64 a1.G]), (9, .v (vF s18.2.2))]) (fun s18 _ _ ho20 hg21 hF => ?_)
 refine wW ?_
 refine wI hF (fun h23 hF => ?_) (fun h23 hF => ?_)
 ·refine wW ?_
  refine wB ?_
  refine wC hF [.io, .sh, .sh] ziv (fun z24 hF => ?_)
  obtain ⟨g, hF⟩ := Rg g hF
  refine wK [0, 2, 3, 5, 9] ?_
  exact wT (hg21 _) (zaa hF)
 cases ho20 _ (zaa hF)
 exact wT (hj1 _) hψ22
def zfw (a0 : List Int) (a1 : Int) (a2 : Int) : Option Bool :=
 ((zas (σ := Unit) (fun i5 s4 =>
 (ix a0 i5).bind fun x11 =>
 (za3 x11 a1 a2).bind fun z12 =>
 if (!z12) = true then (
 some (.out (.inr false))) else (
 some (.go ()))) (fun s4 => .inl ()) (a0.length) 0 () : Option (Unit ⊕ Bool)).bind (Sum.elim (fun x3 =>
 some true) some))
theorem zpa : ∀ {a0} {a1} {a2} {r}, zfw a0 a1 a2 = some r → PCalls Tryz.prog 117 [(.sh, vC a0), (.sh, .int .i64 a1), (.sh, .int .i64 a2)] (Eo (.bool r) [.junk, .junk, .junk]) := by
 intro a0 a1 a2 r hr
 apply pF 21 [] [] [] [.tmp 6] hr zAk Tryz.func117
 intro Φ hΦ hF g
 unfold zfw at hF
 iterate 2 (try simp [go_sem, g]; try intros; refine zav ?_)
 refine wS hF (fun x3 => []) (fun x3 hF => ?_) fun _ hj1 hr2 hF => ?_
 ·exact wl hΦ hF
 refine wB ?_
 obtain ⟨b14, hb15, hψ8⟩ := hF
 refine pR hb15 (fun i5 s4 => [(1, .v (.int .i64 a1)), (2, .v (.int .i64 a2)), (9, .v (vC a0)), (10, .v (.int .i64 (a0.length : Int))), (11, .v (.int .i64 i5))]) (fun s4 _ hN16 => ?_) (fun i5 s4 _ _ hi9 hi10 ho6 hg7 hF => ?_)
 ·exact wn hN16 (hj1 _) hψ8
 refine wW ?_
 refine wu hi9 hi10 ?_
 refine wW ?_
 refine wB ?_
 obtain ⟨x11, g, hF⟩ := Rx g hF
 refine wW ?_
 refine wC hF [.sh, .sh, .sh] zbI (fun z12 hF => ?_)
 refine wK [1, 2, 9, 10, 11, 19] ?_
 refine wI hF (fun h13 hF => ?_) (fun h13 hF => ?_)
 ·cases ho6 _ (zaa hF)
  cases hΦ _ (hr2 _ hψ8)
  refine wW ?_
  try simp [go_sem, g]
 refine wW ?_
 exact wi hi9 hi10 (hg7 _) (zaa hF)
def zdz (a0 : Group) (a1 : List Int) : Option Bool :=
 (zfw a1 0 (i64.wrap (a0.Q - 1))).bind fun z1 =>
 some z1
theorem zgR : ∀ {a0} {a1} {r}, zdz a0 a1 = some r → PCalls Tryz.prog 64 [(.sh, vE a0), (.sh, vC a1)] (Eo (.bool r) [.junk, .junk]) := by
 intro a0 a1 r hr
 apply pF 10 [] [] [] [.tmp 4] hr zFR Tryz.func64
 intro Φ hΦ hF g
 unfold zdz at hF
 refine wW ?_
 refine wC hF [.sh, .sh, .sh] zpa (fun z1 hF => ?_)
 exact wl hΦ hF
def zd6 (a0 : Int) (a1 : List Int) (a2 : Int) : Option Int :=
 ((zbc (σ := Int × Int) (fun s4 =>
 if decide (0 ≤ s4.2) = true then (
 (ix a1 s4.2).bind fun x10 =>
 gd (a0 ≠ 0) <|
 some (.go ((i64.wrap ((i64.wrap (s4.1 * a2)) + x10)).tmod a0, i64.wrap (s4.2 - 1)))) else (
 some (.out s4.1))) (0, i64.wrap ((a1.length : Int) - 1)) : Option Int).bind fun x3 =>
 some x3)
theorem zkz : ∀ {a0} {a1} {a2} {r}, zd6 a0 a1 a2 = some r → PCalls Tryz.prog 176 [(.sh, .int .i64 a0), (.sh, vC a1), (.sh, .int .i64 a2)] (Eo (.int .i64 r) [.junk, .junk, .junk]) := by
 intro a0 a1 a2 r hr
 apply pF 27 [] [] [] [.tmp 6] hr zzm Tryz.func176
 intro Φ hΦ hF g
 unfold zd6 at hF
 iterate 3 (try simp [go_sem, g]; try intros; refine zav ?_)
 refine wJ hF (fun x3 => [(7, .v (.int .i64 x3))]) (fun x3 hF => ?_) fun _ hj1 hF => ?_
 ·exact wl hΦ hF
 refine wB ?_
 obtain ⟨b11, hb12, hψ8⟩ := hF
 refine pL hb12 (fun s4 => [(0, .v (.int .i64 a0)), (1, .v (vC a1)), (2, .v (.int .i64 a2)), (7, .v (.int .i64 s4.1)), (8, .v (.int .i64 s4.2))]) (fun s4 _ _ ho6 hg7 hF => ?_)
 refine wW ?_
 refine wI hF (fun h9 hF => ?_) (fun h9 hF => ?_)
 ·refine wW ?_
  refine wB ?_
  obtain ⟨x10, g, hF⟩ := Rx g hF
  obtain ⟨g, hF⟩ := Rz g hF
  refine wK [0, 1, 2, 7, 8] ?_
  exact wT (hg7 _) (zaa hF)
 cases ho6 _ (zaa hF)
 exact wT (hj1 _) hψ8
@[go_sem] def zwf : List DE := [d1 0 [7] 7, d2 1 [33] 7 33, d1 2 [3] 3, d2 3 [35] 3 35, d0 4 [1], d0 5 [10], d3 6 [36, 37, 38], d0 7 [39], ⟨8, [34, 40], [], none, true, false, false⟩, d1 9 [7] 7, d2 10 [42, 41] 7 42]
@[go_sem] def zyd : List DE := [d1 0 [7] 7, d2 1 [17] 7 17, d2 2 [3] 3 3, d1 3 [3] 3, d2 4 [20] 3 20, d0 5 [9], d3 6 [19, 21, 22], d0 7 [23], ⟨8, [18, 24], [], none, true, false, false⟩, d1 9 [7] 7, d2 10 [26, 25] 7 26]
def zfx (a0 : Group) (a1 : List Int) (a2 : Int) : Option Dealing :=
 ((zas (σ := (List Int) × List Int) (fun i14 s13 =>
 (ix a1 i14).bind fun x20 =>
 (zaP a0 a0.G x20).bind fun z21 =>
 gd ((s13.1.length + 1) * 8 ≤ 140737488355328 ∧ s13.1.length + 1 ≤ 4611686018427387904) <|
 some (.go (s13.1 ++ [z21], s13.2))) (fun s13 => (s13.1, s13.2)) (a1.length) 0 ([], []) : Option ((List Int × List Int))).bind fun x3 =>
 ((zbc (σ := (List Int) × List Int × Int) (fun s36 =>
 if decide (s36.2.2 ≤ a2) = true then (
 (zd6 a0.Q a1 s36.2.2).bind fun z42 =>
 gd ((s36.2.1.length + 1) * 8 ≤ 140737488355328 ∧ s36.2.1.length + 1 ≤ 4611686018427387904) <|
 some (.go (s36.1, s36.2.1 ++ [z42], i64.wrap (s36.2.2 + 1)))) else (
 some (.out (s36.1, s36.2.1)))) (x3.1, x3.2, 1) : Option ((List Int × List Int))).bind fun x28 =>
 some (Dealing.mk x28.1 x28.2)))
theorem zox : ∀ {a0} {a1} {a2} {r}, zfx a0 a1 a2 = some r → PCalls Tryz.prog 174 [(.sh, vE a0), (.sh, vC a1), (.sh, .int .i64 a2)] (Eo (vJ r) [.junk, .junk, .junk]) := by
 intro a0 a1 a2 r hr
 apply pF 44 [] [] [] [.cell 6 182] hr zBa Tryz.func174
 intro Φ hΦ hF g
 unfold zfx at hF
 iterate 3 (try simp [go_sem, g]; try intros; refine zav ?_)
 refine wJ hF (fun x3 => [(1, .v (vC a1)), (2, .v (.int .i64 a2)), (3, .bl [.int .i64 a0.P, .int .i64 a0.Q, .int .i64 a0.G]), (6, .bl [.sl true 1 [], .sl true 1 []]), (7, .bl [vD x3.1, vD x3.2])]) (fun x3 hF => ?_) fun _ hj1 hF => ?_
 ·refine wW ?_
  refine wJ hF (fun x28 => [(6, .bl [.sl true 1 [], .sl true 1 []]), (7, .bl [vD x28.1, vD x28.2])]) (fun x28 hF => ?_) fun _ hj26 hF => ?_
  ·exact wl hΦ hF
  refine wB ?_
  obtain ⟨b43, hb44, hψ40⟩ := hF
  refine pL hb44 (fun s36 => [(1, .v (vC a1)), (2, .v (.int .i64 a2)), (3, .bl [.int .i64 a0.P, .int .i64 a0.Q, .int .i64 a0.G]), (6, .bl [.sl true 1 [], .sl true 1 []]), (7, .bl [vD s36.1, vD s36.2.1]), (10, .v (.int .i64 s36.2.2))]) (fun s36 _ _ ho38 hg39 hF => ?_)
  refine wK [1, 2, 3, 6, 7, 10, 30] ?_
  refine wI hF (fun h41 hF => ?_) (fun h41 hF => ?_)
  ·refine wW ?_
   refine wB ?_
   refine wX zwf follows ?_
   refine wC hF [.sh, .sh, .sh] zkz (fun z42 hF => ?_)
   obtain ⟨g, hF⟩ := Rg g hF
   refine wK [1, 2, 3, 6, 7, 10] ?_
   exact wT (hg39 _) (zaa hF)
  cases ho38 _ (zaa hF)
  exact wT (hj26 _) hψ40
 refine wB ?_
 obtain ⟨b22, hb23, hψ17⟩ := hF
 refine pR hb23 (fun i14 s13 => [(1, .v (vC a1)), (2, .v (.int .i64 a2)), (3, .bl [.int .i64 a0.P, .int .i64 a0.Q, .int .i64 a0.G]), (6, .bl [.sl true 1 [], .sl true 1 []]), (7, .bl [vD s13.1, vD s13.2]), (11, .v (vC a1)), (12, .v (.int .i64 (a1.length : Int))), (13, .v (.int .i64 i14))]) (fun s13 _ hN24 => ?_) (fun i14 s13 _ _ hi18 hi19 ho15 hg16 hF => ?_)
 ·exact wn hN24 (hj1 _) hψ17
 refine wW ?_
 refine wu hi18 hi19 ?_
 refine wW ?_
 refine wB ?_
 obtain ⟨x20, g, hF⟩ := Rx g hF
 refine wK [1, 2, 3, 6, 7, 9, 11, 12, 13] ?_
 refine wX zyd follows ?_
 refine wC hF [.sh, .sh, .sh] zcE (fun z21 hF => ?_)
 obtain ⟨g, hF⟩ := Rg g hF
 refine wK [1, 2, 3, 6, 7, 11, 12, 13] ?_
 exact wi hi18 hi19 (hg16 _) (zaa hF)
def zcY (a0 : Group) (a1 : List Int) : Option Int :=
 ((zas (σ := Int) (fun i5 s4 =>
 (ix a1 i5).bind fun x11 =>
 gd (a0.P ≠ 0) <|
 some (.go ((i64.wrap (s4 * x11)).tmod a0.P))) (fun s4 => s4) (a1.length) 0 1 : Option Int).bind fun x3 =>
 some x3)
theorem zfZ : ∀ {a0} {a1} {r}, zcY a0 a1 = some r → PCalls Tryz.prog 108 [(.sh, vE a0), (.sh, vC a1)] (Eo (.int .i64 r) [.junk, .junk]) := by
 intro a0 a1 r hr
 apply pF 22 [] [] [] [.tmp 4] hr zzB Tryz.func108
 intro Φ hΦ hF g
 unfold zcY at hF
 iterate 3 (try simp [go_sem, g]; try intros; refine zav ?_)
 refine wJ hF (fun x3 => [(5, .v (.int .i64 x3))]) (fun x3 hF => ?_) fun _ hj1 hF => ?_
 ·exact wl hΦ hF
 refine wB ?_
 obtain ⟨b12, hb13, hψ8⟩ := hF
 refine pR hb13 (fun i5 s4 => [(2, .bl [.int .i64 a0.P, .int .i64 a0.Q, .int .i64 a0.G]), (5, .v (.int .i64 s4)), (8, .v (vC a1)), (9, .v (.int .i64 (a1.length : Int))), (10, .v (.int .i64 i5))]) (fun s4 _ hN14 => ?_) (fun i5 s4 _ _ hi9 hi10 ho6 hg7 hF => ?_)
 ·exact wn hN14 (hj1 _) hψ8
 refine wW ?_
 refine wu hi9 hi10 ?_
 refine wW ?_
 refine wB ?_
 obtain ⟨x11, g, hF⟩ := Rx g hF
 refine wK [2, 5, 7, 8, 9, 10] ?_
 obtain ⟨g, hF⟩ := Rz g hF
 refine wW ?_
 exact wi hi9 hi10 (hg7 _) (zaa hF)
@[go_sem] def zyA : List DE := [d2 0 [3] 3 3, d0 1 [7], d2 2 [3] 3 3, d0 3 [10], d0 4 [8], d3 5 [19, 20, 21], d0 6 [18, 22], ⟨7, [17, 23], [], none, true, true, true⟩, d0 8 [24]]
def zeZ (a0 : Group) (a1 : List Int) (a2 : Int) : Option Int :=
 ((zas (σ := Int × Int) (fun i5 s4 =>
 (ix a1 i5).bind fun x11 =>
 (zaP a0 x11 s4.2).bind fun z12 =>
 (zcY a0 [s4.1, z12]).bind fun z13 =>
 gd (a0.Q ≠ 0) <|
 some (.go (z13, (i64.wrap (s4.2 * a2)).tmod a0.Q))) (fun s4 => s4.1) (a1.length) 0 (1, 1) : Option Int).bind fun x3 =>
 some x3)
theorem zmh : ∀ {a0} {a1} {a2} {r}, zeZ a0 a1 a2 = some r → PCalls Tryz.prog 126 [(.sh, vE a0), (.sh, vC a1), (.sh, .int .i64 a2)] (Eo (.int .i64 r) [.junk, .junk, .junk]) := by
 intro a0 a1 a2 r hr
 apply pF 33 [] [] [] [.tmp 6] hr zAt Tryz.func126
 intro Φ hΦ hF g
 unfold zeZ at hF
 iterate 3 (try simp [go_sem, g]; try intros; refine zav ?_)
 refine wJ hF (fun x3 => [(7, .v (.int .i64 x3))]) (fun x3 hF => ?_) fun _ hj1 hF => ?_
 ·exact wl hΦ hF
 refine wB ?_
 obtain ⟨b14, hb15, hψ8⟩ := hF
 refine pR hb15 (fun i5 s4 => [(2, .v (.int .i64 a2)), (3, .bl [.int .i64 a0.P, .int .i64 a0.Q, .int .i64 a0.G]), (7, .v (.int .i64 s4.1)), (8, .v (.int .i64 s4.2)), (11, .v (vC a1)), (12, .v (.int .i64 (a1.length : Int))), (13, .v (.int .i64 i5))]) (fun s4 _ hN16 => ?_) (fun i5 s4 _ _ hi9 hi10 ho6 hg7 hF => ?_)
 ·exact wn hN16 (hj1 _) hψ8
 refine wW ?_
 refine wu hi9 hi10 ?_
 refine wW ?_
 refine wB ?_
 obtain ⟨x11, g, hF⟩ := Rx g hF
 refine wK [2, 3, 7, 8, 10, 11, 12, 13] ?_
 refine wX zyA follows ?_
 refine wC hF [.sh, .sh, .sh] zcE (fun z12 hF => ?_)
 refine wC hF [.sh, .sh] zfZ (fun z13 hF => ?_)
 obtain ⟨g, hF⟩ := Rz g hF
 refine wW ?_
 refine wK [2, 3, 7, 8, 11, 12, 13] ?_
 exact wi hi9 hi10 (hg7 _) (zaa hF)
@[go_sem] def zyP : List DE := [d2 0 [4] 4 4, d1 1 [4] 4, d2 2 [10] 4 10, d0 3 [3], d2 5 [4] 4 4, d0 6 [1], d0 7 [2], d3 4 [9, 11, 12], d3 8 [14, 15, 16], d0 9 [13, 17], d0 10 [18]]
def zeI (a0 : Group) (a1 : List Int) (a2 : Int) (a3 : Int) : Option Bool :=
 (zaP a0 a0.G a3).bind fun z1 =>
 (zeZ a0 a1 a2).bind fun z2 =>
 some (z1 == z2)
theorem zkl : ∀ {a0} {a1} {a2} {a3} {r}, zeI a0 a1 a2 a3 = some r → PCalls Tryz.prog 185 [(.sh, vE a0), (.sh, vC a1), (.sh, .int .i64 a2), (.sh, .int .i64 a3)] (Eo (.bool r) [.junk, .junk, .junk, .junk]) := by
 intro a0 a1 a2 a3 r hr
 apply pF 19 [] [] [] [.tmp 8] hr zzS Tryz.func185
 intro Φ hΦ hF g
 unfold zeI at hF
 refine wW ?_
 refine wX zyP follows ?_
 refine wC hF [.sh, .sh, .sh] zcE (fun z1 hF => ?_)
 refine wC hF [.sh, .sh, .sh] zmh (fun z2 hF => ?_)
 refine wK [8] ?_
 exact wm hΦ hF
def zfd (a0 : Group) (a1 : Dealing) : Option ((List Int)) :=
 ((zas (σ := (List Int)) (fun i5 s4 =>
 (((ix a1.Shares i5).bind fun x14 =>
 (zeI a0 a1.Commits (i64.wrap (i5 + 1)) x14).bind fun z15 =>
 if (!z15) = true then (
 gd ((s4.length + 1) * 8 ≤ 140737488355328 ∧ s4.length + 1 ≤ 4611686018427387904) <|
 some (s4 ++ [i64.wrap (i5 + 1)])) else (
 some s4) : Option ((List Int))).bind fun x13 =>
 some (.go x13))) (fun s4 => s4) (a1.Shares.length) 0 [] : Option ((List Int))).bind fun x3 =>
 some x3)
theorem zlk : ∀ {a0} {a1} {r}, zfd a0 a1 = some r → PCalls Tryz.prog 175 [(.sh, vE a0), (.sh, vM a1)] (Eo (vD r) [.junk, .junk]) := by
 intro a0 a1 r hr
 apply pF 31 [] [] [] [.tmp 4] hr zzX Tryz.func175
 intro Φ hΦ hF g
 unfold zfd at hF
 iterate 3 (try simp [go_sem, g]; try intros; refine zav ?_)
 refine wJ hF (fun x3 => [(5, .v (vD x3))]) (fun x3 hF => ?_) fun _ hj1 hF => ?_
 ·refine wK [4] ?_
  exact wm hΦ hF
 refine wB ?_
 obtain ⟨b17, hb18, hψ8⟩ := hF
 refine pR hb18 (fun i5 s4 => [(2, .bl [.int .i64 a0.P, .int .i64 a0.Q, .int .i64 a0.G]), (3, .bl [vC a1.Commits, vC a1.Shares]), (5, .v (vD s4)), (9, .v (vC a1.Shares)), (10, .v (.int .i64 (a1.Shares.length : Int))), (11, .v (.int .i64 i5))]) (fun s4 _ hN19 => ?_) (fun i5 s4 _ _ hi9 hi10 ho6 hg7 hF => ?_)
 ·exact wn hN19 (hj1 _) hψ8
 refine wW ?_
 refine wu hi9 hi10 ?_
 refine wW ?_
 refine wJ hF (fun x13 => [(2, .bl [.int .i64 a0.P, .int .i64 a0.Q, .int .i64 a0.G]), (3, .bl [vC a1.Commits, vC a1.Shares]), (5, .v (vD x13)), (9, .v (vC a1.Shares)), (10, .v (.int .i64 (a1.Shares.length : Int))), (11, .v (.int .i64 i5))]) (fun x13 hF => ?_) fun _ hj11 hF => ?_
 ·exact wi hi9 hi10 (hg7 _) (zaa hF)
 refine wB ?_
 obtain ⟨x14, g, hF⟩ := Rx g hF
 refine wK [2, 3, 5, 6, 7, 9, 10, 11] ?_
 refine wC hF [.sh, .sh, .sh, .sh] zkl (fun z15 hF => ?_)
 refine wW ?_
 refine wI hF (fun h16 hF => ?_) (fun h16 hF => ?_)
 ·obtain ⟨g, hF⟩ := Rg g hF
  exact wT (hj11 _) (zaa hF)
 exact wT (hj11 _) (zaa hF)
@[go_sem] def zwa : List DE := [d0 0 [16], d1 1 [15] 15, d2 2 [109] 15 109, d0 3 [110], d0 4 [16], d1 5 [15] 15, d2 6 [113] 15 113, d0 7 [114], d0 8 [112, 115], d0 9 [116], d1 10 [15] 15, d2 11 [118] 15 118, d0 12 [117, 119], d1 13 [3] 3, d2 14 [121] 3 121, d0 15 [120, 122], d0 16 [108, 111], d0 17 [124, 123]]
@[go_sem] def zwy : List DE := [d0 0 [13], d1 1 [15] 15, d2 2 [126] 15 126, d0 3 [127], d0 4 [13], d1 5 [15] 15, d2 6 [130] 15 130, d0 7 [131], d0 8 [129, 132], d0 9 [133], d0 10 [134], d1 11 [15, 135] 15, d2 12 [136, 135] 15 136, d0 13 [137, 135], d0 14 [135, 138], d0 15 [125, 128], d0 16 [140, 139]]
@[go_sem] def zwB : List DE := [d2 0 [3] 3 3, d0 1 [10], d0 2 [18], d0 3 [148, 149], d0 4 [150], d0 7 [], d3 5 [147, 151], d0 6 [152]]
@[go_sem] def zww : List DE := [d0 0 [19], d1 1 [3] 3, d2 2 [164] 3 164, d0 3 [1], d0 4 [18], d0 5 [166, 167], d0 6 [168], d0 7 [21], d3 8 [165, 169, 170], d0 9 [171], ⟨10, [163, 172], [], none, true, false, false⟩, d0 11 [173]]
def zdG (a0 : Group) (a1 : (List (List Int))) (a2 : List Fault) : Option (List Dealing × (List (List Int)) × Bool) :=
 (((zcJ a0).bind fun z4 =>
 if (!z4) = true then (
 some true) else (
 (za3 (a1.length : Int) 1 7).bind fun z6 =>
 if (!z6) = true then (
 some true) else (
 (ix a1 0).bind fun x8 =>
 (za3 (x8.length : Int) 1 (a1.length : Int)).bind fun z9 =>
 if (!z9) = true then (
 some true) else (
 some (decide (20 < (a2.length : Int)))))) : Option Bool).bind fun x3 =>
 if x3 = true then (
 some ([], [], false)) else (
 ((zas (σ := (List Dealing)) (fun i32 s31 =>
 (ix a1 i32).bind fun x38 =>
 (((ix a1 0).bind fun x42 =>
 if ((x38.length : Int) != (x42.length : Int)) = true then (
 some true) else (
 (zdz a0 x38).bind fun z44 =>
 some (!z44)) : Option Bool).bind fun x41 =>
 if x41 = true then (
 some (.out (.inr ([], [], false)))) else (
 (zfx a0 x38 (a1.length : Int)).bind fun z46 =>
 gd ((s31.length + 1) * 48 ≤ 140737488355328 ∧ s31.length + 1 ≤ 4611686018427387904) <|
 some (.go (s31 ++ [z46]))))) (fun s31 => .inl s31) (a1.length) 0 [] : Option ((List Dealing) ⊕ (List Dealing × (List (List Int)) × Bool))).bind (Sum.elim (fun x14 =>
 gd (0 ≤ (a1.length : Int) ∧ (a1.length : Int) ≤ (a1.length : Int) ∧ 1 * (a1.length : Int) ≤ 140737488355328 ∧ (a1.length : Int) ≤ 4611686018427387904) <|
 (some (List.replicate a1.length false)).bind fun x51 =>
 ((zas (σ := (List Dealing) × List Bool) (fun i82 s81 =>
 (((ix a2 i82).bind fun x91 =>
 (((za3 x91.Dealer 1 (a1.length : Int)).bind fun z95 =>
 if (!z95) = true then (
 some true) else (
 (za3 x91.Trustee 1 (a1.length : Int)).bind fun z97 =>
 if (!z97) = true then (
 some true) else (
 (zdz a0 [x91.Delta]).bind fun z99 =>
 some (!z99))) : Option Bool).bind fun x94 =>
 if x94 = true then (
 some (.inr (.out (.inr ([], [], false))))) else (
 (ix s81.1 (i64.wrap (x91.Dealer - 1))).bind fun x101 =>
 (ix x101.Shares (i64.wrap (x91.Trustee - 1))).bind fun x102 =>
 gd (a0.Q ≠ 0) <|
 (ix s81.2 (i64.wrap (x91.Dealer - 1))).bind fun x103 =>
 if x103 = true then (
 some (.inl (s81.1.set ((i64.wrap (x91.Dealer - 1)).toNat) (Dealing.mk x101.Commits (x101.Shares.set ((i64.wrap (x91.Trustee - 1)).toNat) ((i64.wrap (x102 + x91.Delta)).tmod a0.Q))), s81.2.set ((i64.wrap (x91.Dealer - 1)).toNat) true))) else (
 some (.inl (s81.1.set ((i64.wrap (x91.Dealer - 1)).toNat) (Dealing.mk x101.Commits (x101.Shares.set ((i64.wrap (x91.Trustee - 1)).toNat) ((i64.wrap (x102 + x91.Delta)).tmod a0.Q))), s81.2.set ((i64.wrap (x91.Dealer - 1)).toNat) (!x91.Answers)))))) : Option ((List Dealing × List Bool) ⊕ (Stp (List Dealing × List Bool) ((List Dealing × List Bool) ⊕ (List Dealing × (List (List Int)) × Bool))))).bind (Sum.elim (fun x90 =>
 some (.go (x90.1, x90.2))) some))) (fun s81 => .inl (s81.1, s81.2)) (a2.length) 0 (x14, x51) : Option ((List Dealing × List Bool) ⊕ (List Dealing × (List (List Int)) × Bool))).bind (Sum.elim (fun x56 =>
 ((zas (σ := (List (List Int))) (fun i144 s143 =>
 (ix x56.1 i144).bind fun x150 =>
 (zfd a0 x150).bind fun z151 =>
 ((zas (σ := (List Int)) (fun i156 s155 =>
 (((ix z151 i156).bind fun x165 =>
 (ix x56.2 i144).bind fun x166 =>
 if (!x166) = true then (
 (ix a1 i144).bind fun x168 =>
 (zd6 a0.Q x168 x165).bind fun z169 =>
 gd ((s155.length + 1) * 8 ≤ 140737488355328 ∧ s155.length + 1 ≤ 4611686018427387904) <|
 some (s155 ++ [z169])) else (
 some s155) : Option ((List Int))).bind fun x164 =>
 some (.go x164))) (fun s155 => s155) (z151.length) 0 [] : Option ((List Int))).bind fun x154 =>
 gd ((s143.length + 1) * 24 ≤ 140737488355328 ∧ s143.length + 1 ≤ 4611686018427387904) <|
 some (.go (s143 ++ [x154])))) (fun s143 => s143) (x56.1.length) 0 [] : Option ((List (List Int)))).bind fun x111 =>
 some (x56.1, x111, true))) some))) some))))
set_option maxHeartbeats 1000000 in
theorem zkG : ∀ {a0} {a1} {a2} {r}, zdG a0 a1 a2 = some r → PCalls Tryz.prog 148 [(.sh, vE a0), (.sh, vG a1), (.sh, vH a2)] (Eo (.tup [vK r.1, vF r.2.1, .bool r.2.2]) [.junk, .junk, .junk]) := by
 intro a0 a1 a2 r hr
 apply pF 182 [] [380] [] [.tmp 6, .tmp 7, .tmp 8] hr zAF Tryz.func148
 intro Φ hΦ hF g
 unfold zdG at hF
 iterate 2 (try simp [go_sem, g]; try intros; refine zav ?_)
 refine wJ hF (fun x3 => [(1, .v (vG a1)), (2, .v (vH a2)), (3, .bl [.int .i64 a0.P, .int .i64 a0.Q, .int .i64 a0.G]), (9, .v (.int .i64 (a1.length : Int))), (45, .v (.bool x3))]) (fun x3 hF => ?_) fun _ hj1 hF => ?_
 ·refine wI hF (fun h11 hF => ?_) (fun h11 hF => ?_)
  ·refine wK [6, 7, 8] ?_
   exact wm hΦ hF
  iterate 2 (try simp [go_sem, g]; try intros; refine zav ?_)
  try simp [go_sem, g]
  try intros
  refine wK [1, 2, 3, 9, 10, 46, 47, 48] ?_
  refine wS hF (fun x14 => [(1, .v (vG a1)), (2, .v (vH a2)), (3, .bl [.int .i64 a0.P, .int .i64 a0.Q, .int .i64 a0.G]), (9, .v (.int .i64 (a1.length : Int))), (10, .v (vK x14))]) (fun x14 hF => ?_) fun _ hj12 hr13 hF => ?_
  ·obtain ⟨g, hF⟩ := Rg g hF
   obtain ⟨x51, e52, hF⟩ := zff hF
   have g53 : List.replicate a1.length ([.bool false] : List PV) = x51.map zhq := by injection e52 with e52; rw [← e52]; simp [go_sem]
   iterate 2 (try simp [go_sem, g, g53]; try intros; refine zav ?_)
   refine wS hF (fun x56 => [(1, .v (vG a1)), (3, .bl [.int .i64 a0.P, .int .i64 a0.Q, .int .i64 a0.G]), (10, .v (vK x56.1)), (13, .v (vL x56.2))]) (fun x56 hF => ?_) fun _ hj54 hr55 hF => ?_
   ·try simp [go_sem, g]
    try intros
    refine zav ?_
    try simp [go_sem, g]
    try intros
    refine wK [1, 3, 10, 13, 17, 143, 144] ?_
    refine wJ hF (fun x111 => [(10, .v (vK x56.1)), (17, .v (vF x111))]) (fun x111 hF => ?_) fun _ hj109 hF => ?_
    ·exact wl hΦ hF
    refine wB ?_
    obtain ⟨b174, hb175, hψ147⟩ := hF
    refine pR hb175 (fun i144 s143 => [(1, .v (vG a1)), (3, .bl [.int .i64 a0.P, .int .i64 a0.Q, .int .i64 a0.G]), (10, .v (vK x56.1)), (13, .v (vL x56.2)), (17, .v (vF s143)), (143, .v (.int .i64 (x56.1.length : Int))), (144, .v (.int .i64 i144))]) (fun s143 _ hN176 => ?_) (fun i144 s143 _ _ hi148 hi149 ho145 hg146 hF => ?_)
    ·exact wn hN176 (hj109 _) hψ147
    refine wW ?_
    refine wu hi148 hi149 ?_
    refine wW ?_
    refine wB ?_
    iterate 2 refine wW ?_
    refine wX zwB follows ?_
    obtain ⟨x150, g, hF⟩ := Rx g hF
    refine wC hF [.sh, .sh] zlk (fun z151 hF => ?_)
    try simp [go_sem, g]
    try intros
    refine wK [1, 3, 10, 13, 17, 18, 19, 143, 144, 152, 153, 154] ?_
    refine wJ hF (fun x154 => [(1, .v (vG a1)), (3, .bl [.int .i64 a0.P, .int .i64 a0.Q, .int .i64 a0.G]), (10, .v (vK x56.1)), (13, .v (vL x56.2)), (17, .v (vF s143)), (19, .v (vD x154)), (143, .v (.int .i64 (x56.1.length : Int))), (144, .v (.int .i64 i144))]) (fun x154 hF => ?_) fun _ hj152 hF => ?_
    ·obtain ⟨g, hF⟩ := Rg g hF
     refine wW ?_
     exact wi hi148 hi149 (hg146 _) (zaa hF)
    refine wB ?_
    obtain ⟨b170, hb171, hψ159⟩ := hF
    refine pR hb171 (fun i156 s155 => [(1, .v (vG a1)), (3, .bl [.int .i64 a0.P, .int .i64 a0.Q, .int .i64 a0.G]), (10, .v (vK x56.1)), (13, .v (vL x56.2)), (17, .v (vF s143)), (18, .v (.int .i64 i144)), (19, .v (vD s155)), (143, .v (.int .i64 (x56.1.length : Int))), (144, .v (.int .i64 i144)), (152, .v (vD z151)), (153, .v (.int .i64 (z151.length : Int))), (154, .v (.int .i64 i156))]) (fun s155 _ hN172 => ?_) (fun i156 s155 _ _ hi160 hi161 ho157 hg158 hF => ?_)
    ·exact wn hN172 (hj152 _) hψ159
    refine wW ?_
    refine wu hi160 hi161 ?_
    refine wW ?_
    refine wJ hF (fun x164 => [(1, .v (vG a1)), (3, .bl [.int .i64 a0.P, .int .i64 a0.Q, .int .i64 a0.G]), (10, .v (vK x56.1)), (13, .v (vL x56.2)), (17, .v (vF s143)), (18, .v (.int .i64 i144)), (19, .v (vD x164)), (143, .v (.int .i64 (x56.1.length : Int))), (144, .v (.int .i64 i144)), (152, .v (vD z151)), (153, .v (.int .i64 (z151.length : Int))), (154, .v (.int .i64 i156))]) (fun x164 hF => ?_) fun _ hj162 hF => ?_
    ·exact wi hi160 hi161 (hg158 _) (zaa hF)
    refine wB ?_
    obtain ⟨x165, g, hF⟩ := Rx g hF
    obtain ⟨x166, g, hF⟩ := Rx g hF
    iterate 2 refine wW ?_
    refine wI hF (fun h167 hF => ?_) (fun h167 hF => ?_)
    ·refine wX zww follows ?_
     obtain ⟨x168, g, hF⟩ := Rx g hF
     refine wC hF [.sh, .sh, .sh] zkz (fun z169 hF => ?_)
     obtain ⟨g, hF⟩ := Rg g hF
     exact wT (hj162 _) (zaa hF)
    exact wT (hj162 _) (zaa hF)
   refine wB ?_
   obtain ⟨b105, hb106, hψ85⟩ := hF
   refine pR hb106 (fun i82 s81 => [(1, .v (vG a1)), (3, .bl [.int .i64 a0.P, .int .i64 a0.Q, .int .i64 a0.G]), (9, .v (.int .i64 (a1.length : Int))), (10, .v (vK s81.1)), (13, .v (vL s81.2)), (75, .v (vH a2)), (76, .v (.int .i64 (a2.length : Int))), (77, .v (.int .i64 i82))]) (fun s81 _ hN107 => ?_) (fun i82 s81 _ _ hi86 hi87 ho83 hg84 hF => ?_)
   ·exact wn hN107 (hj54 _) hψ85
   refine wW ?_
   refine wu hi86 hi87 ?_
   refine wW ?_
   refine wS hF (fun x90 => [(1, .v (vG a1)), (3, .bl [.int .i64 a0.P, .int .i64 a0.Q, .int .i64 a0.G]), (9, .v (.int .i64 (a1.length : Int))), (10, .v (vK x90.1)), (13, .v (vL x90.2)), (75, .v (vH a2)), (76, .v (.int .i64 (a2.length : Int))), (77, .v (.int .i64 i82))]) (fun x90 hF => ?_) fun _ hj88 hr89 hF => ?_
   ·exact wi hi86 hi87 (hg84 _) (zaa hF)
   refine wB ?_
   obtain ⟨x91, g, hF⟩ := Rx g hF
   refine wK [1, 3, 9, 10, 13, 15, 75, 76, 77] ?_
   refine wJ hF (fun x94 => [(1, .v (vG a1)), (3, .bl [.int .i64 a0.P, .int .i64 a0.Q, .int .i64 a0.G]), (9, .v (.int .i64 (a1.length : Int))), (10, .v (vK s81.1)), (13, .v (vL s81.2)), (15, .bl [.int .i64 x91.Dealer, .int .i64 x91.Trustee, .int .i64 x91.Delta, .bool x91.Answers]), (75, .v (vH a2)), (76, .v (.int .i64 (a2.length : Int))), (77, .v (.int .i64 i82)), (100, .v (.bool x94))]) (fun x94 hF => ?_) fun _ hj92 hF => ?_
   ·refine wI hF (fun h100 hF => ?_) (fun h100 hF => ?_)
    ·cases ho83 _ (hr89 _ (zaa hF))
     cases hΦ _ (hr55 _ hψ85)
     refine wW ?_
     try simp [go_sem, g]
    obtain ⟨x101, g, hF⟩ := Rx g hF
    iterate 2 refine wW ?_
    refine wX zwa follows ?_
    obtain ⟨x102, g, hF⟩ := Rx g hF
    obtain ⟨g, hF⟩ := Rz g hF
    refine wK [1, 3, 9, 10, 13, 15, 75, 76, 77] ?_
    refine wX zwy follows ?_
    obtain ⟨x103, g, hF⟩ := Rx g hF
    refine wH hF (fun h104 hF => ?_) fun h104 hF => ?_
    ·exact wV h104 (hj88 _) (zaa hF)
    exact wV h104 (hj88 _) (zaa hF)
   refine wC hF [.sh, .sh, .sh] zbI (fun z95 hF => ?_)
   refine wG hF (fun h96 hF => ?_) fun h96 hF => ?_
   ·exact wV h96 (hj92 _) (zaa hF)
   try simp [go_sem, g, h96]
   refine wC hF [.sh, .sh, .sh] zbI (fun z97 hF => ?_)
   try simp [go_sem, g, h96]
   refine wG hF (fun h98 hF => ?_) fun h98 hF => ?_
   ·exact wV h98 (hj92 _) (zaa hF)
   try simp [go_sem, g, h98]
   refine wC hF [.sh, .sh] zgR (fun z99 hF => ?_)
   exact wV h98 (hj92 _) (zaa hF)
  refine wB ?_
  obtain ⟨b47, hb48, hψ35⟩ := hF
  refine pR hb48 (fun i32 s31 => [(1, .v (vG a1)), (2, .v (vH a2)), (3, .bl [.int .i64 a0.P, .int .i64 a0.Q, .int .i64 a0.G]), (9, .v (.int .i64 (a1.length : Int))), (10, .v (vK s31)), (46, .v (vG a1)), (47, .v (.int .i64 (a1.length : Int))), (48, .v (.int .i64 i32))]) (fun s31 _ hN49 => ?_) (fun i32 s31 _ _ hi36 hi37 ho33 hg34 hF => ?_)
  ·exact wn hN49 (hj12 _) hψ35
  refine wW ?_
  refine wu hi36 hi37 ?_
  refine wW ?_
  refine wB ?_
  obtain ⟨x38, g, hF⟩ := Rx g hF
  refine wW ?_
  refine wJ hF (fun x41 => [(1, .v (vG a1)), (2, .v (vH a2)), (3, .bl [.int .i64 a0.P, .int .i64 a0.Q, .int .i64 a0.G]), (9, .v (.int .i64 (a1.length : Int))), (10, .v (vK s31)), (12, .v (vC x38)), (46, .v (vG a1)), (47, .v (.int .i64 (a1.length : Int))), (48, .v (.int .i64 i32)), (64, .v (.bool x41))]) (fun x41 hF => ?_) fun _ hj39 hF => ?_
  ·refine wI hF (fun h45 hF => ?_) (fun h45 hF => ?_)
   ·cases ho33 _ (zaa hF)
    cases hΦ _ (hr13 _ hψ35)
    refine wW ?_
    try simp [go_sem, g]
   refine wW ?_
   refine wC hF [.sh, .sh, .sh] zox (fun z46 hF => ?_)
   obtain ⟨g, hF⟩ := Rg g hF
   refine wK [1, 2, 3, 9, 10, 46, 47, 48] ?_
   exact wi hi36 hi37 (hg34 _) (zaa hF)
  obtain ⟨x42, g, hF⟩ := Rxn g 0 hF
  try simp [go_sem, g]
  try intros
  refine wG hF (fun h43 hF => ?_) fun h43 hF => ?_
  ·exact wV h43 (hj39 _) (zaa hF)
  try simp [go_sem, g, h43]
  refine wC hF [.sh, .sh] zgR (fun z44 hF => ?_)
  exact wV h43 (hj39 _) (zaa hF)
 refine wC hF [.sh] zfb (fun z4 hF => ?_)
 refine wG hF (fun h5 hF => ?_) fun h5 hF => ?_
 ·exact wV h5 (hj1 _) (zaa hF)
 try simp [go_sem, g, h5]
 refine wC hF [.sh, .sh, .sh] zbI (fun z6 hF => ?_)
 try simp [go_sem, g, h5]
 refine wG hF (fun h7 hF => ?_) fun h7 hF => ?_
 ·exact wV h7 (hj1 _) (zaa hF)
 obtain ⟨x8, g, hF⟩ := Rxn g 0 hF
 try simp [go_sem, g, h7]
 try intros
 refine wC hF [.sh, .sh, .sh] zbI (fun z9 hF => ?_)
 try simp [go_sem, g, h7]
 refine wG hF (fun h10 hF => ?_) fun h10 hF => ?_
 ·exact wV h10 (hj1 _) (zaa hF)
 try simp [go_sem, g, h10]
 try intros
 exact wT (hj1 _) (zaa hF)
def zcF (a0 : List Int) : Option ((List Int)) :=
 gd (a0.length * 8 ≤ 140737488355328 ∧ a0.length ≤ 4611686018427387904) <|
 some a0
theorem zed : ∀ {a0} {r}, zcF a0 = some r → PCalls Tryz.prog 132 [(.sh, vC a0)] (Eo (vD r) [.junk]) := by
 intro a0 r hr
 apply pF 6 [] [] [] [.tmp 2] hr zBz Tryz.func132
 intro Φ hΦ hF g
 unfold zcF at hF
 obtain ⟨g, hF⟩ := Rg g hF
 cases hΦ _ (zaa hF)
 iterate 2 refine wW ?_
 try simp [go_sem, g]
@[go_sem] def zv4 : List DE := [d1 0 [9] 9, d2 1 [54] 9 54, d0 2 [11], d0 3 [56], d0 4 [2], d0 5 [10], d0 6 [58, 59], d0 7 [60], d0 8 [55, 57], d0 9 [62, 61]]
@[go_sem] def zx2 : List DE := [d1 0 [4] 4, d2 1 [29] 4 29, d1 3 [4] 4, d2 4 [32] 4 32, d0 7 [], d3 2 [30], d3 5 [33], d0 6 [31, 34], d2 8 [9, 35] 9 9]
@[go_sem] def zyc : List DE := [d2 0 [3] 3 3, d1 1 [4] 4, d2 2 [44] 4 44, d0 3 [11], d0 4 [2], d0 5 [10], d0 6 [47, 48], d0 7 [49], d3 8 [43, 45, 46, 50], d0 9 [51]]
def zep (a0 : Group) (a1 : Dealing) (a2 : List Int) : Option (Dealing × Bool) :=
 (zfd a0 a1).bind fun z1 =>
 ((if decide ((a1.Commits.length : Int) ≤ (z1.length : Int)) = true then (
 some true) else (
 some ((a2.length : Int) != (z1.length : Int))) : Option Bool).bind fun x4 =>
 if x4 = true then (
 some (a1, false)) else (
 (zcF a1.Commits).bind fun z7 =>
 (zcF a1.Shares).bind fun z8 =>
 ((zas (σ := (List Int) × List Int) (fun i25 s24 =>
 (ix z1 i25).bind fun x31 =>
 (ix a2 i25).bind fun x32 =>
 (zeI a0 a1.Commits x31 x32).bind fun z33 =>
 if (!z33) = true then (
 some (.out (.inr (a1, false)))) else (
 (ix s24.2 (i64.wrap (x31 - 1))).bind fun x35 =>
 some (.go (s24.1, s24.2.set ((i64.wrap (x31 - 1)).toNat) x32)))) (fun s24 => .inl (s24.1, s24.2)) (z1.length) 0 (z7, z8) : Option ((List Int × List Int) ⊕ (Dealing × Bool))).bind (Sum.elim (fun x11 =>
 some ((Dealing.mk x11.1 x11.2), true)) some))))
theorem zl0 : ∀ {a0} {a1} {a2} {r}, zep a0 a1 a2 = some r → PCalls Tryz.prog 186 [(.sh, vE a0), (.sh, vM a1), (.sh, vC a2)] (Eo (.tup [vM r.1, .bool r.2]) [.junk, .junk, .junk]) := by
 intro a0 a1 a2 r hr
 apply pFz 65 [] [] [] [.cell 6 182, .tmp 7] hr zzD Tryz.func186
 intro Φ hΦ hF g
 unfold zep at hF
 refine wW ?_
 refine wC hF [.sh, .sh] zlk (fun z1 hF => ?_)
 refine wW ?_
 refine wJ hF (fun x4 => [(2, .v (vC a2)), (3, .bl [.int .i64 a0.P, .int .i64 a0.Q, .int .i64 a0.G]), (4, .bl [vC a1.Commits, vC a1.Shares]), (6, .bl [.sl true 1 [], .sl true 1 []]), (8, .v (vD z1)), (27, .v (.bool x4))]) (fun x4 hF => ?_) fun _ hj2 hF => ?_
 ·refine wI hF (fun h6 hF => ?_) (fun h6 hF => ?_)
  ·refine wK [6, 7] ?_
   exact wm hΦ hF
  refine wW ?_
  refine wX zx2 follows ?_
  refine wC hF [.sh] zed (fun z7 hF => ?_)
  refine wC hF [.sh] zed (fun z8 hF => ?_)
  refine wK [2, 3, 4, 6, 8, 9] ?_
  try simp [go_sem, g]
  try intros
  refine zav ?_
  refine wS hF (fun x11 => [(6, .bl [.sl true 1 [], .sl true 1 []]), (9, .bl [vD x11.1, vD x11.2])]) (fun x11 hF => ?_) fun _ hj9 hr10 hF => ?_
  ·exact wl hΦ hF
  refine wB ?_
  obtain ⟨b36, hb37, hψ28⟩ := hF
  refine pR hb37 (fun i25 s24 => [(2, .v (vC a2)), (3, .bl [.int .i64 a0.P, .int .i64 a0.Q, .int .i64 a0.G]), (4, .bl [vC a1.Commits, vC a1.Shares]), (6, .bl [.sl true 1 [], .sl true 1 []]), (8, .v (vD z1)), (9, .bl [vD s24.1, vD s24.2]), (36, .rf 8 []), (37, .v (.int .i64 (z1.length : Int))), (38, .v (.int .i64 i25))]) (fun s24 _ hN38 => ?_) (fun i25 s24 _ _ hi29 hi30 ho26 hg27 hF => ?_)
  ·exact wn hN38 (hj9 _) hψ28
  refine wW ?_
  refine wu hi29 hi30 ?_
  refine wW ?_
  refine wB ?_
  obtain ⟨x31, g, hF⟩ := Rx g hF
  refine wW ?_
  refine wX zyc follows ?_
  obtain ⟨x32, g, hF⟩ := Rx g hF
  refine wC hF [.sh, .sh, .sh, .sh] zkl (fun z33 hF => ?_)
  refine wK [2, 3, 4, 6, 8, 9, 10, 11, 36, 37, 38, 52] ?_
  refine wI hF (fun h34 hF => ?_) (fun h34 hF => ?_)
  ·cases ho26 _ (zaa hF)
   cases hΦ _ (hr10 _ hψ28)
   refine wW ?_
   try simp [go_sem, g]
  refine wW ?_
  refine wX zv4 follows ?_
  obtain ⟨x35, g, hF⟩ := Rx g hF
  refine wK [2, 3, 4, 6, 8, 9, 36, 37, 38] ?_
  exact wi hi29 hi30 (hg27 _) (zaa hF)
 try simp [go_sem, g]
 try intros
 refine wG hF (fun h5 hF => ?_) fun h5 hF => ?_
 ·exact wV h5 (hj2 _) (zaa hF)
 try simp [go_sem, g, h5]
 try intros
 exact wT (hj2 _) (zaa hF)
@[go_sem] def zxo : List DE := [d2 0 [3] 3 3, d2 1 [11] 11 11, d0 2 [2], d0 3 [10], d0 4 [24, 25], d0 5 [26], d0 10 [], d3 6 [22, 23, 27], d0 7 [28], d0 8 [21], d0 9 [21], d2 11 [12, 29] 12 12, d0 12 [30]]
def zdA (a0 : Group) (a1 : List Dealing) (a2 : (List (List Int))) : Option (List Int × List Dealing) :=
 ((zas (σ := (List Int) × List Dealing) (fun i5 s4 =>
 (((ix a1 i5).bind fun x14 =>
 (ix a2 i5).bind fun x15 =>
 (zep a0 x14 x15).bind fun z16 =>
 if z16.2 = true then (
 gd ((s4.1.length + 1) * 8 ≤ 140737488355328 ∧ s4.1.length + 1 ≤ 4611686018427387904) <|
 gd ((s4.2.length + 1) * 48 ≤ 140737488355328 ∧ s4.2.length + 1 ≤ 4611686018427387904) <|
 some (s4.1 ++ [i64.wrap (i5 + 1)], s4.2 ++ [z16.1])) else (
 some (s4.1, s4.2)) : Option ((List Int × List Dealing))).bind fun x13 =>
 some (.go (x13.1, x13.2)))) (fun s4 => (s4.1, s4.2)) (a1.length) 0 ([], []) : Option ((List Int × List Dealing))).bind fun x3 =>
 some (x3.1, x3.2))
theorem zkf : ∀ {a0} {a1} {a2} {r}, zdA a0 a1 a2 = some r → PCalls Tryz.prog 177 [(.sh, vE a0), (.sh, vO a1), (.sh, vG a2)] (Eo (.tup [vD r.1, vI r.2]) [.junk, .junk, .junk]) := by
 intro a0 a1 a2 r hr
 apply pF 44 [] [] [] [.tmp 6, .tmp 7] hr zAO Tryz.func177
 intro Φ hΦ hF g
 unfold zdA at hF
 iterate 4 (try simp [go_sem, g]; try intros; refine zav ?_)
 refine wJ hF (fun x3 => [(8, .v (vD x3.1)), (9, .v (vI x3.2))]) (fun x3 hF => ?_) fun _ hj1 hF => ?_
 ·refine wK [6, 7] ?_
  exact wm hΦ hF
 refine wB ?_
 obtain ⟨b18, hb19, hψ8⟩ := hF
 refine pR hb19 (fun i5 s4 => [(2, .v (vG a2)), (3, .bl [.int .i64 a0.P, .int .i64 a0.Q, .int .i64 a0.G]), (8, .v (vD s4.1)), (9, .v (vI s4.2)), (14, .v (vO a1)), (15, .v (.int .i64 (a1.length : Int))), (16, .v (.int .i64 i5))]) (fun s4 _ hN20 => ?_) (fun i5 s4 _ _ hi9 hi10 ho6 hg7 hF => ?_)
 ·exact wn hN20 (hj1 _) hψ8
 refine wW ?_
 refine wu hi9 hi10 ?_
 refine wW ?_
 refine wJ hF (fun x13 => [(2, .v (vG a2)), (3, .bl [.int .i64 a0.P, .int .i64 a0.Q, .int .i64 a0.G]), (8, .v (vD x13.1)), (9, .v (vI x13.2)), (14, .v (vO a1)), (15, .v (.int .i64 (a1.length : Int))), (16, .v (.int .i64 i5))]) (fun x13 hF => ?_) fun _ hj11 hF => ?_
 ·exact wi hi9 hi10 (hg7 _) (zaa hF)
 refine wB ?_
 obtain ⟨x14, g, hF⟩ := Rx g hF
 refine wK [2, 3, 8, 9, 10, 11, 14, 15, 16] ?_
 refine wX zxo follows ?_
 obtain ⟨x15, g, hF⟩ := Rx g hF
 refine wC hF [.sh, .sh, .sh] zl0 (fun z16 hF => ?_)
 refine wK [2, 3, 8, 9, 10, 12, 13, 14, 15, 16] ?_
 refine wW ?_
 refine wI hF (fun h17 hF => ?_) (fun h17 hF => ?_)
 ·obtain ⟨g, hF⟩ := Rg g hF
  obtain ⟨g, hF⟩ := Rg g hF
  refine wW ?_
  exact wT (hj11 _) (zaa hF)
 exact wT (hj11 _) (zaa hF)
@[go_sem] def zxM : List DE := [d0 0 [1], d0 1 [12], d0 2 [13], d0 3 [14], d0 5 [1], d0 6 [17], d0 7 [18], d0 8 [19], d0 11 [], ⟨4, [15], [], none, false, true, false⟩, d3 9 [20], d0 10 [16, 21], d2 12 [5, 22] 5 5]
@[go_sem] def zwO : List DE := [d1 0 [5] 5, d2 1 [60] 5 60, d0 2 [10], d1 3 [5] 5, d2 4 [63] 5 63, d0 5 [10], d0 6 [64, 65], d0 7 [66], d0 8 [11], d0 9 [67, 68], d1 10 [2] 2, d2 11 [70] 2 70, d0 12 [69, 71], d0 13 [61, 62], d0 14 [73, 72]]
@[go_sem] def zyO : List DE := [d1 0 [5] 5, d2 1 [38] 5 38, d0 2 [8], d2 3 [2] 2 2, d1 4 [5] 5, d2 5 [42] 5 42, d0 6 [8], d0 7 [43, 44], d0 8 [45], d0 9 [9], d0 10 [46, 47], ⟨11, [41, 48], [], none, true, true, true⟩, d0 12 [39, 40], d0 13 [50, 49]]
def zfX (a0 : Group) (a1 : List Dealing) : Option Dealing :=
 (ix a1 0).bind fun x1 =>
 (zcF x1.Commits).bind fun z2 =>
 (zcF x1.Shares).bind fun z3 =>
 gd (1 ≤ a1.length ∧ a1.length ≤ a1.length) <|
 ((zas (σ := (List Int) × List Int) (fun i69 s68 =>
 (((ix ((a1.take a1.length).drop 1) i69).bind fun x79 =>
 ((zas (σ := (List Int) × List Int) (fun i94 s93 =>
 (ix x79.Commits i94).bind fun x100 =>
 (ix s93.1 i94).bind fun x101 =>
 (zcY a0 [x101, x100]).bind fun z102 =>
 some (.go (s93.1.set i94.toNat z102, s93.2))) (fun s93 => (s93.1, s93.2)) (x79.Commits.length) 0 (s68.1, s68.2) : Option ((List Int × List Int))).bind fun x82 =>
 zas (σ := (List Int) × List Int) (fun i117 s116 =>
 (ix x79.Shares i117).bind fun x123 =>
 (ix s116.2 i117).bind fun x124 =>
 gd (a0.Q ≠ 0) <|
 some (.go (s116.1, s116.2.set i117.toNat ((i64.wrap (x124 + x123)).tmod a0.Q)))) (fun s116 => (s116.1, s116.2)) (x79.Shares.length) 0 (x82.1, x82.2)) : Option ((List Int × List Int))).bind fun x78 =>
 some (.go (x78.1, x78.2)))) (fun s68 => (s68.1, s68.2)) (((a1.take a1.length).drop 1).length) 0 (z2, z3) : Option ((List Int × List Int))).bind fun x6 =>
 some (Dealing.mk x6.1 x6.2))
theorem zp2 : ∀ {a0} {a1} {r}, zfX a0 a1 = some r → PCalls Tryz.prog 178 [(.sh, vE a0), (.sh, vO a1)] (Eo (vJ r) [.junk, .junk]) := by
 intro a0 a1 r hr
 apply pF 77 [] [] [] [.cell 4 182] hr zAH Tryz.func178
 intro Φ hΦ hF g
 unfold zfX at hF
 refine wW ?_
 refine wX zxM follows ?_
 obtain ⟨x1, g, hF⟩ := Rxn g 0 hF
 refine wD hF zed (fun z2 hF => ?_)
 refine wC hF [.sh] zed (fun z3 hF => ?_)
 refine wK [1, 2, 4, 5] ?_
 obtain ⟨g, hF⟩ := Rg g hF
 try simp [go_sem, g]
 try intros
 refine zav ?_
 refine wJ hF (fun x6 => [(4, .bl [.sl true 1 [], .sl true 1 []]), (5, .bl [vD x6.1, vD x6.2])]) (fun x6 hF => ?_) fun _ hj4 hF => ?_
 ·exact wl hΦ hF
 refine wB ?_
 obtain ⟨b129, hb130, hψ72⟩ := hF
 refine pR hb130 (fun i69 s68 => [(2, .bl [.int .i64 a0.P, .int .i64 a0.Q, .int .i64 a0.G]), (4, .bl [.sl true 1 [], .sl true 1 []]), (5, .bl [vD s68.1, vD s68.2]), (24, .v (vO ((a1.take a1.length).drop 1))), (25, .v (.int .i64 (((a1.take a1.length).drop 1).length : Int))), (26, .v (.int .i64 i69))]) (fun s68 _ hN131 => ?_) (fun i69 s68 _ _ hi73 hi74 ho70 hg71 hF => ?_)
 ·exact wn hN131 (hj4 _) hψ72
 have hi75 := hi74
 try simp at hi75
 refine wW ?_
 refine wt ?_ (hb := by simp [go_sem, g, hi73, hi74, hi75] <;> omega)
 refine wW ?_
 refine wJ hF (fun x78 => [(2, .bl [.int .i64 a0.P, .int .i64 a0.Q, .int .i64 a0.G]), (4, .bl [.sl true 1 [], .sl true 1 []]), (5, .bl [vD x78.1, vD x78.2]), (24, .v (vO ((a1.take a1.length).drop 1))), (25, .v (.int .i64 (((a1.take a1.length).drop 1).length : Int))), (26, .v (.int .i64 i69))]) (fun x78 hF => ?_) fun _ hj76 hF => ?_
 ·exact wT (hg71 (x78.1, x78.2)) (zaa hF) (a := by simp [go_sem, g, zoT hi73 hi74 (by first | assumption | (simp; assumption) | (simp; omega))])
 refine wB ?_
 obtain ⟨x79, g, hF⟩ := Rxq g hF
 try simp [go_sem, g]
 try intros
 refine zav ?_
 try simp [go_sem, g]
 try intros
 refine wK [2, 4, 5, 7, 24, 25, 26, 31, 32, 33] ?_
 refine wJ hF (fun x82 => [(2, .bl [.int .i64 a0.P, .int .i64 a0.Q, .int .i64 a0.G]), (4, .bl [.sl true 1 [], .sl true 1 []]), (5, .bl [vD x82.1, vD x82.2]), (7, .bl [vC x79.Commits, vC x79.Shares]), (24, .v (vO ((a1.take a1.length).drop 1))), (25, .v (.int .i64 (((a1.take a1.length).drop 1).length : Int))), (26, .v (.int .i64 i69))]) (fun x82 hF => ?_) fun _ hj80 hF => ?_
 ·try simp [go_sem, g]
  try intros
  refine zav ?_
  refine wB ?_
  obtain ⟨b125, hb126, hψ120⟩ := hF
  refine pR hb126 (fun i117 s116 => [(2, .bl [.int .i64 a0.P, .int .i64 a0.Q, .int .i64 a0.G]), (4, .bl [.sl true 1 [], .sl true 1 []]), (5, .bl [vD s116.1, vD s116.2]), (24, .v (vO ((a1.take a1.length).drop 1))), (25, .v (.int .i64 (((a1.take a1.length).drop 1).length : Int))), (26, .v (.int .i64 i69)), (53, .v (vC x79.Shares)), (54, .v (.int .i64 (x79.Shares.length : Int))), (55, .v (.int .i64 i117))]) (fun s116 _ hN127 => ?_) (fun i117 s116 _ _ hi121 hi122 ho118 hg119 hF => ?_)
  ·exact wn hN127 (hj76 _) hψ120
  refine wW ?_
  refine wu hi121 hi122 ?_
  refine wW ?_
  refine wB ?_
  obtain ⟨x123, g, hF⟩ := Rx g hF
  refine wK [2, 4, 5, 10, 11, 24, 25, 26, 53, 54, 55] ?_
  refine wX zwO follows ?_
  obtain ⟨x124, g, hF⟩ := Rx g hF
  obtain ⟨g, hF⟩ := Rz g hF
  refine wK [2, 4, 5, 24, 25, 26, 53, 54, 55] ?_
  exact wi hi121 hi122 (hg119 _) (zaa hF)
 refine wB ?_
 obtain ⟨b103, hb104, hψ97⟩ := hF
 refine pR hb104 (fun i94 s93 => [(2, .bl [.int .i64 a0.P, .int .i64 a0.Q, .int .i64 a0.G]), (4, .bl [.sl true 1 [], .sl true 1 []]), (5, .bl [vD s93.1, vD s93.2]), (7, .bl [vC x79.Commits, vC x79.Shares]), (24, .v (vO ((a1.take a1.length).drop 1))), (25, .v (.int .i64 (((a1.take a1.length).drop 1).length : Int))), (26, .v (.int .i64 i69)), (31, .v (vC x79.Commits)), (32, .v (.int .i64 (x79.Commits.length : Int))), (33, .v (.int .i64 i94))]) (fun s93 _ hN105 => ?_) (fun i94 s93 _ _ hi98 hi99 ho95 hg96 hF => ?_)
 ·exact wn hN105 (hj80 _) hψ97
 refine wW ?_
 refine wu hi98 hi99 ?_
 refine wW ?_
 refine wB ?_
 obtain ⟨x100, g, hF⟩ := Rx g hF
 refine wW ?_
 refine wX zyO follows ?_
 obtain ⟨x101, g, hF⟩ := Rx g hF
 refine wC hF [.sh, .sh] zfZ (fun z102 hF => ?_)
 refine wK [2, 4, 5, 7, 24, 25, 26, 31, 32, 33] ?_
 exact wi hi98 hi99 (hg96 _) (zaa hF)
@[go_sem] def zyE : List DE := [d0 0 [8], d1 1 [10] 10, d2 2 [26] 10 26, d0 3 [27], d0 4 [28], d1 5 [10] 10, d2 6 [30] 10 30, d1 7 [10] 10, d2 8 [32] 10 32, d0 9 [25, 29, 31, 33], d2 10 [6, 34] 6 6, d0 11 []]
def zd7 (a0 : Group) (a1 : List Dealing) (a2 : (List (List Int))) : Option (KeyGen × Bool) :=
 (zdA a0 a1 a2).bind fun z1 =>
 if ((z1.1.length : Int) == 0) = true then (
 some ((KeyGen.mk [] 0 [] []), false)) else (
 (zfX a0 z1.2).bind fun z3 =>
 (ix z3.Commits 0).bind fun x4 =>
 some ((KeyGen.mk z1.1 x4 z3.Commits z3.Shares), true))
theorem zlF : ∀ {a0} {a1} {a2} {r}, zd7 a0 a1 a2 = some r → PCalls Tryz.prog 150 [(.sh, vE a0), (.sh, vO a1), (.sh, vG a2)] (Eo (.tup [vP r.1, .bool r.2]) [.junk, .junk, .junk]) := by
 intro a0 a1 a2 r hr
 apply pFz 35 [] [29, 31, 33] [] [.cell 6 120, .tmp 7] hr zzY Tryz.func150
 intro Φ hΦ hF g
 unfold zd7 at hF
 refine wW ?_
 refine wC hF [.sh, .sh, .sh] zkf (fun z1 hF => ?_)
 refine wK [3, 6, 8, 9] ?_
 try simp [go_sem, g]
 try intros
 refine zav ?_
 refine wI hF (fun h2 hF => ?_) (fun h2 hF => ?_)
 ·exact wl hΦ hF
 refine wW ?_
 refine wC hF [.sh, .sh] zp2 (fun z3 hF => ?_)
 refine wW ?_
 refine wX zyE follows ?_
 obtain ⟨x4, g, hF⟩ := Rxn g 0 hF
 refine wK [6, 7] ?_
 exact wm hΦ hF
@[go_sem] def zyN : List DE := [d2 0 [3] 3 3, d0 1 [0], d2 2 [3] 3 3, d0 3 [5], d0 4 [0], d0 5 [5], d3 6 [26, 27], d0 7 [28], d3 8 [23, 24, 25, 29], d3 9 [22, 30], d0 10 [31], d0 11 [21], d0 12 [21], d0 13 [21], d0 14 [32], d0 15 [33], d0 16 [34]]
def zcp (a0c0 : List Int) (a0c1 : Int) (a0c2 : Int) (a1 : Group) : Option (KeyGen × (List Int × Int × Int)) :=
 (zah a0c0 a0c1 a0c2 5).bind fun z1 =>
 (zcJ a1).bind fun z2 =>
 if (!z2) = true then (
 some ((KeyGen.mk [1] 1 [1] [0]), (z1.2.1, z1.2.2.1, z1.2.2.2))) else (
 (zah z1.2.1 z1.2.2.1 z1.2.2.2 (i64.wrap (1 + z1.1))).bind fun z4 =>
 (zbC z4.2.1 z4.2.2.1 z4.2.2.2 a1 (i64.wrap (1 + z1.1)) (i64.wrap (1 + z4.1))).bind fun z5 =>
 (zdG a1 z5.1 []).bind fun z6 =>
 (zd7 a1 z6.1 z6.2.1).bind fun z7 =>
 some (z7.1, (z5.2.1, z5.2.2.1, z5.2.2.2)))
theorem ziu : ∀ {a0c0} {a0c1} {a0c2} {a1} {r}, zcp a0c0 a0c1 a0c2 a1 = some r → PCalls Tryz.prog 101 [(.io, vB a0c0 a0c1 a0c2), (.sh, vE a1)] (Eo (vP r.1) [vB r.2.1 r.2.2.1 r.2.2.2, .junk]) := by
 intro a0c0 a0c1 a0c2 a1 r hr
 apply pFz 43 [0] [37, 38] [] [.cell 4 120] hr zzy Tryz.func101
 intro Φ hΦ hF g
 unfold zcp at hF
 refine wW ?_
 refine wC hF [.io, .sh] zaj (fun z1 hF => ?_)
 refine wW ?_
 refine wC hF [.sh] zfb (fun z2 hF => ?_)
 refine wW ?_
 refine wI hF (fun h3 hF => ?_) (fun h3 hF => ?_)
 ·refine wK [0, 4] ?_
  exact wm hΦ hF
 refine wW ?_
 refine wX zyN follows ?_
 refine wC hF [.io, .sh] zaj (fun z4 hF => ?_)
 refine wC hF [.io, .sh, .sh, .sh] zgX (fun z5 hF => ?_)
 refine wC hF [.sh, .sh, .sh] zkG (fun z6 hF => ?_)
 refine wK [0, 3, 4, 6, 7] ?_
 refine wC hF [.sh, .sh, .sh] zlF (fun z7 hF => ?_)
 refine wK [0, 4, 9] ?_
 exact wl hΦ hF
@[go_sem] def zxt : List DE := [d2 0 [3] 3 3, d1 1 [3] 3, d2 2 [14] 3 14, d1 3 [3] 3, d2 4 [16] 3 16, d0 6 [0], d2 7 [3] 3 3, d3 5 [15, 17], d3 8 [19, 20], d3 9 [13, 18, 21], d0 10 [22]]
def zat (a0c0 : List Int) (a0c1 : Int) (a0c2 : Int) (a1 : Group) : Option (Int × (List Int × Int × Int)) :=
 ((if decide (a1.P < 3) = true then (
 some true) else (
 some (decide (a1.Q < 1))) : Option Bool).bind fun x3 =>
 if x3 = true then (
 some (1, (a0c0, a0c1, a0c2))) else (
 (zbL a1.G a1.P).bind fun z6 =>
 (zaE a0c0 a0c1 a0c2 a1).bind fun z7 =>
 (zaP a1 z6 z7.1).bind fun z8 =>
 some (z8, (z7.2.1, z7.2.2.1, z7.2.2.2))))
theorem zaw : ∀ {a0c0} {a0c1} {a0c2} {a1} {r}, zat a0c0 a0c1 a0c2 a1 = some r → PCalls Tryz.prog 133 [(.io, vB a0c0 a0c1 a0c2), (.sh, vE a1)] (Eo (.int .i64 r.1) [vB r.2.1 r.2.2.1 r.2.2.2, .junk]) := by
 intro a0c0 a0c1 a0c2 a1 r hr
 apply pF 23 [0] [] [] [.tmp 4] hr zzQ Tryz.func133
 intro Φ hΦ hF g
 unfold zat at hF
 refine wW ?_
 refine wJ hF (fun x3 => [(0, .v (vB a0c0 a0c1 a0c2)), (3, .bl [.int .i64 a1.P, .int .i64 a1.Q, .int .i64 a1.G]), (12, .v (.bool x3))]) (fun x3 hF => ?_) fun _ hj1 hF => ?_
 ·refine wI hF (fun h5 hF => ?_) (fun h5 hF => ?_)
  ·exact wl hΦ hF
  refine wW ?_
  refine wX zxt follows ?_
  refine wC hF [.sh, .sh] zfg (fun z6 hF => ?_)
  refine wC hF [.io, .sh] zaB (fun z7 hF => ?_)
  refine wC hF [.sh, .sh, .sh] zcE (fun z8 hF => ?_)
  refine wK [0, 4] ?_
  exact wm hΦ hF
 refine wG hF (fun h4 hF => ?_) fun h4 hF => ?_
 ·exact wV h4 (hj1 _) (zaa hF)
 exact wV h4 (hj1 _) (zaa hF)
@[go_sem] def zBE : List DE := [d0 0 [0], d2 1 [3] 3 3, d0 3 [0], d2 4 [3] 3 3, d3 2 [5, 6], d3 5 [8, 9], d0 6 [7, 10], d2 7 [4, 11] 4 4]
def zbj (a0c0 : List Int) (a0c1 : Int) (a0c2 : Int) (a1 : Group) : Option (Cipher × (List Int × Int × Int)) :=
 (zat a0c0 a0c1 a0c2 a1).bind fun z1 =>
 (zat z1.2.1 z1.2.2.1 z1.2.2.2 a1).bind fun z2 =>
 some ((Cipher.mk z1.1 z2.1), (z2.2.1, z2.2.2.1, z2.2.2.2))
theorem zh5 : ∀ {a0c0} {a0c1} {a0c2} {a1} {r}, zbj a0c0 a0c1 a0c2 a1 = some r → PCalls Tryz.prog 88 [(.io, vB a0c0 a0c1 a0c2), (.sh, vE a1)] (Eo (vQ r.1) [vB r.2.1 r.2.2.1 r.2.2.2, .junk]) := by
 intro a0c0 a0c1 a0c2 a1 r hr
 apply pF 12 [0] [] [] [.cell 4 36] hr zDY Tryz.func88
 intro Φ hΦ hF g
 unfold zbj at hF
 refine wW ?_
 refine wX zBE follows ?_
 refine wC hF [.io, .sh] zaw (fun z1 hF => ?_)
 refine wC hF [.io, .sh] zaw (fun z2 hF => ?_)
 refine wK [0, 4] ?_
 exact wm hΦ hF
@[go_sem] def zAY : List DE := [d2 0 [4] 4 4, d1 1 [4] 4, d2 2 [10] 4 10, d0 3 [3], d2 5 [4] 4 4, d0 6 [2], d2 7 [4] 4 4, d0 8 [1], d0 9 [3], d3 4 [9, 11, 12], d3 10 [16, 17, 18], d0 11 [15, 19], ⟨12, [14, 20], [], none, true, true, true⟩, d0 13 [13, 21], d2 14 [8, 22] 8 8]
def zhl (a0 : Group) (a1 : Int) (a2 : Int) (a3 : Int) : Option Cipher :=
 (zaP a0 a0.G a3).bind fun z1 =>
 (zaP a0 a1 a3).bind fun z2 =>
 (zcY a0 [a2, z2]).bind fun z3 =>
 some (Cipher.mk z1 z3)
theorem zqr : ∀ {a0} {a1} {a2} {a3} {r}, zhl a0 a1 a2 a3 = some r → PCalls Tryz.prog 83 [(.sh, vE a0), (.sh, .int .i64 a1), (.sh, .int .i64 a2), (.sh, .int .i64 a3)] (Eo (vQ r) [.junk, .junk, .junk, .junk]) := by
 intro a0 a1 a2 a3 r hr
 apply pF 23 [] [] [] [.cell 8 36] hr zE4 Tryz.func83
 intro Φ hΦ hF g
 unfold zhl at hF
 refine wW ?_
 refine wX zAY follows ?_
 refine wC hF [.sh, .sh, .sh] zcE (fun z1 hF => ?_)
 refine wC hF [.sh, .sh, .sh] zcE (fun z2 hF => ?_)
 refine wC hF [.sh, .sh] zfZ (fun z3 hF => ?_)
 refine wK [8] ?_
 exact wm hΦ hF
@[go_sem] def zxF : List DE := [d0 0 [7], d2 1 [3] 3 3, d0 2 [9], d0 3 [2], d0 4 [8], d0 5 [20, 21], d0 6 [22], d1 9 [3] 3, d2 10 [26] 3 26, d3 7 [18, 19, 23], d0 8 [17, 24], d0 11 [25, 27], d0 12 [28]]
def zc3 (a0 : Group) (a1 : List Int) (a2 : List Int) : Option Int :=
 ((zas (σ := Int) (fun i5 s4 =>
 (ix a1 i5).bind fun x11 =>
 (ix a2 i5).bind fun x12 =>
 (zaP a0 x11 x12).bind fun z13 =>
 gd (a0.P ≠ 0) <|
 some (.go ((i64.wrap (s4 * z13)).tmod a0.P))) (fun s4 => s4) (a1.length) 0 1 : Option Int).bind fun x3 =>
 some x3)
theorem zih : ∀ {a0} {a1} {a2} {r}, zc3 a0 a1 a2 = some r → PCalls Tryz.prog 110 [(.sh, vE a0), (.sh, vC a1), (.sh, vC a2)] (Eo (.int .i64 r) [.junk, .junk, .junk]) := by
 intro a0 a1 a2 r hr
 apply pF 31 [] [] [] [.tmp 6] hr zAQ Tryz.func110
 intro Φ hΦ hF g
 unfold zc3 at hF
 iterate 3 (try simp [go_sem, g]; try intros; refine zav ?_)
 refine wJ hF (fun x3 => [(7, .v (.int .i64 x3))]) (fun x3 hF => ?_) fun _ hj1 hF => ?_
 ·exact wl hΦ hF
 refine wB ?_
 obtain ⟨b14, hb15, hψ8⟩ := hF
 refine pR hb15 (fun i5 s4 => [(2, .v (vC a2)), (3, .bl [.int .i64 a0.P, .int .i64 a0.Q, .int .i64 a0.G]), (7, .v (.int .i64 s4)), (10, .v (vC a1)), (11, .v (.int .i64 (a1.length : Int))), (12, .v (.int .i64 i5))]) (fun s4 _ hN16 => ?_) (fun i5 s4 _ _ hi9 hi10 ho6 hg7 hF => ?_)
 ·exact wn hN16 (hj1 _) hψ8
 refine wW ?_
 refine wu hi9 hi10 ?_
 refine wW ?_
 refine wB ?_
 obtain ⟨x11, g, hF⟩ := Rx g hF
 refine wK [2, 3, 7, 8, 9, 10, 11, 12] ?_
 refine wX zxF follows ?_
 obtain ⟨x12, g, hF⟩ := Rx g hF
 refine wC hF [.sh, .sh, .sh] zcE (fun z13 hF => ?_)
 obtain ⟨g, hF⟩ := Rz g hF
 refine wK [2, 3, 7, 10, 11, 12] ?_
 exact wi hi9 hi10 (hg7 _) (zaa hF)
def zcS (a0 : Group) (a1 : (List (List Int))) (a2 : List Int) : Option ((List Int)) :=
 ((zas (σ := (List Int)) (fun i5 s4 =>
 (ix a1 i5).bind fun x11 =>
 (zc3 a0 x11 a2).bind fun z12 =>
 gd ((s4.length + 1) * 8 ≤ 140737488355328 ∧ s4.length + 1 ≤ 4611686018427387904) <|
 some (.go (s4 ++ [z12]))) (fun s4 => s4) (a1.length) 0 [] : Option ((List Int))).bind fun x3 =>
 some x3)
theorem zjt : ∀ {a0} {a1} {a2} {r}, zcS a0 a1 a2 = some r → PCalls Tryz.prog 162 [(.sh, vE a0), (.sh, vG a1), (.sh, vC a2)] (Eo (vD r) [.junk, .junk, .junk]) := by
 intro a0 a1 a2 r hr
 apply pF 25 [] [] [] [.tmp 6] hr zAr Tryz.func162
 intro Φ hΦ hF g
 unfold zcS at hF
 iterate 3 (try simp [go_sem, g]; try intros; refine zav ?_)
 refine wJ hF (fun x3 => [(7, .v (vD x3))]) (fun x3 hF => ?_) fun _ hj1 hF => ?_
 ·exact wl hΦ hF
 refine wB ?_
 obtain ⟨b13, hb14, hψ8⟩ := hF
 refine pR hb14 (fun i5 s4 => [(2, .v (vC a2)), (3, .bl [.int .i64 a0.P, .int .i64 a0.Q, .int .i64 a0.G]), (7, .v (vD s4)), (10, .v (vG a1)), (11, .v (.int .i64 (a1.length : Int))), (12, .v (.int .i64 i5))]) (fun s4 _ hN15 => ?_) (fun i5 s4 _ _ hi9 hi10 ho6 hg7 hF => ?_)
 ·exact wn hN15 (hj1 _) hψ8
 refine wW ?_
 refine wu hi9 hi10 ?_
 refine wW ?_
 refine wB ?_
 obtain ⟨x11, g, hF⟩ := Rx g hF
 refine wK [2, 3, 7, 9, 10, 11, 12] ?_
 refine wC hF [.sh, .sh, .sh] zih (fun z12 hF => ?_)
 obtain ⟨g, hF⟩ := Rg g hF
 refine wW ?_
 exact wi hi9 hi10 (hg7 _) (zaa hF)
def zc7 (a0 : (List (List Int))) (a1 : List Int) (a2 : List Int) : Option ((List Int)) :=
 ((zas (σ := (List Int)) (fun i5 s4 =>
 (ix a0 i5).bind fun x11 =>
 gd ((s4.length + x11.length) * 8 ≤ 140737488355328 ∧ s4.length + x11.length ≤ 4611686018427387904) <|
 some (.go (s4 ++ x11))) (fun s4 => s4) (a0.length) 0 [] : Option ((List Int))).bind fun x3 =>
 gd ((x3.length + a1.length) * 8 ≤ 140737488355328 ∧ x3.length + a1.length ≤ 4611686018427387904) <|
 gd (((x3 ++ a1).length + a2.length) * 8 ≤ 140737488355328 ∧ (x3 ++ a1).length + a2.length ≤ 4611686018427387904) <|
 some (x3 ++ a1 ++ a2))
theorem zhI : ∀ {a0} {a1} {a2} {r}, zc7 a0 a1 a2 = some r → PCalls Tryz.prog 164 [(.sh, vG a0), (.sh, vC a1), (.sh, vC a2)] (Eo (vD r) [.junk, .junk, .junk]) := by
 intro a0 a1 a2 r hr
 apply pF 25 [] [] [] [.tmp 6] hr zAI Tryz.func164
 intro Φ hΦ hF g
 unfold zc7 at hF
 iterate 3 (try simp [go_sem, g]; try intros; refine zav ?_)
 refine wJ hF (fun x3 => [(1, .v (vC a1)), (2, .v (vC a2)), (7, .v (vD x3))]) (fun x3 hF => ?_) fun _ hj1 hF => ?_
 ·obtain ⟨g, hF⟩ := Rg g hF
  obtain ⟨g, hF⟩ := Rg g hF
  refine wK [6] ?_
  exact wm hΦ hF
 refine wB ?_
 obtain ⟨b12, hb13, hψ8⟩ := hF
 refine pR hb13 (fun i5 s4 => [(1, .v (vC a1)), (2, .v (vC a2)), (7, .v (vD s4)), (10, .v (vG a0)), (11, .v (.int .i64 (a0.length : Int))), (12, .v (.int .i64 i5))]) (fun s4 _ hN14 => ?_) (fun i5 s4 _ _ hi9 hi10 ho6 hg7 hF => ?_)
 ·exact wn hN14 (hj1 _) hψ8
 refine wW ?_
 refine wu hi9 hi10 ?_
 refine wW ?_
 refine wB ?_
 obtain ⟨x11, g, hF⟩ := Rx g hF
 obtain ⟨g, hF⟩ := Rg g hF
 refine wW ?_
 refine wK [1, 2, 7, 10, 11, 12] ?_
 exact wi hi9 hi10 (hg7 _) (zaa hF)
def ze8 (a0 : ByteArray) (a1 : List Int) : Option ((List Int)) :=
 ((zbc (σ := (List Int) × Int) (fun s4 =>
 if decide (s4.2 < (a0.size : Int)) = true then (
 (ixs a0 s4.2).bind fun x10 =>
 gd ((s4.1.length + 1) * 8 ≤ 140737488355328 ∧ s4.1.length + 1 ≤ 4611686018427387904) <|
 some (.go (s4.1 ++ [i64.wrap x10], i64.wrap (s4.2 + 1)))) else (
 some (.out s4.1))) ([(a0.size : Int)], 0) : Option ((List Int))).bind fun x3 =>
 gd ((x3.length + a1.length) * 8 ≤ 140737488355328 ∧ x3.length + a1.length ≤ 4611686018427387904) <|
 some (x3 ++ a1))
theorem znY : ∀ {a0} {a1} {r}, ze8 a0 a1 = some r → PCalls Tryz.prog 188 [(.sh, .str a0), (.sh, vC a1)] (Eo (vD r) [.junk, .junk]) := by
 intro a0 a1 r hr
 apply pF 26 [] [] [] [.tmp 4] hr zAT Tryz.func188
 intro Φ hΦ hF g
 unfold ze8 at hF
 iterate 3 refine wW ?_
 refine wJ hF (fun x3 => [(1, .v (vC a1)), (5, .v (vD x3))]) (fun x3 hF => ?_) fun _ hj1 hF => ?_
 ·obtain ⟨g, hF⟩ := Rg g hF
  refine wK [4] ?_
  exact wm hΦ hF
 refine wB ?_
 obtain ⟨b11, hb12, hψ8⟩ := hF
 refine pL hb12 (fun s4 => [(0, .v (.str a0)), (1, .v (vC a1)), (5, .v (vD s4.1)), (6, .v (.int .i64 s4.2))]) (fun s4 _ _ ho6 hg7 hF => ?_)
 refine wK [0, 1, 5, 6, 13] ?_
 refine wI hF (fun h9 hF => ?_) (fun h9 hF => ?_)
 ·refine wW ?_
  refine wB ?_
  obtain ⟨x10, g, hF⟩ := Rxs g hF
  obtain ⟨g, hF⟩ := Rg g hF
  refine wW ?_
  exact wT (hg7 _) (zaa hF)
 cases ho6 _ (zaa hF)
 exact wT (hj1 _) hψ8
def zbr (a0c0 : Int) (a0c1 : Int) (a1 : Int) : Option ((Int × Int)) :=
 (some [a1.tmod 2147483648, i64.wrap (a1.tdiv 2147483648)]).bind fun x1 =>
 zbc (σ := (Int × Int) × Int) (fun s10 =>
 if decide (s10.2 < (x1.length : Int)) = true then (
 (ix x1 s10.2).bind fun x16 =>
 some (.go (((i64.wrap ((i64.wrap ((i64.wrap (48271 * s10.1.1)) + x16)) + 1)).tmod 2147483647, (i64.wrap ((i64.wrap ((i64.wrap (69621 * s10.1.2)) + x16)) + 1)).tmod 2147483647), i64.wrap (s10.2 + 1)))) else (
 some (.out (s10.1.1, s10.1.2)))) ((a0c0, a0c1), 0)
theorem zfc : ∀ {a0c0} {a0c1} {a1} {r}, zbr a0c0 a0c1 a1 = some r → PCalls Tryz.prog 191 [(.io, vR a0c0 a0c1), (.sh, .int .i64 a1)] (Eo (.junk) [vR r.1 r.2, .junk]) := by
 intro a0c0 a0c1 a1 r hr
 apply pF 41 [0] [] [] [] hr zBb Tryz.func191
 intro Φ hΦ hF g
 unfold zbr at hF
 have g := Ld g 2147483648
 obtain ⟨x1, e2, hF⟩ := zff hF
 have g := And.intro g (show [[.int .i64 (a1.tmod 2147483648)], [.int .i64 (i64.wrap (a1.tdiv 2147483648))]] = x1.map zag by injection e2 with e2; rw [← e2]; simp [go_sem])
 try simp [go_sem, g]
 try intros
 refine zav ?_
 refine wB ?_
 obtain ⟨b17, hb18, hψ14⟩ := hF
 refine pL hb18 (fun s10 => [(0, .v (vR s10.1.1 s10.1.2)), (10, .v (vD x1)), (11, .v (.int .i64 (x1.length : Int))), (12, .v (.int .i64 s10.2))]) (fun s10 _ _ ho12 hg13 hF => ?_)
 refine wW ?_
 refine wI hF (fun h15 hF => ?_) (fun h15 hF => ?_)
 ·refine wW ?_
  refine wB ?_
  obtain ⟨x16, g, hF⟩ := Rx g hF
  refine wK [0, 5, 10, 11, 12] ?_
  have g := Ld g 2147483647
  refine wK [0, 5, 10, 11, 12] ?_
  refine wK [0, 10, 11, 12] ?_
  exact wT (hg13 _) (zaa hF)
 cases ho12 _ (zaa hF)
 cases hΦ _ hψ14
 try simp [go_sem, g]
@[go_sem] def zyj : List DE := [d0 0 [3], d0 1 [22], d0 2 [23], d0 3 [24], d0 4 [25], d0 5 [3], d0 6 [27], d0 7 [28], d0 8 [29], d0 9 [26, 30], d0 10 [31]]
def zfB (a0 : List Int) : Option Int :=
 (zbr 1 2 (a0.length : Int)).bind fun z1 =>
 ((zas (σ := (Int × Int)) (fun i15 s14 =>
 (ix a0 i15).bind fun x21 =>
 (zbr s14.1 s14.2 x21).bind fun z22 =>
 some (.go (z22.1, z22.2))) (fun s14 => (s14.1, s14.2)) (a0.length) 0 (z1.1, z1.2) : Option ((Int × Int))).bind fun x4 =>
 some (i64.wrap ((i64.wrap (x4.1 * 2147483648)) + x4.2)))
theorem zpL : ∀ {a0} {r}, zfB a0 = some r → PCalls Tryz.prog 187 [(.sh, vC a0)] (Eo (.int .i64 r) [.junk]) := by
 intro a0 r hr
 apply pF 32 [] [] [7] [.tmp 2] hr zAD Tryz.func187
 intro Φ hΦ hF g
 unfold zfB at hF
 iterate 2 (try simp [go_sem, g]; try intros; refine zav ?_)
 try simp [go_sem, g]
 try intros
 refine wC hF [.io, .sh] zfc (fun z1 hF => ?_)
 try simp [go_sem, g]
 try intros
 refine zav ?_
 try simp [go_sem, g]
 try intros
 refine wK [3, 12, 13, 14] ?_
 refine wJ hF (fun x4 => [(3, .v (vR x4.1 x4.2))]) (fun x4 hF => ?_) fun _ hj2 hF => ?_
 ·refine wX zyj follows ?_
  refine wK [2] ?_
  exact wm hΦ hF
 refine wB ?_
 obtain ⟨b23, hb24, hψ18⟩ := hF
 refine pR hb24 (fun i15 s14 => [(3, .v (vR s14.1 s14.2)), (12, .v (vC a0)), (13, .v (.int .i64 (a0.length : Int))), (14, .v (.int .i64 i15))]) (fun s14 _ hN25 => ?_) (fun i15 s14 _ _ hi19 hi20 ho16 hg17 hF => ?_)
 ·exact wn hN25 (hj2 _) hψ18
 refine wW ?_
 refine wu hi19 hi20 ?_
 refine wW ?_
 refine wB ?_
 obtain ⟨x21, g, hF⟩ := Rx g hF
 refine wW ?_
 refine wC hF [.io, .sh] zfc (fun z22 hF => ?_)
 refine wW ?_
 exact wi hi19 hi20 (hg17 _) (zaa hF)
def zee (a0 : ByteArray) (a1 : List Int) : Option Int :=
 (ze8 a0 a1).bind fun z1 =>
 (zfB z1).bind fun z2 =>
 some z2
theorem zlG : ∀ {a0} {a1} {r}, zee a0 a1 = some r → PCalls Tryz.prog 181 [(.sh, .str a0), (.sh, vC a1)] (Eo (.int .i64 r) [.junk, .junk]) := by
 intro a0 a1 r hr
 apply pF 9 [] [] [] [.tmp 4] hr zAJ Tryz.func181
 intro Φ hΦ hF g
 unfold zee at hF
 refine wW ?_
 refine wC hF [.sh, .sh] znY (fun z1 hF => ?_)
 refine wC hF [.sh] zpL (fun z2 hF => ?_)
 exact wl hΦ hF
@[go_sem] def zxP : List DE := [d0 0 [1], d1 1 [3] 3, d2 2 [8] 3 8, d1 3 [3] 3, d2 4 [10] 3 10, d1 5 [3] 3, d2 6 [12] 3 12, d0 7 [9, 11, 13], d0 8 [2], d1 11 [3] 3, d2 12 [18] 3 18, ⟨9, [14, 15], [], none, true, false, false⟩, d3 10 [7, 16], d0 13 [17, 19], d0 14 [20]]
def zcq (a0 : Group) (a1 : ByteArray) (a2 : List Int) : Option Int :=
 gd (([a0.P, a0.Q, a0.G].length + a2.length) * 8 ≤ 140737488355328 ∧ [a0.P, a0.Q, a0.G].length + a2.length ≤ 4611686018427387904) <|
 (zee a1 ([a0.P, a0.Q, a0.G] ++ a2)).bind fun z1 =>
 gd (a0.Q ≠ 0) <|
 some (z1.tmod a0.Q)
theorem zhH : ∀ {a0} {a1} {a2} {r}, zcq a0 a1 a2 = some r → PCalls Tryz.prog 163 [(.sh, vE a0), (.sh, .str a1), (.sh, vC a2)] (Eo (.int .i64 r) [.junk, .junk, .junk]) := by
 intro a0 a1 a2 r hr
 apply pF 21 [] [] [] [.tmp 6] hr zAN Tryz.func163
 intro Φ hΦ hF g
 unfold zcq at hF
 refine wW ?_
 refine wX zxP follows ?_
 obtain ⟨g, hF⟩ := Rg g hF
 refine wC hF [.sh, .sh] zlG (fun z1 hF => ?_)
 obtain ⟨g, hF⟩ := Rz g hF
 refine wK [6] ?_
 exact wm hΦ hF
@[go_sem] def zyp : List DE := [d2 0 [5] 5 5, d0 1 [1], d0 2 [2], d2 3 [5] 5 5, d0 4 [2], d0 5 [3], d1 7 [11] 11, d2 8 [27] 11 27, d3 6 [23, 24, 25], d3 9 [22, 26, 28], d3 10 [20, 21, 29], d0 11 [30]]
@[go_sem] def zyI : List DE := [d1 0 [11] 11, d2 1 [41] 11 41, d0 2 [4], d0 3 [13], d0 4 [43, 44], d0 5 [45], d0 6 [12], d0 7 [14], d0 8 [47, 48], d0 9 [46, 49], d1 10 [5] 5, d2 11 [51] 5 51, d0 12 [50, 52], d0 13 [53], ⟨14, [42, 54], [], none, true, false, false⟩, d1 15 [11] 11, d2 16 [56, 55] 11 56]
def zel (a0 : Group) (a1 : ByteArray) (a2 : (List (List Int))) (a3 : List Int) (a4 : List Int) : Option Proof :=
 (zcS a0 a2 a4).bind fun z1 =>
 (zcS a0 a2 a3).bind fun z2 =>
 (zc7 a2 z2 z1).bind fun z3 =>
 (zcq a0 a1 z3).bind fun z4 =>
 ((zas (σ := (List Int) × List Int × List Int) (fun i18 s17 =>
 (ix a3 i18).bind fun x24 =>
 (ix a4 i18).bind fun x25 =>
 gd (a0.Q ≠ 0) <|
 gd ((s17.2.2.length + 1) * 8 ≤ 140737488355328 ∧ s17.2.2.length + 1 ≤ 4611686018427387904) <|
 some (.go (s17.1, s17.2.1, s17.2.2 ++ [(i64.wrap (x25 + (i64.wrap (z4 * x24)))).tmod a0.Q]))) (fun s17 => (s17.1, s17.2.1, s17.2.2)) (a3.length) 0 (z1, [z4], []) : Option ((List Int × List Int × List Int))).bind fun x7 =>
 some (Proof.mk x7.1 x7.2.1 x7.2.2))
theorem zn6 : ∀ {a0} {a1} {a2} {a3} {a4} {r}, zel a0 a1 a2 a3 a4 = some r → PCalls Tryz.prog 118 [(.sh, vE a0), (.sh, .str a1), (.sh, vG a2), (.sh, vC a3), (.sh, vC a4)] (Eo (vS r) [.junk, .junk, .junk, .junk, .junk]) := by
 intro a0 a1 a2 a3 a4 r hr
 apply pF 59 [] [] [] [.cell 10 38] hr zz5 Tryz.func118
 intro Φ hΦ hF g
 unfold zel at hF
 refine wW ?_
 refine wC hF [.sh, .sh, .sh] zjt (fun z1 hF => ?_)
 refine wW ?_
 refine wX zyp follows ?_
 refine wC hF [.sh, .sh, .sh] zjt (fun z2 hF => ?_)
 refine wC hF [.sh, .sh, .sh] zhI (fun z3 hF => ?_)
 refine wC hF [.sh, .sh, .sh] zhH (fun z4 hF => ?_)
 refine wK [3, 4, 5, 10, 11, 12] ?_
 iterate 2 (try simp [go_sem, g]; try intros; refine zav ?_)
 refine wJ hF (fun x7 => [(10, .bl [.sl true 1 [], .sl true 1 [], .sl true 1 []]), (11, .bl [vD x7.1, vD x7.2.1, vD x7.2.2])]) (fun x7 hF => ?_) fun _ hj5 hF => ?_
 ·exact wl hΦ hF
 refine wB ?_
 obtain ⟨b26, hb27, hψ21⟩ := hF
 refine pR hb27 (fun i18 s17 => [(4, .v (vC a4)), (5, .bl [.int .i64 a0.P, .int .i64 a0.Q, .int .i64 a0.G]), (10, .bl [.sl true 1 [], .sl true 1 [], .sl true 1 []]), (11, .bl [vD s17.1, vD s17.2.1, vD s17.2.2]), (12, .v (.int .i64 z4)), (34, .v (vC a3)), (35, .v (.int .i64 (a3.length : Int))), (36, .v (.int .i64 i18))]) (fun s17 _ hN28 => ?_) (fun i18 s17 _ _ hi22 hi23 ho19 hg20 hF => ?_)
 ·exact wn hN28 (hj5 _) hψ21
 refine wW ?_
 refine wu hi22 hi23 ?_
 refine wW ?_
 refine wB ?_
 obtain ⟨x24, g, hF⟩ := Rx g hF
 refine wK [4, 5, 10, 11, 12, 13, 14, 34, 35, 36] ?_
 refine wX zyI follows ?_
 obtain ⟨x25, g, hF⟩ := Rx g hF
 obtain ⟨g, hF⟩ := Rz g hF
 obtain ⟨g, hF⟩ := Rg g hF
 refine wK [4, 5, 10, 11, 12, 34, 35, 36] ?_
 exact wi hi22 hi23 (hg20 _) (zaa hF)
def zcw (a0 : Group) (a1 : Cipher) (a2 : Int) (a3 : Int) (a4 : Int) : Option Partial :=
 (zaP a0 a1.A a3).bind fun z1 =>
 (zel a0 (⟨#[112, 97, 114, 116, 105, 97, 108]⟩ : ByteArray) [[a0.G], [a1.A]] [a3] [a4]).bind fun z2 =>
 some (Partial.mk a2 z1 z2)
theorem ziD : ∀ {a0} {a1} {a2} {a3} {a4} {r}, zcw a0 a1 a2 a3 a4 = some r → PCalls Tryz.prog 65 [(.sh, vE a0), (.sh, vQ a1), (.sh, .int .i64 a2), (.sh, .int .i64 a3), (.sh, .int .i64 a4)] (Eo (vT r) [.junk, .junk, .junk, .junk, .junk]) := by
 intro a0 a1 a2 a3 a4 r hr
 apply pF 33 [] [] [] [.cell 10 51] hr zF9 Tryz.func65
 intro Φ hΦ hF g
 unfold zcw at hF
 refine wW ?_
 refine wC hF [.sh, .sh, .sh] zcE (fun z1 hF => ?_)
 refine wW ?_
 refine wC hF [.sh, .sh, .sh, .sh, .sh] zn6 (fun z2 hF => ?_)
 refine wK [10] ?_
 exact wm hΦ hF
def zaR (a0c0 : List Int) (a0c1 : Int) (a0c2 : Int) (a1 : Group) : Option (Int × (List Int × Int × Int)) :=
 (zaM a0c0 a0c1 a0c2 20).bind fun z1 =>
 if z1.1 = true then (
 (zan z1.2.1 z1.2.2.1 z1.2.2.2 [0, 1, i64.wrap (a1.P - 1), a1.P, (-1), 5]).bind fun z3 =>
 some (z3.1, (z3.2.1, z3.2.2.1, z3.2.2.2))) else (
 (zat z1.2.1 z1.2.2.1 z1.2.2.2 a1).bind fun z4 =>
 some (z4.1, (z4.2.1, z4.2.2.1, z4.2.2.2)))
theorem zcl : ∀ {a0c0} {a0c1} {a0c2} {a1} {r}, zaR a0c0 a0c1 a0c2 a1 = some r → PCalls Tryz.prog 112 [(.io, vB a0c0 a0c1 a0c2), (.sh, vE a1)] (Eo (.int .i64 r.1) [vB r.2.1 r.2.2.1 r.2.2.2, .junk]) := by
 intro a0c0 a0c1 a0c2 a1 r hr
 apply pF 18 [0] [] [] [.tmp 4] hr zAl Tryz.func112
 intro Φ hΦ hF g
 unfold zaR at hF
 refine wW ?_
 refine wC hF [.io, .sh] zbm (fun z1 hF => ?_)
 refine wW ?_
 refine wI hF (fun h2 hF => ?_) (fun h2 hF => ?_)
 ·refine wC hF [.io, .mv] zal (fun z3 hF => ?_)
  refine wK [0, 4] ?_
  exact wm hΦ hF
 refine wW ?_
 refine wC hF [.io, .sh] zaw (fun z4 hF => ?_)
 exact wl hΦ hF
@[go_sem] def zz8 : List DE := [d1 0 [5] 5, d2 1 [9] 5 9, d1 3 [5] 5, d2 4 [12] 5 12, d1 6 [5] 5, d2 7 [15] 5 15, d3 2 [10], d3 5 [13], d3 8 [16], d0 9 [11, 14, 17], d2 10 [5, 18] 5 5]
@[go_sem] def zA0 : List DE := [d1 0 [5] 5, d2 1 [23] 5 23, d1 2 [5] 5, d2 3 [25] 5 25, d1 4 [5] 5, d2 5 [27] 5 27, d0 6 [24, 26, 28], d0 7 [0], d3 8 [30], ⟨9, [29, 31], [], none, true, true, false⟩, d0 10 [32], d0 11 [33]]
@[go_sem] def znu : List DE := [d0 0 [7], d0 1 [8], d0 2 [0], d0 3 [0], d2 4 [4] 4 4, d0 6 [0], d2 7 [4] 4 4, d1 9 [4] 4, d2 10 [50] 4 50, d0 11 [7], d0 12 [8], d0 13 [52, 53], d0 14 [54], d0 15 [55], d3 5 [44, 45], d3 8 [47, 48], d0 16 [46, 49, 51, 56], ⟨17, [43, 57], [], none, true, true, true⟩, d0 18 [41, 42], d0 19 [59, 58]]
@[go_sem] def znm : List DE := [d0 0 [7], d0 1 [8], d0 2 [0], d0 3 [0], d2 4 [4] 4 4, d0 6 [0], d2 7 [4] 4 4, d1 9 [4] 4, d2 10 [50] 4 50, d0 11 [7], d0 12 [8], d0 13 [52, 53], d3 5 [44, 45], d0 14 [54], d0 15 [55], d3 8 [47, 48], d0 16 [46, 49, 51, 56], ⟨17, [43, 57], [], none, true, true, true⟩, d0 18 [41, 42], d0 19 [59, 58]]
@[go_sem] def znb : List DE := [d0 0 [7], d0 1 [8], d0 2 [0], d0 3 [0], d2 4 [4] 4 4, d0 6 [0], d2 7 [4] 4 4, d1 9 [4] 4, d2 10 [50] 4 50, d0 11 [7], d0 12 [8], d0 13 [52, 53], d3 5 [44, 45], d3 8 [47, 48], d0 14 [54], d0 15 [55], d0 16 [46, 49, 51, 56], ⟨17, [43, 57], [], none, true, true, true⟩, d0 18 [41, 42], d0 19 [59, 58]]
def zcC (a0c0 : List Int) (a0c1 : Int) (a0c2 : Int) (a1 : Group) (a2 : Proof) : Option (Proof × (List Int × Int × Int)) :=
 (zcF a2.Commits).bind fun z1 =>
 (zcF a2.Challenges).bind fun z2 =>
 (zcF a2.Responses).bind fun z3 =>
 (zaM a0c0 a0c1 a0c2 3).bind fun z4 =>
 if (!z4.1) = true then (
 some ((Proof.mk z1 z2 z3), (z4.2.1, z4.2.2.1, z4.2.2.2))) else (
 (zah z4.2.1 z4.2.2.1 z4.2.2.2 3).bind fun z6 =>
 if (z6.1 == 0) = true then (
 ((if decide (0 < (z1.length : Int)) = true then (
 (zah z6.2.1 z6.2.2.1 z6.2.2.2 (z1.length : Int)).bind fun z11 =>
 (ix z1 z11.1).bind fun x12 =>
 (zaE z11.2.1 z11.2.2.1 z11.2.2.2 a1).bind fun z13 =>
 (zat z13.2.1 z13.2.2.1 z13.2.2.2 a1).bind fun z14 =>
 (zan z14.2.1 z14.2.2.1 z14.2.2.2 [z13.1, z14.1, (-1), a1.Q, i64.wrap (x12 + 1)]).bind fun z15 =>
 some ((z15.2.1, z15.2.2.1, z15.2.2.2), z1.set z11.1.toNat z15.1, z2, z3)) else (
 some ((z6.2.1, z6.2.2.1, z6.2.2.2), z1, z2, z3)) : Option (((List Int × Int × Int) × List Int × List Int × List Int))).bind fun x9 =>
 (zah x9.1.1 x9.1.2.1 x9.1.2.2 10).bind fun z16 =>
 ((if (z16.1 == 0) = true then (
 gd ((x9.2.1.length + 1) * 8 ≤ 140737488355328 ∧ x9.2.1.length + 1 ≤ 4611686018427387904) <|
 some (x9.2.1 ++ [1], x9.2.2.1, x9.2.2.2)) else (
 if (z16.1 == 1) = true then (
 some (x9.2.1, x9.2.2.1, [])) else (
 if (z16.1 == 2) = true then (
 gd ((x9.2.2.1.length + 1) * 8 ≤ 140737488355328 ∧ x9.2.2.1.length + 1 ≤ 4611686018427387904) <|
 some (x9.2.1, x9.2.2.1 ++ [0], x9.2.2.2)) else (
 some (x9.2.1, x9.2.2.1, x9.2.2.2)))) : Option ((List Int × List Int × List Int))).bind fun x19 =>
 some ((Proof.mk x19.1 x19.2.1 x19.2.2), (z16.2.1, z16.2.2.1, z16.2.2.2))))) else (
 if (z6.1 == 1) = true then (
 ((if decide (0 < (z2.length : Int)) = true then (
 (zah z6.2.1 z6.2.2.1 z6.2.2.2 (z2.length : Int)).bind fun z27 =>
 (ix z2 z27.1).bind fun x28 =>
 (zaE z27.2.1 z27.2.2.1 z27.2.2.2 a1).bind fun z29 =>
 (zat z29.2.1 z29.2.2.1 z29.2.2.2 a1).bind fun z30 =>
 (zan z30.2.1 z30.2.2.1 z30.2.2.2 [z29.1, z30.1, (-1), a1.Q, i64.wrap (x28 + 1)]).bind fun z31 =>
 some ((z31.2.1, z31.2.2.1, z31.2.2.2), z1, z2.set z27.1.toNat z31.1, z3)) else (
 some ((z6.2.1, z6.2.2.1, z6.2.2.2), z1, z2, z3)) : Option (((List Int × Int × Int) × List Int × List Int × List Int))).bind fun x25 =>
 (zah x25.1.1 x25.1.2.1 x25.1.2.2 10).bind fun z32 =>
 ((if (z32.1 == 0) = true then (
 gd ((x25.2.1.length + 1) * 8 ≤ 140737488355328 ∧ x25.2.1.length + 1 ≤ 4611686018427387904) <|
 some (x25.2.1 ++ [1], x25.2.2.1, x25.2.2.2)) else (
 if (z32.1 == 1) = true then (
 some (x25.2.1, x25.2.2.1, [])) else (
 if (z32.1 == 2) = true then (
 gd ((x25.2.2.1.length + 1) * 8 ≤ 140737488355328 ∧ x25.2.2.1.length + 1 ≤ 4611686018427387904) <|
 some (x25.2.1, x25.2.2.1 ++ [0], x25.2.2.2)) else (
 some (x25.2.1, x25.2.2.1, x25.2.2.2)))) : Option ((List Int × List Int × List Int))).bind fun x35 =>
 some ((Proof.mk x35.1 x35.2.1 x35.2.2), (z32.2.1, z32.2.2.1, z32.2.2.2))))) else (
 if (z6.1 == 2) = true then (
 ((if decide (0 < (z3.length : Int)) = true then (
 (zah z6.2.1 z6.2.2.1 z6.2.2.2 (z3.length : Int)).bind fun z43 =>
 (ix z3 z43.1).bind fun x44 =>
 (zaE z43.2.1 z43.2.2.1 z43.2.2.2 a1).bind fun z45 =>
 (zat z45.2.1 z45.2.2.1 z45.2.2.2 a1).bind fun z46 =>
 (zan z46.2.1 z46.2.2.1 z46.2.2.2 [z45.1, z46.1, (-1), a1.Q, i64.wrap (x44 + 1)]).bind fun z47 =>
 some ((z47.2.1, z47.2.2.1, z47.2.2.2), z1, z2, z3.set z43.1.toNat z47.1)) else (
 some ((z6.2.1, z6.2.2.1, z6.2.2.2), z1, z2, z3)) : Option (((List Int × Int × Int) × List Int × List Int × List Int))).bind fun x41 =>
 (zah x41.1.1 x41.1.2.1 x41.1.2.2 10).bind fun z48 =>
 ((if (z48.1 == 0) = true then (
 gd ((x41.2.1.length + 1) * 8 ≤ 140737488355328 ∧ x41.2.1.length + 1 ≤ 4611686018427387904) <|
 some (x41.2.1 ++ [1], x41.2.2.1, x41.2.2.2)) else (
 if (z48.1 == 1) = true then (
 some (x41.2.1, x41.2.2.1, [])) else (
 if (z48.1 == 2) = true then (
 gd ((x41.2.2.1.length + 1) * 8 ≤ 140737488355328 ∧ x41.2.2.1.length + 1 ≤ 4611686018427387904) <|
 some (x41.2.1, x41.2.2.1 ++ [0], x41.2.2.2)) else (
 some (x41.2.1, x41.2.2.1, x41.2.2.2)))) : Option ((List Int × List Int × List Int))).bind fun x51 =>
 some ((Proof.mk x51.1 x51.2.1 x51.2.2), (z48.2.1, z48.2.2.1, z48.2.2.2))))) else (
 none))))
set_option maxHeartbeats 1000000 in
theorem ziY : ∀ {a0c0} {a0c1} {a0c2} {a1} {a2} {r}, zcC a0c0 a0c1 a0c2 a1 a2 = some r → PCalls Tryz.prog 87 [(.io, vB a0c0 a0c1 a0c2), (.sh, vE a1), (.sh, vU a2)] (Eo (vS r.1) [vB r.2.1 r.2.2.1 r.2.2.2, .junk, .junk]) := by
 intro a0c0 a0c1 a0c2 a1 a2 r hr
 apply pF 80 [0] [167, 189] [] [.cell 6 38] hr zFr Tryz.func87
 intro Φ hΦ hF g
 unfold zcC at hF
 refine wW ?_
 refine wX zz8 follows ?_
 refine wC hF [.sh] zed (fun z1 hF => ?_)
 refine wC hF [.sh] zed (fun z2 hF => ?_)
 refine wC hF [.sh] zed (fun z3 hF => ?_)
 refine wK [0, 4, 5, 6] ?_
 refine wC hF [.io, .sh] zbm (fun z4 hF => ?_)
 refine wW ?_
 refine wI hF (fun h5 hF => ?_) (fun h5 hF => ?_)
 ·exact wl hΦ hF
 refine wW ?_
 refine wX zA0 follows ?_
 refine wC hF [.io, .sh] zaj (fun z6 hF => ?_)
 refine pX g hF (fun g hF => ?_) fun hF => ?_
 ·refine wK [0, 4, 5, 6, 7] ?_
  try simp [go_sem, g]
  try intros
  refine zav ?_
  refine wJ hF (fun x9 => [(0, .v (vB x9.1.1 x9.1.2.1 x9.1.2.2)), (5, .bl [vD x9.2.1, vD x9.2.2.1, vD x9.2.2.2]), (6, .bl [.sl true 1 [], .sl true 1 [], .sl true 1 []])]) (fun x9 hF => ?_) fun _ hj7 hF => ?_
  ·refine wC hF [.io, .sh] zaj (fun z16 hF => ?_)
   refine wW ?_
   refine wJ hF (fun x19 => [(0, .v (vB z16.2.1 z16.2.2.1 z16.2.2.2)), (5, .bl [vD x19.1, vD x19.2.1, vD x19.2.2]), (6, .bl [.sl true 1 [], .sl true 1 [], .sl true 1 []])]) (fun x19 hF => ?_) fun _ hj17 hF => ?_
   ·exact wl hΦ hF
   refine wB ?_
   refine wW ?_
   refine wI hF (fun h20 hF => ?_) (fun h20 hF => ?_)
   ·obtain ⟨g, hF⟩ := Rg g hF
    exact wT (hj17 _) (zaa hF)
   refine wW ?_
   refine wI hF (fun h21 hF => ?_) (fun h21 hF => ?_)
   ·exact wT (hj17 _) (zaa hF)
   refine wK [0, 5, 6, 72] ?_
   refine wI hF (fun h22 hF => ?_) (fun h22 hF => ?_)
   ·obtain ⟨g, hF⟩ := Rg g hF
    exact wT (hj17 _) (zaa hF)
   exact wT (hj17 _) (zaa hF)
  refine wI hF (fun h10 hF => ?_) (fun h10 hF => ?_)
  ·try simp [go_sem, g]
   try intros
   refine wC hF [.io, .sh] zaj (fun z11 hF => ?_)
   refine wW ?_
   repeat rw [sq]
   refine zlP 14 5 14 8 0 1 znu znm znb follows (by decide) (by kernel_rfl) (by kernel_rfl) (by kernel_rfl) (by kernel_rfl) rfl rfl rfl ?_ ?_ ?_
   ·obtain ⟨x12, g, hF⟩ := Rx g hF
    refine wC hF [.io, .sh] zaB (fun z13 hF => ?_)
    refine wC hF [.io, .sh] zaw (fun z14 hF => ?_)
    refine wC hF [.io, .mv] zal (fun z15 hF => ?_)
    exact wT (hj7 _) (zaa hF)
   ·obtain ⟨x12, g, hF⟩ := Rx g hF
    refine wC hF [.io, .sh] zaB (fun z13 hF => ?_)
    refine wC hF [.io, .sh] zaw (fun z14 hF => ?_)
    refine wC hF [.io, .mv] zal (fun z15 hF => ?_)
    exact wT (hj7 _) (zaa hF)
   obtain ⟨x12, g, hF⟩ := Rx g hF
   refine wC hF [.io, .sh] zaB (fun z13 hF => ?_)
   refine wC hF [.io, .sh] zaw (fun z14 hF => ?_)
   refine wC hF [.io, .mv] zal (fun z15 hF => ?_)
   exact wT (hj7 _) (zaa hF)
  exact wT (hj7 _) (zaa hF)
 refine pX g hF (fun g hF => ?_) fun hF => ?_
 ·refine wK [0, 4, 5, 6, 7] ?_
  try simp [go_sem, g]
  try intros
  refine zav ?_
  refine wJ hF (fun x25 => [(0, .v (vB x25.1.1 x25.1.2.1 x25.1.2.2)), (5, .bl [vD x25.2.1, vD x25.2.2.1, vD x25.2.2.2]), (6, .bl [.sl true 1 [], .sl true 1 [], .sl true 1 []])]) (fun x25 hF => ?_) fun _ hj23 hF => ?_
  ·refine wC hF [.io, .sh] zaj (fun z32 hF => ?_)
   refine wW ?_
   refine wJ hF (fun x35 => [(0, .v (vB z32.2.1 z32.2.2.1 z32.2.2.2)), (5, .bl [vD x35.1, vD x35.2.1, vD x35.2.2]), (6, .bl [.sl true 1 [], .sl true 1 [], .sl true 1 []])]) (fun x35 hF => ?_) fun _ hj33 hF => ?_
   ·exact wl hΦ hF
   refine wB ?_
   refine wW ?_
   refine wI hF (fun h36 hF => ?_) (fun h36 hF => ?_)
   ·obtain ⟨g, hF⟩ := Rg g hF
    exact wT (hj33 _) (zaa hF)
   refine wW ?_
   refine wI hF (fun h37 hF => ?_) (fun h37 hF => ?_)
   ·exact wT (hj33 _) (zaa hF)
   refine wK [0, 5, 6, 72] ?_
   refine wI hF (fun h38 hF => ?_) (fun h38 hF => ?_)
   ·obtain ⟨g, hF⟩ := Rg g hF
    exact wT (hj33 _) (zaa hF)
   exact wT (hj33 _) (zaa hF)
  refine wI hF (fun h26 hF => ?_) (fun h26 hF => ?_)
  ·try simp [go_sem, g]
   try intros
   refine wC hF [.io, .sh] zaj (fun z27 hF => ?_)
   refine wW ?_
   repeat rw [sq]
   refine zlP 14 5 14 8 0 1 znu znm znb follows (by decide) (by kernel_rfl) (by kernel_rfl) (by kernel_rfl) (by kernel_rfl) rfl rfl rfl ?_ ?_ ?_
   ·obtain ⟨x28, g, hF⟩ := Rx g hF
    refine wC hF [.io, .sh] zaB (fun z29 hF => ?_)
    refine wC hF [.io, .sh] zaw (fun z30 hF => ?_)
    refine wC hF [.io, .mv] zal (fun z31 hF => ?_)
    exact wT (hj23 _) (zaa hF)
   ·obtain ⟨x28, g, hF⟩ := Rx g hF
    refine wC hF [.io, .sh] zaB (fun z29 hF => ?_)
    refine wC hF [.io, .sh] zaw (fun z30 hF => ?_)
    refine wC hF [.io, .mv] zal (fun z31 hF => ?_)
    exact wT (hj23 _) (zaa hF)
   obtain ⟨x28, g, hF⟩ := Rx g hF
   refine wC hF [.io, .sh] zaB (fun z29 hF => ?_)
   refine wC hF [.io, .sh] zaw (fun z30 hF => ?_)
   refine wC hF [.io, .mv] zal (fun z31 hF => ?_)
   exact wT (hj23 _) (zaa hF)
  exact wT (hj23 _) (zaa hF)
 refine pX g hF (fun g hF => ?_) fun hF => ?_
 ·refine wK [0, 4, 5, 6, 7] ?_
  try simp [go_sem, g]
  try intros
  refine zav ?_
  refine wJ hF (fun x41 => [(0, .v (vB x41.1.1 x41.1.2.1 x41.1.2.2)), (5, .bl [vD x41.2.1, vD x41.2.2.1, vD x41.2.2.2]), (6, .bl [.sl true 1 [], .sl true 1 [], .sl true 1 []])]) (fun x41 hF => ?_) fun _ hj39 hF => ?_
  ·refine wC hF [.io, .sh] zaj (fun z48 hF => ?_)
   refine wW ?_
   refine wJ hF (fun x51 => [(0, .v (vB z48.2.1 z48.2.2.1 z48.2.2.2)), (5, .bl [vD x51.1, vD x51.2.1, vD x51.2.2]), (6, .bl [.sl true 1 [], .sl true 1 [], .sl true 1 []])]) (fun x51 hF => ?_) fun _ hj49 hF => ?_
   ·exact wl hΦ hF
   refine wB ?_
   refine wW ?_
   refine wI hF (fun h52 hF => ?_) (fun h52 hF => ?_)
   ·obtain ⟨g, hF⟩ := Rg g hF
    exact wT (hj49 _) (zaa hF)
   refine wW ?_
   refine wI hF (fun h53 hF => ?_) (fun h53 hF => ?_)
   ·exact wT (hj49 _) (zaa hF)
   refine wK [0, 5, 6, 72] ?_
   refine wI hF (fun h54 hF => ?_) (fun h54 hF => ?_)
   ·obtain ⟨g, hF⟩ := Rg g hF
    exact wT (hj49 _) (zaa hF)
   exact wT (hj49 _) (zaa hF)
  refine wI hF (fun h42 hF => ?_) (fun h42 hF => ?_)
  ·try simp [go_sem, g]
   try intros
   refine wC hF [.io, .sh] zaj (fun z43 hF => ?_)
   refine wW ?_
   repeat rw [sq]
   refine zlP 14 5 14 8 0 1 znu znm znb follows (by decide) (by kernel_rfl) (by kernel_rfl) (by kernel_rfl) (by kernel_rfl) rfl rfl rfl ?_ ?_ ?_
   ·obtain ⟨x44, g, hF⟩ := Rx g hF
    refine wC hF [.io, .sh] zaB (fun z45 hF => ?_)
    refine wC hF [.io, .sh] zaw (fun z46 hF => ?_)
    refine wC hF [.io, .mv] zal (fun z47 hF => ?_)
    exact wT (hj39 _) (zaa hF)
   ·obtain ⟨x44, g, hF⟩ := Rx g hF
    refine wC hF [.io, .sh] zaB (fun z45 hF => ?_)
    refine wC hF [.io, .sh] zaw (fun z46 hF => ?_)
    refine wC hF [.io, .mv] zal (fun z47 hF => ?_)
    exact wT (hj39 _) (zaa hF)
   obtain ⟨x44, g, hF⟩ := Rx g hF
   refine wC hF [.io, .sh] zaB (fun z45 hF => ?_)
   refine wC hF [.io, .sh] zaw (fun z46 hF => ?_)
   refine wC hF [.io, .mv] zal (fun z47 hF => ?_)
   exact wT (hj39 _) (zaa hF)
  exact wT (hj39 _) (zaa hF)
 exact (zmX hF).elim
@[go_sem] def zwp : List DE := [d2 0 [4] 4 4, d2 1 [8] 8 8, d0 2 [10], d0 3 [47], d0 4 [11], d0 5 [0], d2 6 [4] 4 4, d0 9 [], d3 7 [50, 51], d3 8 [45, 46, 48, 49, 52], d2 10 [12, 53] 12 12]
@[go_sem] def zxp : List DE := [d2 0 [4] 4 4, d1 1 [5] 5, d2 2 [23] 5 23, d2 3 [4] 4 4, d1 4 [4] 4, d2 5 [26] 4 26, d0 6 [0], d0 9 [0], d2 10 [4] 4 4, d3 7 [28], d3 8 [25, 27, 29], d3 11 [31, 32], d3 12 [22, 24, 30, 33], d2 13 [8, 34] 8 8]
def zbR (a0c0 : List Int) (a0c1 : Int) (a0c2 : Int) (a1 : Group) (a2 : KeyGen) : Option (Cipher × List Partial × (List Int × Int × Int)) :=
 (zbj a0c0 a0c1 a0c2 a1).bind fun z1 =>
 (zcJ a1).bind fun z2 =>
 if (!z2) = true then (
 some (z1.1, [], (z1.2.1, z1.2.2.1, z1.2.2.2))) else (
 (zaM z1.2.1 z1.2.2.1 z1.2.2.2 2).bind fun z4 =>
 ((if z4.1 = true then (
 (zah z4.2.1 z4.2.2.1 z4.2.2.2 10).bind fun z9 =>
 (zaP a1 a1.G z9.1).bind fun z10 =>
 (zaE z9.2.1 z9.2.2.1 z9.2.2.2 a1).bind fun z11 =>
 (zhl a1 a2.Key z10 z11.1).bind fun z12 =>
 some ((z11.2.1, z11.2.2.1, z11.2.2.2), z12.A, z12.B)) else (
 some ((z4.2.1, z4.2.2.1, z4.2.2.2), z1.1.A, z1.1.B)) : Option (((List Int × Int × Int) × Int × Int))).bind fun x7 =>
 ((zas (σ := (List Int × Int × Int) × List Partial) (fun i43 s42 =>
 (((ix a2.Shares i43).bind fun x52 =>
 (zaM s42.1.1 s42.1.2.1 s42.1.2.2 6).bind fun z53 =>
 if z53.1 = true then (
 some ((z53.2.1, z53.2.2.1, z53.2.2.2), s42.2)) else (
 (zaE z53.2.1 z53.2.2.1 z53.2.2.2 a1).bind fun z55 =>
 (zcw a1 (Cipher.mk x7.2.1 x7.2.2) (i64.wrap (i43 + 1)) x52 z55.1).bind fun z56 =>
 (zah z55.2.1 z55.2.2.1 z55.2.2.2 14).bind fun z57 =>
 ((if (z57.1 == 0) = true then (
 (zaR z57.2.1 z57.2.2.1 z57.2.2.2 a1).bind fun z62 =>
 some ((z62.2.1, z62.2.2.1, z62.2.2.2), s42.2, z56.Index, z62.1, z56.Pi.Commits, z56.Pi.Challenges, z56.Pi.Responses)) else (
 if (z57.1 == 1) = true then (
 (zan z57.2.1 z57.2.2.1 z57.2.2.2 [0, 1, 2, 8]).bind fun z64 =>
 some ((z64.2.1, z64.2.2.1, z64.2.2.2), s42.2, z64.1, z56.Value, z56.Pi.Commits, z56.Pi.Challenges, z56.Pi.Responses)) else (
 if (z57.1 == 2) = true then (
 (zcC z57.2.1 z57.2.2.1 z57.2.2.2 a1 z56.Pi).bind fun z66 =>
 some ((z66.2.1, z66.2.2.1, z66.2.2.2), s42.2, z56.Index, z56.Value, z66.1.Commits, z66.1.Challenges, z66.1.Responses)) else (
 if (z57.1 == 3) = true then (
 gd ((s42.2.length + 1) * 88 ≤ 140737488355328 ∧ s42.2.length + 1 ≤ 4611686018427387904) <|
 some ((z57.2.1, z57.2.2.1, z57.2.2.2), s42.2 ++ [z56], z56.Index, z56.Value, z56.Pi.Commits, z56.Pi.Challenges, z56.Pi.Responses)) else (
 some ((z57.2.1, z57.2.2.1, z57.2.2.2), s42.2, z56.Index, z56.Value, z56.Pi.Commits, z56.Pi.Challenges, z56.Pi.Responses))))) : Option (((List Int × Int × Int) × List Partial × Int × Int × List Int × List Int × List Int))).bind fun x60 =>
 gd ((x60.2.1.length + 1) * 88 ≤ 140737488355328 ∧ x60.2.1.length + 1 ≤ 4611686018427387904) <|
 some ((x60.1.1, x60.1.2.1, x60.1.2.2), x60.2.1 ++ [(Partial.mk x60.2.2.1 x60.2.2.2.1 (Proof.mk x60.2.2.2.2.1 x60.2.2.2.2.2.1 x60.2.2.2.2.2.2))]))) : Option (((List Int × Int × Int) × List Partial))).bind fun x51 =>
 some (.go ((x51.1.1, x51.1.2.1, x51.1.2.2), x51.2)))) (fun s42 => ((s42.1.1, s42.1.2.1, s42.1.2.2), s42.2)) (a2.Shares.length) 0 ((x7.1.1, x7.1.2.1, x7.1.2.2), []) : Option (((List Int × Int × Int) × List Partial))).bind fun x15 =>
 some ((Cipher.mk x7.2.1 x7.2.2), x15.2, (x15.1.1, x15.1.2.1, x15.1.2.2)))))
theorem zhE : ∀ {a0c0} {a0c1} {a0c2} {a1} {a2} {r}, zbR a0c0 a0c1 a0c2 a1 a2 = some r → PCalls Tryz.prog 102 [(.io, vB a0c0 a0c1 a0c2), (.sh, vE a1), (.sh, vP a2)] (Eo (.tup [vQ r.1, vW r.2.1]) [vB r.2.2.1 r.2.2.2.1 r.2.2.2.2, .junk, .junk]) := by
 intro a0c0 a0c1 a0c2 a1 a2 r hr
 apply pF 89 [0] [73, 79] [] [.cell 6 36, .tmp 7] hr zAb Tryz.func102
 intro Φ hΦ hF g
 unfold zbR at hF
 refine wW ?_
 refine wC hF [.io, .sh] zh5 (fun z1 hF => ?_)
 refine wW ?_
 refine wC hF [.sh] zfb (fun z2 hF => ?_)
 refine wK [0, 4, 5, 6, 8, 18] ?_
 refine wI hF (fun h3 hF => ?_) (fun h3 hF => ?_)
 ·exact wl hΦ hF
 refine wW ?_
 refine wC hF [.io, .sh] zbm (fun z4 hF => ?_)
 refine wW ?_
 refine wJ hF (fun x7 => [(0, .v (vB x7.1.1 x7.1.2.1 x7.1.2.2)), (4, .bl [.int .i64 a1.P, .int .i64 a1.Q, .int .i64 a1.G]), (5, .bl [vC a2.Qualified, .int .i64 a2.Key, vC a2.Commits, vC a2.Shares]), (6, .bl [.int .i64 0, .int .i64 0]), (8, .bl [.int .i64 x7.2.1, .int .i64 x7.2.2])]) (fun x7 hF => ?_) fun _ hj5 hF => ?_
 ·iterate 2 (try simp [go_sem, g]; try intros; refine zav ?_)
  refine wJ hF (fun x15 => [(0, .v (vB x15.1.1 x15.1.2.1 x15.1.2.2)), (6, .bl [.int .i64 0, .int .i64 0]), (8, .bl [.int .i64 x7.2.1, .int .i64 x7.2.2]), (9, .v (vW x15.2))]) (fun x15 hF => ?_) fun _ hj13 hF => ?_
  ·refine wK [0, 6, 7] ?_
   exact wm hΦ hF
  refine wB ?_
  obtain ⟨b68, hb69, hψ46⟩ := hF
  refine pR hb69 (fun i43 s42 => [(0, .v (vB s42.1.1 s42.1.2.1 s42.1.2.2)), (4, .bl [.int .i64 a1.P, .int .i64 a1.Q, .int .i64 a1.G]), (6, .bl [.int .i64 0, .int .i64 0]), (8, .bl [.int .i64 x7.2.1, .int .i64 x7.2.2]), (9, .v (vW s42.2)), (36, .v (vC a2.Shares)), (37, .v (.int .i64 (a2.Shares.length : Int))), (38, .v (.int .i64 i43))]) (fun s42 _ hN70 => ?_) (fun i43 s42 _ _ hi47 hi48 ho44 hg45 hF => ?_)
  ·exact wn hN70 (hj13 _) hψ46
  refine wW ?_
  refine wu hi47 hi48 ?_
  refine wW ?_
  refine wJ hF (fun x51 => [(0, .v (vB x51.1.1 x51.1.2.1 x51.1.2.2)), (4, .bl [.int .i64 a1.P, .int .i64 a1.Q, .int .i64 a1.G]), (6, .bl [.int .i64 0, .int .i64 0]), (8, .bl [.int .i64 x7.2.1, .int .i64 x7.2.2]), (9, .v (vW x51.2)), (36, .v (vC a2.Shares)), (37, .v (.int .i64 (a2.Shares.length : Int))), (38, .v (.int .i64 i43))]) (fun x51 hF => ?_) fun _ hj49 hF => ?_
  ·exact wi hi47 hi48 (hg45 _) (zaa hF)
  refine wB ?_
  obtain ⟨x52, g, hF⟩ := Rx g hF
  refine wK [0, 4, 6, 8, 9, 10, 11, 36, 37, 38] ?_
  refine wC hF [.io, .sh] zbm (fun z53 hF => ?_)
  refine wW ?_
  refine wI hF (fun h54 hF => ?_) (fun h54 hF => ?_)
  ·exact wT (hj49 _) (zaa hF)
  refine wW ?_
  refine wX zwp follows ?_
  refine wC hF [.io, .sh] zaB (fun z55 hF => ?_)
  refine wC hF [.sh, .sh, .sh, .sh, .sh] ziD (fun z56 hF => ?_)
  refine wK [0, 4, 6, 8, 9, 12, 36, 37, 38] ?_
  refine wC hF [.io, .sh] zaj (fun z57 hF => ?_)
  refine wW ?_
  refine wJ hF (fun x60 => [(0, .v (vB x60.1.1 x60.1.2.1 x60.1.2.2)), (4, .bl [.int .i64 a1.P, .int .i64 a1.Q, .int .i64 a1.G]), (6, .bl [.int .i64 0, .int .i64 0]), (8, .bl [.int .i64 x7.2.1, .int .i64 x7.2.2]), (9, .v (vW x60.2.1)), (12, .bl [.int .i64 x60.2.2.1, .int .i64 x60.2.2.2.1, vC x60.2.2.2.2.1, vC x60.2.2.2.2.2.1, vC x60.2.2.2.2.2.2]), (36, .v (vC a2.Shares)), (37, .v (.int .i64 (a2.Shares.length : Int))), (38, .v (.int .i64 i43))]) (fun x60 hF => ?_) fun _ hj58 hF => ?_
  ·obtain ⟨g, hF⟩ := Rg g hF
   exact wT (hj49 _) (zaa hF)
  refine wB ?_
  refine wW ?_
  refine wI hF (fun h61 hF => ?_) (fun h61 hF => ?_)
  ·refine wC hF [.io, .sh] zcl (fun z62 hF => ?_)
   try simp [go_sem, g]
   refine zd0 12 2 (by simp [go_sem, g]; rfl) rfl (by simp [go_sem]) ?_
   refine zd0 12 3 (by simp [go_sem, g]; rfl) rfl (by simp [go_sem]) ?_
   refine zd0 12 4 (by simp [go_sem, g]; rfl) rfl (by simp [go_sem]) ?_
   exact wT (hj58 _) (zaa hF)
  refine wW ?_
  refine wI hF (fun h63 hF => ?_) (fun h63 hF => ?_)
  ·refine wC hF [.io, .mv] zal (fun z64 hF => ?_)
   try simp [go_sem, g]
   refine zd0 12 2 (by simp [go_sem, g]; rfl) rfl (by simp [go_sem]) ?_
   refine zd0 12 3 (by simp [go_sem, g]; rfl) rfl (by simp [go_sem]) ?_
   refine zd0 12 4 (by simp [go_sem, g]; rfl) rfl (by simp [go_sem]) ?_
   exact wT (hj58 _) (zaa hF)
  refine wW ?_
  refine wI hF (fun h65 hF => ?_) (fun h65 hF => ?_)
  ·refine wC hF [.io, .sh, .sh] ziY (fun z66 hF => ?_)
   try simp [go_sem, g]
   refine zd0 12 2 (by simp [go_sem, g]; rfl) rfl (by simp [go_sem]) ?_
   refine zd0 12 3 (by simp [go_sem, g]; rfl) rfl (by simp [go_sem]) ?_
   refine zd0 12 4 (by simp [go_sem, g]; rfl) rfl (by simp [go_sem]) ?_
   exact wT (hj58 _) (zaa hF)
  refine wK [0, 4, 6, 8, 9, 12, 36, 37, 38, 76] ?_
  refine wI hF (fun h67 hF => ?_) (fun h67 hF => ?_)
  ·obtain ⟨g, hF⟩ := Rg g hF
   exact wT (hj58 _) (zaa hF)
  try simp [go_sem, g]
  refine zd0 12 2 (by simp [go_sem, g]; rfl) rfl (by simp [go_sem]) ?_
  refine zd0 12 3 (by simp [go_sem, g]; rfl) rfl (by simp [go_sem]) ?_
  refine zd0 12 4 (by simp [go_sem, g]; rfl) rfl (by simp [go_sem]) ?_
  exact wT (hj58 _) (zaa hF)
 refine wI hF (fun h8 hF => ?_) (fun h8 hF => ?_)
 ·refine wX zxp follows ?_
  refine wC hF [.io, .sh] zaj (fun z9 hF => ?_)
  refine wC hF [.sh, .sh, .sh] zcE (fun z10 hF => ?_)
  refine wC hF [.io, .sh] zaB (fun z11 hF => ?_)
  refine wC hF [.sh, .sh, .sh, .sh] zqr (fun z12 hF => ?_)
  exact wT (hj5 _) (zaa hF)
 exact wT (hj5 _) (zaa hF)
def zbS (a0c0 : List Int) (a0c1 : Int) (a0c2 : Int) (a1 : Group) (a2 : Int) : Option (List Int × (List Int × Int × Int)) :=
 (zah a0c0 a0c1 a0c2 (i64.wrap (a2 + 1))).bind fun z1 =>
 ((zbc (σ := (List Int × Int × Int) × List Int × Int) (fun s12 =>
 if decide (0 < s12.2.2) = true then (
 (zat s12.1.1 s12.1.2.1 s12.1.2.2 a1).bind fun z18 =>
 gd ((s12.2.1.length + 1) * 8 ≤ 140737488355328 ∧ s12.2.1.length + 1 ≤ 4611686018427387904) <|
 some (.go ((z18.2.1, z18.2.2.1, z18.2.2.2), s12.2.1 ++ [z18.1], i64.wrap (s12.2.2 - 1)))) else (
 some (.out ((s12.1.1, s12.1.2.1, s12.1.2.2), s12.2.1)))) ((z1.2.1, z1.2.2.1, z1.2.2.2), [], z1.1) : Option (((List Int × Int × Int) × List Int))).bind fun x4 =>
 (zaM x4.1.1 x4.1.2.1 x4.1.2.2 20).bind fun z21 =>
 ((if z21.1 = true then (
 (zaR z21.2.1 z21.2.2.1 z21.2.2.2 a1).bind fun z26 =>
 gd ((x4.2.length + 1) * 8 ≤ 140737488355328 ∧ x4.2.length + 1 ≤ 4611686018427387904) <|
 some ((z26.2.1, z26.2.2.1, z26.2.2.2), x4.2 ++ [z26.1])) else (
 some ((z21.2.1, z21.2.2.1, z21.2.2.2), x4.2)) : Option (((List Int × Int × Int) × List Int))).bind fun x24 =>
 (zaM x24.1.1 x24.1.2.1 x24.1.2.2 40).bind fun z27 =>
 ((if z27.1 = true then (
 (zah z27.2.1 z27.2.2.1 z27.2.2.2 2).bind fun z32 =>
 zbc (σ := (List Int) × Int) (fun s33 =>
 if decide (0 < s33.2) = true then (
 gd ((s33.1.length + 1) * 8 ≤ 140737488355328 ∧ s33.1.length + 1 ≤ 4611686018427387904) <|
 some (.go (s33.1 ++ [1], i64.wrap (s33.2 - 1)))) else (
 some (.out ((z32.2.1, z32.2.2.1, z32.2.2.2), s33.1)))) ([], i64.wrap (24 + z32.1))) else (
 some ((z27.2.1, z27.2.2.1, z27.2.2.2), x24.2)) : Option (((List Int × Int × Int) × List Int))).bind fun x30 =>
 some (x30.2, (x30.1.1, x30.1.2.1, x30.1.2.2)))))
theorem zhy : ∀ {a0c0} {a0c1} {a0c2} {a1} {a2} {r}, zbS a0c0 a0c1 a0c2 a1 a2 = some r → PCalls Tryz.prog 103 [(.io, vB a0c0 a0c1 a0c2), (.sh, vE a1), (.sh, .int .i64 a2)] (Eo (vD r.1) [vB r.2.1 r.2.2.1 r.2.2.2, .junk, .junk]) := by
 intro a0c0 a0c1 a0c2 a1 a2 r hr
 apply pF 45 [0] [] [] [.tmp 6] hr zz0 Tryz.func103
 intro Φ hΦ hF g
 unfold zbS at hF
 iterate 2 refine wW ?_
 refine wC hF [.io, .sh] zaj (fun z1 hF => ?_)
 refine wW ?_
 refine wJ hF (fun x4 => [(0, .v (vB x4.1.1 x4.1.2.1 x4.1.2.2)), (4, .bl [.int .i64 a1.P, .int .i64 a1.Q, .int .i64 a1.G]), (7, .v (vD x4.2))]) (fun x4 hF => ?_) fun _ hj2 hF => ?_
 ·refine wC hF [.io, .sh] zbm (fun z21 hF => ?_)
  refine wK [0, 4, 7, 25] ?_
  refine wJ hF (fun x24 => [(0, .v (vB x24.1.1 x24.1.2.1 x24.1.2.2)), (7, .v (vD x24.2))]) (fun x24 hF => ?_) fun _ hj22 hF => ?_
  ·refine wC hF [.io, .sh] zbm (fun z27 hF => ?_)
   refine wW ?_
   refine wJ hF (fun x30 => [(0, .v (vB x30.1.1 x30.1.2.1 x30.1.2.2)), (7, .v (vD x30.2))]) (fun x30 hF => ?_) fun _ hj28 hF => ?_
   ·exact wl hΦ hF
   refine wI hF (fun h31 hF => ?_) (fun h31 hF => ?_)
   ·refine wW ?_
    refine wC hF [.io, .sh] zaj (fun z32 hF => ?_)
    refine wW ?_
    refine wB ?_
    obtain ⟨b39, hb40, hψ37⟩ := hF
    refine pL hb40 (fun s33 => [(0, .v (vB z32.2.1 z32.2.2.1 z32.2.2.2)), (7, .v (vD s33.1)), (9, .v (.int .i64 s33.2))]) (fun s33 _ _ ho35 hg36 hF => ?_)
    refine wW ?_
    refine wI hF (fun h38 hF => ?_) (fun h38 hF => ?_)
    ·refine wW ?_
     refine wB ?_
     obtain ⟨g, hF⟩ := Rg g hF
     refine wK [0, 7, 9] ?_
     exact wT (hg36 _) (zaa hF)
    cases ho35 _ (zaa hF)
    exact wT (hj28 _) hψ37
   exact wT (hj28 _) (zaa hF)
  refine wI hF (fun h25 hF => ?_) (fun h25 hF => ?_)
  ·refine wC hF [.io, .sh] zcl (fun z26 hF => ?_)
   obtain ⟨g, hF⟩ := Rg g hF
   exact wT (hj22 _) (zaa hF)
  exact wT (hj22 _) (zaa hF)
 refine wB ?_
 obtain ⟨b19, hb20, hψ16⟩ := hF
 refine pL hb20 (fun s12 => [(0, .v (vB s12.1.1 s12.1.2.1 s12.1.2.2)), (4, .bl [.int .i64 a1.P, .int .i64 a1.Q, .int .i64 a1.G]), (7, .v (vD s12.2.1)), (8, .v (.int .i64 s12.2.2))]) (fun s12 _ _ ho14 hg15 hF => ?_)
 refine wK [0, 4, 7, 8, 15] ?_
 refine wI hF (fun h17 hF => ?_) (fun h17 hF => ?_)
 ·refine wW ?_
  refine wB ?_
  refine wC hF [.io, .sh] zaw (fun z18 hF => ?_)
  obtain ⟨g, hF⟩ := Rg g hF
  refine wW ?_
  exact wT (hg15 _) (zaa hF)
 cases ho14 _ (zaa hF)
 exact wT (hj2 _) hψ16
@[go_sem] def zAX : List DE := [d0 0 [0], d2 1 [3] 3 3, d0 3 [0], d2 4 [3] 3 3, d3 2 [5, 6], d3 5 [8, 9], d0 6 [7, 10], d2 7 [4, 11] 4 4]
def zbn (a0c0 : List Int) (a0c1 : Int) (a0c2 : Int) (a1 : Group) : Option (Cipher × (List Int × Int × Int)) :=
 (zaR a0c0 a0c1 a0c2 a1).bind fun z1 =>
 (zaR z1.2.1 z1.2.2.1 z1.2.2.2 a1).bind fun z2 =>
 some ((Cipher.mk z1.1 z2.1), (z2.2.1, z2.2.2.1, z2.2.2.2))
theorem zeW : ∀ {a0c0} {a0c1} {a0c2} {a1} {r}, zbn a0c0 a0c1 a0c2 a1 = some r → PCalls Tryz.prog 55 [(.io, vB a0c0 a0c1 a0c2), (.sh, vE a1)] (Eo (vQ r.1) [vB r.2.1 r.2.2.1 r.2.2.2, .junk]) := by
 intro a0c0 a0c1 a0c2 a1 r hr
 apply pF 12 [0] [] [] [.cell 4 36] hr zCM Tryz.func55
 intro Φ hΦ hF g
 unfold zbn at hF
 refine wW ?_
 refine wX zAX follows ?_
 refine wC hF [.io, .sh] zcl (fun z1 hF => ?_)
 refine wC hF [.io, .sh] zcl (fun z2 hF => ?_)
 refine wK [0, 4] ?_
 exact wm hΦ hF
@[go_sem] def zyg : List DE := [d2 0 [7] 7 7, d1 1 [8] 8, d2 2 [52] 8 52, d2 3 [9] 9 9, d0 4 [10], d2 5 [2, 51] 2 2, d0 6 [53], d2 7 [4, 54] 4 4, d0 8 [55]]
def zdg (a0 : List Int) : Option (Group × List Int × Cipher × List Partial) :=
 (zbE a0 0 0).bind fun z1 =>
 (zcp z1.2.1 z1.2.2.1 z1.2.2.2 z1.1).bind fun z2 =>
 (zbR z2.2.1 z2.2.2.1 z2.2.2.2 z1.1 z2.1).bind fun z3 =>
 (zah z3.2.2.1 z3.2.2.2.1 z3.2.2.2.2 24).bind fun z4 =>
 ((if (z4.1 == 0) = true then (
 (zbS z4.2.1 z4.2.2.1 z4.2.2.2 z1.1 8).bind fun z9 =>
 some (z2.1.Qualified, z2.1.Key, z9.1, z2.1.Shares, z3.1.A, z3.1.B, z3.2.1)) else (
 if (z4.1 == 1) = true then (
 (zbn z4.2.1 z4.2.2.1 z4.2.2.2 z1.1).bind fun z11 =>
 some (z2.1.Qualified, z2.1.Key, z2.1.Commits, z2.1.Shares, z11.1.A, z11.1.B, z3.2.1)) else (
 if (z4.1 == 2) = true then (
 zbc (σ := (List Int × Int × Int) × List Partial) (fun s20 =>
 (zah s20.1.1 s20.1.2.1 s20.1.2.2 2).bind fun z25 =>
 if decide ((s20.2.length : Int) < (i64.wrap (14 + z25.1))) = true then (
 gd ((s20.2.length + 1) * 88 ≤ 140737488355328 ∧ s20.2.length + 1 ≤ 4611686018427387904) <|
 some (.go ((z25.2.1, z25.2.2.1, z25.2.2.2), s20.2 ++ [(Partial.mk 1 0 (Proof.mk [] [] []))]))) else (
 some (.out (z2.1.Qualified, z2.1.Key, z2.1.Commits, z2.1.Shares, z3.1.A, z3.1.B, s20.2)))) ((z4.2.1, z4.2.2.1, z4.2.2.2), z3.2.1)) else (
 some (z2.1.Qualified, z2.1.Key, z2.1.Commits, z2.1.Shares, z3.1.A, z3.1.B, z3.2.1)))) : Option ((List Int × Int × List Int × List Int × Int × Int × List Partial))).bind fun x7 =>
 some (z1.1, x7.2.2.1, (Cipher.mk x7.2.2.2.2.1 x7.2.2.2.2.2.1), x7.2.2.2.2.2.2))
theorem ziw : ∀ {a0} {r}, zdg a0 = some r → PCalls Tryz.prog 47 [(.sh, vA a0)] (Eo (.tup [vE r.1, vC r.2.1, vQ r.2.2.1, vW r.2.2.2]) [.junk]) := by
 intro a0 r hr
 apply pF 56 [] [48] [13] [.cell 2 24, .tmp 3, .cell 4 36, .tmp 5] hr zE1 Tryz.func47
 intro Φ hΦ hF g
 unfold zdg at hF
 iterate 2 refine wW ?_
 refine wC hF [.io] zfI (fun z1 hF => ?_)
 refine wK [2, 4, 6, 7] ?_
 refine wC hF [.io, .sh] ziu (fun z2 hF => ?_)
 refine wW ?_
 refine wC hF [.io, .sh, .sh] zhE (fun z3 hF => ?_)
 refine wK [2, 4, 6, 7, 8, 9, 10] ?_
 refine wC hF [.io, .sh] zaj (fun z4 hF => ?_)
 refine wW ?_
 refine wJ hF (fun x7 => [(2, .bl [.int .i64 0, .int .i64 0, .int .i64 0]), (4, .bl [.int .i64 0, .int .i64 0]), (7, .bl [.int .i64 z1.1.P, .int .i64 z1.1.Q, .int .i64 z1.1.G]), (8, .bl [vC x7.1, .int .i64 x7.2.1, vC x7.2.2.1, vC x7.2.2.2.1]), (9, .bl [.int .i64 x7.2.2.2.2.1, .int .i64 x7.2.2.2.2.2.1]), (10, .v (vW x7.2.2.2.2.2.2))]) (fun x7 hF => ?_) fun _ hj5 hF => ?_
 ·refine wX zyg follows ?_
  refine wK [2, 3, 4, 5] ?_
  exact wm hΦ hF
 refine wB ?_
 refine wW ?_
 refine wI hF (fun h8 hF => ?_) (fun h8 hF => ?_)
 ·refine wC hF [.io, .sh, .sh] zhy (fun z9 hF => ?_)
  try simp [go_sem, g]
  refine zd0 8 2 (by simp [go_sem, g]; rfl) rfl (by simp [go_sem]) ?_
  exact wT (hj5 _) (zaa hF)
 refine wW ?_
 refine wI hF (fun h10 hF => ?_) (fun h10 hF => ?_)
 ·refine wC hF [.io, .sh] zeW (fun z11 hF => ?_)
  exact wT (hj5 _) (zaa hF)
 refine wW ?_
 refine wI hF (fun h12 hF => ?_) (fun h12 hF => ?_)
 ·refine wB ?_
  obtain ⟨b27, hb28, hψ24⟩ := hF
  refine pL hb28 (fun s20 => [(2, .bl [.int .i64 0, .int .i64 0, .int .i64 0]), (4, .bl [.int .i64 0, .int .i64 0]), (6, .v (vB s20.1.1 s20.1.2.1 s20.1.2.2)), (7, .bl [.int .i64 z1.1.P, .int .i64 z1.1.Q, .int .i64 z1.1.G]), (8, .bl [vC z2.1.Qualified, .int .i64 z2.1.Key, vC z2.1.Commits, vC z2.1.Shares]), (9, .bl [.int .i64 z3.1.A, .int .i64 z3.1.B]), (10, .v (vW s20.2))]) (fun s20 _ _ ho22 hg23 hF => ?_)
  try simp [go_sem, g]
  try intros
  refine wC hF [.io, .sh] zaj (fun z25 hF => ?_)
  refine wK [2, 4, 6, 7, 8, 9, 10, 46] ?_
  refine wI hF (fun h26 hF => ?_) (fun h26 hF => ?_)
  ·refine wW ?_
   refine wB ?_
   obtain ⟨g, hF⟩ := Rg g hF
   exact wT (hg23 _) (zaa hF)
  cases ho22 _ (zaa hF)
  exact wT (hj5 _) hψ24
 exact wT (hj5 _) (zaa hF)
def zbP (a0 : List Int) : Option (Group × List Int × Cipher × List Partial) :=
 (zdg a0).bind fun z1 =>
 some (z1.1, z1.2.1, z1.2.2.1, z1.2.2.2)
theorem zhB : ∀ {a0} {r}, zbP a0 = some r → PCalls Tryz.prog 14 [(.sh, vA a0)] (Eo (.tup [vE r.1, vC r.2.1, vQ r.2.2.1, vW r.2.2.2]) [.junk]) := by
 intro a0 r hr
 apply pF 12 [] [] [] [.cell 2 24, .tmp 3, .cell 4 36, .tmp 5] hr zCJ Tryz.func14
 intro Φ hΦ hF g
 unfold zbP at hF
 refine wW ?_
 refine wC hF [.sh] ziw (fun z1 hF => ?_)
 refine wK [2, 3, 4, 5] ?_
 exact wm hΦ hF
def zbs (a0 : Int) (a1 : Int) (a2 : Int) : Option Bool :=
 ((if decide (a1 ≤ a0) = true then (
 some (decide (a0 ≤ a2))) else (
 some false) : Option Bool).bind fun x3 =>
 some x3)
theorem zcI : ∀ {a0} {a1} {a2} {r}, zbs a0 a1 a2 = some r → PCalls Tryz.prog 113 [(.sh, .int .i64 a0), (.sh, .int .i64 a1), (.sh, .int .i64 a2)] (Eo (.bool r) [.junk, .junk, .junk]) := by
 intro a0 a1 a2 r hr
 apply pF 15 [] [] [] [.tmp 6] hr zzk Tryz.func113
 intro Φ hΦ hF g
 unfold zbs at hF
 refine wW ?_
 refine wJ hF (fun x3 => [(6, .v (.bool x3))]) (fun x3 hF => ?_) fun _ hj1 hF => ?_
 ·exact wm hΦ hF
 refine wG hF (fun h4 hF => ?_) fun h4 hF => ?_
 ·exact wV h4 (hj1 _) (zaa hF)
 exact wV h4 (hj1 _) (zaa hF)
def zd2 (a0 : Int) : Option Bool :=
 (zbs a0 2 2000000000).bind fun z1 =>
 some z1
theorem zlq : ∀ {a0} {r}, zd2 a0 = some r → PCalls Tryz.prog 165 [(.sh, .int .i64 a0)] (Eo (.bool r) [.junk]) := by
 intro a0 r hr
 apply pF 5 [] [] [] [.tmp 2] hr zBw Tryz.func165
 intro Φ hΦ hF g
 unfold zd2 at hF
 refine wW ?_
 refine wC hF [.sh, .sh, .sh] zcI (fun z1 hF => ?_)
 exact wl hΦ hF
def zd1 (a0 : Int) : Option Bool :=
 (((zd2 a0).bind fun z4 =>
 if (!z4) = true then (
 some true) else (
 if ((a0.tmod 2) == 0) = true then (
 some (a0 != 2)) else (
 some false)) : Option Bool).bind fun x3 =>
 if x3 = true then (
 some false) else (
 ((zbc (σ := Int) (fun s11 =>
 if decide ((i64.wrap (s11 * s11)) ≤ a0) = true then (
 gd (s11 ≠ 0) <|
 if ((a0.tmod s11) == 0) = true then (
 some (.out (.inr false))) else (
 some (.go (i64.wrap (s11 + 2))))) else (
 some (.out (.inl ())))) 3 : Option (Unit ⊕ Bool)).bind (Sum.elim (fun x10 =>
 some true) some))))
theorem zjh : ∀ {a0} {r}, zd1 a0 = some r → PCalls Tryz.prog 119 [(.sh, .int .i64 a0)] (Eo (.bool r) [.junk]) := by
 intro a0 r hr
 apply pF 27 [] [] [] [.tmp 2] hr zz9 Tryz.func119
 intro Φ hΦ hF g
 unfold zd1 at hF
 refine wW ?_
 refine wJ hF (fun x3 => [(0, .v (.int .i64 a0)), (15, .v (.bool x3))]) (fun x3 hF => ?_) fun _ hj1 hF => ?_
 ·refine wI hF (fun h7 hF => ?_) (fun h7 hF => ?_)
  ·exact wl hΦ hF
  iterate 2 refine wW ?_
  refine wS hF (fun x10 => []) (fun x10 hF => ?_) fun _ hj8 hr9 hF => ?_
  ·exact wl hΦ hF
  refine wB ?_
  obtain ⟨b18, hb19, hψ15⟩ := hF
  refine pL hb19 (fun s11 => [(0, .v (.int .i64 a0)), (3, .v (.int .i64 s11))]) (fun s11 _ _ ho13 hg14 hF => ?_)
  refine wW ?_
  refine wI hF (fun h16 hF => ?_) (fun h16 hF => ?_)
  ·refine wW ?_
   refine wB ?_
   obtain ⟨g, hF⟩ := Rz g hF
   refine wK [0, 3, 26] ?_
   refine wI hF (fun h17 hF => ?_) (fun h17 hF => ?_)
   ·cases ho13 _ (zaa hF)
    cases hΦ _ (hr9 _ hψ15)
    refine wW ?_
    try simp [go_sem, g]
   refine wW ?_
   exact wT (hg14 _) (zaa hF)
  cases ho13 _ (zaa hF)
  exact wT (hj8 _) hψ15
 refine wC hF [.sh] zlq (fun z4 hF => ?_)
 refine wG hF (fun h5 hF => ?_) fun h5 hF => ?_
 ·exact wV h5 (hj1 _) (zaa hF)
 have g := Ld g 2
 try simp [go_sem, g, h5]
 refine wG hF (fun h6 hF => ?_) fun h6 hF => ?_
 ·try simp [go_sem, g, h6, h5]
  exact wT (hj1 _) (zaa hF)
 try simp [go_sem, g, h6, h5]
 exact wT (hj1 _) (zaa hF)
def zdB (a0 : Int) (a1 : Int) (a2 : Int) : Option Int :=
 gd (a2 ≠ 0) <|
 ((zbc (σ := Int × Int × Int) (fun s4 =>
 if decide (0 < s4.2.1) = true then (
 ((if ((i64.wrap ((BitVec.ofInt i64.bits s4.2.1 &&& BitVec.ofInt i64.bits 1).toNat)) == 1) = true then (
 gd (a2 ≠ 0) <|
 some ((i64.wrap (s4.2.2 * s4.1)).tmod a2)) else (
 some s4.2.2) : Option Int).bind fun x12 =>
 gd (a2 ≠ 0) <|
 some (.go ((i64.wrap (s4.1 * s4.1)).tmod a2, s4.2.1.fdiv 2, x12)))) else (
 some (.out s4.2.2))) (a0, a1, (1 : Int).tmod a2) : Option Int).bind fun x3 =>
 some x3)
theorem zig : ∀ {a0} {a1} {a2} {r}, zdB a0 a1 a2 = some r → PCalls Tryz.prog 120 [(.sh, .int .i64 a0), (.sh, .int .i64 a1), (.sh, .int .i64 a2)] (Eo (.int .i64 r) [.junk, .junk, .junk]) := by
 intro a0 a1 a2 r hr
 apply pF 28 [] [] [] [.tmp 6] hr zAq Tryz.func120
 intro Φ hΦ hF g
 unfold zdB at hF
 obtain ⟨g, hF⟩ := Rz g hF
 iterate 2 refine wW ?_
 refine wJ hF (fun x3 => [(7, .v (.int .i64 x3))]) (fun x3 hF => ?_) fun _ hj1 hF => ?_
 ·exact wl hΦ hF
 refine wB ?_
 obtain ⟨b14, hb15, hψ8⟩ := hF
 refine pL hb15 (fun s4 => [(0, .v (.int .i64 s4.1)), (1, .v (.int .i64 s4.2.1)), (2, .v (.int .i64 a2)), (7, .v (.int .i64 s4.2.2))]) (fun s4 _ _ ho6 hg7 hF => ?_)
 refine wW ?_
 refine wI hF (fun h9 hF => ?_) (fun h9 hF => ?_)
 ·refine wW ?_
  refine wB ?_
  refine wW ?_
  refine wJ hF (fun x12 => [(0, .v (.int .i64 s4.1)), (1, .v (.int .i64 s4.2.1)), (2, .v (.int .i64 a2)), (7, .v (.int .i64 x12))]) (fun x12 hF => ?_) fun _ hj10 hF => ?_
  ·obtain ⟨g, hF⟩ := Rz g hF
   refine wK [0, 1, 2, 7] ?_
   have g := Ls g 1
   exact wT (hg7 _) (zaa hF)
  refine wI hF (fun h13 hF => ?_) (fun h13 hF => ?_)
  ·obtain ⟨g, hF⟩ := Rz g hF
   exact wT (hj10 _) (zaa hF)
  exact wT (hj10 _) (zaa hF)
 cases ho6 _ (zaa hF)
 exact wT (hj1 _) hψ8
def zbZ (a0 : Group) : Option Bool :=
 (((zbs a0.P 3 2000000000).bind fun z4 =>
 if z4 = true then (
 (zbs a0.Q 2 (i64.wrap (a0.P - 1))).bind fun z6 =>
 if z6 = true then (
 gd (a0.Q ≠ 0) <|
 if (((i64.wrap (a0.P - 1)).tmod a0.Q) == 0) = true then (
 (zbs a0.G 2 (i64.wrap (a0.P - 1))).bind fun z9 =>
 if z9 = true then (
 (zd1 a0.P).bind fun z11 =>
 if z11 = true then (
 (zd1 a0.Q).bind fun z13 =>
 if z13 = true then (
 (zdB a0.G a0.Q a0.P).bind fun z15 =>
 some (z15 == 1)) else (
 some false)) else (
 some false)) else (
 some false)) else (
 some false)) else (
 some false)) else (
 some false) : Option Bool).bind fun x3 =>
 some x3)
theorem zfj : ∀ {a0} {r}, zbZ a0 = some r → PCalls Tryz.prog 66 [(.sh, vE a0)] (Eo (.bool r) [.junk]) := by
 intro a0 r hr
 apply pF 51 [] [] [] [.tmp 2] hr zEL Tryz.func66
 intro Φ hΦ hF g
 unfold zbZ at hF
 refine wW ?_
 refine wJ hF (fun x3 => [(2, .v (.bool x3))]) (fun x3 hF => ?_) fun _ hj1 hF => ?_
 ·exact wm hΦ hF
 refine wC hF [.sh, .sh, .sh] zcI (fun z4 hF => ?_)
 refine wG hF (fun h5 hF => ?_) fun h5 hF => ?_
 ·try simp [go_sem, g, h5]
  refine wC hF [.sh, .sh, .sh] zcI (fun z6 hF => ?_)
  try simp [go_sem, g, h5]
  refine wG hF (fun h7 hF => ?_) fun h7 hF => ?_
  ·obtain ⟨g, hF⟩ := Rz g hF
   try simp [go_sem, g, h7]
   refine wG hF (fun h8 hF => ?_) fun h8 hF => ?_
   ·try simp [go_sem, g, h8]
    refine wC hF [.sh, .sh, .sh] zcI (fun z9 hF => ?_)
    try simp [go_sem, g, h8]
    refine wG hF (fun h10 hF => ?_) fun h10 hF => ?_
    ·try simp [go_sem, g, h10]
     refine wC hF [.sh] zjh (fun z11 hF => ?_)
     try simp [go_sem, g, h10]
     refine wG hF (fun h12 hF => ?_) fun h12 hF => ?_
     ·try simp [go_sem, g, h12]
      refine wC hF [.sh] zjh (fun z13 hF => ?_)
      try simp [go_sem, g, h12]
      refine wG hF (fun h14 hF => ?_) fun h14 hF => ?_
      ·try simp [go_sem, g, h14]
       refine wC hF [.sh, .sh, .sh] zig (fun z15 hF => ?_)
       exact wV h14 (hj1 _) (zaa hF)
      exact wV h14 (hj1 _) (zaa hF)
     exact wV h12 (hj1 _) (zaa hF)
    exact wV h10 (hj1 _) (zaa hF)
   exact wV h8 (hj1 _) (zaa hF)
  exact wV h7 (hj1 _) (zaa hF)
 exact wV h5 (hj1 _) (zaa hF)
def zdm (a0 : Group) : Option Bool :=
 ((if decide (7 < a0.Q) = true then (
 (zbZ a0).bind fun z5 =>
 some z5) else (
 some false) : Option Bool).bind fun x3 =>
 some x3)
theorem zic : ∀ {a0} {r}, zdm a0 = some r → PCalls Tryz.prog 56 [(.sh, vE a0)] (Eo (.bool r) [.junk]) := by
 intro a0 r hr
 apply pF 10 [] [] [] [.tmp 2] hr zDx Tryz.func56
 intro Φ hΦ hF g
 unfold zdm at hF
 refine wW ?_
 refine wJ hF (fun x3 => [(2, .v (.bool x3))]) (fun x3 hF => ?_) fun _ hj1 hF => ?_
 ·exact wm hΦ hF
 refine wG hF (fun h4 hF => ?_) fun h4 hF => ?_
 ·try simp [go_sem, g, h4]
  refine wC hF [.sh] zfj (fun z5 hF => ?_)
  exact wV h4 (hj1 _) (zaa hF)
 exact wV h4 (hj1 _) (zaa hF)
def zbO (a0 : Group) (a1 : Int) : Option Bool :=
 (((zbs a1 1 (i64.wrap (a0.P - 1))).bind fun z4 =>
 if z4 = true then (
 (zdB a1 a0.Q a0.P).bind fun z6 =>
 some (z6 == 1)) else (
 some false) : Option Bool).bind fun x3 =>
 some x3)
theorem zd9 : ∀ {a0} {a1} {r}, zbO a0 a1 = some r → PCalls Tryz.prog 67 [(.sh, vE a0), (.sh, .int .i64 a1)] (Eo (.bool r) [.junk, .junk]) := by
 intro a0 a1 r hr
 apply pF 19 [] [] [] [.tmp 4] hr zE5 Tryz.func67
 intro Φ hΦ hF g
 unfold zbO at hF
 refine wW ?_
 refine wJ hF (fun x3 => [(4, .v (.bool x3))]) (fun x3 hF => ?_) fun _ hj1 hF => ?_
 ·exact wm hΦ hF
 refine wC hF [.sh, .sh, .sh] zcI (fun z4 hF => ?_)
 refine wG hF (fun h5 hF => ?_) fun h5 hF => ?_
 ·try simp [go_sem, g, h5]
  refine wC hF [.sh, .sh, .sh] zig (fun z6 hF => ?_)
  exact wV h5 (hj1 _) (zaa hF)
 exact wV h5 (hj1 _) (zaa hF)
def zbo (a0 : Int) (a1c0x0 : Group) : Option Bool :=
 (zbO a1c0x0 a0).bind fun z1 =>
 some (!z1)
theorem zgC : ∀ {a0} {a1c0x0} {r}, zbo a0 a1c0x0 = some r → PCalls Tryz.prog 158 [(.sh, .int .i64 a0), (.sh, .fp [.func (.func 67) [vE a1c0x0] []])] (Eo (.bool r) [.junk, .junk]) := by
 intro a0 a1c0x0 r hr
 apply pF 8 [] [] [] [.tmp 3] hr zsl Tryz.func158
 intro Φ hΦ hF g
 unfold zbo at hF
 refine wW ?_
 refine wC hF [.sh] zd9 (fun z1 hF => ?_)
 exact wl hΦ hF
def zaK (a0 : List Int) (a1u0c0x0 : Group) : Option Int :=
 ((zas (σ := Unit) (fun i5 s4 =>
 (ix a0 i5).bind fun x11 =>
 (zbo x11 a1u0c0x0).bind fun z12 =>
 if z12 = true then (
 some (.out (.inr i5))) else (
 some (.go ()))) (fun s4 => .inl ()) (a0.length) 0 () : Option (Unit ⊕ Int)).bind (Sum.elim (fun x3 =>
 some (-1)) some))
theorem zdo : ∀ {a0} {a1u0c0x0} {r}, zaK a0 a1u0c0x0 = some r → PCalls Tryz.prog 179 [(.sh, vC a0), (.sh, .func (.func 158) [] [.fp [.func (.func 67) [vE a1u0c0x0] []]])] (Eo (.int .i64 r) [.junk, .junk]) := by
 intro a0 a1u0c0x0 r hr
 apply pF 19 [] [] [] [.tmp 4] hr zrA Tryz.func179
 intro Φ hΦ hF g
 unfold zaK at hF
 iterate 2 (try simp [go_sem, g]; try intros; refine zav ?_)
 refine wS hF (fun x3 => []) (fun x3 hF => ?_) fun _ hj1 hr2 hF => ?_
 ·exact wl hΦ hF
 refine wB ?_
 obtain ⟨b14, hb15, hψ8⟩ := hF
 refine pR hb15 (fun i5 s4 => [(0, .v (vC a0)), (1, .v (.func (.func 158) [] [.fp [.func (.func 67) [vE a1u0c0x0] []]])), (7, .v (.int .i64 (a0.length : Int))), (8, .v (.int .i64 i5))]) (fun s4 _ hN16 => ?_) (fun i5 s4 _ _ hi9 hi10 ho6 hg7 hF => ?_)
 ·exact wn hN16 (hj1 _) hψ8
 refine wW ?_
 refine wu hi9 hi10 ?_
 refine wW ?_
 refine wB ?_
 obtain ⟨x11, g, hF⟩ := Rx g hF
 refine wW ?_
 refine wC hF [.sh] zgC (fun z12 hF => ?_)
 refine wK [0, 1, 5, 7, 8, 16] ?_
 refine wI hF (fun h13 hF => ?_) (fun h13 hF => ?_)
 ·cases ho6 _ (zaa hF)
  cases hΦ _ (hr2 _ hψ8)
  refine wW ?_
  try simp [go_sem, g]
 refine wW ?_
 exact wi hi9 hi10 (hg7 _) (zaa hF)
def zaG (a0 : List Int) (a1u0c0x0 : Group) : Option Bool :=
 (zaK a0 a1u0c0x0).bind fun z1 =>
 some (decide (0 ≤ z1))
theorem zc9 : ∀ {a0} {a1u0c0x0} {r}, zaG a0 a1u0c0x0 = some r → PCalls Tryz.prog 157 [(.sh, vC a0), (.sh, .func (.func 158) [] [.fp [.func (.func 67) [vE a1u0c0x0] []]])] (Eo (.bool r) [.junk, .junk]) := by
 intro a0 a1u0c0x0 r hr
 apply pF 9 [] [] [] [.tmp 4] hr zr0 Tryz.func157
 intro Φ hΦ hF g
 unfold zaG at hF
 refine wW ?_
 refine wC hF [.sh, .sh] zdo (fun z1 hF => ?_)
 exact wl hΦ hF
def zcb (a0 : List Int) (a1x0 : Group) : Option Bool :=
 (zaG a0 a1x0).bind fun z1 =>
 some (!z1)
theorem zgY : ∀ {a0} {a1x0} {r}, zcb a0 a1x0 = some r → PCalls Tryz.prog 114 [(.sh, vC a0), (.sh, .func (.func 67) [vE a1x0] [])] (Eo (.bool r) [.junk, .junk]) := by
 intro a0 a1x0 r hr
 apply pF 9 [] [] [1000000] [.tmp 4] hr zrC Tryz.func114
 intro Φ hΦ hF g
 unfold zcb at hF
 refine wW ?_
 refine wC hF [.sh, .sh] zc9 (fun z1 hF => ?_)
 exact wl hΦ hF
def zcz (a0 : Group) (a1 : List Int) : Option Bool :=
 (zcb a1 a0).bind fun z1 =>
 some z1
theorem zg0 : ∀ {a0} {a1} {r}, zcz a0 a1 = some r → PCalls Tryz.prog 92 [(.sh, vE a0), (.sh, vC a1)] (Eo (.bool r) [.junk, .junk]) := by
 intro a0 a1 r hr
 apply pF 9 [] [] [] [.tmp 4] hr zFj Tryz.func92
 intro Φ hΦ hF g
 unfold zcz at hF
 refine wW ?_
 refine wC hF [.sh, .sh] zgY (fun z1 hF => ?_)
 exact wl hΦ hF
def zcm (a0 : Group) (a1 : List Int) : Option Bool :=
 (((zbs (a1.length : Int) 1 7).bind fun z4 =>
 if z4 = true then (
 (zcz a0 a1).bind fun z6 =>
 some z6) else (
 some false) : Option Bool).bind fun x3 =>
 some x3)
theorem zit : ∀ {a0} {a1} {r}, zcm a0 a1 = some r → PCalls Tryz.prog 122 [(.sh, vE a0), (.sh, vC a1)] (Eo (.bool r) [.junk, .junk]) := by
 intro a0 a1 r hr
 apply pF 13 [] [] [] [.tmp 4] hr zAf Tryz.func122
 intro Φ hΦ hF g
 unfold zcm at hF
 refine wW ?_
 refine wJ hF (fun x3 => [(4, .v (.bool x3))]) (fun x3 hF => ?_) fun _ hj1 hF => ?_
 ·exact wm hΦ hF
 try simp [go_sem, g]
 try intros
 refine wC hF [.sh, .sh, .sh] zcI (fun z4 hF => ?_)
 refine wG hF (fun h5 hF => ?_) fun h5 hF => ?_
 ·try simp [go_sem, g, h5]
  refine wC hF [.sh, .sh] zg0 (fun z6 hF => ?_)
  exact wV h5 (hj1 _) (zaa hF)
 exact wV h5 (hj1 _) (zaa hF)
def zbx (a0 : Group) (a1 : Cipher) : Option Bool :=
 (((zbO a0 a1.A).bind fun z4 =>
 if z4 = true then (
 (zbO a0 a1.B).bind fun z6 =>
 some z6) else (
 some false) : Option Bool).bind fun x3 =>
 some x3)
theorem zez : ∀ {a0} {a1} {r}, zbx a0 a1 = some r → PCalls Tryz.prog 57 [(.sh, vE a0), (.sh, vQ a1)] (Eo (.bool r) [.junk, .junk]) := by
 intro a0 a1 r hr
 apply pF 15 [] [] [] [.tmp 4] hr zCG Tryz.func57
 intro Φ hΦ hF g
 unfold zbx at hF
 refine wW ?_
 refine wJ hF (fun x3 => [(4, .v (.bool x3))]) (fun x3 hF => ?_) fun _ hj1 hF => ?_
 ·exact wm hΦ hF
 refine wC hF [.sh, .sh] zd9 (fun z4 hF => ?_)
 refine wG hF (fun h5 hF => ?_) fun h5 hF => ?_
 ·try simp [go_sem, g, h5]
  refine wC hF [.sh, .sh] zd9 (fun z6 hF => ?_)
  exact wV h5 (hj1 _) (zaa hF)
 exact wV h5 (hj1 _) (zaa hF)
def zaF (a0 : Group) (a1 : List Int) (a2 : Cipher) : Option Bool :=
 (((zdm a0).bind fun z4 =>
 if z4 = true then (
 (zcm a0 a1).bind fun z6 =>
 if z6 = true then (
 (zbx a0 a2).bind fun z8 =>
 some z8) else (
 some false)) else (
 some false) : Option Bool).bind fun x3 =>
 some x3)
theorem zfk : ∀ {a0} {a1} {a2} {r}, zaF a0 a1 a2 = some r → PCalls Tryz.prog 70 [(.sh, vE a0), (.sh, vC a1), (.sh, vQ a2)] (Eo (.bool r) [.junk, .junk, .junk]) := by
 intro a0 a1 a2 r hr
 apply pF 19 [] [] [] [.tmp 6] hr zDu Tryz.func70
 intro Φ hΦ hF g
 unfold zaF at hF
 refine wW ?_
 refine wJ hF (fun x3 => [(6, .v (.bool x3))]) (fun x3 hF => ?_) fun _ hj1 hF => ?_
 ·exact wm hΦ hF
 refine wC hF [.sh] zic (fun z4 hF => ?_)
 refine wG hF (fun h5 hF => ?_) fun h5 hF => ?_
 ·try simp [go_sem, g, h5]
  refine wC hF [.sh, .sh] zit (fun z6 hF => ?_)
  try simp [go_sem, g, h5]
  refine wG hF (fun h7 hF => ?_) fun h7 hF => ?_
  ·try simp [go_sem, g, h7]
   refine wC hF [.sh, .sh] zez (fun z8 hF => ?_)
   exact wV h7 (hj1 _) (zaa hF)
  exact wV h7 (hj1 _) (zaa hF)
 exact wV h5 (hj1 _) (zaa hF)
def zbV (a0 : List Int) (a1 : Int) : Option Int :=
 ((zas (σ := Unit) (fun i5 s4 =>
 (ix a0 i5).bind fun x11 =>
 if (a1 == x11) = true then (
 some (.out (.inr i5))) else (
 some (.go ()))) (fun s4 => .inl ()) (a0.length) 0 () : Option (Unit ⊕ Int)).bind (Sum.elim (fun x3 =>
 some (-1)) some))
theorem zi4 : ∀ {a0} {a1} {r}, zbV a0 a1 = some r → PCalls Tryz.prog 94 [(.sh, vC a0), (.sh, .int .i64 a1)] (Eo (.int .i64 r) [.junk, .junk]) := by
 intro a0 a1 r hr
 apply pF 19 [] [] [] [.tmp 4] hr zCX Tryz.func94
 intro Φ hΦ hF g
 unfold zbV at hF
 iterate 2 (try simp [go_sem, g]; try intros; refine zav ?_)
 refine wS hF (fun x3 => []) (fun x3 hF => ?_) fun _ hj1 hr2 hF => ?_
 ·exact wl hΦ hF
 refine wB ?_
 obtain ⟨b13, hb14, hψ8⟩ := hF
 refine pR hb14 (fun i5 s4 => [(0, .v (vC a0)), (1, .v (.int .i64 a1)), (7, .v (.int .i64 (a0.length : Int))), (8, .v (.int .i64 i5))]) (fun s4 _ hN15 => ?_) (fun i5 s4 _ _ hi9 hi10 ho6 hg7 hF => ?_)
 ·exact wn hN15 (hj1 _) hψ8
 refine wW ?_
 refine wu hi9 hi10 ?_
 refine wW ?_
 refine wB ?_
 obtain ⟨x11, g, hF⟩ := Rx g hF
 refine wW ?_
 refine wK [0, 1, 5, 7, 8, 16] ?_
 refine wI hF (fun h12 hF => ?_) (fun h12 hF => ?_)
 ·cases ho6 _ (zaa hF)
  cases hΦ _ (hr2 _ hψ8)
  refine wW ?_
  try simp [go_sem, g]
 refine wW ?_
 exact wi hi9 hi10 (hg7 _) (zaa hF)
def zbB (a0 : List Int) (a1 : Int) : Option Bool :=
 (zbV a0 a1).bind fun z1 =>
 some (decide (0 ≤ z1))
theorem zhN : ∀ {a0} {a1} {r}, zbB a0 a1 = some r → PCalls Tryz.prog 40 [(.sh, vC a0), (.sh, .int .i64 a1)] (Eo (.bool r) [.junk, .junk]) := by
 intro a0 a1 r hr
 apply pF 9 [] [] [] [.tmp 4] hr zEP Tryz.func40
 intro Φ hΦ hF g
 unfold zbB at hF
 refine wW ?_
 refine wC hF [.sh, .sh] zi4 (fun z1 hF => ?_)
 exact wl hΦ hF
def zcO (a0 : Int) : Option Bool :=
 (zbs a0 1 7).bind fun z1 =>
 some z1
theorem zgj : ∀ {a0} {r}, zcO a0 = some r → PCalls Tryz.prog 58 [(.sh, .int .i64 a0)] (Eo (.bool r) [.junk]) := by
 intro a0 r hr
 apply pF 5 [] [] [] [.tmp 2] hr zEd Tryz.func58
 intro Φ hΦ hF g
 unfold zcO at hF
 refine wW ?_
 refine wC hF [.sh, .sh, .sh] zcI (fun z1 hF => ?_)
 exact wl hΦ hF
def zcK (a0 : Int) (a1 : Int) : Option Int :=
 gd (a1 ≠ 0) <|
 gd (a1 ≠ 0) <|
 some ((i64.wrap ((a0.tmod a1) + a1)).tmod a1)
theorem zhS : ∀ {a0} {a1} {r}, zcK a0 a1 = some r → PCalls Tryz.prog 121 [(.sh, .int .i64 a0), (.sh, .int .i64 a1)] (Eo (.int .i64 r) [.junk, .junk]) := by
 intro a0 a1 r hr
 apply pF 12 [] [] [] [.tmp 4] hr zzh Tryz.func121
 intro Φ hΦ hF g
 unfold zcK at hF
 obtain ⟨g, hF⟩ := Rz g hF
 obtain ⟨g, hF⟩ := Rz g hF
 cases hΦ _ (zaa hF)
 iterate 2 refine wW ?_
 try simp [go_sem, g]
@[go_sem] def zA5 : List DE := [d0 0 [1], d0 1 [2], d1 2 [3] 3, d2 3 [9] 3 9, d1 5 [3] 3, d2 6 [12] 3 12, d3 4 [8, 10], d3 7 [7, 11, 13], d0 8 [14]]
def zba (a0 : Group) (a1 : Int) (a2 : Int) : Option Int :=
 (zcK a2 a0.Q).bind fun z1 =>
 (zdB a1 z1 a0.P).bind fun z2 =>
 some z2
theorem zcL : ∀ {a0} {a1} {a2} {r}, zba a0 a1 a2 = some r → PCalls Tryz.prog 69 [(.sh, vE a0), (.sh, .int .i64 a1), (.sh, .int .i64 a2)] (Eo (.int .i64 r) [.junk, .junk, .junk]) := by
 intro a0 a1 a2 r hr
 apply pF 15 [] [] [] [.tmp 6] hr zCI Tryz.func69
 intro Φ hΦ hF g
 unfold zba at hF
 refine wW ?_
 refine wX zA5 follows ?_
 refine wC hF [.sh, .sh] zhS (fun z1 hF => ?_)
 refine wC hF [.sh, .sh, .sh] zig (fun z2 hF => ?_)
 refine wK [6] ?_
 exact wm hΦ hF
def zbk (a0 : Group) (a1 : List Int) : Option Int :=
 ((zas (σ := Int) (fun i5 s4 =>
 (ix a1 i5).bind fun x11 =>
 gd (a0.P ≠ 0) <|
 some (.go ((i64.wrap (s4 * x11)).tmod a0.P))) (fun s4 => s4) (a1.length) 0 1 : Option Int).bind fun x3 =>
 some x3)
theorem zeb : ∀ {a0} {a1} {r}, zbk a0 a1 = some r → PCalls Tryz.prog 48 [(.sh, vE a0), (.sh, vC a1)] (Eo (.int .i64 r) [.junk, .junk]) := by
 intro a0 a1 r hr
 apply pF 22 [] [] [] [.tmp 4] hr zEB Tryz.func48
 intro Φ hΦ hF g
 unfold zbk at hF
 iterate 3 (try simp [go_sem, g]; try intros; refine zav ?_)
 refine wJ hF (fun x3 => [(5, .v (.int .i64 x3))]) (fun x3 hF => ?_) fun _ hj1 hF => ?_
 ·exact wl hΦ hF
 refine wB ?_
 obtain ⟨b12, hb13, hψ8⟩ := hF
 refine pR hb13 (fun i5 s4 => [(2, .bl [.int .i64 a0.P, .int .i64 a0.Q, .int .i64 a0.G]), (5, .v (.int .i64 s4)), (8, .v (vC a1)), (9, .v (.int .i64 (a1.length : Int))), (10, .v (.int .i64 i5))]) (fun s4 _ hN14 => ?_) (fun i5 s4 _ _ hi9 hi10 ho6 hg7 hF => ?_)
 ·exact wn hN14 (hj1 _) hψ8
 refine wW ?_
 refine wu hi9 hi10 ?_
 refine wW ?_
 refine wB ?_
 obtain ⟨x11, g, hF⟩ := Rx g hF
 refine wK [2, 5, 7, 8, 9, 10] ?_
 obtain ⟨g, hF⟩ := Rz g hF
 refine wW ?_
 exact wi hi9 hi10 (hg7 _) (zaa hF)
def zce (a0 : Group) (a1 : Int) : Option Int :=
 (zcK a1 a0.Q).bind fun z1 =>
 some z1
theorem zgp : ∀ {a0} {a1} {r}, zce a0 a1 = some r → PCalls Tryz.prog 161 [(.sh, vE a0), (.sh, .int .i64 a1)] (Eo (.int .i64 r) [.junk, .junk]) := by
 intro a0 a1 r hr
 apply pF 9 [] [] [] [.tmp 4] hr zBh Tryz.func161
 intro Φ hΦ hF g
 unfold zce at hF
 refine wW ?_
 refine wC hF [.sh, .sh] zhS (fun z1 hF => ?_)
 exact wl hΦ hF
@[go_sem] def zyh : List DE := [d2 0 [3] 3 3, d0 1 [7], d2 2 [3] 3 3, d0 3 [10], d0 4 [8], d2 8 [3] 3 3, d0 9 [8], d0 10 [2], d0 11 [26, 27], d3 5 [19, 20, 21], d0 6 [18, 22], ⟨7, [17, 23], [], none, true, true, true⟩, d3 12 [25, 28], d0 13 [24], d0 14 [29]]
def zb8 (a0 : Group) (a1 : List Int) (a2 : Int) : Option Int :=
 ((zas (σ := Int × Int) (fun i5 s4 =>
 (ix a1 i5).bind fun x11 =>
 (zba a0 x11 s4.2).bind fun z12 =>
 (zbk a0 [s4.1, z12]).bind fun z13 =>
 (zce a0 (i64.wrap (s4.2 * a2))).bind fun z14 =>
 some (.go (z13, z14))) (fun s4 => s4.1) (a1.length) 0 (1, 1) : Option Int).bind fun x3 =>
 some x3)
theorem zgr : ∀ {a0} {a1} {a2} {r}, zb8 a0 a1 a2 = some r → PCalls Tryz.prog 124 [(.sh, vE a0), (.sh, vC a1), (.sh, .int .i64 a2)] (Eo (.int .i64 r) [.junk, .junk, .junk]) := by
 intro a0 a1 a2 r hr
 apply pF 32 [] [] [] [.tmp 6] hr zBm Tryz.func124
 intro Φ hΦ hF g
 unfold zb8 at hF
 iterate 3 (try simp [go_sem, g]; try intros; refine zav ?_)
 refine wJ hF (fun x3 => [(7, .v (.int .i64 x3))]) (fun x3 hF => ?_) fun _ hj1 hF => ?_
 ·exact wl hΦ hF
 refine wB ?_
 obtain ⟨b15, hb16, hψ8⟩ := hF
 refine pR hb16 (fun i5 s4 => [(2, .v (.int .i64 a2)), (3, .bl [.int .i64 a0.P, .int .i64 a0.Q, .int .i64 a0.G]), (7, .v (.int .i64 s4.1)), (8, .v (.int .i64 s4.2)), (11, .v (vC a1)), (12, .v (.int .i64 (a1.length : Int))), (13, .v (.int .i64 i5))]) (fun s4 _ hN17 => ?_) (fun i5 s4 _ _ hi9 hi10 ho6 hg7 hF => ?_)
 ·exact wn hN17 (hj1 _) hψ8
 refine wW ?_
 refine wu hi9 hi10 ?_
 refine wW ?_
 refine wB ?_
 obtain ⟨x11, g, hF⟩ := Rx g hF
 refine wK [2, 3, 7, 8, 10, 11, 12, 13] ?_
 refine wX zyh follows ?_
 refine wC hF [.sh, .sh, .sh] zcL (fun z12 hF => ?_)
 refine wC hF [.sh, .sh] zeb (fun z13 hF => ?_)
 refine wC hF [.sh, .sh] zgp (fun z14 hF => ?_)
 refine wK [2, 3, 7, 8, 11, 12, 13] ?_
 exact wi hi9 hi10 (hg7 _) (zaa hF)
def zcd (a0 : Group) (a1 : Int) : Option Bool :=
 (zbs a1 0 (i64.wrap (a0.Q - 1))).bind fun z1 =>
 some z1
theorem zfH : ∀ {a0} {a1} {r}, zcd a0 a1 = some r → PCalls Tryz.prog 68 [(.sh, vE a0), (.sh, .int .i64 a1)] (Eo (.bool r) [.junk, .junk]) := by
 intro a0 a1 r hr
 apply pF 10 [] [] [] [.tmp 4] hr zCH Tryz.func68
 intro Φ hΦ hF g
 unfold zcd at hF
 refine wW ?_
 refine wC hF [.sh, .sh, .sh] zcI (fun z1 hF => ?_)
 exact wl hΦ hF
def zbe (a0 : Int) (a1c0x0 : Group) : Option Bool :=
 (zcd a1c0x0 a0).bind fun z1 =>
 some (!z1)
theorem zf5 : ∀ {a0} {a1c0x0} {r}, zbe a0 a1c0x0 = some r → PCalls Tryz.prog 158 [(.sh, .int .i64 a0), (.sh, .fp [.func (.func 68) [vE a1c0x0] []])] (Eo (.bool r) [.junk, .junk]) := by
 intro a0 a1c0x0 r hr
 apply pF 8 [] [] [] [.tmp 3] hr zsl Tryz.func158
 intro Φ hΦ hF g
 unfold zbe at hF
 refine wW ?_
 refine wC hF [.sh] zfH (fun z1 hF => ?_)
 exact wl hΦ hF
def zaW (a0 : List Int) (a1u0c0x0 : Group) : Option Int :=
 ((zas (σ := Unit) (fun i5 s4 =>
 (ix a0 i5).bind fun x11 =>
 (zbe x11 a1u0c0x0).bind fun z12 =>
 if z12 = true then (
 some (.out (.inr i5))) else (
 some (.go ()))) (fun s4 => .inl ()) (a0.length) 0 () : Option (Unit ⊕ Int)).bind (Sum.elim (fun x3 =>
 some (-1)) some))
theorem zde : ∀ {a0} {a1u0c0x0} {r}, zaW a0 a1u0c0x0 = some r → PCalls Tryz.prog 179 [(.sh, vC a0), (.sh, .func (.func 158) [] [.fp [.func (.func 68) [vE a1u0c0x0] []]])] (Eo (.int .i64 r) [.junk, .junk]) := by
 intro a0 a1u0c0x0 r hr
 apply pF 19 [] [] [] [.tmp 4] hr zrA Tryz.func179
 intro Φ hΦ hF g
 unfold zaW at hF
 iterate 2 (try simp [go_sem, g]; try intros; refine zav ?_)
 refine wS hF (fun x3 => []) (fun x3 hF => ?_) fun _ hj1 hr2 hF => ?_
 ·exact wl hΦ hF
 refine wB ?_
 obtain ⟨b14, hb15, hψ8⟩ := hF
 refine pR hb15 (fun i5 s4 => [(0, .v (vC a0)), (1, .v (.func (.func 158) [] [.fp [.func (.func 68) [vE a1u0c0x0] []]])), (7, .v (.int .i64 (a0.length : Int))), (8, .v (.int .i64 i5))]) (fun s4 _ hN16 => ?_) (fun i5 s4 _ _ hi9 hi10 ho6 hg7 hF => ?_)
 ·exact wn hN16 (hj1 _) hψ8
 refine wW ?_
 refine wu hi9 hi10 ?_
 refine wW ?_
 refine wB ?_
 obtain ⟨x11, g, hF⟩ := Rx g hF
 refine wW ?_
 refine wC hF [.sh] zf5 (fun z12 hF => ?_)
 refine wK [0, 1, 5, 7, 8, 16] ?_
 refine wI hF (fun h13 hF => ?_) (fun h13 hF => ?_)
 ·cases ho6 _ (zaa hF)
  cases hΦ _ (hr2 _ hψ8)
  refine wW ?_
  try simp [go_sem, g]
 refine wW ?_
 exact wi hi9 hi10 (hg7 _) (zaa hF)
def zaT (a0 : List Int) (a1u0c0x0 : Group) : Option Bool :=
 (zaW a0 a1u0c0x0).bind fun z1 =>
 some (decide (0 ≤ z1))
theorem zcX : ∀ {a0} {a1u0c0x0} {r}, zaT a0 a1u0c0x0 = some r → PCalls Tryz.prog 157 [(.sh, vC a0), (.sh, .func (.func 158) [] [.fp [.func (.func 68) [vE a1u0c0x0] []]])] (Eo (.bool r) [.junk, .junk]) := by
 intro a0 a1u0c0x0 r hr
 apply pF 9 [] [] [] [.tmp 4] hr zr0 Tryz.func157
 intro Φ hΦ hF g
 unfold zaT at hF
 refine wW ?_
 refine wC hF [.sh, .sh] zde (fun z1 hF => ?_)
 exact wl hΦ hF
def zbU (a0 : List Int) (a1x0 : Group) : Option Bool :=
 (zaT a0 a1x0).bind fun z1 =>
 some (!z1)
theorem zgD : ∀ {a0} {a1x0} {r}, zbU a0 a1x0 = some r → PCalls Tryz.prog 114 [(.sh, vC a0), (.sh, .func (.func 68) [vE a1x0] [])] (Eo (.bool r) [.junk, .junk]) := by
 intro a0 a1x0 r hr
 apply pF 9 [] [] [1000000] [.tmp 4] hr zrC Tryz.func114
 intro Φ hΦ hF g
 unfold zbU at hF
 refine wW ?_
 refine wC hF [.sh, .sh] zcX (fun z1 hF => ?_)
 exact wl hΦ hF
def zch (a0 : Group) (a1 : List Int) : Option Bool :=
 (zbU a1 a0).bind fun z1 =>
 some z1
theorem zgH : ∀ {a0} {a1} {r}, zch a0 a1 = some r → PCalls Tryz.prog 59 [(.sh, vE a0), (.sh, vC a1)] (Eo (.bool r) [.junk, .junk]) := by
 intro a0 a1 r hr
 apply pF 9 [] [] [] [.tmp 4] hr zDt Tryz.func59
 intro Φ hΦ hF g
 unfold zch at hF
 refine wW ?_
 refine wC hF [.sh, .sh] zgD (fun z1 hF => ?_)
 exact wl hΦ hF
theorem zAR : zrO Tryz.prog 180 29 := by
 intro n H e b es by_ z e1 e2 h0 h1 h2 h3 h4 h5
 refine zh6 zzp Tryz.func180 rfl rfl (by simp [Tryz.f180]) fun hw => ?_
 have hn : ¬ n < 0 := by omega
 have hw1 : i64.wrap n = n := wrI (by omega)
 have hw0 : i64.wrap 0 = 0 := wrI (by omega)
 have ei : (zdI Tryz.prog 3).isSome = true := by kernel_rfl
 by_cases hp : 0 < n
 ·have hne : n ≠ 0 := by omega
  have h5' := h5
  simp [zao] at h5'
  simp [Tryz.f180, awp, zfJ, aop, ahp, zaN, za2, zaV, mat, zaY, zau, zjP, FR.put, FR.init, rdv, rda, zbG, zcB, zao, Am.lenV, zdD, zbX, bnd, ziR, zmU, zgI, zhz, zj0, hn, e1, e2, ei, hw1, hw0, hp, h1, h2, h3, h4, hne]
  first | exact h5' | exact .inl h5'
 have hz : n = 0 := by omega
 subst hz
 simp [Tryz.f180, awp, zfJ, aop, ahp, zaN, za2, zaV, mat, zaY, zau, zjP, FR.put, FR.init, rdv, rda, zbG, zcB, zao, Am.lenV, zdD, zbX, bnd, ziR, zmU, zgI, zhz, zj0, hn, e1, e2, hw1, hw0, hp]
def zaQ (a0 : (List (List Int))) : Option ((List Int)) :=
 ((zas (σ := Int) (fun i5 s4 =>
 (ix a0 i5).bind fun x11 =>
 if decide ((i64.wrap (s4 + (x11.length : Int))) < 0) = true then (
 none) else (
 some (.go (i64.wrap (s4 + (x11.length : Int)))))) (fun s4 => s4) (a0.length) 0 0 : Option Int).bind fun x3 =>
 gd (0 ≤ x3 ∧ 8 * x3 ≤ 140737488355328 ∧ x3 ≤ 4611686018427387904) <|
 ((zas (σ := (List Int)) (fun i22 s21 =>
 (ix a0 i22).bind fun x28 =>
 gd ((s21.length + x28.length) * 8 ≤ 140737488355328 ∧ s21.length + x28.length ≤ 4611686018427387904) <|
 some (.go (s21 ++ x28))) (fun s21 => s21) (a0.length) 0 [] : Option ((List Int))).bind fun x20 =>
 some x20))
theorem zbM : ∀ {a0} {r}, zaQ a0 = some r → PCalls Tryz.prog 160 [(.sh, vG a0)] (Eo (vD r) [.junk]) := by
 intro a0 r hr
 apply pF 36 [] [] [] [.tmp 2] hr zzs Tryz.func160
 intro Φ hΦ hF g
 unfold zaQ at hF
 iterate 3 (try simp [go_sem, g]; try intros; refine zav ?_)
 refine wJ hF (fun x3 => [(0, .v (vG a0)), (3, .v (.int .i64 x3))]) (fun x3 hF => ?_) fun _ hj1 hF => ?_
 ·obtain ⟨g17, hF⟩ := zgQ hF
  try simp [go_sem, g]
  refine zwq zAR zEm (by simp [go_sem, g]) g17 ?_
  try simp [go_sem, g]
  try intros
  refine zav ?_
  try simp [go_sem, g]
  try intros
  refine wK [6, 25, 26, 27] ?_
  refine wJ hF (fun x20 => [(6, .v (vD x20))]) (fun x20 hF => ?_) fun _ hj18 hF => ?_
  ·exact wl hΦ hF
  refine wB ?_
  obtain ⟨b29, hb30, hψ25⟩ := hF
  refine pR hb30 (fun i22 s21 => [(6, .v (vD s21)), (25, .v (vG a0)), (26, .v (.int .i64 (a0.length : Int))), (27, .v (.int .i64 i22))]) (fun s21 _ hN31 => ?_) (fun i22 s21 _ _ hi26 hi27 ho23 hg24 hF => ?_)
  ·exact wn hN31 (hj18 _) hψ25
  refine wW ?_
  refine wu hi26 hi27 ?_
  refine wW ?_
  refine wB ?_
  obtain ⟨x28, g, hF⟩ := Rx g hF
  obtain ⟨g, hF⟩ := Rg g hF
  iterate 2 refine wW ?_
  exact wi hi26 hi27 (hg24 _) (zaa hF)
 refine wB ?_
 obtain ⟨b13, hb14, hψ8⟩ := hF
 refine pR hb14 (fun i5 s4 => [(0, .v (vG a0)), (3, .v (.int .i64 s4)), (9, .v (vG a0)), (10, .v (.int .i64 (a0.length : Int))), (11, .v (.int .i64 i5))]) (fun s4 _ hN15 => ?_) (fun i5 s4 _ _ hi9 hi10 ho6 hg7 hF => ?_)
 ·exact wn hN15 (hj1 _) hψ8
 refine wW ?_
 refine wu hi9 hi10 ?_
 refine wW ?_
 refine wB ?_
 obtain ⟨x11, g, hF⟩ := Rx g hF
 try simp [go_sem, g]
 try intros
 refine zav ?_
 try simp [go_sem, g]
 try intros
 refine wK [0, 3, 9, 10, 11] ?_
 refine wW ?_
 refine wI hF (fun h12 hF => ?_) (fun h12 hF => ?_)
 ·exact (zmX hF).elim
 refine wW ?_
 exact wi hi9 hi10 (hg7 _) (zaa hF)
def zfo (a0 : ByteArray) (a1 : List Int) : Option ((List Int)) :=
 ((zbc (σ := (List Int) × Int) (fun s4 =>
 if decide (s4.2 < (a0.size : Int)) = true then (
 (ixs a0 s4.2).bind fun x10 =>
 gd ((s4.1.length + 1) * 8 ≤ 140737488355328 ∧ s4.1.length + 1 ≤ 4611686018427387904) <|
 some (.go (s4.1 ++ [i64.wrap x10], i64.wrap (s4.2 + 1)))) else (
 some (.out s4.1))) ([(a0.size : Int)], 0) : Option ((List Int))).bind fun x3 =>
 gd ((x3.length + a1.length) * 8 ≤ 140737488355328 ∧ x3.length + a1.length ≤ 4611686018427387904) <|
 some (x3 ++ a1))
theorem zmp : ∀ {a0} {a1} {r}, zfo a0 a1 = some r → PCalls Tryz.prog 183 [(.sh, .str a0), (.sh, vC a1)] (Eo (vD r) [.junk, .junk]) := by
 intro a0 a1 r hr
 apply pF 26 [] [] [] [.tmp 4] hr zBi Tryz.func183
 intro Φ hΦ hF g
 unfold zfo at hF
 iterate 3 refine wW ?_
 refine wJ hF (fun x3 => [(1, .v (vC a1)), (5, .v (vD x3))]) (fun x3 hF => ?_) fun _ hj1 hF => ?_
 ·obtain ⟨g, hF⟩ := Rg g hF
  refine wK [4] ?_
  exact wm hΦ hF
 refine wB ?_
 obtain ⟨b11, hb12, hψ8⟩ := hF
 refine pL hb12 (fun s4 => [(0, .v (.str a0)), (1, .v (vC a1)), (5, .v (vD s4.1)), (11, .v (.int .i64 (a0.size : Int))), (12, .v (.int .i64 s4.2))]) (fun s4 _ _ ho6 hg7 hF => ?_)
 refine wW ?_
 refine wI hF (fun h9 hF => ?_) (fun h9 hF => ?_)
 ·refine wW ?_
  refine wB ?_
  refine wK [0, 1, 5, 6, 11, 12] ?_
  obtain ⟨x10, g, hF⟩ := Rxs g hF
  obtain ⟨g, hF⟩ := Rg g hF
  refine wW ?_
  exact wT (hg7 _) (zaa hF)
 cases ho6 _ (zaa hF)
 exact wT (hj1 _) hψ8
def zew (a0 : Int) : Option Bool :=
 (zbs a0 0 4611686018427387903).bind fun z1 =>
 some z1
theorem zme : ∀ {a0} {r}, zew a0 = some r → PCalls Tryz.prog 192 [(.sh, .int .i64 a0)] (Eo (.bool r) [.junk]) := by
 intro a0 r hr
 apply pF 5 [] [] [] [.tmp 2] hr zAj Tryz.func192
 intro Φ hΦ hF g
 unfold zew at hF
 refine wW ?_
 refine wC hF [.sh, .sh, .sh] zcI (fun z1 hF => ?_)
 exact wl hΦ hF
def zbv (a0 : Int) : Option Bool :=
 (zew a0).bind fun z1 =>
 some (!z1)
theorem zgU : ∀ {a0} {r}, zbv a0 = some r → PCalls Tryz.prog 158 [(.sh, .int .i64 a0), (.sh, .fp [.func (.func 192) [] []])] (Eo (.bool r) [.junk, .junk]) := by
 intro a0 r hr
 apply pF 8 [] [] [] [.tmp 3] hr zsl Tryz.func158
 intro Φ hΦ hF g
 unfold zbv at hF
 refine wW ?_
 refine wC hF [.sh] zme (fun z1 hF => ?_)
 exact wl hΦ hF
def za6 (a0 : List Int) : Option Int :=
 ((zas (σ := Unit) (fun i5 s4 =>
 (ix a0 i5).bind fun x11 =>
 (zbv x11).bind fun z12 =>
 if z12 = true then (
 some (.out (.inr i5))) else (
 some (.go ()))) (fun s4 => .inl ()) (a0.length) 0 () : Option (Unit ⊕ Int)).bind (Sum.elim (fun x3 =>
 some (-1)) some))
theorem zdv : ∀ {a0} {r}, za6 a0 = some r → PCalls Tryz.prog 179 [(.sh, vC a0), (.sh, .func (.func 158) [] [.fp [.func (.func 192) [] []]])] (Eo (.int .i64 r) [.junk, .junk]) := by
 intro a0 r hr
 apply pF 19 [] [] [] [.tmp 4] hr zrA Tryz.func179
 intro Φ hΦ hF g
 unfold za6 at hF
 iterate 2 (try simp [go_sem, g]; try intros; refine zav ?_)
 refine wS hF (fun x3 => []) (fun x3 hF => ?_) fun _ hj1 hr2 hF => ?_
 ·exact wl hΦ hF
 refine wB ?_
 obtain ⟨b14, hb15, hψ8⟩ := hF
 refine pR hb15 (fun i5 s4 => [(0, .v (vC a0)), (1, .v (.func (.func 158) [] [.fp [.func (.func 192) [] []]])), (7, .v (.int .i64 (a0.length : Int))), (8, .v (.int .i64 i5))]) (fun s4 _ hN16 => ?_) (fun i5 s4 _ _ hi9 hi10 ho6 hg7 hF => ?_)
 ·exact wn hN16 (hj1 _) hψ8
 refine wW ?_
 refine wu hi9 hi10 ?_
 refine wW ?_
 refine wB ?_
 obtain ⟨x11, g, hF⟩ := Rx g hF
 refine wW ?_
 refine wC hF [.sh] zgU (fun z12 hF => ?_)
 refine wK [0, 1, 5, 7, 8, 16] ?_
 refine wI hF (fun h13 hF => ?_) (fun h13 hF => ?_)
 ·cases ho6 _ (zaa hF)
  cases hΦ _ (hr2 _ hψ8)
  refine wW ?_
  try simp [go_sem, g]
 refine wW ?_
 exact wi hi9 hi10 (hg7 _) (zaa hF)
def zaX (a0 : List Int) : Option Bool :=
 (za6 a0).bind fun z1 =>
 some (decide (0 ≤ z1))
theorem zdd : ∀ {a0} {r}, zaX a0 = some r → PCalls Tryz.prog 157 [(.sh, vC a0), (.sh, .func (.func 158) [] [.fp [.func (.func 192) [] []]])] (Eo (.bool r) [.junk, .junk]) := by
 intro a0 r hr
 apply pF 9 [] [] [] [.tmp 4] hr zr0 Tryz.func157
 intro Φ hΦ hF g
 unfold zaX at hF
 refine wW ?_
 refine wC hF [.sh, .sh] zdv (fun z1 hF => ?_)
 exact wl hΦ hF
def zcg (a0 : List Int) : Option Bool :=
 (zaX a0).bind fun z1 =>
 some (!z1)
theorem zg5 : ∀ {a0} {r}, zcg a0 = some r → PCalls Tryz.prog 114 [(.sh, vC a0), (.sh, .func (.func 192) [] [])] (Eo (.bool r) [.junk, .junk]) := by
 intro a0 r hr
 apply pF 9 [] [] [1000000] [.tmp 4] hr zrC Tryz.func114
 intro Φ hΦ hF g
 unfold zcg at hF
 refine wW ?_
 refine wC hF [.sh, .sh] zdd (fun z1 hF => ?_)
 exact wl hΦ hF
def zdS (a0 : List Int) : Option Bool :=
 ((if decide ((a0.length : Int) ≤ 400) = true then (
 (zcg a0).bind fun z5 =>
 some z5) else (
 some false) : Option Bool).bind fun x3 =>
 some x3)
theorem zk7 : ∀ {a0} {r}, zdS a0 = some r → PCalls Tryz.prog 189 [(.sh, vC a0)] (Eo (.bool r) [.junk]) := by
 intro a0 r hr
 apply pF 10 [] [] [] [.tmp 2] hr zA4 Tryz.func189
 intro Φ hΦ hF g
 unfold zdS at hF
 refine wW ?_
 refine wJ hF (fun x3 => [(2, .v (.bool x3))]) (fun x3 hF => ?_) fun _ hj1 hF => ?_
 ·exact wm hΦ hF
 try simp [go_sem, g]
 try intros
 refine wG hF (fun h4 hF => ?_) fun h4 hF => ?_
 ·try simp [go_sem, g, h4]
  refine wC hF [.sh, .sh] zg5 (fun z5 hF => ?_)
  exact wV h4 (hj1 _) (zaa hF)
 exact wV h4 (hj1 _) (zaa hF)
def zf0 (a0 : List Int) : Option Int :=
 gd (([(a0.length : Int)].length + a0.length) * 8 ≤ 140737488355328 ∧ [(a0.length : Int)].length + a0.length ≤ 4611686018427387904) <|
 (some ([(a0.length : Int)] ++ a0)).bind fun x1 =>
 ((zas (σ := Int × Int) (fun i7 s6 =>
 (ix x1 i7).bind fun x13 =>
 some (.go ((i64.wrap ((i64.wrap ((i64.wrap (48271 * ((i64.wrap ((i64.wrap ((i64.wrap (48271 * s6.1)) + (i64.wrap ((BitVec.ofInt i64.bits x13 &&& BitVec.ofInt i64.bits 2147483647).toNat)))) + 1)).tmod 2147483647))) + (x13.fdiv 2147483648))) + 1)).tmod 2147483647, (i64.wrap ((i64.wrap ((i64.wrap (69621 * ((i64.wrap ((i64.wrap ((i64.wrap (69621 * s6.2)) + (i64.wrap ((BitVec.ofInt i64.bits x13 &&& BitVec.ofInt i64.bits 2147483647).toNat)))) + 1)).tmod 2147483647))) + (x13.fdiv 2147483648))) + 1)).tmod 2147483647))) (fun s6 => (s6.1, s6.2)) (x1.length) 0 (1, 2) : Option ((Int × Int))).bind fun x5 =>
 some (i64.wrap ((i64.wrap (x5.1 * 2147483648)) + x5.2)))
theorem zqf : ∀ {a0} {r}, zf0 a0 = some r → PCalls Tryz.prog 190 [(.sh, vC a0)] (Eo (.int .i64 r) [.junk]) := by
 intro a0 r hr
 apply pF 52 [] [] [] [.tmp 2] hr zAV Tryz.func190
 intro Φ hΦ hF g
 unfold zf0 at hF
 obtain ⟨g, hF⟩ := Rg g hF
 obtain ⟨x1, e2, hF⟩ := zff hF
 have g := And.intro g (show [.int .i64 (a0.length : Int)] :: (List.map zag a0) = x1.map zag by injection e2 with e2; rw [← e2]; simp [go_sem])
 iterate 2 (try simp [go_sem, g]; try intros; refine zav ?_)
 try simp [go_sem, g]
 try intros
 refine wK [3, 4, 13, 14, 15] ?_
 refine wJ hF (fun x5 => [(3, .v (.int .i64 x5.1)), (4, .v (.int .i64 x5.2))]) (fun x5 hF => ?_) fun _ hj3 hF => ?_
 ·have g := Ls g 31
  exact wl hΦ hF
 refine wB ?_
 obtain ⟨b14, hb15, hψ10⟩ := hF
 refine pR hb15 (fun i7 s6 => [(3, .v (.int .i64 s6.1)), (4, .v (.int .i64 s6.2)), (13, .v (vD x1)), (14, .v (.int .i64 (x1.length : Int))), (15, .v (.int .i64 i7))]) (fun s6 _ hN16 => ?_) (fun i7 s6 _ _ hi11 hi12 ho8 hg9 hF => ?_)
 ·exact wn hN16 (hj3 _) hψ10
 refine wW ?_
 refine wu hi11 hi12 ?_
 refine wW ?_
 refine wB ?_
 obtain ⟨x13, g, hF⟩ := Rx g hF
 have g := Ls g 31
 refine wW ?_
 refine wK [3, 4, 7, 8, 13, 14, 15] ?_
 have g := Ld g 2147483647
 refine wW ?_
 refine wK [3, 4, 7, 8, 13, 14, 15] ?_
 refine wW ?_
 refine wK [3, 4, 13, 14, 15] ?_
 exact wi hi11 hi12 (hg9 _) (zaa hF)
def zes (a0 : List Int) : Option (Int × Bool) :=
 (zdS a0).bind fun z1 =>
 if (!z1) = true then (
 some (0, false)) else (
 (zf0 a0).bind fun z3 =>
 some (z3, true))
theorem zmi : ∀ {a0} {r}, zes a0 = some r → PCalls Tryz.prog 182 [(.sh, vC a0)] (Eo (.tup [.int .i64 r.1, .bool r.2]) [.junk]) := by
 intro a0 r hr
 apply pF 9 [] [] [] [.tmp 2, .tmp 3] hr zBe Tryz.func182
 intro Φ hΦ hF g
 unfold zes at hF
 refine wW ?_
 refine wC hF [.sh] zk7 (fun z1 hF => ?_)
 refine wW ?_
 refine wI hF (fun h2 hF => ?_) (fun h2 hF => ?_)
 ·exact wl hΦ hF
 refine wW ?_
 refine wC hF [.sh] zqf (fun z3 hF => ?_)
 exact wl hΦ hF
def zdj (a0 : ByteArray) (a1 : List Int) : Option (Int × Bool) :=
 ((if decide (40 < (a0.size : Int)) = true then (
 some true) else (
 some (decide (400 < (a1.length : Int)))) : Option Bool).bind fun x3 =>
 if x3 = true then (
 some (0, false)) else (
 (zfo a0 a1).bind fun z6 =>
 (zes z6).bind fun z7 =>
 some (z7.1, z7.2)))
theorem zj4 : ∀ {a0} {a1} {r}, zdj a0 a1 = some r → PCalls Tryz.prog 167 [(.sh, .str a0), (.sh, vC a1)] (Eo (.tup [.int .i64 r.1, .bool r.2]) [.junk, .junk]) := by
 intro a0 a1 r hr
 apply pF 20 [] [] [] [.tmp 4, .tmp 5] hr zzZ Tryz.func167
 intro Φ hΦ hF g
 unfold zdj at hF
 refine wW ?_
 refine wJ hF (fun x3 => [(0, .v (.str a0)), (1, .v (vC a1)), (13, .v (.bool x3))]) (fun x3 hF => ?_) fun _ hj1 hF => ?_
 ·refine wI hF (fun h5 hF => ?_) (fun h5 hF => ?_)
  ·exact wl hΦ hF
  refine wW ?_
  refine wC hF [.sh, .sh] zmp (fun z6 hF => ?_)
  refine wC hF [.sh] zmi (fun z7 hF => ?_)
  refine wK [4, 5] ?_
  exact wm hΦ hF
 refine wG hF (fun h4 hF => ?_) fun h4 hF => ?_
 ·exact wV h4 (hj1 _) (zaa hF)
 try simp [go_sem, g, h4]
 try intros
 exact wT (hj1 _) (zaa hF)
def zbf (a0 : Group) (a1 : ByteArray) (a2 : List Int) : Option (Int × Bool) :=
 gd (([a0.P, a0.Q, a0.G].length + a2.length) * 8 ≤ 140737488355328 ∧ [a0.P, a0.Q, a0.G].length + a2.length ≤ 4611686018427387904) <|
 (zdj a1 ([a0.P, a0.Q, a0.G] ++ a2)).bind fun z1 =>
 if (!z1.2) = true then (
 some (0, false)) else (
 gd (a0.Q ≠ 0) <|
 some (z1.1.tmod a0.Q, true))
theorem zeA : ∀ {a0} {a1} {a2} {r}, zbf a0 a1 a2 = some r → PCalls Tryz.prog 135 [(.sh, vE a0), (.sh, .str a1), (.sh, vC a2)] (Eo (.tup [.int .i64 r.1, .bool r.2]) [.junk, .junk, .junk]) := by
 intro a0 a1 a2 r hr
 apply pF 30 [] [] [] [.tmp 6, .tmp 7] hr zAe Tryz.func135
 intro Φ hΦ hF g
 unfold zbf at hF
 obtain ⟨g, hF⟩ := Rg g hF
 refine wW ?_
 refine wC hF [.sh, .sh] zj4 (fun z1 hF => ?_)
 refine wK [3, 8, 9] ?_
 refine wW ?_
 refine wI hF (fun h2 hF => ?_) (fun h2 hF => ?_)
 ·exact wl hΦ hF
 obtain ⟨g, hF⟩ := Rz g hF
 cases hΦ _ (zaa hF)
 iterate 2 refine wW ?_
 try simp [go_sem, g]
@[go_sem] def zBx : List DE := [d2 0 [3] 3 3, d0 1 [7], d2 2 [3] 3 3, d0 3 [9], d0 4 [2], d0 5 [8], d0 6 [21, 22], d0 7 [23], d3 8 [19, 20, 24], d0 9 [18, 25], ⟨10, [17, 26], [], none, true, true, true⟩, d0 11 [27]]
def zcx (a0 : Group) (a1 : List Int) (a2 : List Int) : Option Int :=
 ((zas (σ := Int) (fun i5 s4 =>
 (ix a1 i5).bind fun x11 =>
 (ix a2 i5).bind fun x12 =>
 (zba a0 x11 x12).bind fun z13 =>
 (zbk a0 [s4, z13]).bind fun z14 =>
 some (.go z14)) (fun s4 => s4) (a1.length) 0 1 : Option Int).bind fun x3 =>
 some x3)
theorem zg1 : ∀ {a0} {a1} {a2} {r}, zcx a0 a1 a2 = some r → PCalls Tryz.prog 50 [(.sh, vE a0), (.sh, vC a1), (.sh, vC a2)] (Eo (.int .i64 r) [.junk, .junk, .junk]) := by
 intro a0 a1 a2 r hr
 apply pF 30 [] [] [] [.tmp 6] hr zCZ Tryz.func50
 intro Φ hΦ hF g
 unfold zcx at hF
 iterate 3 (try simp [go_sem, g]; try intros; refine zav ?_)
 refine wJ hF (fun x3 => [(7, .v (.int .i64 x3))]) (fun x3 hF => ?_) fun _ hj1 hF => ?_
 ·exact wl hΦ hF
 refine wB ?_
 obtain ⟨b15, hb16, hψ8⟩ := hF
 refine pR hb16 (fun i5 s4 => [(2, .v (vC a2)), (3, .bl [.int .i64 a0.P, .int .i64 a0.Q, .int .i64 a0.G]), (7, .v (.int .i64 s4)), (10, .v (vC a1)), (11, .v (.int .i64 (a1.length : Int))), (12, .v (.int .i64 i5))]) (fun s4 _ hN17 => ?_) (fun i5 s4 _ _ hi9 hi10 ho6 hg7 hF => ?_)
 ·exact wn hN17 (hj1 _) hψ8
 refine wW ?_
 refine wu hi9 hi10 ?_
 refine wW ?_
 refine wB ?_
 obtain ⟨x11, g, hF⟩ := Rx g hF
 refine wK [2, 3, 7, 8, 9, 10, 11, 12] ?_
 refine wX zBx follows ?_
 obtain ⟨x12, g, hF⟩ := Rx g hF
 refine wC hF [.sh, .sh, .sh] zcL (fun z13 hF => ?_)
 refine wC hF [.sh, .sh] zeb (fun z14 hF => ?_)
 refine wK [2, 3, 7, 10, 11, 12] ?_
 exact wi hi9 hi10 (hg7 _) (zaa hF)
def za9 (a0 : Group) (a1 : (List (List Int))) (a2 : List Int) : Option ((List Int)) :=
 ((zas (σ := (List Int)) (fun i5 s4 =>
 (ix a1 i5).bind fun x11 =>
 (zcx a0 x11 a2).bind fun z12 =>
 gd ((s4.length + 1) * 8 ≤ 140737488355328 ∧ s4.length + 1 ≤ 4611686018427387904) <|
 some (.go (s4 ++ [z12]))) (fun s4 => s4) (a1.length) 0 [] : Option ((List Int))).bind fun x3 =>
 some x3)
theorem zdh : ∀ {a0} {a1} {a2} {r}, za9 a0 a1 a2 = some r → PCalls Tryz.prog 159 [(.sh, vE a0), (.sh, vG a1), (.sh, vC a2)] (Eo (vD r) [.junk, .junk, .junk]) := by
 intro a0 a1 a2 r hr
 apply pF 26 [] [] [] [.tmp 6] hr zAs Tryz.func159
 intro Φ hΦ hF g
 unfold za9 at hF
 iterate 3 (try simp [go_sem, g]; try intros; refine zav ?_)
 refine wJ hF (fun x3 => [(7, .v (vD x3))]) (fun x3 hF => ?_) fun _ hj1 hF => ?_
 ·exact wl hΦ hF
 refine wB ?_
 obtain ⟨b13, hb14, hψ8⟩ := hF
 refine pR hb14 (fun i5 s4 => [(2, .v (vC a2)), (3, .bl [.int .i64 a0.P, .int .i64 a0.Q, .int .i64 a0.G]), (7, .v (vD s4)), (11, .v (vG a1)), (12, .v (.int .i64 (a1.length : Int))), (13, .v (.int .i64 i5))]) (fun s4 _ hN15 => ?_) (fun i5 s4 _ _ hi9 hi10 ho6 hg7 hF => ?_)
 ·exact wn hN15 (hj1 _) hψ8
 refine wW ?_
 refine wu hi9 hi10 ?_
 refine wW ?_
 refine wB ?_
 obtain ⟨x11, g, hF⟩ := Rx g hF
 refine wK [2, 3, 7, 9, 11, 12, 13] ?_
 refine wC hF [.sh, .sh, .sh] zg1 (fun z12 hF => ?_)
 obtain ⟨g, hF⟩ := Rg g hF
 refine wW ?_
 exact wi hi9 hi10 (hg7 _) (zaa hF)
@[go_sem] def zxQ : List DE := [d1 0 [9] 9, d2 1 [15] 9 15, d0 2 [16], d0 3 [2], d0 4 [18], d0 5 [17, 19], d0 6 [20], d1 7 [9, 21] 9, d2 8 [22, 21] 9 22, d0 9 [23, 21], d0 10 [24, 21], d0 11 [21, 25], d0 12 [26], d1 13 [9, 27] 9, d2 14 [28, 27] 9 28, d0 15 [29, 27], d0 16 [2, 27], d0 17 [31, 27], d0 18 [32, 27], d0 19 [33, 27], d0 20 [30, 34, 27], d0 21 [27, 35], d0 22 [36], d2 23 [5, 37] 5 5, d1 24 [9, 37] 9, d2 25 [39, 37] 9 39, d3 26 [38, 40, 37], d0 27 [41, 37], d0 28 [37, 42], d0 29 [43], d2 30 [5, 44] 5 5, d1 31 [9, 44] 9, d2 32 [46, 44] 9 46, d3 33 [45, 47, 44], d0 34 [48, 44], d0 35 [44, 49]]
@[go_sem] def zxv : List DE := [d2 0 [5] 5 5, d0 1 [1], d0 2 [2], d0 4 [3], d1 5 [9] 9, d2 6 [57] 9 57, d3 3 [54], d0 7 [55, 56, 58], ⟨8, [59], [], none, true, true, true⟩, d3 9 [52, 53, 60], d0 10 [61], d0 11 [51], d0 12 [51], d0 13 [62], d0 14 [63]]
@[go_sem] def zxE : List DE := [d0 0 [14], d2 1 [5] 5 5, d1 2 [9] 9, d2 3 [87] 9 87, d0 4 [13], d0 5 [88, 89], d0 6 [90], d2 7 [5] 5 5, d0 8 [3], d0 9 [13], d0 10 [93, 94], d0 11 [95], d0 12 [11], ⟨13, [92, 96, 97], [], none, false, true, false⟩, d0 14 [91, 98], ⟨15, [86, 99], [], none, true, true, true⟩, d0 16 [85, 100]]
def zb4 (a0 : Group) (a1 : ByteArray) (a2 : (List (List Int))) (a3 : List Int) (a4 : Proof) : Option Bool :=
 ((if ((a4.Commits.length : Int) != (a2.length : Int)) = true then (
 some true) else (
 if ((a4.Challenges.length : Int) != 1) = true then (
 some true) else (
 (ix a2 0).bind fun x6 =>
 if ((a4.Responses.length : Int) != (x6.length : Int)) = true then (
 some true) else (
 (zcz a0 a4.Commits).bind fun z8 =>
 if (!z8) = true then (
 some true) else (
 (zch a0 a4.Responses).bind fun z10 =>
 some (!z10))))) : Option Bool).bind fun x3 =>
 if x3 = true then (
 some false) else (
 (zaQ a2).bind fun z12 =>
 (zaQ [z12, a3, a4.Commits]).bind fun z13 =>
 (zbf a0 a1 z13).bind fun z14 =>
 ((if (!z14.2) = true then (
 some true) else (
 (ix a4.Challenges 0).bind fun x19 =>
 some (x19 != z14.1)) : Option Bool).bind fun x17 =>
 if x17 = true then (
 some false) else (
 (za9 a0 a2 a4.Responses).bind fun z21 =>
 ((zas (σ := Unit) (fun i26 s25 =>
 (ix z21 i26).bind fun x32 =>
 (ix a4.Commits i26).bind fun x33 =>
 (ix a3 i26).bind fun x34 =>
 (zba a0 x34 z14.1).bind fun z35 =>
 (zbk a0 [x33, z35]).bind fun z36 =>
 if (x32 != z36) = true then (
 some (.out (.inr false))) else (
 some (.go ()))) (fun s25 => .inl ()) (z21.length) 0 () : Option (Unit ⊕ Bool)).bind (Sum.elim (fun x24 =>
 some true) some))))))
theorem zfm : ∀ {a0} {a1} {a2} {a3} {a4} {r}, zb4 a0 a1 a2 a3 a4 = some r → PCalls Tryz.prog 123 [(.sh, vE a0), (.sh, .str a1), (.sh, vG a2), (.sh, vC a3), (.sh, vU a4)] (Eo (.bool r) [.junk, .junk, .junk, .junk, .junk]) := by
 intro a0 a1 a2 a3 a4 r hr
 apply pF 103 [] [368] [] [.tmp 10] hr zzE Tryz.func123
 intro Φ hΦ hF g
 unfold zb4 at hF
 refine wW ?_
 refine wJ hF (fun x3 => [(1, .v (.str a1)), (2, .v (vG a2)), (3, .v (vC a3)), (5, .bl [.int .i64 a0.P, .int .i64 a0.Q, .int .i64 a0.G]), (9, .bl [vC a4.Commits, vC a4.Challenges, vC a4.Responses]), (50, .v (.bool x3))]) (fun x3 hF => ?_) fun _ hj1 hF => ?_
 ·refine wI hF (fun h11 hF => ?_) (fun h11 hF => ?_)
  ·exact wl hΦ hF
  refine wW ?_
  refine wX zxv follows ?_
  refine wC hF [.sh] zbM (fun z12 hF => ?_)
  refine wC hF [.sh] zbM (fun z13 hF => ?_)
  refine wC hF [.sh, .sh, .sh] zeA (fun z14 hF => ?_)
  refine wK [2, 3, 5, 9, 11, 12] ?_
  refine wJ hF (fun x17 => [(2, .v (vG a2)), (3, .v (vC a3)), (5, .bl [.int .i64 a0.P, .int .i64 a0.Q, .int .i64 a0.G]), (9, .bl [vC a4.Commits, vC a4.Challenges, vC a4.Responses]), (11, .v (.int .i64 z14.1)), (73, .v (.bool x17))]) (fun x17 hF => ?_) fun _ hj15 hF => ?_
  ·refine wI hF (fun h20 hF => ?_) (fun h20 hF => ?_)
   ·exact wl hΦ hF
   refine wW ?_
   refine wC hF [.sh, .sh, .sh] zdh (fun z21 hF => ?_)
   try simp [go_sem, g]
   try intros
   refine zav ?_
   refine wS hF (fun x24 => []) (fun x24 hF => ?_) fun _ hj22 hr23 hF => ?_
   ·exact wl hΦ hF
   refine wB ?_
   obtain ⟨b38, hb39, hψ29⟩ := hF
   refine pR hb39 (fun i26 s25 => [(3, .v (vC a3)), (5, .bl [.int .i64 a0.P, .int .i64 a0.Q, .int .i64 a0.G]), (9, .bl [vC a4.Commits, vC a4.Challenges, vC a4.Responses]), (11, .v (.int .i64 z14.1)), (78, .v (vD z21)), (79, .v (.int .i64 (z21.length : Int))), (80, .v (.int .i64 i26))]) (fun s25 _ hN40 => ?_) (fun i26 s25 _ _ hi30 hi31 ho27 hg28 hF => ?_)
   ·exact wn hN40 (hj22 _) hψ29
   refine wW ?_
   refine wu hi30 hi31 ?_
   refine wW ?_
   refine wB ?_
   obtain ⟨x32, g, hF⟩ := Rx g hF
   refine wK [3, 5, 9, 11, 13, 14, 78, 79, 80] ?_
   refine wX zxE follows ?_
   obtain ⟨x33, g, hF⟩ := Rx g hF
   obtain ⟨x34, g, hF⟩ := Rx g hF
   refine wD hF zcL (fun z35 hF => ?_)
   refine wC hF [.sh, .sh] zeb (fun z36 hF => ?_)
   refine wK [3, 5, 9, 11, 78, 79, 80, 101] ?_
   refine wI hF (fun h37 hF => ?_) (fun h37 hF => ?_)
   ·cases ho27 _ (zaa hF)
    cases hΦ _ (hr23 _ hψ29)
    refine wW ?_
    try simp [go_sem, g]
   refine wW ?_
   exact wi hi30 hi31 (hg28 _) (zaa hF)
  refine wG hF (fun h18 hF => ?_) fun h18 hF => ?_
  ·exact wV h18 (hj15 _) (zaa hF)
  obtain ⟨x19, g, hF⟩ := Rxn g 0 hF
  exact wV h18 (hj15 _) (zaa hF)
 refine wX zxQ follows ?_
 try simp [go_sem, g]
 try intros
 refine wH hF (fun h4 hF => ?_) fun h4 hF => ?_
 ·exact wV h4 (hj1 _) (zaa hF)
 try simp [go_sem, g, h4]
 try intros
 refine wH hF (fun h5 hF => ?_) fun h5 hF => ?_
 ·exact wV h5 (hj1 _) (zaa hF)
 obtain ⟨x6, g, hF⟩ := Rxn g 0 hF
 try simp [go_sem, g, h5]
 try intros
 refine wH hF (fun h7 hF => ?_) fun h7 hF => ?_
 ·exact wV h7 (hj1 _) (zaa hF)
 try simp [go_sem, g, h7]
 refine wC hF [.sh, .sh] zg0 (fun z8 hF => ?_)
 try simp [go_sem, g, h7]
 refine wH hF (fun h9 hF => ?_) fun h9 hF => ?_
 ·exact wV h9 (hj1 _) (zaa hF)
 try simp [go_sem, g, h9]
 refine wC hF [.sh, .sh] zgH (fun z10 hF => ?_)
 exact wV h9 (hj1 _) (zaa hF)
@[go_sem] def zBr : List DE := [d2 0 [4] 4 4, d1 1 [4] 4, d2 2 [21] 4 21, d0 3 [22], d1 4 [6] 6, d2 5 [24] 6 24, d0 6 [25], d2 8 [4] 4 4, d0 9 [1], d1 10 [7] 7, d2 11 [30] 7 30, d1 13 [7] 7, d2 14 [33] 7 33, d1 16 [7] 7, d2 17 [36] 7 36, ⟨7, [23, 26], [], none, true, true, false⟩, d3 12 [28, 29, 31], d0 15 [32, 34], ⟨18, [20, 27, 35, 37], [], none, true, true, true⟩, d0 19 [38]]
@[go_sem] def zwG : List DE := [d2 0 [4] 4 4, d1 1 [4] 4, d2 2 [21] 4 21, d0 3 [22], d1 4 [6] 6, d2 5 [24] 6 24, d0 6 [25], d2 8 [4] 4 4, d0 9 [1], d1 10 [7] 7, d2 11 [30] 7 30, d1 13 [7] 7, d2 14 [33] 7 33, d1 16 [7] 7, d2 17 [36] 7 36, d3 12 [28, 29, 31], d0 15 [32, 34], ⟨7, [23, 26], [], none, true, true, false⟩, ⟨18, [20, 27, 35, 37], [], none, true, true, true⟩, d0 19 [38]]
def zbd (a0 : Group) (a1 : List Int) (a2 : Cipher) (a3 : Partial) : Option Bool :=
 (((zcO a3.Index).bind fun z4 =>
 if (!z4) = true then (
 some true) else (
 (zbO a0 a3.Value).bind fun z6 =>
 some (!z6)) : Option Bool).bind fun x3 =>
 if x3 = true then (
 some false) else (
 (zb8 a0 a1 a3.Index).bind fun z8 =>
 (zb4 a0 (⟨#[112, 97, 114, 116, 105, 97, 108]⟩ : ByteArray) [[a0.G], [a2.A]] [z8, a3.Value] a3.Pi).bind fun z9 =>
 some z9))
theorem zeD : ∀ {a0} {a1} {a2} {a3} {r}, zbd a0 a1 a2 a3 = some r → PCalls Tryz.prog 71 [(.sh, vE a0), (.sh, vC a1), (.sh, vQ a2), (.sh, vY a3)] (Eo (.bool r) [.junk, .junk, .junk, .junk]) := by
 intro a0 a1 a2 a3 r hr
 apply pF 39 [] [] [] [.tmp 8] hr zDC Tryz.func71
 intro Φ hΦ hF g
 unfold zbd at hF
 refine wW ?_
 refine wJ hF (fun x3 => [(1, .v (vC a1)), (4, .bl [.int .i64 a0.P, .int .i64 a0.Q, .int .i64 a0.G]), (6, .bl [.int .i64 a2.A, .int .i64 a2.B]), (7, .bl [.int .i64 a3.Index, .int .i64 a3.Value, vC a3.Pi.Commits, vC a3.Pi.Challenges, vC a3.Pi.Responses]), (19, .v (.bool x3))]) (fun x3 hF => ?_) fun _ hj1 hF => ?_
 ·refine wI hF (fun h7 hF => ?_) (fun h7 hF => ?_)
  ·exact wl hΦ hF
  refine wW ?_
  repeat rw [sq]
  refine zpW 7 12 zBr zwG follows (by decide) (by kernel_rfl) (by kernel_rfl) rfl rfl ?_ ?_
  ·refine wC hF [.sh, .sh, .sh] zgr (fun z8 hF => ?_)
   refine wC hF [.sh, .sh, .sh, .sh, .sh] zfm (fun z9 hF => ?_)
   refine wK [8] ?_
   exact wm hΦ hF
  refine wC hF [.sh, .sh, .sh] zgr (fun z8 hF => ?_)
  refine wC hF [.sh, .sh, .sh, .sh, .sh] zfm (fun z9 hF => ?_)
  refine wK [8] ?_
  exact wm hΦ hF
 refine wC hF [.sh] zgj (fun z4 hF => ?_)
 refine wG hF (fun h5 hF => ?_) fun h5 hF => ?_
 ·exact wV h5 (hj1 _) (zaa hF)
 try simp [go_sem, g, h5]
 refine wC hF [.sh, .sh] zd9 (fun z6 hF => ?_)
 exact wV h5 (hj1 _) (zaa hF)
@[go_sem] def zBs : List DE := [d0 0 [9], d0 1 [11], d0 2 [35], d0 4 [10], d1 5 [12] 12, d2 6 [39] 12 39, d0 7 [40], ⟨3, [34, 36], [], none, true, false, false⟩, ⟨8, [38, 41], [], none, true, false, false⟩, d0 9 [37], d0 10 [42]]
def zc8 (a0 : Group) (a1 : List Int) (a2 : Cipher) (a3 : List Partial) : Option ((List Int)) :=
 ((zas (σ := (List Int) × List Int) (fun i5 s4 =>
 (((ix a3 i5).bind fun x14 =>
 (((zbB s4.2 x14.Index).bind fun z18 =>
 if (!z18) = true then (
 (zbd a0 a1 a2 x14).bind fun z20 =>
 some z20) else (
 some false) : Option Bool).bind fun x17 =>
 if x17 = true then (
 gd ((s4.1.length + 1) * 8 ≤ 140737488355328 ∧ s4.1.length + 1 ≤ 4611686018427387904) <|
 gd ((s4.2.length + 1) * 8 ≤ 140737488355328 ∧ s4.2.length + 1 ≤ 4611686018427387904) <|
 some (s4.1 ++ [i5], s4.2 ++ [x14.Index])) else (
 some (s4.1, s4.2))) : Option ((List Int × List Int))).bind fun x13 =>
 some (.go (x13.1, x13.2)))) (fun s4 => s4.1) (a3.length) 0 ([], []) : Option ((List Int))).bind fun x3 =>
 some x3)
theorem zk9 : ∀ {a0} {a1} {a2} {a3} {r}, zc8 a0 a1 a2 a3 = some r → PCalls Tryz.prog 72 [(.sh, vE a0), (.sh, vC a1), (.sh, vQ a2), (.sh, vX a3)] (Eo (vD r) [.junk, .junk, .junk, .junk]) := by
 intro a0 a1 a2 a3 r hr
 apply pF 45 [] [] [] [.tmp 8] hr zCL Tryz.func72
 intro Φ hΦ hF g
 unfold zc8 at hF
 iterate 2 (try simp [go_sem, g]; try intros; refine zav ?_)
 try simp [go_sem, g]
 try intros
 refine wK [1, 4, 6, 9, 10, 15, 16, 17] ?_
 refine wJ hF (fun x3 => [(9, .v (vD x3))]) (fun x3 hF => ?_) fun _ hj1 hF => ?_
 ·exact wl hΦ hF
 refine wB ?_
 obtain ⟨b22, hb23, hψ8⟩ := hF
 refine pR hb23 (fun i5 s4 => [(1, .v (vC a1)), (4, .bl [.int .i64 a0.P, .int .i64 a0.Q, .int .i64 a0.G]), (6, .bl [.int .i64 a2.A, .int .i64 a2.B]), (9, .v (vD s4.1)), (10, .v (vD s4.2)), (15, .v (vX a3)), (16, .v (.int .i64 (a3.length : Int))), (17, .v (.int .i64 i5))]) (fun s4 _ hN24 => ?_) (fun i5 s4 _ _ hi9 hi10 ho6 hg7 hF => ?_)
 ·exact wn hN24 (hj1 _) hψ8
 refine wW ?_
 refine wu hi9 hi10 ?_
 refine wW ?_
 refine wJ hF (fun x13 => [(1, .v (vC a1)), (4, .bl [.int .i64 a0.P, .int .i64 a0.Q, .int .i64 a0.G]), (6, .bl [.int .i64 a2.A, .int .i64 a2.B]), (9, .v (vD x13.1)), (10, .v (vD x13.2)), (15, .v (vX a3)), (16, .v (.int .i64 (a3.length : Int))), (17, .v (.int .i64 i5))]) (fun x13 hF => ?_) fun _ hj11 hF => ?_
 ·exact wi hi9 hi10 (hg7 _) (zaa hF)
 refine wB ?_
 obtain ⟨x14, g, hF⟩ := Rx g hF
 refine wW ?_
 refine wJ hF (fun x17 => [(1, .v (vC a1)), (4, .bl [.int .i64 a0.P, .int .i64 a0.Q, .int .i64 a0.G]), (6, .bl [.int .i64 a2.A, .int .i64 a2.B]), (9, .v (vD s4.1)), (10, .v (vD s4.2)), (11, .v (.int .i64 i5)), (12, .bl [.int .i64 x14.Index, .int .i64 x14.Value, vC x14.Pi.Commits, vC x14.Pi.Challenges, vC x14.Pi.Responses]), (15, .v (vX a3)), (16, .v (.int .i64 (a3.length : Int))), (17, .v (.int .i64 i5)), (33, .v (.bool x17))]) (fun x17 hF => ?_) fun _ hj15 hF => ?_
 ·refine wI hF (fun h21 hF => ?_) (fun h21 hF => ?_)
  ·refine wX zBs follows ?_
   obtain ⟨g, hF⟩ := Rg g hF
   obtain ⟨g, hF⟩ := Rg g hF
   exact wT (hj11 _) (zaa hF)
  exact wT (hj11 _) (zaa hF)
 refine wC hF [.sh, .sh] zhN (fun z18 hF => ?_)
 refine wG hF (fun h19 hF => ?_) fun h19 hF => ?_
 ·try simp [go_sem, g, h19]
  refine wC hF [.sh, .sh, .sh, .sh] zeD (fun z20 hF => ?_)
  exact wV h19 (hj15 _) (zaa hF)
 exact wV h19 (hj15 _) (zaa hF)
def zaZ (a0 : Group) (a1 : List Int) (a2 : Cipher) (a3 : List Partial) : Option (List Int × Bool) :=
 (((zaF a0 a1 a2).bind fun z4 =>
 if (!z4) = true then (
 some true) else (
 some (decide (14 < (a3.length : Int)))) : Option Bool).bind fun x3 =>
 if x3 = true then (
 some ([], false)) else (
 (zc8 a0 a1 a2 a3).bind fun z7 =>
 some (z7, true)))
theorem zgZ : ∀ {a0} {a1} {a2} {a3} {r}, zaZ a0 a1 a2 a3 = some r → PCalls Tryz.prog 24 [(.sh, vE a0), (.sh, vC a1), (.sh, vQ a2), (.sh, vX a3)] (Eo (.tup [vD r.1, .bool r.2]) [.junk, .junk, .junk, .junk]) := by
 intro a0 a1 a2 a3 r hr
 apply pF 25 [] [] [] [.tmp 8, .tmp 9] hr zEF Tryz.func24
 intro Φ hΦ hF g
 unfold zaZ at hF
 refine wW ?_
 refine wJ hF (fun x3 => [(1, .v (vC a1)), (3, .v (vX a3)), (4, .bl [.int .i64 a0.P, .int .i64 a0.Q, .int .i64 a0.G]), (6, .bl [.int .i64 a2.A, .int .i64 a2.B]), (19, .v (.bool x3))]) (fun x3 hF => ?_) fun _ hj1 hF => ?_
 ·refine wI hF (fun h6 hF => ?_) (fun h6 hF => ?_)
  ·exact wl hΦ hF
  refine wW ?_
  refine wC hF [.sh, .sh, .sh, .sh] zk9 (fun z7 hF => ?_)
  refine wK [8, 9] ?_
  exact wm hΦ hF
 refine wC hF [.sh, .sh, .sh] zfk (fun z4 hF => ?_)
 refine wG hF (fun h5 hF => ?_) fun h5 hF => ?_
 ·exact wV h5 (hj1 _) (zaa hF)
 try simp [go_sem, g, h5]
 try intros
 exact wT (hj1 _) (zaa hF)
def zdw (a0 : List Int) : Option (List Int) :=
 gd (a0.length * 8 ≤ 140737488355328 ∧ a0.length ≤ 4611686018427387904) <|
 some a0
theorem ziT {a0 : (List Int)} {r : (List Int)} (hr : zdw a0 = some r) : PCalls Tryz.prog 152 [(.sh, .sl false 1 (a0.map zag))] (Eo (.sl true 1 (r.map zag)) [.junk]) := by
 apply znR 8 [] [] [1000000] [.tmp 2] hr zAW Tryz.func152 rfl rfl rfl
 ·exact ⟨by simp, rfl⟩
 intro Φ hΦ hF
 unfold zdw at hF
 obtain ⟨g, hF⟩ := zgQ hF
 have h1 := hΦ _ (zaa hF)
 subst h1
 try simp [go_sem]
 refine zmq [(0, .v (.sl false 1 (a0.map zag)))] (by simp [go_sem]) ?_
 try simp [go_sem]
 refine zwj rfl rfl (by simp [go_sem]) rfl (by rfl) fun b hb => ?_
 try simp [go_sem]
 refine zav ?_
 repeat rw [zuh]
 cases b
 ·refine znB (by simp [go_sem]) ?_
  try simp [go_sem]
  refine zav ?_
  try simp [go_sem, g]
  refine zav ?_
  try simp [go_sem, g]
 have hb0 : a0 = [] := by
  cases a0 with
  | nil => rfl
  | cons x l => exact absurd (hb (by simp)) (by simp)
 subst hb0
 refine zkF (by simp [go_sem]) ?_
 try simp [go_sem]
 refine zav ?_
 try simp [go_sem]
@[go_sem] def zpN : List DE := [⟨0, [0], [], none, false, false, false⟩, ⟨1, [1], [], none, false, false, false⟩, ⟨2, [20, 21], [], none, false, false, false⟩, ⟨3, [0], [], none, false, false, false⟩, ⟨4, [2], [], none, false, false, false⟩, ⟨5, [23, 24], [], none, false, false, false⟩, ⟨6, [22, 25], [], none, false, false, false⟩, ⟨7, [26], [], none, false, false, false⟩]
theorem zyG : zyM Tryz.prog 151 := by
 intro id n c i j cells H hb hij hjn hnc hcl hn hi
 have e1 : zax Tryz.prog 29 = some 3 := by kernel_rfl
 have e2 : tsz Tryz.prog 3 = some (false, 1, 8, [.int .i64 0]) := by kernel_rfl
 refine zh6 zvC Tryz.func151 rfl rfl (by simp [Tryz.f151]) fun hw => ?_
 have hne : ((i : Int) == (j : Int)) = false := by simp; omega
 have w0 : ¬ (i = j) := by omega
 have w1 : ¬ (n - i = 0) := by omega
 have w2 : i ≤ j := by omega
 have w3 : i ≤ c := by omega
 have w4 : j ≤ n := hjn
 have a1 : (0 : Int) ≤ (i : Int) := by omega
 have a2 : (0 : Int) ≤ (j : Int) := by omega
 have a3 : (0 : Int) ≤ (n : Int) := by omega
 simp [Tryz.f151, awp, zfJ, aop, ahp, zaN, za2, zaV, mat, zaY, zau, zjP, FR.put, FR.init, rdv, rda, zbG, zcB, zao, e1, e2, Am.lenV, zdD, zbX, bnd, ziR, hne, w0, w1, w2, w3, w4, hnc, a1, a2, a3, Int.toNat_natCast]
 refine ⟨follows, 0, zpN, by kernel_rfl, ?_⟩
 have w5 : i ≤ i + (n - j) := by omega
 have w6 : i + (n - j) ≤ n := by omega
 have w7 : i + (n - j) ≤ c := by omega
 by_cases hz : n - j = 0
 ·have w8 : ¬ n = i := by omega
  have hz2 : n = j := by omega
  subst hz2
  have w9 : ¬ n - i = 0 := by omega
  simp [zpN, dops, dop, gop, zcW, okL, okS, okR, DE.ex, awp, zjP, zfJ, aop, ahp, zaN, za2, zaV, mat, zaY, zau, FR.put, FR.init, rdv, rda, zbG, zcB, zao, e1, e2, Am.lenV, zdD, zbX, bnd, ziR, zdf, zdK, hne, w0, w1, w2, w3, w4, w5, w6, w7, w8, w9, hnc, a1, a2, a3, Int.toNat_natCast, zc4, hb]
  have hne0 : List.replicate (n - i) (Value.int i64 0) ≠ [] := fun e => by
   have := congrArg List.length e
   simp at this; omega
  obtain ⟨cs, hp⟩ := zfK (cs := cells) hne0 (n := i) (by simp; omega)
  obtain ⟨q1, q2, q3, q4⟩ := zeU hne0 hp
  refine ⟨cs, hp, ?_⟩
  simp [zmU, zgI, zhz, zj0, FR.put]
  refine ⟨cs, rfl, q1, fun q hq => ?_⟩
  rw [if_pos hq]
  exact q3 q (by omega)
 have w8 : ¬ (i + (n - j) = i) := by omega
 have w9 : ¬ (n - (i + (n - j)) = 0) := by omega
 have hl1 : ((cells.drop j).take (n - j)).length = n - j := by simp; omega
 have hne1 : (cells.drop j).take (n - j) ≠ [] := fun e => by
  have := congrArg List.length e
  rw [hl1] at this; simp at this; omega
 obtain ⟨cs1, hp1⟩ := zfK (cs := cells) hne1 (n := i) (by rw [hl1]; omega)
 obtain ⟨q1, q2, q3, q4⟩ := zeU hne1 hp1
 have hT : zga (n - j) (cells.drop j) = some ((cells.drop j).take (n - j)) := zgo (by simp; omega)
 have hsol : ((cells.drop j).take (n - j)).all zc4 = true := by
  rw [List.all_eq_true]
  intro x hx
  obtain ⟨t, ht⟩ := List.getElem?_of_mem hx
  have htl : t < n - j := by
   have := (List.getElem?_eq_some_iff.1 ht).1
   rw [hl1] at this; exact this
  rw [List.getElem?_take_of_lt htl, List.getElem?_drop] at ht
  obtain ⟨m, hm⟩ := hi (j + t) (by omega)
  rw [hm] at ht
  cases ht; rfl
 have hsol2 : ∀ x, x ∈ List.take (n - j) (List.drop j cells) → zc4 x = true := List.all_eq_true.1 hsol
 have hfit1 : i ≤ cells.length := by omega
 have hfit2 : (i + (n - j)) * 8 ≤ 140737488355328 := by omega
 have hfit3 : i + (n - j) ≤ 4611686018427387904 := by omega
 have hld : H.load id j = some (cells.drop j) := by simp [AH.load, hb]
 have hne2 : List.replicate (n - (i + (n - j))) (Value.int i64 0) ≠ [] := fun e => by
  have := congrArg List.length e
  simp at this; omega
 obtain ⟨cs2, hp2⟩ := zfK (cs := cs1) hne2 (n := i + (n - j)) (by simp; omega)
 obtain ⟨r1, r2, r3, r4⟩ := zeU hne2 hp2
 have hset : ∀ k k', (H.set id k).set id k' = H.set id k' := fun k k' => by
  simp only [AH.set, AH.mk.injEq, true_and]
  funext x
  split <;> rfl
 have hsb : ∀ k, (H.set id k).b id = k := fun k => by simp [AH.set]
 have a4 : (0 : Int) ≤ (i : Int) + ((n - j : Nat) : Int) := by omega
 have a5 : ((i : Int) + ((n - j : Nat) : Int)).toNat = i + (n - j) := by omega
 have hs1 : ∀ k (m : Int), zc4 (Value.int k m) = true := fun _ _ => rfl
 have hns : ¬ ∃ x, x ∈ List.take (n - j) (List.drop j cells) ∧ zc4 x = false := fun ⟨x, h1, h2⟩ => by rw [hsol2 x h1] at h2; cases h2
 simp [zpN, dops, dop, gop, zcW, okL, okS, okR, DE.ex, awp, zjP, zfJ, aop, ahp, zaN, za2, zaV, mat, zaY, zau, FR.put, FR.init, rdv, rda, zbG, zcB, zao, e1, e2, Am.lenV, zdD, zbX, bnd, ziR, zdf, zdK, hne, w0, w1, w2, w3, w4, w5, w6, w7, w8, w9, hnc, a1, a2, a3, Int.toNat_natCast, hs1, hns, a4, a5, hb, hz, hT, hp1, hld, hsol2, hfit1, hfit2, hfit3, hset, hsb]
 refine ⟨cs2, hp2, ?_⟩
 simp [zmU, zgI, zhz, zj0, FR.put]
 refine ⟨cs2, rfl, r1.trans q1, fun q hq => ?_⟩
 rw [hl1] at q3 q4
 rw [r3 q (by omega)]
 by_cases hqi : q < i
 ·rw [if_pos hqi]
  exact q3 q (by omega)
 rw [if_neg hqi]
 have := q4 (q - i) (by omega)
 rw [show i + (q - i) = q by omega, List.getElem?_take_of_lt (by omega), List.getElem?_drop] at this
 rw [this]
 congr 1; omega
def zck (a0 : List Int) (a1 : Int) (a2 : Int) : Option (List Int) :=
 gd (0 ≤ a1 ∧ a1 < a2 ∧ a2 ≤ a0.length ∧ a0.length * 8 ≤ 140737488355328) <|
 some (a0.take a1.toNat ++ a0.drop a2.toNat)
theorem zhc {a0 : List Int} {a1 a2 : Int} {r : List Int} (hr : zck a0 a1 a2 = some r) : PCalls Tryz.prog 151 [(.mv, .sl true 1 (a0.map zag)), (.sh, .int .i64 a1), (.sh, .int .i64 a2)] (Eo (.sl true 1 (r.map zag)) [.junk, .junk, .junk]) := by
 have hF : Rn _ (fun x => x = r) := ⟨r, hr, rfl⟩
 unfold zck at hF
 obtain ⟨⟨g0, g1, g2, g3⟩, hF⟩ := zgQ hF
 have h1 := zaa hF
 subst h1
 obtain ⟨i, rfl⟩ := Int.eq_ofNat_of_zero_le g0
 obtain ⟨j, rfl⟩ := Int.eq_ofNat_of_zero_le (Int.le_trans g0 (Int.le_of_lt g1))
 exact ztC zyG zvC zag (fun _ => rfl) (by omega) (by omega) (by omega)
@[go_sem] def zv8 : List DE := [d0 0 [7], d0 1 [8], d0 2 [10], d0 3 [42, 43], d0 4 [7], d0 5 [8], d0 6 [10], d0 7 [46, 47], d0 8 [45, 48], d0 9 [49], d0 10 [9], d0 11 [11], d0 12 [51, 52], d0 13 [0], d0 14 [53, 54], d0 15 [50, 55], d0 16 [0], d0 17 [56, 57], d0 18 [41, 44], d0 19 [59, 58]]
def zdH (a0 : Int) (a1 : List Int) (a2 : List Int) : Option ((List Int)) :=
 ((if ((a1.length : Int) == 0) = true then (
 some true) else (
 some ((a2.length : Int) == 0)) : Option Bool).bind fun x3 =>
 if x3 = true then (
 some []) else (
 gd (0 ≤ (i64.wrap ((i64.wrap ((a1.length : Int) + (a2.length : Int))) - 1)) ∧ (i64.wrap ((i64.wrap ((a1.length : Int) + (a2.length : Int))) - 1)) ≤ (i64.wrap ((i64.wrap ((a1.length : Int) + (a2.length : Int))) - 1)) ∧ 8 * (i64.wrap ((i64.wrap ((a1.length : Int) + (a2.length : Int))) - 1)) ≤ 140737488355328 ∧ (i64.wrap ((i64.wrap ((a1.length : Int) + (a2.length : Int))) - 1)) ≤ 4611686018427387904) <|
 (some (List.replicate ((i64.wrap ((i64.wrap ((a1.length : Int) + (a2.length : Int))) - 1)).toNat) 0)).bind fun x6 =>
 ((zas (σ := (List Int)) (fun i46 s45 =>
 (((ix a1 i46).bind fun x55 =>
 zas (σ := (List Int)) (fun i66 s65 =>
 (ix a2 i66).bind fun x72 =>
 (ix s65 (i64.wrap (i46 + i66))).bind fun x73 =>
 gd (a0 ≠ 0) <|
 gd (a0 ≠ 0) <|
 some (.go (s65.set ((i64.wrap (i46 + i66)).toNat) ((i64.wrap (x73 + ((i64.wrap (x55 * x72)).tmod a0))).tmod a0)))) (fun s65 => s65) (a2.length) 0 s45 : Option ((List Int))).bind fun x54 =>
 some (.go x54))) (fun s45 => s45) (a1.length) 0 x6 : Option ((List Int))).bind fun x11 =>
 some x11)))
theorem ziA : ∀ {a0} {a1} {a2} {r}, zdH a0 a1 a2 = some r → PCalls Tryz.prog 154 [(.sh, .int .i64 a0), (.sh, vC a1), (.sh, vC a2)] (Eo (vD r) [.junk, .junk, .junk]) := by
 intro a0 a1 a2 r hr
 apply pF 63 [] [] [] [.tmp 6] hr zzH Tryz.func154
 intro Φ hΦ hF g
 unfold zdH at hF
 refine wW ?_
 refine wJ hF (fun x3 => [(0, .v (.int .i64 a0)), (1, .v (vC a1)), (2, .v (vC a2)), (19, .v (.bool x3))]) (fun x3 hF => ?_) fun _ hj1 hF => ?_
 ·refine wI hF (fun h5 hF => ?_) (fun h5 hF => ?_)
  ·exact wl hΦ hF
  obtain ⟨g, hF⟩ := Rg g hF
  obtain ⟨x6, e7, hF⟩ := zff hF
  have g8 : List.replicate ((i64.wrap ((i64.wrap ((a1.length : Int) + (a2.length : Int))) - 1)).toNat) ([.int .i64 0] : List PV) = x6.map zag := by injection e7 with e7; rw [← e7]; simp [go_sem]
  iterate 2 (try simp [go_sem, g, g8]; try intros; refine zav ?_)
  try simp [go_sem, g, g8]
  try intros
  refine wK [0, 2, 7, 27, 28, 29] ?_
  refine wJ hF (fun x11 => [(7, .v (vD x11))]) (fun x11 hF => ?_) fun _ hj9 hF => ?_
  ·exact wl hΦ hF
  refine wB ?_
  obtain ⟨b78, hb79, hψ49⟩ := hF
  refine pR hb79 (fun i46 s45 => [(0, .v (.int .i64 a0)), (2, .v (vC a2)), (7, .v (vD s45)), (27, .v (vC a1)), (28, .v (.int .i64 (a1.length : Int))), (29, .v (.int .i64 i46))]) (fun s45 _ hN80 => ?_) (fun i46 s45 _ _ hi50 hi51 ho47 hg48 hF => ?_)
  ·exact wn hN80 (hj9 _) hψ49
  refine wW ?_
  refine wu hi50 hi51 ?_
  refine wW ?_
  refine wJ hF (fun x54 => [(0, .v (.int .i64 a0)), (2, .v (vC a2)), (7, .v (vD x54)), (27, .v (vC a1)), (28, .v (.int .i64 (a1.length : Int))), (29, .v (.int .i64 i46))]) (fun x54 hF => ?_) fun _ hj52 hF => ?_
  ·exact wi hi50 hi51 (hg48 _) (zaa hF)
  refine wB ?_
  obtain ⟨x55, g, hF⟩ := Rx g hF
  iterate 2 (try simp [go_sem, g]; try intros; refine zav ?_)
  refine wB ?_
  obtain ⟨b74, hb75, hψ69⟩ := hF
  refine pR hb75 (fun i66 s65 => [(0, .v (.int .i64 a0)), (2, .v (vC a2)), (7, .v (vD s65)), (8, .v (.int .i64 i46)), (9, .v (.int .i64 x55)), (27, .v (vC a1)), (28, .v (.int .i64 (a1.length : Int))), (29, .v (.int .i64 i46)), (34, .v (vC a2)), (35, .v (.int .i64 (a2.length : Int))), (36, .v (.int .i64 i66))]) (fun s65 _ hN76 => ?_) (fun i66 s65 _ _ hi70 hi71 ho67 hg68 hF => ?_)
  ·exact wn hN76 (hj52 _) hψ69
  refine wK [0, 2, 7, 8, 9, 27, 28, 29, 34, 35, 36, 37] ?_
  refine wu hi70 hi71 ?_
  refine wW ?_
  refine wB ?_
  obtain ⟨x72, g, hF⟩ := Rx g hF
  refine wW ?_
  refine wX zv8 follows ?_
  obtain ⟨x73, g, hF⟩ := Rx g hF
  obtain ⟨g, hF⟩ := Rz g hF
  obtain ⟨g, hF⟩ := Rz g hF
  refine wK [0, 2, 7, 8, 9, 27, 28, 29, 34, 35, 36] ?_
  exact wi hi70 hi71 (hg68 _) (zaa hF)
 try simp [go_sem, g]
 try intros
 refine wG hF (fun h4 hF => ?_) fun h4 hF => ?_
 ·exact wV h4 (hj1 _) (zaa hF)
 try simp [go_sem, g, h4]
 try intros
 exact wT (hj1 _) (zaa hF)
def zea (a0 : Int) (a1 : List Int) : Option ((List Int)) :=
 ((zas (σ := (List Int)) (fun i5 s4 =>
 (ix a1 i5).bind fun x11 =>
 (zcK (i64.wrap (0 - x11)) a0).bind fun z12 =>
 (zdH a0 s4 [z12, 1]).bind fun z13 =>
 some (.go z13)) (fun s4 => s4) (a1.length) 0 [1] : Option ((List Int))).bind fun x3 =>
 some x3)
theorem zlU : ∀ {a0} {a1} {r}, zea a0 a1 = some r → PCalls Tryz.prog 153 [(.sh, .int .i64 a0), (.sh, vC a1)] (Eo (vD r) [.junk, .junk]) := by
 intro a0 a1 r hr
 apply pF 25 [] [] [] [.tmp 4] hr zA7 Tryz.func153
 intro Φ hΦ hF g
 unfold zea at hF
 iterate 3 (try simp [go_sem, g]; try intros; refine zav ?_)
 refine wJ hF (fun x3 => [(5, .v (vD x3))]) (fun x3 hF => ?_) fun _ hj1 hF => ?_
 ·exact wl hΦ hF
 refine wB ?_
 obtain ⟨b14, hb15, hψ8⟩ := hF
 refine pR hb15 (fun i5 s4 => [(0, .v (.int .i64 a0)), (5, .v (vD s4)), (9, .v (vC a1)), (10, .v (.int .i64 (a1.length : Int))), (11, .v (.int .i64 i5))]) (fun s4 _ hN16 => ?_) (fun i5 s4 _ _ hi9 hi10 ho6 hg7 hF => ?_)
 ·exact wn hN16 (hj1 _) hψ8
 refine wW ?_
 refine wu hi9 hi10 ?_
 refine wW ?_
 refine wB ?_
 obtain ⟨x11, g, hF⟩ := Rx g hF
 refine wK [0, 5, 7, 9, 10, 11] ?_
 refine wC hF [.sh, .sh] zhS (fun z12 hF => ?_)
 refine wC hF [.sh, .sh, .sh] ziA (fun z13 hF => ?_)
 refine wW ?_
 exact wi hi9 hi10 (hg7 _) (zaa hF)
@[go_sem] def zxk : List DE := [d0 0 [7], d0 1 [2], d0 2 [16, 17], d0 3 [0], d0 4 [18, 19], d0 5 [1], d0 6 [8], d0 7 [21, 22], d0 8 [23], d0 9 [20, 24], d0 10 [0], d0 11 [25, 26], d0 12 [27]]
def zdJ (a0 : Int) (a1 : List Int) (a2 : Int) : Option Int :=
 ((zbc (σ := Int × Int) (fun s4 =>
 if decide (0 ≤ s4.2) = true then (
 gd (a0 ≠ 0) <|
 (ix a1 s4.2).bind fun x10 =>
 gd (a0 ≠ 0) <|
 some (.go ((i64.wrap (((i64.wrap (s4.1 * a2)).tmod a0) + x10)).tmod a0, i64.wrap (s4.2 - 1)))) else (
 some (.out s4.1))) (0, i64.wrap ((a1.length : Int) - 1)) : Option Int).bind fun x3 =>
 some x3)
theorem ziN : ∀ {a0} {a1} {a2} {r}, zdJ a0 a1 a2 = some r → PCalls Tryz.prog 104 [(.sh, .int .i64 a0), (.sh, vC a1), (.sh, .int .i64 a2)] (Eo (.int .i64 r) [.junk, .junk, .junk]) := by
 intro a0 a1 a2 r hr
 apply pF 29 [] [] [] [.tmp 6] hr zBl Tryz.func104
 intro Φ hΦ hF g
 unfold zdJ at hF
 iterate 3 (try simp [go_sem, g]; try intros; refine zav ?_)
 refine wJ hF (fun x3 => [(7, .v (.int .i64 x3))]) (fun x3 hF => ?_) fun _ hj1 hF => ?_
 ·exact wl hΦ hF
 refine wB ?_
 obtain ⟨b11, hb12, hψ8⟩ := hF
 refine pL hb12 (fun s4 => [(0, .v (.int .i64 a0)), (1, .v (vC a1)), (2, .v (.int .i64 a2)), (7, .v (.int .i64 s4.1)), (8, .v (.int .i64 s4.2))]) (fun s4 _ _ ho6 hg7 hF => ?_)
 refine wW ?_
 refine wI hF (fun h9 hF => ?_) (fun h9 hF => ?_)
 ·refine wW ?_
  refine wB ?_
  refine wX zxk follows ?_
  obtain ⟨g, hF⟩ := Rz g hF
  obtain ⟨x10, g, hF⟩ := Rx g hF
  obtain ⟨g, hF⟩ := Rz g hF
  refine wK [0, 1, 2, 7, 8] ?_
  exact wT (hg7 _) (zaa hF)
 cases ho6 _ (zaa hF)
 exact wT (hj1 _) hψ8
def zdk (a0 : Int) (a1 : Int) : Option Int :=
 ((zbc (σ := Int × Int × Int × Int) (fun s4 =>
 if (s4.2.1 != 0) = true then (
 gd (s4.2.1 ≠ 0) <|
 some (.go (s4.2.1, i64.wrap (s4.1 - (i64.wrap ((i64.wrap (s4.1.tdiv s4.2.1)) * s4.2.1))), s4.2.2.2, i64.wrap (s4.2.2.1 - (i64.wrap ((i64.wrap (s4.1.tdiv s4.2.1)) * s4.2.2.2)))))) else (
 some (.out (s4.1, s4.2.2.1)))) (a1, a0, 0, 1) : Option ((Int × Int))).bind fun x3 =>
 if (x3.1 != 1) = true then (
 some 0) else (
 (zcK x3.2 a1).bind fun z13 =>
 some z13))
theorem zmS : ∀ {a0} {a1} {r}, zdk a0 a1 = some r → PCalls Tryz.prog 155 [(.sh, .int .i64 a0), (.sh, .int .i64 a1)] (Eo (.int .i64 r) [.junk, .junk]) := by
 intro a0 a1 r hr
 apply pF 34 [] [] [] [.tmp 4] hr zzF Tryz.func155
 intro Φ hΦ hF g
 unfold zdk at hF
 iterate 2 refine wW ?_
 refine wJ hF (fun x3 => [(1, .v (.int .i64 a1)), (5, .v (.int .i64 x3.1)), (7, .v (.int .i64 x3.2))]) (fun x3 hF => ?_) fun _ hj1 hF => ?_
 ·refine wW ?_
  refine wI hF (fun h12 hF => ?_) (fun h12 hF => ?_)
  ·refine wK [4] ?_
   exact wm hΦ hF
  refine wW ?_
  refine wC hF [.sh, .sh] zhS (fun z13 hF => ?_)
  refine wK [4] ?_
  exact wm hΦ hF
 refine wB ?_
 obtain ⟨b10, hb11, hψ8⟩ := hF
 refine pL hb11 (fun s4 => [(1, .v (.int .i64 a1)), (5, .v (.int .i64 s4.1)), (6, .v (.int .i64 s4.2.1)), (7, .v (.int .i64 s4.2.2.1)), (8, .v (.int .i64 s4.2.2.2))]) (fun s4 _ _ ho6 hg7 hF => ?_)
 refine wW ?_
 refine wI hF (fun h9 hF => ?_) (fun h9 hF => ?_)
 ·refine wW ?_
  refine wB ?_
  obtain ⟨g, hF⟩ := Rz g hF
  refine wK [1, 5, 6, 7, 8, 9] ?_
  refine wW ?_
  exact wT (hg7 _) (zaa hF)
 cases ho6 _ (zaa hF)
 exact wT (hj1 _) hψ8
def zfL (a0 : Int) (a1 : List Int) (a2 : Int) : Option ((List Int)) :=
 (zdw a1).bind fun z1 =>
 (zck z1 a2 (i64.wrap (a2 + 1))).bind fun z2 =>
 (zea a0 z2).bind fun z3 =>
 (ix a1 a2).bind fun x4 =>
 (zdJ a0 z3 x4).bind fun z5 =>
 (zdk z5 a0).bind fun z6 =>
 (zdH a0 z3 [z6]).bind fun z7 =>
 some z7
theorem znr : ∀ {a0} {a1} {a2} {r}, zfL a0 a1 a2 = some r → PCalls Tryz.prog 105 [(.sh, .int .i64 a0), (.sh, vC a1), (.sh, .int .i64 a2)] (Eo (vD r) [.junk, .junk, .junk]) := by
 intro a0 a1 a2 r hr
 apply pF 31 [] [] [] [.tmp 6] hr zBD Tryz.func105
 intro Φ hΦ hF g
 unfold zfL at hF
 refine wW ?_
 refine wC hF [.sh] ziT (fun z1 hF => ?_)
 refine wC hF [.mv, .sh, .sh] zhc (fun z2 hF => ?_)
 refine wW ?_
 refine wC hF [.sh, .sh] zlU (fun z3 hF => ?_)
 refine wK [0, 1, 2, 8] ?_
 obtain ⟨x4, g, hF⟩ := Rx g hF
 refine wC hF [.sh, .sh, .sh] ziN (fun z5 hF => ?_)
 refine wC hF [.sh, .sh] zmS (fun z6 hF => ?_)
 refine wC hF [.sh, .sh, .sh] ziA (fun z7 hF => ?_)
 refine wK [6] ?_
 exact wm hΦ hF
def zey (a0 : Int) (a1 : List Int) (a2 : Int) : Option ((List Int)) :=
 ((zas (σ := (List Int)) (fun i5 s4 =>
 (zfL a0 a1 i5).bind fun z11 =>
 (zdJ a0 z11 a2).bind fun z12 =>
 gd ((s4.length + 1) * 8 ≤ 140737488355328 ∧ s4.length + 1 ≤ 4611686018427387904) <|
 some (.go (s4 ++ [z12]))) (fun s4 => s4) (a1.length) 0 [] : Option ((List Int))).bind fun x3 =>
 some x3)
theorem zmg : ∀ {a0} {a1} {a2} {r}, zey a0 a1 a2 = some r → PCalls Tryz.prog 51 [(.sh, .int .i64 a0), (.sh, vC a1), (.sh, .int .i64 a2)] (Eo (vD r) [.junk, .junk, .junk]) := by
 intro a0 a1 a2 r hr
 apply pF 27 [] [] [] [.tmp 6] hr zFa Tryz.func51
 intro Φ hΦ hF g
 unfold zey at hF
 iterate 3 (try simp [go_sem, g]; try intros; refine zav ?_)
 refine wJ hF (fun x3 => [(7, .v (vD x3))]) (fun x3 hF => ?_) fun _ hj1 hF => ?_
 ·exact wl hΦ hF
 refine wB ?_
 obtain ⟨b13, hb14, hψ8⟩ := hF
 refine pR hb14 (fun i5 s4 => [(0, .v (.int .i64 a0)), (1, .v (vC a1)), (2, .v (.int .i64 a2)), (7, .v (vD s4)), (11, .v (.int .i64 (a1.length : Int))), (12, .v (.int .i64 i5))]) (fun s4 _ hN15 => ?_) (fun i5 s4 _ _ hi9 hi10 ho6 hg7 hF => ?_)
 ·exact wn hN15 (hj1 _) hψ8
 refine wW ?_
 refine wu hi9 hi10 ?_
 refine wW ?_
 refine wB ?_
 refine wW ?_
 refine wC hF [.sh, .sh, .sh] znr (fun z11 hF => ?_)
 refine wC hF [.sh, .sh, .sh] ziN (fun z12 hF => ?_)
 obtain ⟨g, hF⟩ := Rg g hF
 refine wK [0, 1, 2, 7, 11, 12] ?_
 exact wi hi9 hi10 (hg7 _) (zaa hF)
def zcP (a0 : Group) (a1 : Int) : Option Int :=
 (zba a0 a1 (-1)).bind fun z1 =>
 some z1
theorem zio : ∀ {a0} {a1} {r}, zcP a0 a1 = some r → PCalls Tryz.prog 49 [(.sh, vE a0), (.sh, .int .i64 a1)] (Eo (.int .i64 r) [.junk, .junk]) := by
 intro a0 a1 r hr
 apply pF 8 [] [] [] [.tmp 4] hr zCQ Tryz.func49
 intro Φ hΦ hF g
 unfold zcP at hF
 refine wW ?_
 refine wC hF [.sh, .sh, .sh] zcL (fun z1 hF => ?_)
 exact wl hΦ hF
@[go_sem] def zxT : List DE := [d2 0 [4] 4 4, d1 1 [6] 6, d2 2 [62] 6 62, d2 3 [4] 4 4, d2 4 [4] 4 4, d0 5 [13], d1 6 [4] 4, d2 7 [67] 4 67, d0 8 [12], d3 9 [68, 69], d3 10 [65, 66, 70], d3 11 [64, 71], d0 12 [63, 72], ⟨13, [61, 73], [], none, true, true, true⟩, d0 14 [74], d0 15 []]
@[go_sem] def zAK : List DE := [d0 0 [12], d0 1 [3], d0 2 [15], d0 3 [45, 46], d0 4 [47], d0 5 [48], d0 6 [49], d0 8 [13], d0 9 [3], d0 10 [15], d0 11 [53, 54], d0 12 [55], d0 13 [56], d0 14 [57], ⟨7, [44, 50], [], none, true, false, false⟩, ⟨15, [52, 58], [], none, true, false, false⟩, d0 16 [51], d0 17 [59]]
@[go_sem] def zwd : List DE := [d0 0 [12], d0 1 [3], d0 2 [15], d0 3 [45, 46], d0 4 [47], d0 5 [48], d0 6 [49], d0 8 [13], d0 9 [3], d0 10 [15], d0 11 [53, 54], d0 12 [55], ⟨7, [44, 50], [], none, true, false, false⟩, d0 13 [56], d0 14 [57], ⟨15, [52, 58], [], none, true, false, false⟩, d0 16 [51], d0 17 [59]]
end
end Go.Pm
