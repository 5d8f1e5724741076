/-
  Plain functions and their walks. Written by wip/tools/lift.py.
-/
import Derived.Test.YtikiohlamlipnaaGreatSo
namespace Go.Pm
open Go.Am IntKind
open Go.Proofs
set_option maxRecDepth 100000
attribute [local irreducible] pw pwx pw1 pwg qv qz qf
attribute [-simp] List.map_set
set_option linter.unusedSimpArgs false
set_option linter.unusedVariables false
noncomputable section
structure Group where
 P : Int
 Q : Int
 G : Int
structure Cipher where
 A : Int
 B : Int
structure Proof where
 Commits : (List Int)
 Challenges : (List Int)
 Responses : (List Int)
structure Cast where
 Credential : Cipher
 Vote : Cipher
 Pi : Proof
structure l1Cur where
 code : (List Int)
 at_ : Int
 seed : Int
structure l3State where
 s : Int
 t : Int
def zdV (x : Int) : List PV := [.int .u8 x]
@[go_sem] theorem zwD {x : Int} : zdV x = [.int .u8 x] := (rfl)
@[go_sem] theorem znk {l : List Int} : List.map (List.map drop ∘ zdV) l = l.map zdV := by refine List.map_congr_left fun x _ => ?_; simp [go_sem]
@[go_sem] theorem ztX {l : List Int} : List.map (List.map drop) (l.map zdV) = l.map zdV := by rw [List.map_map]; exact znk
@[go_sem] theorem zvG {l : List Int} {i : Nat} {a : Int} : (l.map zdV).set i [.int .u8 a] = (l.set i a).map zdV := by rw [List.map_set]; rfl
def zai (x : Int) : List PV := [.int .i64 x]
@[go_sem] theorem zvb {x : Int} : zai x = [.int .i64 x] := (rfl)
@[go_sem] theorem zmn {l : List Int} : List.map (List.map drop ∘ zai) l = l.map zai := by refine List.map_congr_left fun x _ => ?_; simp [go_sem]
@[go_sem] theorem zsY {l : List Int} : List.map (List.map drop) (l.map zai) = l.map zai := by rw [List.map_map]; exact zmn
@[go_sem] theorem zub {l : List Int} {i : Nat} {a : Int} : (l.map zai).set i [.int .i64 a] = (l.set i a).map zai := by rw [List.map_set]; rfl
def zcv (x : Cipher) : List PV := [.int .i64 x.A, .int .i64 x.B]
@[go_sem] theorem zs0 {x : Cipher} : zcv x = [.int .i64 x.A, .int .i64 x.B] := (rfl)
@[go_sem] theorem zkc {l : List Cipher} : List.map (List.map drop ∘ zcv) l = l.map zcv := by refine List.map_congr_left fun x _ => ?_; simp [go_sem]
@[go_sem] theorem zrI {l : List Cipher} : List.map (List.map drop) (l.map zcv) = l.map zcv := by rw [List.map_map]; exact zkc
@[go_sem] theorem zsH {l : List Cipher} {i : Nat} {A : Int} {B : Int} : (l.map zcv).set i [.int .i64 A, .int .i64 B] = (l.set i (Cipher.mk A B)).map zcv := by rw [List.map_set]; rfl
def zcg (x : Cast) : List PV := [.int .i64 x.Credential.A, .int .i64 x.Credential.B, .int .i64 x.Vote.A, .int .i64 x.Vote.B, .sl false 1 (x.Pi.Commits.map zai), .sl false 1 (x.Pi.Challenges.map zai), .sl false 1 (x.Pi.Responses.map zai)]
@[go_sem] theorem zue {x : Cast} : zcg x = [.int .i64 x.Credential.A, .int .i64 x.Credential.B, .int .i64 x.Vote.A, .int .i64 x.Vote.B, .sl false 1 (x.Pi.Commits.map zai), .sl false 1 (x.Pi.Challenges.map zai), .sl false 1 (x.Pi.Responses.map zai)] := (rfl)
@[go_sem] theorem zlu {l : List Cast} : List.map (List.map drop ∘ zcg) l = l.map zcg := by refine List.map_congr_left fun x _ => ?_; simp [go_sem]
@[go_sem] theorem zsx {l : List Cast} : List.map (List.map drop) (l.map zcg) = l.map zcg := by rw [List.map_map]; exact zlu
@[go_sem] theorem zs4 {l : List Cast} {i : Nat} {CredentialA : Int} {CredentialB : Int} {VoteA : Int} {VoteB : Int} {PiCommits : (List Int)} {PiChallenges : (List Int)} {PiResponses : (List Int)} : (l.map zcg).set i [.int .i64 CredentialA, .int .i64 CredentialB, .int .i64 VoteA, .int .i64 VoteB, .sl false 1 (PiCommits.map zai), .sl false 1 (PiChallenges.map zai), .sl false 1 (PiResponses.map zai)] = (l.set i (Cast.mk (Cipher.mk CredentialA CredentialB) (Cipher.mk VoteA VoteB) (Proof.mk PiCommits PiChallenges PiResponses))).map zcg := by rw [List.map_set]; rfl
@[go_sem] theorem ztK {l : List Cast} {i : Nat} {Credential : Cipher} {Vote : Cipher} {Pi : Proof} : (l.map zcg).set i [.int .i64 Credential.A, .int .i64 Credential.B, .int .i64 Vote.A, .int .i64 Vote.B, .sl false 1 (Pi.Commits.map zai), .sl false 1 (Pi.Challenges.map zai), .sl false 1 (Pi.Responses.map zai)] = (l.set i (Cast.mk Credential Vote Pi)).map zcg := by rw [List.map_set]; rfl
def zcw (x : Cast) : List PV := [.int .i64 x.Credential.A, .int .i64 x.Credential.B, .int .i64 x.Vote.A, .int .i64 x.Vote.B, .sl true 1 (x.Pi.Commits.map zai), .sl true 1 (x.Pi.Challenges.map zai), .sl true 1 (x.Pi.Responses.map zai)]
@[go_sem] theorem zrT {x : Cast} : zcw x = [.int .i64 x.Credential.A, .int .i64 x.Credential.B, .int .i64 x.Vote.A, .int .i64 x.Vote.B, .sl true 1 (x.Pi.Commits.map zai), .sl true 1 (x.Pi.Challenges.map zai), .sl true 1 (x.Pi.Responses.map zai)] := (rfl)
@[go_sem] theorem zjd {l : List Cast} : List.map (List.map drop ∘ zcw) l = l.map zcg := by refine List.map_congr_left fun x _ => ?_; simp [go_sem]
@[go_sem] theorem zpZ {l : List Cast} : List.map (List.map drop) (l.map zcw) = l.map zcg := by rw [List.map_map]; exact zjd
@[go_sem] theorem zqS {l : List Cast} {i : Nat} {CredentialA : Int} {CredentialB : Int} {VoteA : Int} {VoteB : Int} {PiCommits : (List Int)} {PiChallenges : (List Int)} {PiResponses : (List Int)} : (l.map zcw).set i [.int .i64 CredentialA, .int .i64 CredentialB, .int .i64 VoteA, .int .i64 VoteB, .sl true 1 (PiCommits.map zai), .sl true 1 (PiChallenges.map zai), .sl true 1 (PiResponses.map zai)] = (l.set i (Cast.mk (Cipher.mk CredentialA CredentialB) (Cipher.mk VoteA VoteB) (Proof.mk PiCommits PiChallenges PiResponses))).map zcw := by rw [List.map_set]; rfl
@[go_sem] theorem zqY {l : List Cast} {i : Nat} {Credential : Cipher} {Vote : Cipher} {Pi : Proof} : (l.map zcw).set i [.int .i64 Credential.A, .int .i64 Credential.B, .int .i64 Vote.A, .int .i64 Vote.B, .sl true 1 (Pi.Commits.map zai), .sl true 1 (Pi.Challenges.map zai), .sl true 1 (Pi.Responses.map zai)] = (l.set i (Cast.mk Credential Vote Pi)).map zcw := by rw [List.map_set]; rfl
def vA (x : List Int) : PV := .sl false 1 (x.map zdV)
@[go_sem] theorem zEM {x : (List Int)} : vA x = .sl false 1 (x.map zdV) := (rfl)
def vB (x0 : List Int) (x1 : Int) (x2 : Int) : PV := .bx [.sl false 1 (x0.map zdV), .int .i64 x1, .int .u64 x2]
@[go_sem] theorem zEa {x0 : (List Int)} {x1 : Int} {x2 : Int} : vB x0 x1 x2 = .bx [.sl false 1 (x0.map zdV), .int .i64 x1, .int .u64 x2] := (rfl)
def vC (x : List Int) : PV := .sl false 1 (x.map zai)
@[go_sem] theorem zDK {x : (List Int)} : vC x = .sl false 1 (x.map zai) := (rfl)
def vD (x : List Int) : PV := .sl true 1 (x.map zai)
@[go_sem] theorem zEj {x : (List Int)} : vD x = .sl true 1 (x.map zai) := (rfl)
def vE (x : Group) : PV := .agg [.int .i64 x.P, .int .i64 x.Q, .int .i64 x.G]
@[go_sem] theorem zEo {x : Group} : vE x = .agg [.int .i64 x.P, .int .i64 x.Q, .int .i64 x.G] := (rfl)
def vF (x : Cipher) : PV := .agg [.int .i64 x.A, .int .i64 x.B]
@[go_sem] theorem zDR {x : Cipher} : vF x = .agg [.int .i64 x.A, .int .i64 x.B] := (rfl)
def vG (x : List Cipher) : PV := .sl true 2 (x.map zcv)
@[go_sem] theorem zD2 {x : (List Cipher)} : vG x = .sl true 2 (x.map zcv) := (rfl)
def vH (x : List Cast) : PV := .sl true 7 (x.map zcg)
@[go_sem] theorem zDC {x : (List Cast)} : vH x = .sl true 7 (x.map zcg) := (rfl)
def vI (x0 : Int) (x1 : Int) : PV := .bx [.int .i64 x0, .int .i64 x1]
@[go_sem] theorem zEt {x0 : Int} {x1 : Int} : vI x0 x1 = .bx [.int .i64 x0, .int .i64 x1] := (rfl)
def vJ (x : Cast) : PV := .agg [.int .i64 x.Credential.A, .int .i64 x.Credential.B, .int .i64 x.Vote.A, .int .i64 x.Vote.B, .sl false 1 (x.Pi.Commits.map zai), .sl false 1 (x.Pi.Challenges.map zai), .sl false 1 (x.Pi.Responses.map zai)]
@[go_sem] theorem zEF {x : Cast} : vJ x = .agg [.int .i64 x.Credential.A, .int .i64 x.Credential.B, .int .i64 x.Vote.A, .int .i64 x.Vote.B, .sl false 1 (x.Pi.Commits.map zai), .sl false 1 (x.Pi.Challenges.map zai), .sl false 1 (x.Pi.Responses.map zai)] := (rfl)
def vK (x : Cast) : PV := .agg [.int .i64 x.Credential.A, .int .i64 x.Credential.B, .int .i64 x.Vote.A, .int .i64 x.Vote.B, .sl true 1 (x.Pi.Commits.map zai), .sl true 1 (x.Pi.Challenges.map zai), .sl true 1 (x.Pi.Responses.map zai)]
@[go_sem] theorem zEr {x : Cast} : vK x = .agg [.int .i64 x.Credential.A, .int .i64 x.Credential.B, .int .i64 x.Vote.A, .int .i64 x.Vote.B, .sl true 1 (x.Pi.Commits.map zai), .sl true 1 (x.Pi.Challenges.map zai), .sl true 1 (x.Pi.Responses.map zai)] := (rfl)
def vL (x : Proof) : PV := .agg [.sl false 1 (x.Commits.map zai), .sl false 1 (x.Challenges.map zai), .sl false 1 (x.Responses.map zai)]
@[go_sem] theorem zDF {x : Proof} : vL x = .agg [.sl false 1 (x.Commits.map zai), .sl false 1 (x.Challenges.map zai), .sl false 1 (x.Responses.map zai)] := (rfl)
def vM (x : Proof) : PV := .agg [.sl true 1 (x.Commits.map zai), .sl true 1 (x.Challenges.map zai), .sl true 1 (x.Responses.map zai)]
@[go_sem] theorem zEe {x : Proof} : vM x = .agg [.sl true 1 (x.Commits.map zai), .sl true 1 (x.Challenges.map zai), .sl true 1 (x.Responses.map zai)] := (rfl)
def vN (x : List Cast) : PV := .sl true 7 (x.map zcw)
@[go_sem] theorem zDB {x : (List Cast)} : vN x = .sl true 7 (x.map zcw) := (rfl)
def vO (x : List Cipher) : PV := .sl false 2 (x.map zcv)
@[go_sem] theorem zD7 {x : (List Cipher)} : vO x = .sl false 2 (x.map zcv) := (rfl)
def vP (x : List Cast) : PV := .sl false 7 (x.map zcg)
@[go_sem] theorem zEn {x : (List Cast)} : vP x = .sl false 7 (x.map zcg) := (rfl)
@[go_sem] def zuS : List DE := [d0 0 [0], d0 1 [4], d0 2 [5], d0 3 [6], d0 4 [0], d0 5 [8], d0 6 [9], d0 7 [10], d0 8 [11], d0 9 [7, 12]]
@[go_sem] def zvt : List DE := [d0 0 [0], d0 1 [14], d0 2 [15], d0 3 [16], d0 4 [0], d0 5 [18], d0 6 [19], d0 7 [20], d0 8 [17, 21], d0 9 [22], d0 10 [23], d0 11 [24]]
@[go_sem] def zuJ : List DE := [d0 0 [0], d0 1 [44], d0 2 [45], d0 3 [46], d0 4 [0], d0 5 [48], d0 6 [49], d0 7 [50], d0 8 [51], d0 9 [47, 52]]
def zbC (a0c0 : List Int) (a0c1 : Int) (a0c2 : Int) : Option (Int × (List Int × Int × Int)) :=
 ((if decide (a0c1 < (a0c0.length : Int)) = true then (
 (ix a0c0 a0c1).bind fun x5 =>
 some (i64.wrap x5)) else (
 some 0) : Option Int).bind fun x3 =>
 if decide ((i64.wrap (a0c1 + 1)) ≤ (a0c0.length : Int)) = true then (
 some (x3, (a0c0, i64.wrap (a0c1 + 1), u64.wrap ((u64.wrap ((u64.wrap (a0c2 * 6364136223846793005)) + (u64.wrap x3))) + 1442695040888963407)))) else (
 some (i64.wrap (u64.wrap ((BitVec.ofInt u64.bits ((u64.wrap ((u64.wrap ((u64.wrap (a0c2 * 6364136223846793005)) + (u64.wrap x3))) + 1442695040888963407)).fdiv 1099511627776) &&& BitVec.ofInt u64.bits 255).toNat)), (a0c0, i64.wrap (a0c1 + 1), u64.wrap ((u64.wrap ((u64.wrap (a0c2 * 6364136223846793005)) + (u64.wrap x3))) + 1442695040888963407)))))
theorem zeN : ∀ {a0c0} {a0c1} {a0c2} {r}, zbC a0c0 a0c1 a0c2 = some r → PCalls Tryz.prog 98 [(.io, vB a0c0 a0c1 a0c2)] (Eo (.int .i64 r.1) [vB r.2.1 r.2.2.1 r.2.2.2]) := by
 intro a0c0 a0c1 a0c2 r hr
 apply pF 62 [0] [] [] [.tmp 2] hr zyn Tryz.func98
 intro Φ hΦ hF g
 unfold zbC at hF
 iterate 2 refine wW ?_
 refine wX zuS follows ?_
 try simp [go_sem, g]
 try intros
 refine wK [0, 3, 13] ?_
 refine wJ hF (fun x3 => [(0, .v (vB a0c0 a0c1 a0c2)), (3, .v (.int .i64 x3))]) (fun x3 hF => ?_) fun _ hj1 hF => ?_
 ·refine wW ?_
  refine wK [0, 3] ?_
  refine wX zuJ follows ?_
  try simp [go_sem, g]
  try intros
  refine wK [0, 3, 53] ?_
  refine wI hF (fun h6 hF => ?_) (fun h6 hF => ?_)
  ·exact wl hΦ hF
  have g := Ls g 40
  cases hΦ _ (zaa hF)
  iterate 2 refine wW ?_
  try simp [go_sem, g]
 refine wI hF (fun h4 hF => ?_) (fun h4 hF => ?_)
 ·refine wX zvt follows ?_
  obtain ⟨x5, g, hF⟩ := Rx g hF
  exact wT (hj1 _) (zaa hF)
 exact wT (hj1 _) (zaa hF)
def zaf (a0c0 : List Int) (a0c1 : Int) (a0c2 : Int) (a1 : Int) : Option (Int × (List Int × Int × Int)) :=
 if decide (a1 ≤ 1) = true then (
 some (0, (a0c0, a0c1, a0c2))) else (
 (zbC a0c0 a0c1 a0c2).bind fun z2 =>
 ((if decide (200 < a1) = true then (
 (zbC z2.2.1 z2.2.2.1 z2.2.2.2).bind fun z7 =>
 some ((z7.2.1, z7.2.2.1, z7.2.2.2), i64.wrap ((i64.wrap (z2.1 * 256)) + z7.1))) else (
 some ((z2.2.1, z2.2.2.1, z2.2.2.2), z2.1)) : Option (((List Int × Int × Int) × Int))).bind fun x5 =>
 gd (a1 ≠ 0) <|
 some (x5.2.tmod a1, (x5.1.1, x5.1.2.1, x5.1.2.2))))
theorem zag : ∀ {a0c0} {a0c1} {a0c2} {a1} {r}, zaf a0c0 a0c1 a0c2 a1 = some r → PCalls Tryz.prog 43 [(.io, vB a0c0 a0c1 a0c2), (.sh, .int .i64 a1)] (Eo (.int .i64 r.1) [vB r.2.1 r.2.2.1 r.2.2.2, .junk]) := by
 intro a0c0 a0c1 a0c2 a1 r hr
 apply pF 20 [0] [] [] [.tmp 4] hr zxF Tryz.func43
 intro Φ hΦ hF g
 unfold zaf at hF
 iterate 2 refine wW ?_
 refine wI hF (fun h1 hF => ?_) (fun h1 hF => ?_)
 ·exact wl hΦ hF
 refine wW ?_
 refine wC hF [.io] zeN (fun z2 hF => ?_)
 iterate 2 refine wW ?_
 refine wJ hF (fun x5 => [(0, .v (vB x5.1.1 x5.1.2.1 x5.1.2.2)), (1, .v (.int .i64 a1)), (5, .v (.int .i64 x5.2))]) (fun x5 hF => ?_) fun _ hj3 hF => ?_
 ·obtain ⟨g, hF⟩ := Rz g hF
  refine wK [0, 4] ?_
  exact wm hΦ hF
 refine wI hF (fun h6 hF => ?_) (fun h6 hF => ?_)
 ·refine wC hF [.io] zeN (fun z7 hF => ?_)
  exact wT (hj3 _) (zaa hF)
 exact wT (hj3 _) (zaa hF)
def zeE (a0c0 : List Int) (a0c1 : Int) (a0c2 : Int) (a1 : List Int) : Option (Int × (List Int × Int × Int)) :=
 (zaf a0c0 a0c1 a0c2 (a1.length : Int)).bind fun z1 =>
 (ix a1 z1.1).bind fun x2 =>
 some (x2, (z1.2.1, z1.2.2.1, z1.2.2.2))
theorem zm3 : ∀ {a0c0} {a0c1} {a0c2} {a1} {r}, zeE a0c0 a0c1 a0c2 a1 = some r → PCalls Tryz.prog 77 [(.io, vB a0c0 a0c1 a0c2), (.sh, vC a1)] (Eo (.int .i64 r.1) [vB r.2.1 r.2.2.1 r.2.2.2, .junk]) := by
 intro a0c0 a0c1 a0c2 a1 r hr
 apply pF 12 [0] [] [] [.tmp 4] hr ztu Tryz.func77
 intro Φ hΦ hF g
 unfold zeE at hF
 try simp [go_sem, g]
 try intros
 refine zaY ?_
 try simp [go_sem, g]
 try intros
 refine wC hF [.io, .sh] zag (fun z1 hF => ?_)
 obtain ⟨x2, g, hF⟩ := Rx g hF
 exact wl hΦ hF
def zal (a0c0 : List Int) (a0c1 : Int) (a0c2 : Int) (a1 : List Int) : Option (Int × (List Int × Int × Int)) :=
 (zaf a0c0 a0c1 a0c2 (a1.length : Int)).bind fun z1 =>
 (ix a1 z1.1).bind fun x2 =>
 some (x2, (z1.2.1, z1.2.2.1, z1.2.2.2))
theorem zak : ∀ {a0c0} {a0c1} {a0c2} {a1} {r}, zal a0c0 a0c1 a0c2 a1 = some r → PCalls Tryz.prog 77 [(.io, vB a0c0 a0c1 a0c2), (.mv, vD a1)] (Eo (.int .i64 r.1) [vB r.2.1 r.2.2.1 r.2.2.2, .junk]) := by
 intro a0c0 a0c1 a0c2 a1 r hr
 apply pF 12 [0] [] [] [.tmp 4] hr ztu Tryz.func77
 intro Φ hΦ hF g
 unfold zal at hF
 try simp [go_sem, g]
 try intros
 refine zaY ?_
 try simp [go_sem, g]
 try intros
 refine wC hF [.io, .sh] zag (fun z1 hF => ?_)
 obtain ⟨x2, g, hF⟩ := Rx g hF
 exact wl hΦ hF
def zcp (a0 : Int) (a1 : Int) (a2 : Int) : Option Bool :=
 ((if decide (a1 ≤ a0) = true then (
 some (decide (a0 ≤ a2))) else (
 some false) : Option Bool).bind fun x3 =>
 some x3)
theorem zeh : ∀ {a0} {a1} {a2} {r}, zcp a0 a1 a2 = some r → PCalls Tryz.prog 63 [(.sh, .int .i64 a0), (.sh, .int .i64 a1), (.sh, .int .i64 a2)] (Eo (.bool r) [.junk, .junk, .junk]) := by
 intro a0 a1 a2 r hr
 apply pF 15 [] [] [] [.tmp 6] hr zxn Tryz.func63
 intro Φ hΦ hF g
 unfold zcp at hF
 refine wW ?_
 refine wJ hF (fun x3 => [(6, .v (.bool x3))]) (fun x3 hF => ?_) fun _ hj1 hF => ?_
 ·exact wm hΦ hF
 refine wG hF (fun h4 hF => ?_) fun h4 hF => ?_
 ·exact wV h4 (hj1 _) (zaa hF)
 exact wV h4 (hj1 _) (zaa hF)
def zcA (a0 : Int) : Option Bool :=
 if decide (a0 < 2) = true then (
 some false) else (
 ((zbG (σ := Int) (fun s5 =>
 if decide ((i64.wrap (s5 * s5)) ≤ a0) = true then (
 gd (s5 ≠ 0) <|
 if ((a0.tmod s5) == 0) = true then (
 some (.out (.inr false))) else (
 some (.go (i64.wrap (s5 + 1))))) else (
 some (.out (.inl ())))) 2 : Option (Unit ⊕ Bool)).bind (Sum.elim (fun x4 =>
 some true) some)))
theorem zeX : ∀ {a0} {r}, zcA a0 = some r → PCalls Tryz.prog 127 [(.sh, .int .i64 a0)] (Eo (.bool r) [.junk]) := by
 intro a0 r hr
 apply pF 17 [] [] [] [.tmp 2] hr zvM Tryz.func127
 intro Φ hΦ hF g
 unfold zcA at hF
 iterate 2 refine wW ?_
 refine wI hF (fun h1 hF => ?_) (fun h1 hF => ?_)
 ·exact wl hΦ hF
 iterate 2 refine wW ?_
 refine wS hF (fun x4 => []) (fun x4 hF => ?_) fun _ hj2 hr3 hF => ?_
 ·exact wl hΦ hF
 refine wB ?_
 obtain ⟨b12, hb13, hψ9⟩ := hF
 refine pL hb13 (fun s5 => [(0, .v (.int .i64 a0)), (3, .v (.int .i64 s5))]) (fun s5 _ _ ho7 hg8 hF => ?_)
 refine wW ?_
 refine wI hF (fun h10 hF => ?_) (fun h10 hF => ?_)
 ·refine wW ?_
  refine wB ?_
  obtain ⟨g, hF⟩ := Rz g hF
  refine wK [0, 3, 16] ?_
  refine wI hF (fun h11 hF => ?_) (fun h11 hF => ?_)
  ·cases ho7 _ (zaa hF)
   cases hΦ _ (hr3 _ hψ9)
   refine wW ?_
   try simp [go_sem, g]
  refine wW ?_
  exact wT (hg8 _) (zaa hF)
 cases ho7 _ (zaa hF)
 exact wT (hj2 _) hψ9
def zbe (a0 : Int) (a1 : Int) (a2 : Int) : Option Int :=
 gd (a2 ≠ 0) <|
 ((zbG (σ := Int × Int × Int) (fun s4 =>
 if decide (0 < s4.2.1) = true then (
 ((if ((s4.2.1.tmod 2) == 1) = true then (
 gd (a2 ≠ 0) <|
 some ((i64.wrap (s4.2.2 * s4.1)).tmod a2)) else (
 some s4.2.2) : Option Int).bind fun x12 =>
 gd (a2 ≠ 0) <|
 some (.go ((i64.wrap (s4.1 * s4.1)).tmod a2, i64.wrap (s4.2.1.tdiv 2), x12)))) else (
 some (.out s4.2.2))) (a0, a1, (1 : Int).tmod a2) : Option Int).bind fun x3 =>
 some x3)
theorem zdz : ∀ {a0} {a1} {a2} {r}, zbe a0 a1 a2 = some r → PCalls Tryz.prog 128 [(.sh, .int .i64 a0), (.sh, .int .i64 a1), (.sh, .int .i64 a2)] (Eo (.int .i64 r) [.junk, .junk, .junk]) := by
 intro a0 a1 a2 r hr
 apply pF 28 [] [] [] [.tmp 6] hr zu0 Tryz.func128
 intro Φ hΦ hF g
 unfold zbe at hF
 obtain ⟨g, hF⟩ := Rz g hF
 iterate 2 refine wW ?_
 refine wJ hF (fun x3 => [(7, .v (.int .i64 x3))]) (fun x3 hF => ?_) fun _ hj1 hF => ?_
 ·exact wl hΦ hF
 refine wB ?_
 obtain ⟨b14, hb15, hψ8⟩ := hF
 refine pL hb15 (fun s4 => [(0, .v (.int .i64 s4.1)), (1, .v (.int .i64 s4.2.1)), (2, .v (.int .i64 a2)), (7, .v (.int .i64 s4.2.2))]) (fun s4 _ _ ho6 hg7 hF => ?_)
 refine wW ?_
 refine wI hF (fun h9 hF => ?_) (fun h9 hF => ?_)
 ·refine wW ?_
  refine wB ?_
  have g := Ld g 2
  refine wW ?_
  refine wJ hF (fun x12 => [(0, .v (.int .i64 s4.1)), (1, .v (.int .i64 s4.2.1)), (2, .v (.int .i64 a2)), (7, .v (.int .i64 x12))]) (fun x12 hF => ?_) fun _ hj10 hF => ?_
  ·obtain ⟨g, hF⟩ := Rz g hF
   refine wK [0, 1, 2, 7] ?_
   exact wT (hg7 _) (zaa hF)
  refine wI hF (fun h13 hF => ?_) (fun h13 hF => ?_)
  ·obtain ⟨g, hF⟩ := Rz g hF
   exact wT (hj10 _) (zaa hF)
  exact wT (hj10 _) (zaa hF)
 cases ho6 _ (zaa hF)
 exact wT (hj1 _) hψ8
def zcL (a0 : Int) : Option (Group × Bool) :=
 (((zcp a0 2 1000000).bind fun z4 =>
 if (!z4) = true then (
 some true) else (
 (zcA a0).bind fun z6 =>
 some (!z6)) : Option Bool).bind fun x3 =>
 if x3 = true then (
 some ((Group.mk 0 0 0), false)) else (
 ((zbG (σ := Int) (fun s11 =>
 if decide (s11 ≤ 2000000000) = true then (
 (zcA s11).bind fun z17 =>
 if (!z17) = true then (
 some (.go (i64.wrap (s11 + a0)))) else (
 ((zbG (σ := Int) (fun s22 =>
 gd (a0 ≠ 0) <|
 (zbe s22 (i64.wrap ((i64.wrap (s11 - 1)).tdiv a0)) s11).bind fun z27 =>
 if (z27 == 1) = true then (
 some (.go (i64.wrap (s22 + 1)))) else (
 some (.out s22))) 2 : Option Int).bind fun x21 =>
 gd (a0 ≠ 0) <|
 (zbe x21 (i64.wrap ((i64.wrap (s11 - 1)).tdiv a0)) s11).bind fun z31 =>
 some (.out (.inr ((Group.mk s11 a0 z31), true)))))) else (
 some (.out (.inl ())))) (i64.wrap (a0 + 1)) : Option (Unit ⊕ (Group × Bool))).bind (Sum.elim (fun x10 =>
 some ((Group.mk 0 0 0), false)) some))))
theorem zgS : ∀ {a0} {r}, zcL a0 = some r → PCalls Tryz.prog 76 [(.sh, .int .i64 a0)] (Eo (.tup [vE r.1, .bool r.2]) [.junk]) := by
 intro a0 r hr
 apply pF 46 [] [] [] [.cell 2 24, .tmp 3] hr zxU Tryz.func76
 intro Φ hΦ hF g
 unfold zcL at hF
 refine wW ?_
 refine wJ hF (fun x3 => [(0, .v (.int .i64 a0)), (2, .bl [.int .i64 0, .int .i64 0, .int .i64 0]), (13, .v (.bool x3))]) (fun x3 hF => ?_) fun _ hj1 hF => ?_
 ·refine wI hF (fun h7 hF => ?_) (fun h7 hF => ?_)
  ·exact wl hΦ hF
  iterate 2 refine wW ?_
  refine wS hF (fun x10 => [(2, .bl [.int .i64 0, .int .i64 0, .int .i64 0])]) (fun x10 hF => ?_) fun _ hj8 hr9 hF => ?_
  ·exact wl hΦ hF
  refine wB ?_
  obtain ⟨b32, hb33, hψ15⟩ := hF
  refine pL hb33 (fun s11 => [(0, .v (.int .i64 a0)), (2, .bl [.int .i64 0, .int .i64 0, .int .i64 0]), (4, .v (.int .i64 s11))]) (fun s11 _ _ ho13 hg14 hF => ?_)
  refine wW ?_
  refine wI hF (fun h16 hF => ?_) (fun h16 hF => ?_)
  ·refine wW ?_
   refine wB ?_
   refine wC hF [.sh] zeX (fun z17 hF => ?_)
   refine wK [0, 2, 4, 24] ?_
   refine wI hF (fun h18 hF => ?_) (fun h18 hF => ?_)
   ·refine wW ?_
    exact wT (hg14 _) (zaa hF)
   iterate 2 refine wW ?_
   refine wJ hF (fun x21 => [(0, .v (.int .i64 a0)), (2, .bl [.int .i64 0, .int .i64 0, .int .i64 0]), (4, .v (.int .i64 s11)), (5, .v (.int .i64 x21))]) (fun x21 hF => ?_) fun _ hj19 hF => ?_
   ·obtain ⟨g, hF⟩ := Rz g hF
    refine wC hF [.sh, .sh, .sh] zdz (fun z31 hF => ?_)
    refine wK [2, 3] ?_
    cases ho13 _ (zaa hF)
    cases hΦ _ (hr9 _ hψ15)
    try simp [go_sem, g]
   refine wB ?_
   obtain ⟨b29, hb30, hψ26⟩ := hF
   refine pL hb30 (fun s22 => [(0, .v (.int .i64 a0)), (2, .bl [.int .i64 0, .int .i64 0, .int .i64 0]), (4, .v (.int .i64 s11)), (5, .v (.int .i64 s22))]) (fun s22 _ _ ho24 hg25 hF => ?_)
   obtain ⟨g, hF⟩ := Rz g hF
   refine wC hF [.sh, .sh, .sh] zdz (fun z27 hF => ?_)
   refine wW ?_
   refine wI hF (fun h28 hF => ?_) (fun h28 hF => ?_)
   ·refine wW ?_
    refine wB ?_
    exact wT (hg25 _) (zaa hF)
   cases ho24 _ (zaa hF)
   exact wT (hj19 _) hψ26
  cases ho13 _ (zaa hF)
  exact wT (hj8 _) hψ15
 refine wC hF [.sh, .sh, .sh] zeh (fun z4 hF => ?_)
 refine wG hF (fun h5 hF => ?_) fun h5 hF => ?_
 ·exact wV h5 (hj1 _) (zaa hF)
 try simp [go_sem, g, h5]
 refine wC hF [.sh] zeX (fun z6 hF => ?_)
 exact wV h5 (hj1 _) (zaa hF)
def zca (a0c0 : List Int) (a0c1 : Int) (a0c2 : Int) : Option (Group × (List Int × Int × Int)) :=
 (zal a0c0 a0c1 a0c2 [3, 5, 5, 7, 11, 11, 13, 23]).bind fun z1 =>
 (zcL z1.1).bind fun z2 =>
 some (z2.1, (z1.2.1, z1.2.2.1, z1.2.2.2))
theorem zhk : ∀ {a0c0} {a0c1} {a0c2} {r}, zca a0c0 a0c1 a0c2 = some r → PCalls Tryz.prog 78 [(.io, vB a0c0 a0c1 a0c2)] (Eo (vE r.1) [vB r.2.1 r.2.2.1 r.2.2.2]) := by
 intro a0c0 a0c1 a0c2 r hr
 apply pF 13 [0] [] [] [.cell 2 24] hr zxt Tryz.func78
 intro Φ hΦ hF g
 unfold zca at hF
 refine wW ?_
 refine wC hF [.io, .mv] zak (fun z1 hF => ?_)
 refine wC hF [.sh] zgS (fun z2 hF => ?_)
 refine wK [0, 2, 3] ?_
 exact wl hΦ hF
def zdh (a0 : Int) (a1 : Int) : Option Int :=
 gd (a1 ≠ 0) <|
 gd (a1 ≠ 0) <|
 some ((i64.wrap ((a0.tmod a1) + a1)).tmod a1)
theorem zjk : ∀ {a0} {a1} {r}, zdh a0 a1 = some r → PCalls Tryz.prog 129 [(.sh, .int .i64 a0), (.sh, .int .i64 a1)] (Eo (.int .i64 r) [.junk, .junk]) := by
 intro a0 a1 r hr
 apply pF 12 [] [] [] [.tmp 4] hr zwa Tryz.func129
 intro Φ hΦ hF g
 unfold zdh at hF
 obtain ⟨g, hF⟩ := Rz g hF
 obtain ⟨g, hF⟩ := Rz g hF
 cases hΦ _ (zaa hF)
 iterate 2 refine wW ?_
 try simp [go_sem, g]
@[go_sem] def zus : List DE := [d0 0 [1], d0 1 [2], d1 2 [3] 3, d2 3 [9] 3 9, d1 5 [3] 3, d2 6 [12] 3 12, d3 4 [8, 10], d3 7 [7, 11, 13], d0 8 [14]]
def zaH (a0 : Group) (a1 : Int) (a2 : Int) : Option Int :=
 (zdh a2 a0.Q).bind fun z1 =>
 (zbe a1 z1 a0.P).bind fun z2 =>
 some z2
theorem zbp : ∀ {a0} {a1} {a2} {r}, zaH a0 a1 a2 = some r → PCalls Tryz.prog 79 [(.sh, vE a0), (.sh, .int .i64 a1), (.sh, .int .i64 a2)] (Eo (.int .i64 r) [.junk, .junk, .junk]) := by
 intro a0 a1 a2 r hr
 apply pF 15 [] [] [] [.tmp 6] hr zxY Tryz.func79
 intro Φ hΦ hF g
 unfold zaH at hF
 refine wW ?_
 refine wX zus follows ?_
 refine wC hF [.sh, .sh] zjk (fun z1 hF => ?_)
 refine wC hF [.sh, .sh, .sh] zdz (fun z2 hF => ?_)
 refine wK [6] ?_
 exact wm hΦ hF
@[go_sem] def zvd : List DE := [d2 0 [5] 5 5, d1 1 [5] 5, d2 2 [24] 5 24, d0 3 [0], d1 4 [5] 5, d2 5 [27] 5 27, d0 6 [28], d3 7 [26, 29], d0 8 [30], d3 9 [23, 25, 31], d1 10 [5] 5, d2 11 [33, 32] 5 33]
def zbs (a0c0 : List Int) (a0c1 : Int) (a0c2 : Int) : Option (Group × (List Int × Int × Int)) :=
 (zaf a0c0 a0c1 a0c2 6).bind fun z1 =>
 if (z1.1 == 0) = true then (
 some ((Group.mk 1000000007 500000003 4), (z1.2.1, z1.2.2.1, z1.2.2.2))) else (
 if (z1.1 == 1) = true then (
 (zal z1.2.1 z1.2.2.1 z1.2.2.2 [101, 1009, 1019, 65537, 999983]).bind fun z4 =>
 (zcL z4.1).bind fun z5 =>
 some (z5.1, (z4.2.1, z4.2.2.1, z4.2.2.2))) else (
 (zca z1.2.1 z1.2.2.1 z1.2.2.2).bind fun z6 =>
 (zaf z6.2.1 z6.2.2.1 z6.2.2.2 (i64.wrap (z6.1.Q - 1))).bind fun z7 =>
 (zaH z6.1 z6.1.G (i64.wrap (1 + z7.1))).bind fun z8 =>
 some ((Group.mk z6.1.P z6.1.Q z8), (z7.2.1, z7.2.2.1, z7.2.2.2))))
theorem zeG : ∀ {a0c0} {a0c1} {a0c2} {r}, zbs a0c0 a0c1 a0c2 = some r → PCalls Tryz.prog 27 [(.io, vB a0c0 a0c1 a0c2)] (Eo (vE r.1) [vB r.2.1 r.2.2.1 r.2.2.2]) := by
 intro a0c0 a0c1 a0c2 r hr
 apply pF 35 [0] [] [] [.cell 2 24] hr zyq Tryz.func27
 intro Φ hΦ hF g
 unfold zbs at hF
 refine wW ?_
 refine wC hF [.io, .sh] zag (fun z1 hF => ?_)
 refine wW ?_
 refine wB ?_
 refine wW ?_
 refine wI hF (fun h2 hF => ?_) (fun h2 hF => ?_)
 ·exact wl hΦ hF
 refine wW ?_
 refine wI hF (fun h3 hF => ?_) (fun h3 hF => ?_)
 ·refine wC hF [.io, .mv] zak (fun z4 hF => ?_)
  refine wC hF [.sh] zgS (fun z5 hF => ?_)
  refine wK [0, 2, 3] ?_
  exact wl hΦ hF
 refine wW ?_
 refine wC hF [.io] zhk (fun z6 hF => ?_)
 refine wK [0, 2, 5] ?_
 refine wX zvd follows ?_
 refine wC hF [.io, .sh] zag (fun z7 hF => ?_)
 refine wC hF [.sh, .sh, .sh] zbp (fun z8 hF => ?_)
 refine wK [0, 2, 5] ?_
 exact wl hΦ hF
def zat (a0c0 : List Int) (a0c1 : Int) (a0c2 : Int) (a1 : Int) : Option (Bool × (List Int × Int × Int)) :=
 (zaf a0c0 a0c1 a0c2 a1).bind fun z1 =>
 some ((z1.1 == 0), (z1.2.1, z1.2.2.1, z1.2.2.2))
theorem zaI : ∀ {a0c0} {a0c1} {a0c2} {a1} {r}, zat a0c0 a0c1 a0c2 a1 = some r → PCalls Tryz.prog 28 [(.io, vB a0c0 a0c1 a0c2), (.sh, .int .i64 a1)] (Eo (.bool r.1) [vB r.2.1 r.2.2.1 r.2.2.2, .junk]) := by
 intro a0c0 a0c1 a0c2 a1 r hr
 apply pF 9 [0] [] [] [.tmp 4] hr zzv Tryz.func28
 intro Φ hΦ hF g
 unfold zat at hF
 refine wW ?_
 refine wC hF [.io, .sh] zag (fun z1 hF => ?_)
 exact wl hΦ hF
def zbw (a0c0 : List Int) (a0c1 : Int) (a0c2 : Int) : Option (Group × (List Int × Int × Int)) :=
 (zbs a0c0 a0c1 a0c2).bind fun z1 =>
 (zaf z1.2.1 z1.2.2.1 z1.2.2.2 24).bind fun z2 =>
 ((if (z2.1 == 0) = true then (
 (zal z2.2.1 z2.2.2.1 z2.2.2.2 [0, i64.wrap (z1.1.P + 2), 4, (-7)]).bind fun z7 =>
 some ((z7.2.1, z7.2.2.1, z7.2.2.2), z7.1, z1.1.Q, z1.1.G)) else (
 if (z2.1 == 1) = true then (
 (zal z2.2.1 z2.2.2.1 z2.2.2.2 [0, 1, i64.wrap (z1.1.Q + 1), i64.wrap (z1.1.P - 1)]).bind fun z9 =>
 some ((z9.2.1, z9.2.2.1, z9.2.2.2), z1.1.P, z9.1, z1.1.G)) else (
 if (z2.1 == 2) = true then (
 (zal z2.2.1 z2.2.2.1 z2.2.2.2 [0, 1, i64.wrap (z1.1.P - 1), z1.1.P, i64.wrap (z1.1.G + 1)]).bind fun z11 =>
 some ((z11.2.1, z11.2.2.1, z11.2.2.2), z1.1.P, z1.1.Q, z11.1)) else (
 some ((z2.2.1, z2.2.2.1, z2.2.2.2), z1.1.P, z1.1.Q, z1.1.G)))) : Option (((List Int × Int × Int) × Int × Int × Int))).bind fun x5 =>
 some ((Group.mk x5.2.1 x5.2.2.1 x5.2.2.2), (x5.1.1, x5.1.2.1, x5.1.2.2)))
theorem zf1 : ∀ {a0c0} {a0c1} {a0c2} {r}, zbw a0c0 a0c1 a0c2 = some r → PCalls Tryz.prog 29 [(.io, vB a0c0 a0c1 a0c2)] (Eo (vE r.1) [vB r.2.1 r.2.2.1 r.2.2.2]) := by
 intro a0c0 a0c1 a0c2 r hr
 apply pF 44 [0] [] [] [.cell 2 24] hr zxy Tryz.func29
 intro Φ hΦ hF g
 unfold zbw at hF
 refine wW ?_
 refine wC hF [.io] zeG (fun z1 hF => ?_)
 refine wW ?_
 refine wC hF [.io, .sh] zag (fun z2 hF => ?_)
 refine wW ?_
 refine wJ hF (fun x5 => [(0, .v (vB x5.1.1 x5.1.2.1 x5.1.2.2)), (2, .bl [.int .i64 0, .int .i64 0, .int .i64 0]), (3, .bl [.int .i64 x5.2.1, .int .i64 x5.2.2.1, .int .i64 x5.2.2.2])]) (fun x5 hF => ?_) fun _ hj3 hF => ?_
 ·exact wl hΦ hF
 refine wB ?_
 refine wW ?_
 refine wI hF (fun h6 hF => ?_) (fun h6 hF => ?_)
 ·refine wC hF [.io, .mv] zak (fun z7 hF => ?_)
  exact wT (hj3 _) (zaa hF)
 refine wK [0, 2, 3, 7, 17] ?_
 refine wI hF (fun h8 hF => ?_) (fun h8 hF => ?_)
 ·refine wC hF [.io, .mv] zak (fun z9 hF => ?_)
  exact wT (hj3 _) (zaa hF)
 refine wW ?_
 refine wI hF (fun h10 hF => ?_) (fun h10 hF => ?_)
 ·refine wC hF [.io, .mv] zak (fun z11 hF => ?_)
  exact wT (hj3 _) (zaa hF)
 exact wT (hj3 _) (zaa hF)
@[go_sem] def zur : List DE := [d0 0 [0], d0 3 [0], d1 6 [3] 3, d2 7 [14] 3 14, d3 1 [8], d0 2 [9], d3 4 [11], d0 5 [10, 12], d0 8 [13, 15], d0 9 [16]]
def zau (a0c0 : List Int) (a0c1 : Int) (a0c2 : Int) (a1 : Group) : Option (Int × (List Int × Int × Int)) :=
 if decide (a1.Q < 2) = true then (
 some (0, (a0c0, a0c1, a0c2))) else (
 (zaf a0c0 a0c1 a0c2 60000).bind fun z2 =>
 (zaf z2.2.1 z2.2.2.1 z2.2.2.2 60000).bind fun z3 =>
 gd (a1.Q ≠ 0) <|
 some ((i64.wrap ((i64.wrap (z2.1 * 60000)) + z3.1)).tmod a1.Q, (z3.2.1, z3.2.2.1, z3.2.2.2)))
theorem zaq : ∀ {a0c0} {a0c1} {a0c2} {a1} {r}, zau a0c0 a0c1 a0c2 a1 = some r → PCalls Tryz.prog 80 [(.io, vB a0c0 a0c1 a0c2), (.sh, vE a1)] (Eo (.int .i64 r.1) [vB r.2.1 r.2.2.1 r.2.2.2, .junk]) := by
 intro a0c0 a0c1 a0c2 a1 r hr
 apply pF 17 [0] [] [] [.tmp 4] hr zxR Tryz.func80
 intro Φ hΦ hF g
 unfold zau at hF
 iterate 2 refine wW ?_
 refine wI hF (fun h1 hF => ?_) (fun h1 hF => ?_)
 ·exact wl hΦ hF
 refine wW ?_
 refine wX zur follows ?_
 refine wC hF [.io, .sh] zag (fun z2 hF => ?_)
 refine wC hF [.io, .sh] zag (fun z3 hF => ?_)
 obtain ⟨g, hF⟩ := Rz g hF
 refine wK [0, 4] ?_
 exact wm hΦ hF
def zc2 (a0 : Group) : Option Bool :=
 (((zcp a0.P 3 2000000000).bind fun z4 =>
 if z4 = true then (
 (zcp a0.Q 2 (i64.wrap (a0.P - 1))).bind fun z6 =>
 if z6 = true then (
 gd (a0.Q ≠ 0) <|
 if (((i64.wrap (a0.P - 1)).tmod a0.Q) == 0) = true then (
 (zcp a0.G 2 (i64.wrap (a0.P - 1))).bind fun z9 =>
 if z9 = true then (
 (zbe a0.G a0.Q a0.P).bind fun z11 =>
 if (z11 == 1) = true then (
 (zcA a0.Q).bind fun z13 =>
 if z13 = true then (
 (zcA a0.P).bind fun z15 =>
 some z15) else (
 some false)) else (
 some false)) else (
 some false)) else (
 some false)) else (
 some false)) else (
 some false) : Option Bool).bind fun x3 =>
 some x3)
theorem zf4 : ∀ {a0} {r}, zc2 a0 = some r → PCalls Tryz.prog 81 [(.sh, vE a0)] (Eo (.bool r) [.junk]) := by
 intro a0 r hr
 apply pF 51 [] [] [] [.tmp 2] hr zzU Tryz.func81
 intro Φ hΦ hF g
 unfold zc2 at hF
 refine wW ?_
 refine wJ hF (fun x3 => [(2, .v (.bool x3))]) (fun x3 hF => ?_) fun _ hj1 hF => ?_
 ·exact wm hΦ hF
 refine wC hF [.sh, .sh, .sh] zeh (fun z4 hF => ?_)
 refine wG hF (fun h5 hF => ?_) fun h5 hF => ?_
 ·try simp [go_sem, g, h5]
  refine wC hF [.sh, .sh, .sh] zeh (fun z6 hF => ?_)
  try simp [go_sem, g, h5]
  refine wG hF (fun h7 hF => ?_) fun h7 hF => ?_
  ·obtain ⟨g, hF⟩ := Rz g hF
   try simp [go_sem, g, h7]
   refine wG hF (fun h8 hF => ?_) fun h8 hF => ?_
   ·try simp [go_sem, g, h8]
    refine wC hF [.sh, .sh, .sh] zeh (fun z9 hF => ?_)
    try simp [go_sem, g, h8]
    refine wG hF (fun h10 hF => ?_) fun h10 hF => ?_
    ·try simp [go_sem, g, h10]
     refine wC hF [.sh, .sh, .sh] zdz (fun z11 hF => ?_)
     try simp [go_sem, g, h10]
     refine wG hF (fun h12 hF => ?_) fun h12 hF => ?_
     ·try simp [go_sem, g, h12]
      refine wC hF [.sh] zeX (fun z13 hF => ?_)
      try simp [go_sem, g, h12]
      refine wG hF (fun h14 hF => ?_) fun h14 hF => ?_
      ·try simp [go_sem, g, h14]
       refine wC hF [.sh] zeX (fun z15 hF => ?_)
       exact wV h14 (hj1 _) (zaa hF)
      exact wV h14 (hj1 _) (zaa hF)
     exact wV h12 (hj1 _) (zaa hF)
    exact wV h10 (hj1 _) (zaa hF)
   exact wV h8 (hj1 _) (zaa hF)
  exact wV h7 (hj1 _) (zaa hF)
 exact wV h5 (hj1 _) (zaa hF)
def zeB (a0 : Int) (a1 : Int) : Option Int :=
 if decide (a0 < a1) = true then (
 some a0) else (
 some a1)
theorem zkG : ∀ {a0} {a1} {r}, zeB a0 a1 = some r → PCalls Tryz.prog 82 [(.sh, .int .i64 a0), (.sh, .int .i64 a1)] (Eo (.int .i64 r) [.junk, .junk]) := by
 intro a0 a1 r hr
 apply pF 10 [] [] [] [.tmp 4] hr zys Tryz.func82
 intro Φ hΦ hF g
 unfold zeB at hF
 iterate 2 refine wW ?_
 refine wI hF (fun h1 hF => ?_) (fun h1 hF => ?_)
 ·exact wl hΦ hF
 cases hΦ _ (zaa hF)
 iterate 2 refine wW ?_
 try simp [go_sem, g]
def zcT (a0 : Group) (a1 : List Int) : Option Int :=
 ((zaQ (σ := Int) (fun i5 s4 =>
 (ix a1 i5).bind fun x11 =>
 gd (a0.P ≠ 0) <|
 some (.go ((i64.wrap (s4 * x11)).tmod a0.P))) (fun s4 => s4) (a1.length) 0 1 : Option Int).bind fun x3 =>
 some x3)
theorem zfP : ∀ {a0} {a1} {r}, zcT a0 a1 = some r → PCalls Tryz.prog 108 [(.sh, vE a0), (.sh, vC a1)] (Eo (.int .i64 r) [.junk, .junk]) := by
 intro a0 a1 r hr
 apply pF 22 [] [] [] [.tmp 4] hr zvk Tryz.func108
 intro Φ hΦ hF g
 unfold zcT at hF
 iterate 3 (try simp [go_sem, g]; try intros; refine zaY ?_)
 refine wJ hF (fun x3 => [(5, .v (.int .i64 x3))]) (fun x3 hF => ?_) fun _ hj1 hF => ?_
 ·exact wl hΦ hF
 refine wB ?_
 obtain ⟨b12, hb13, hψ8⟩ := hF
 refine pR hb13 (fun i5 s4 => [(2, .bl [.int .i64 a0.P, .int .i64 a0.Q, .int .i64 a0.G]), (5, .v (.int .i64 s4)), (8, .v (vC a1)), (9, .v (.int .i64 (a1.length : Int))), (10, .v (.int .i64 i5))]) (fun s4 _ hN14 => ?_) (fun i5 s4 _ _ hi9 hi10 ho6 hg7 hF => ?_)
 ·exact wn hN14 (hj1 _) hψ8
 refine wW ?_
 refine wu hi9 hi10 ?_
 refine wW ?_
 refine wB ?_
 obtain ⟨x11, g, hF⟩ := Rx g hF
 refine wK [2, 5, 7, 8, 9, 10] ?_
 obtain ⟨g, hF⟩ := Rz g hF
 refine wW ?_
 exact wi hi9 hi10 (hg7 _) (zaa hF)
@[go_sem] def zuF : List DE := [d2 0 [4] 4 4, d1 1 [4] 4, d2 2 [10] 4 10, d0 3 [3], d2 5 [4] 4 4, d0 6 [2], d2 7 [4] 4 4, d0 8 [1], d0 9 [3], d3 4 [9, 11, 12], d3 10 [16, 17, 18], d0 11 [15, 19], ⟨12, [14, 20], [], none, true, true, true⟩, d0 13 [13, 21], d2 14 [8, 22] 8 8]
def zdK (a0 : Group) (a1 : Int) (a2 : Int) (a3 : Int) : Option Cipher :=
 (zaH a0 a0.G a3).bind fun z1 =>
 (zaH a0 a1 a3).bind fun z2 =>
 (zcT a0 [a2, z2]).bind fun z3 =>
 some (Cipher.mk z1 z3)
theorem zhe : ∀ {a0} {a1} {a2} {a3} {r}, zdK a0 a1 a2 a3 = some r → PCalls Tryz.prog 83 [(.sh, vE a0), (.sh, .int .i64 a1), (.sh, .int .i64 a2), (.sh, .int .i64 a3)] (Eo (vF r) [.junk, .junk, .junk, .junk]) := by
 intro a0 a1 a2 a3 r hr
 apply pF 23 [] [] [] [.cell 8 36] hr zx7 Tryz.func83
 intro Φ hΦ hF g
 unfold zdK at hF
 refine wW ?_
 refine wX zuF follows ?_
 refine wC hF [.sh, .sh, .sh] zbp (fun z1 hF => ?_)
 refine wC hF [.sh, .sh, .sh] zbp (fun z2 hF => ?_)
 refine wC hF [.sh, .sh] zfP (fun z3 hF => ?_)
 refine wK [8] ?_
 exact wm hΦ hF
def zd5 (a0 : Group) (a1 : List Int) : Option Bool :=
 ((zaQ (σ := Unit) (fun i5 s4 =>
 (ix a1 i5).bind fun x11 =>
 (((zcp x11 1 (i64.wrap (a0.P - 1))).bind fun z15 =>
 if (!z15) = true then (
 some true) else (
 (zbe x11 a0.Q a0.P).bind fun z17 =>
 some (z17 != 1)) : Option Bool).bind fun x14 =>
 if x14 = true then (
 some (.out (.inr false))) else (
 some (.go ())))) (fun s4 => .inl ()) (a1.length) 0 () : Option (Unit ⊕ Bool)).bind (Sum.elim (fun x3 =>
 some true) some))
theorem zhG : ∀ {a0} {a1} {r}, zd5 a0 a1 = some r → PCalls Tryz.prog 116 [(.sh, vE a0), (.sh, vC a1)] (Eo (.bool r) [.junk, .junk]) := by
 intro a0 a1 r hr
 apply pF 29 [] [] [] [.tmp 4] hr zuC Tryz.func116
 intro Φ hΦ hF g
 unfold zd5 at hF
 iterate 2 (try simp [go_sem, g]; try intros; refine zaY ?_)
 refine wS hF (fun x3 => []) (fun x3 hF => ?_) fun _ hj1 hr2 hF => ?_
 ·exact wl hΦ hF
 refine wB ?_
 obtain ⟨b19, hb20, hψ8⟩ := hF
 refine pR hb20 (fun i5 s4 => [(2, .bl [.int .i64 a0.P, .int .i64 a0.Q, .int .i64 a0.G]), (7, .v (vC a1)), (8, .v (.int .i64 (a1.length : Int))), (9, .v (.int .i64 i5))]) (fun s4 _ hN21 => ?_) (fun i5 s4 _ _ hi9 hi10 ho6 hg7 hF => ?_)
 ·exact wn hN21 (hj1 _) hψ8
 refine wW ?_
 refine wu hi9 hi10 ?_
 refine wW ?_
 refine wB ?_
 obtain ⟨x11, g, hF⟩ := Rx g hF
 refine wW ?_
 refine wJ hF (fun x14 => [(2, .bl [.int .i64 a0.P, .int .i64 a0.Q, .int .i64 a0.G]), (7, .v (vC a1)), (8, .v (.int .i64 (a1.length : Int))), (9, .v (.int .i64 i5)), (27, .v (.bool x14))]) (fun x14 hF => ?_) fun _ hj12 hF => ?_
 ·refine wI hF (fun h18 hF => ?_) (fun h18 hF => ?_)
  ·refine wK [4] ?_
   cases ho6 _ (zaa hF)
   cases hΦ _ (hr2 _ hψ8)
   try simp [go_sem, g]
  refine wW ?_
  exact wi hi9 hi10 (hg7 _) (zaa hF)
 refine wC hF [.sh, .sh, .sh] zeh (fun z15 hF => ?_)
 refine wG hF (fun h16 hF => ?_) fun h16 hF => ?_
 ·exact wV h16 (hj12 _) (zaa hF)
 try simp [go_sem, g, h16]
 refine wC hF [.sh, .sh, .sh] zdz (fun z17 hF => ?_)
 exact wV h16 (hj12 _) (zaa hF)
def zdG (a0 : Group) (a1 : Int) : Option Bool :=
 (((zc2 a0).bind fun z4 =>
 if z4 = true then (
 (zd5 a0 [a1]).bind fun z6 =>
 if z6 = true then (
 some (a1 != 1)) else (
 some false)) else (
 some false) : Option Bool).bind fun x3 =>
 some x3)
theorem zir : ∀ {a0} {a1} {r}, zdG a0 a1 = some r → PCalls Tryz.prog 130 [(.sh, vE a0), (.sh, .int .i64 a1)] (Eo (.bool r) [.junk, .junk]) := by
 intro a0 a1 r hr
 apply pF 17 [] [] [] [.tmp 4] hr zvD Tryz.func130
 intro Φ hΦ hF g
 unfold zdG at hF
 refine wW ?_
 refine wJ hF (fun x3 => [(4, .v (.bool x3))]) (fun x3 hF => ?_) fun _ hj1 hF => ?_
 ·exact wm hΦ hF
 refine wC hF [.sh] zf4 (fun z4 hF => ?_)
 refine wG hF (fun h5 hF => ?_) fun h5 hF => ?_
 ·try simp [go_sem, g, h5]
  refine wC hF [.sh, .sh] zhG (fun z6 hF => ?_)
  try simp [go_sem, g, h5]
  refine wG hF (fun h7 hF => ?_) fun h7 hF => ?_
  ·exact wV h7 (hj1 _) (zaa hF)
  exact wV h7 (hj1 _) (zaa hF)
 exact wV h5 (hj1 _) (zaa hF)
def zeA (a0 : List Int) (a1 : Int) (a2 : Int) : Option Bool :=
 ((zaQ (σ := Unit) (fun i5 s4 =>
 (ix a0 i5).bind fun x11 =>
 (zcp x11 a1 a2).bind fun z12 =>
 if (!z12) = true then (
 some (.out (.inr false))) else (
 some (.go ()))) (fun s4 => .inl ()) (a0.length) 0 () : Option (Unit ⊕ Bool)).bind (Sum.elim (fun x3 =>
 some true) some))
theorem zm1 : ∀ {a0} {a1} {a2} {r}, zeA a0 a1 a2 = some r → PCalls Tryz.prog 117 [(.sh, vC a0), (.sh, .int .i64 a1), (.sh, .int .i64 a2)] (Eo (.bool r) [.junk, .junk, .junk]) := by
 intro a0 a1 a2 r hr
 apply pF 21 [] [] [] [.tmp 6] hr zuO Tryz.func117
 intro Φ hΦ hF g
 unfold zeA at hF
 iterate 2 (try simp [go_sem, g]; try intros; refine zaY ?_)
 refine wS hF (fun x3 => []) (fun x3 hF => ?_) fun _ hj1 hr2 hF => ?_
 ·exact wl hΦ hF
 refine wB ?_
 obtain ⟨b14, hb15, hψ8⟩ := hF
 refine pR hb15 (fun i5 s4 => [(1, .v (.int .i64 a1)), (2, .v (.int .i64 a2)), (9, .v (vC a0)), (10, .v (.int .i64 (a0.length : Int))), (11, .v (.int .i64 i5))]) (fun s4 _ hN16 => ?_) (fun i5 s4 _ _ hi9 hi10 ho6 hg7 hF => ?_)
 ·exact wn hN16 (hj1 _) hψ8
 refine wW ?_
 refine wu hi9 hi10 ?_
 refine wW ?_
 refine wB ?_
 obtain ⟨x11, g, hF⟩ := Rx g hF
 refine wW ?_
 refine wC hF [.sh, .sh, .sh] zeh (fun z12 hF => ?_)
 refine wK [1, 2, 9, 10, 11, 19] ?_
 refine wI hF (fun h13 hF => ?_) (fun h13 hF => ?_)
 ·cases ho6 _ (zaa hF)
  cases hΦ _ (hr2 _ hψ8)
  refine wW ?_
  try simp [go_sem, g]
 refine wW ?_
 exact wi hi9 hi10 (hg7 _) (zaa hF)
def zdk (a0 : Group) (a1 : List Int) : Option Bool :=
 (zeA a1 0 (i64.wrap (a0.Q - 1))).bind fun z1 =>
 some z1
theorem zgM : ∀ {a0} {a1} {r}, zdk a0 a1 = some r → PCalls Tryz.prog 64 [(.sh, vE a0), (.sh, vC a1)] (Eo (.bool r) [.junk, .junk]) := by
 intro a0 a1 r hr
 apply pF 10 [] [] [] [.tmp 4] hr zyu Tryz.func64
 intro Φ hΦ hF g
 unfold zdk at hF
 refine wW ?_
 refine wC hF [.sh, .sh, .sh] zm1 (fun z1 hF => ?_)
 exact wl hΦ hF
@[go_sem] def zvf : List DE := [d2 0 [3] 3 3, d0 1 [1], d2 2 [3] 3 3, d1 3 [3] 3, d2 4 [27] 3 27, d0 5 [2], d3 6 [26, 28, 29], d0 7 [25, 30], ⟨8, [24, 31], [], none, true, true, true⟩, d0 9 [32]]
def zcj (a0 : Group) (a1 : Int) (a2 : Int) : Option (Int × Bool) :=
 (((zdG a0 a1).bind fun z4 =>
 if (!z4) = true then (
 some true) else (
 (zdk a0 [a2]).bind fun z6 =>
 if (!z6) = true then (
 some true) else (
 some (a2 == 0))) : Option Bool).bind fun x3 =>
 if x3 = true then (
 some (0, false)) else (
 (zaH a0 a0.G a2).bind fun z9 =>
 (zcT a0 [a1, z9]).bind fun z10 =>
 if (z10 == 1) = true then (
 some (0, false)) else (
 some (z10, true))))
theorem zhu : ∀ {a0} {a1} {a2} {r}, zcj a0 a1 a2 = some r → PCalls Tryz.prog 84 [(.sh, vE a0), (.sh, .int .i64 a1), (.sh, .int .i64 a2)] (Eo (.tup [.int .i64 r.1, .bool r.2]) [.junk, .junk, .junk]) := by
 intro a0 a1 a2 r hr
 apply pF 36 [] [] [] [.tmp 6, .tmp 7] hr zy6 Tryz.func84
 intro Φ hΦ hF g
 unfold zcj at hF
 refine wW ?_
 refine wJ hF (fun x3 => [(1, .v (.int .i64 a1)), (2, .v (.int .i64 a2)), (3, .bl [.int .i64 a0.P, .int .i64 a0.Q, .int .i64 a0.G]), (23, .v (.bool x3))]) (fun x3 hF => ?_) fun _ hj1 hF => ?_
 ·refine wI hF (fun h8 hF => ?_) (fun h8 hF => ?_)
  ·exact wl hΦ hF
  refine wW ?_
  refine wX zvf follows ?_
  refine wC hF [.sh, .sh, .sh] zbp (fun z9 hF => ?_)
  refine wC hF [.sh, .sh] zfP (fun z10 hF => ?_)
  refine wK [8] ?_
  refine wW ?_
  refine wI hF (fun h11 hF => ?_) (fun h11 hF => ?_)
  ·exact wl hΦ hF
  cases hΦ _ (zaa hF)
  iterate 2 refine wW ?_
  try simp [go_sem, g]
 refine wC hF [.sh, .sh] zir (fun z4 hF => ?_)
 refine wG hF (fun h5 hF => ?_) fun h5 hF => ?_
 ·exact wV h5 (hj1 _) (zaa hF)
 try simp [go_sem, g, h5]
 refine wC hF [.sh, .sh] zgM (fun z6 hF => ?_)
 try simp [go_sem, g, h5]
 refine wG hF (fun h7 hF => ?_) fun h7 hF => ?_
 ·exact wV h7 (hj1 _) (zaa hF)
 exact wV h7 (hj1 _) (zaa hF)
def zbU (a0c0 : List Int) (a0c1 : Int) (a0c2 : Int) (a1 : Group) (a2 : Int) : Option (List Int × (List Int × Int × Int)) :=
 ((zbG (σ := (List Int × Int × Int) × Int × List Int) (fun s11 =>
 if decide (0 < s11.2.1) = true then (
 (zau s11.1.1 s11.1.2.1 s11.1.2.2 a1).bind fun z17 =>
 gd ((s11.2.2.length + 1) * 8 ≤ 140737488355328 ∧ s11.2.2.length + 1 ≤ 4611686018427387904) <|
 some (.go ((z17.2.1, z17.2.2.1, z17.2.2.2), i64.wrap (s11.2.1 - 1), s11.2.2 ++ [z17.1]))) else (
 some (.out ((s11.1.1, s11.1.2.1, s11.1.2.2), s11.2.2)))) ((a0c0, a0c1, a0c2), a2, []) : Option (((List Int × Int × Int) × List Int))).bind fun x3 =>
 some (x3.2, (x3.1.1, x3.1.2.1, x3.1.2.2)))
theorem zgV : ∀ {a0c0} {a0c1} {a0c2} {a1} {a2} {r}, zbU a0c0 a0c1 a0c2 a1 a2 = some r → PCalls Tryz.prog 86 [(.io, vB a0c0 a0c1 a0c2), (.sh, vE a1), (.sh, .int .i64 a2)] (Eo (vD r.1) [vB r.2.1 r.2.2.1 r.2.2.2, .junk, .junk]) := by
 intro a0c0 a0c1 a0c2 a1 a2 r hr
 apply pF 19 [0] [] [] [.tmp 6] hr zzD Tryz.func86
 intro Φ hΦ hF g
 unfold zbU at hF
 iterate 2 refine wW ?_
 refine wJ hF (fun x3 => [(0, .v (vB x3.1.1 x3.1.2.1 x3.1.2.2)), (7, .v (vD x3.2))]) (fun x3 hF => ?_) fun _ hj1 hF => ?_
 ·exact wl hΦ hF
 refine wB ?_
 obtain ⟨b18, hb19, hψ15⟩ := hF
 refine pL hb19 (fun s11 => [(0, .v (vB s11.1.1 s11.1.2.1 s11.1.2.2)), (2, .v (.int .i64 s11.2.1)), (4, .bl [.int .i64 a1.P, .int .i64 a1.Q, .int .i64 a1.G]), (7, .v (vD s11.2.2))]) (fun s11 _ _ ho13 hg14 hF => ?_)
 refine wW ?_
 refine wI hF (fun h16 hF => ?_) (fun h16 hF => ?_)
 ·refine wW ?_
  refine wB ?_
  refine wC hF [.io, .sh] zaq (fun z17 hF => ?_)
  obtain ⟨g, hF⟩ := Rg g hF
  refine wK [0, 2, 4, 7] ?_
  exact wT (hg14 _) (zaa hF)
 cases ho13 _ (zaa hF)
 exact wT (hj1 _) hψ15
def zeg (a0 : ByteArray) (a1 : List Int) : Option ((List Int)) :=
 ((zbG (σ := (List Int) × Int) (fun s4 =>
 if decide (s4.2 < (a0.size : Int)) = true then (
 (ixs a0 s4.2).bind fun x10 =>
 gd ((s4.1.length + 1) * 8 ≤ 140737488355328 ∧ s4.1.length + 1 ≤ 4611686018427387904) <|
 some (.go (s4.1 ++ [i64.wrap x10], i64.wrap (s4.2 + 1)))) else (
 some (.out s4.1))) ([(a0.size : Int)], 0) : Option ((List Int))).bind fun x3 =>
 gd ((x3.length + a1.length) * 8 ≤ 140737488355328 ∧ x3.length + a1.length ≤ 4611686018427387904) <|
 some (x3 ++ a1))
theorem zlx : ∀ {a0} {a1} {r}, zeg a0 a1 = some r → PCalls Tryz.prog 188 [(.sh, .str a0), (.sh, vC a1)] (Eo (vD r) [.junk, .junk]) := by
 intro a0 a1 r hr
 apply pF 26 [] [] [] [.tmp 4] hr zuX Tryz.func188
 intro Φ hΦ hF g
 unfold zeg at hF
 iterate 3 refine wW ?_
 refine wJ hF (fun x3 => [(1, .v (vC a1)), (5, .v (vD x3))]) (fun x3 hF => ?_) fun _ hj1 hF => ?_
 ·obtain ⟨g, hF⟩ := Rg g hF
  refine wK [4] ?_
  exact wm hΦ hF
 refine wB ?_
 obtain ⟨b11, hb12, hψ8⟩ := hF
 refine pL hb12 (fun s4 => [(0, .v (.str a0)), (1, .v (vC a1)), (5, .v (vD s4.1)), (6, .v (.int .i64 s4.2))]) (fun s4 _ _ ho6 hg7 hF => ?_)
 refine wK [0, 1, 5, 6, 13] ?_
 refine wI hF (fun h9 hF => ?_) (fun h9 hF => ?_)
 ·refine wW ?_
  refine wB ?_
  obtain ⟨x10, g, hF⟩ := Rxs g hF
  obtain ⟨g, hF⟩ := Rg g hF
  refine wW ?_
  exact wT (hg7 _) (zaa hF)
 cases ho6 _ (zaa hF)
 exact wT (hj1 _) hψ8
def zbf (a0c0 : Int) (a0c1 : Int) (a1 : Int) : Option ((Int × Int)) :=
 (some [a1.tmod 2147483648, i64.wrap (a1.tdiv 2147483648)]).bind fun x1 =>
 zbG (σ := (Int × Int) × Int) (fun s10 =>
 if decide (s10.2 < (x1.length : Int)) = true then (
 (ix x1 s10.2).bind fun x16 =>
 some (.go (((i64.wrap ((i64.wrap ((i64.wrap (48271 * s10.1.1)) + x16)) + 1)).tmod 2147483647, (i64.wrap ((i64.wrap ((i64.wrap (69621 * s10.1.2)) + x16)) + 1)).tmod 2147483647), i64.wrap (s10.2 + 1)))) else (
 some (.out (s10.1.1, s10.1.2)))) ((a0c0, a0c1), 0)
theorem zef : ∀ {a0c0} {a0c1} {a1} {r}, zbf a0c0 a0c1 a1 = some r → PCalls Tryz.prog 191 [(.io, vI a0c0 a0c1), (.sh, .int .i64 a1)] (Eo (.junk) [vI r.1 r.2, .junk]) := by
 intro a0c0 a0c1 a1 r hr
 apply pF 41 [0] [] [] [] hr zuU Tryz.func191
 intro Φ hΦ hF g
 unfold zbf at hF
 have g := Ld g 2147483648
 obtain ⟨x1, e2, hF⟩ := zdw hF
 have g := And.intro g (show [[.int .i64 (a1.tmod 2147483648)], [.int .i64 (i64.wrap (a1.tdiv 2147483648))]] = x1.map zai by injection e2 with e2; rw [← e2]; simp [go_sem])
 try simp [go_sem, g]
 try intros
 refine zaY ?_
 refine wB ?_
 obtain ⟨b17, hb18, hψ14⟩ := hF
 refine pL hb18 (fun s10 => [(0, .v (vI s10.1.1 s10.1.2)), (10, .v (vD x1)), (11, .v (.int .i64 (x1.length : Int))), (12, .v (.int .i64 s10.2))]) (fun s10 _ _ ho12 hg13 hF => ?_)
 refine wW ?_
 refine wI hF (fun h15 hF => ?_) (fun h15 hF => ?_)
 ·refine wW ?_
  refine wB ?_
  obtain ⟨x16, g, hF⟩ := Rx g hF
  refine wK [0, 5, 10, 11, 12] ?_
  have g := Ld g 2147483647
  refine wK [0, 5, 10, 11, 12] ?_
  refine wK [0, 10, 11, 12] ?_
  exact wT (hg13 _) (zaa hF)
 cases ho12 _ (zaa hF)
 cases hΦ _ hψ14
 try simp [go_sem, g]
@[go_sem] def zt5 : List DE := [d0 0 [3], d0 1 [22], d0 2 [23], d0 3 [24], d0 4 [25], d0 5 [3], d0 6 [27], d0 7 [28], d0 8 [29], d0 9 [26, 30], d0 10 [31]]
def zey (a0 : List Int) : Option Int :=
 (zbf 1 2 (a0.length : Int)).bind fun z1 =>
 ((zaQ (σ := (Int × Int)) (fun i15 s14 =>
 (ix a0 i15).bind fun x21 =>
 (zbf s14.1 s14.2 x21).bind fun z22 =>
 some (.go (z22.1, z22.2))) (fun s14 => (s14.1, s14.2)) (a0.length) 0 (z1.1, z1.2) : Option ((Int × Int))).bind fun x4 =>
 some (i64.wrap ((i64.wrap (x4.1 * 2147483648)) + x4.2)))
theorem zmD : ∀ {a0} {r}, zey a0 = some r → PCalls Tryz.prog 187 [(.sh, vC a0)] (Eo (.int .i64 r) [.junk]) := by
 intro a0 r hr
 apply pF 32 [] [] [7] [.tmp 2] hr zuI Tryz.func187
 intro Φ hΦ hF g
 unfold zey at hF
 iterate 2 (try simp [go_sem, g]; try intros; refine zaY ?_)
 try simp [go_sem, g]
 try intros
 refine wC hF [.io, .sh] zef (fun z1 hF => ?_)
 try simp [go_sem, g]
 try intros
 refine zaY ?_
 try simp [go_sem, g]
 try intros
 refine wK [3, 12, 13, 14] ?_
 refine wJ hF (fun x4 => [(3, .v (vI x4.1 x4.2))]) (fun x4 hF => ?_) fun _ hj2 hF => ?_
 ·refine wX zt5 follows ?_
  refine wK [2] ?_
  exact wm hΦ hF
 refine wB ?_
 obtain ⟨b23, hb24, hψ18⟩ := hF
 refine pR hb24 (fun i15 s14 => [(3, .v (vI s14.1 s14.2)), (12, .v (vC a0)), (13, .v (.int .i64 (a0.length : Int))), (14, .v (.int .i64 i15))]) (fun s14 _ hN25 => ?_) (fun i15 s14 _ _ hi19 hi20 ho16 hg17 hF => ?_)
 ·exact wn hN25 (hj2 _) hψ18
 refine wW ?_
 refine wu hi19 hi20 ?_
 refine wW ?_
 refine wB ?_
 obtain ⟨x21, g, hF⟩ := Rx g hF
 refine wW ?_
 refine wC hF [.io, .sh] zef (fun z22 hF => ?_)
 refine wW ?_
 exact wi hi19 hi20 (hg17 _) (zaa hF)
def zdq (a0 : ByteArray) (a1 : List Int) : Option Int :=
 (zeg a0 a1).bind fun z1 =>
 (zey z1).bind fun z2 =>
 some z2
theorem zjI : ∀ {a0} {a1} {r}, zdq a0 a1 = some r → PCalls Tryz.prog 181 [(.sh, .str a0), (.sh, vC a1)] (Eo (.int .i64 r) [.junk, .junk]) := by
 intro a0 a1 r hr
 apply pF 9 [] [] [] [.tmp 4] hr zvH Tryz.func181
 intro Φ hΦ hF g
 unfold zdq at hF
 refine wW ?_
 refine wC hF [.sh, .sh] zlx (fun z1 hF => ?_)
 refine wC hF [.sh] zmD (fun z2 hF => ?_)
 exact wl hΦ hF
@[go_sem] def ztH : List DE := [d0 0 [1], d1 1 [3] 3, d2 2 [8] 3 8, d1 3 [3] 3, d2 4 [10] 3 10, d1 5 [3] 3, d2 6 [12] 3 12, d0 7 [9, 11, 13], d0 8 [2], d1 11 [3] 3, d2 12 [18] 3 18, ⟨9, [14, 15], [], none, true, false, false⟩, d3 10 [7, 16], d0 13 [17, 19], d0 14 [20]]
def zc6 (a0 : Group) (a1 : ByteArray) (a2 : List Int) : Option Int :=
 gd (([a0.P, a0.Q, a0.G].length + a2.length) * 8 ≤ 140737488355328 ∧ [a0.P, a0.Q, a0.G].length + a2.length ≤ 4611686018427387904) <|
 (zdq a1 ([a0.P, a0.Q, a0.G] ++ a2)).bind fun z1 =>
 gd (a0.Q ≠ 0) <|
 some (z1.tmod a0.Q)
theorem zjb : ∀ {a0} {a1} {a2} {r}, zc6 a0 a1 a2 = some r → PCalls Tryz.prog 163 [(.sh, vE a0), (.sh, .str a1), (.sh, vC a2)] (Eo (.int .i64 r) [.junk, .junk, .junk]) := by
 intro a0 a1 a2 r hr
 apply pF 21 [] [] [] [.tmp 6] hr zvw Tryz.func163
 intro Φ hΦ hF g
 unfold zc6 at hF
 refine wW ?_
 refine wX ztH follows ?_
 obtain ⟨g, hF⟩ := Rg g hF
 refine wC hF [.sh, .sh] zjI (fun z1 hF => ?_)
 obtain ⟨g, hF⟩ := Rz g hF
 refine wK [6] ?_
 exact wm hΦ hF
@[go_sem] def zt0 : List DE := [d2 0 [2] 2 2, d0 1 [5], d1 2 [3] 3, d1 3 [21] 3, d2 4 [22] 3 22, d0 5 [20, 23], d3 6 [19, 24], d0 7 [25]]
def zbZ (a0 : Group) (a1 : Cast) : Option Int :=
 gd (([a1.Credential.A, a1.Credential.B, a1.Vote.A, a1.Vote.B].length + a1.Pi.Commits.length) * 8 ≤ 140737488355328 ∧ [a1.Credential.A, a1.Credential.B, a1.Vote.A, a1.Vote.B].length + a1.Pi.Commits.length ≤ 4611686018427387904) <|
 (zc6 a0 (⟨#[99, 97, 115, 116]⟩ : ByteArray) ([a1.Credential.A, a1.Credential.B, a1.Vote.A, a1.Vote.B] ++ a1.Pi.Commits)).bind fun z1 =>
 some z1
theorem zf7 : ∀ {a0} {a1} {r}, zbZ a0 a1 = some r → PCalls Tryz.prog 131 [(.sh, vE a0), (.sh, vJ a1)] (Eo (.int .i64 r) [.junk, .junk]) := by
 intro a0 a1 r hr
 apply pF 26 [] [] [] [.tmp 4] hr zuD Tryz.func131
 intro Φ hΦ hF g
 unfold zbZ at hF
 refine wW ?_
 refine wK [2, 3, 5] ?_
 refine wX zt0 follows ?_
 obtain ⟨g, hF⟩ := Rg g hF
 refine wC hF [.sh, .sh, .sh] zjb (fun z1 hF => ?_)
 exact wl hΦ hF
@[go_sem] def zuV : List DE := [d0 0 [4], d0 1 [17], d0 2 [18], d0 3 [4], d0 4 [20], d0 5 [21], d0 6 [4], d0 7 [23], d0 8 [24], d0 9 [4], d0 10 [26], d0 11 [27], d0 12 [19], d0 13 [22], d0 14 [25], d0 15 [28]]
@[go_sem] def zvK : List DE := [d2 0 [5] 5 5, d0 1 [1], d0 2 [2], d0 3 [11], d2 5 [5] 5 5, d0 6 [1], d2 7 [5] 5 5, d1 8 [5] 5, d2 9 [37] 5 37, d0 10 [3], d0 12 [12], d0 15 [], d3 4 [29, 30, 31, 32], d3 11 [36, 38, 39], d3 13 [34, 35, 40, 41], d0 14 [33, 42], d2 16 [15, 43] 15 15]
@[go_sem] def zu7 : List DE := [d2 0 [5] 5 5, d1 1 [5] 5, d2 2 [45] 5 45, d0 3 [13], d2 5 [5] 5 5, d1 6 [5] 5, d2 7 [50] 5 50, d0 8 [14], d3 4 [44, 46, 47], d3 9 [49, 51, 52], d0 10 [48, 53], d1 11 [15] 15, d1 12 [55] 15, ⟨13, [56, 54], [15], some 56, true, true, true⟩]
@[go_sem] def zvl : List DE := [d0 0 [13], d0 1 [16], d0 2 [11], d0 3 [65, 66], d0 4 [64, 67], d1 5 [5] 5, d2 6 [69] 5 69, d0 7 [68, 70], d0 8 [14], d0 9 [16], d0 10 [12], d0 11 [73, 74], d0 12 [72, 75], d1 13 [5] 5, d2 14 [77] 5 77, d0 15 [76, 78], d0 16 [71, 79], d1 17 [15] 15, d1 18 [81] 15, ⟨19, [82, 80], [15], some 82, true, true, true⟩]
def zez (a0 : Group) (a1 : Int) (a2 : Int) (a3 : Int) (a4 : List Int) : Option Cast :=
 (ix a4 0).bind fun x1 =>
 (ix a4 1).bind fun x2 =>
 (ix a4 2).bind fun x3 =>
 (ix a4 3).bind fun x4 =>
 (zdK a0 a1 a2 x1).bind fun z5 =>
 (zaH a0 a0.G a3).bind fun z6 =>
 (zdK a0 a1 z6 x2).bind fun z7 =>
 (zaH a0 a0.G x3).bind fun z8 =>
 (zaH a0 a0.G x4).bind fun z9 =>
 (zbZ a0 (Cast.mk z5 z7 (Proof.mk [z8, z9] [] []))).bind fun z10 =>
 gd (a0.Q ≠ 0) <|
 gd (a0.Q ≠ 0) <|
 some (Cast.mk z5 z7 (Proof.mk [z8, z9] [z10] [(i64.wrap (x3 + (i64.wrap (z10 * x1)))).tmod a0.Q, (i64.wrap (x4 + (i64.wrap (z10 * x2)))).tmod a0.Q]))
theorem zmW : ∀ {a0} {a1} {a2} {a3} {a4} {r}, zez a0 a1 a2 a3 a4 = some r → PCalls Tryz.prog 85 [(.sh, vE a0), (.sh, .int .i64 a1), (.sh, .int .i64 a2), (.sh, .int .i64 a3), (.sh, vC a4)] (Eo (vK r) [.junk, .junk, .junk, .junk, .junk]) := by
 intro a0 a1 a2 a3 a4 r hr
 apply pF 84 [] [] [] [.cell 10 40] hr zzJ Tryz.func85
 intro Φ hΦ hF g
 unfold zez at hF
 refine wW ?_
 refine wX zuV follows ?_
 obtain ⟨x1, g, hF⟩ := Rxn g 0 hF
 obtain ⟨x2, g, hF⟩ := Rxn g 1 hF
 obtain ⟨x3, g, hF⟩ := Rxn g 2 hF
 obtain ⟨x4, g, hF⟩ := Rxn g 3 hF
 refine wK [1, 2, 3, 5, 10, 11, 12, 13, 14] ?_
 refine wX zvK follows ?_
 refine wC hF [.sh, .sh, .sh, .sh] zhe (fun z5 hF => ?_)
 refine wC hF [.sh, .sh, .sh] zbp (fun z6 hF => ?_)
 refine wC hF [.sh, .sh, .sh, .sh] zhe (fun z7 hF => ?_)
 refine wK [5, 10, 11, 12, 13, 14, 15] ?_
 refine wX zu7 follows ?_
 refine wC hF [.sh, .sh, .sh] zbp (fun z8 hF => ?_)
 refine wC hF [.sh, .sh, .sh] zbp (fun z9 hF => ?_)
 refine wK [5, 10, 11, 12, 13, 14, 15] ?_
 refine wC hF [.sh, .sh] zf7 (fun z10 hF => ?_)
 iterate 2 refine wW ?_
 refine wX zvl follows ?_
 obtain ⟨g, hF⟩ := Rz g hF
 obtain ⟨g, hF⟩ := Rz g hF
 refine wK [10, 15] ?_
 exact wl hΦ hF
def zdR (a0 : List Int) : Option ((List Int)) :=
 gd (a0.length * 8 ≤ 140737488355328 ∧ a0.length ≤ 4611686018427387904) <|
 some a0
theorem zgR : ∀ {a0} {r}, zdR a0 = some r → PCalls Tryz.prog 132 [(.sh, vC a0)] (Eo (vD r) [.junk]) := by
 intro a0 r hr
 apply pF 6 [] [] [] [.tmp 2] hr zvQ Tryz.func132
 intro Φ hΦ hF g
 unfold zdR at hF
 obtain ⟨g, hF⟩ := Rg g hF
 cases hΦ _ (zaa hF)
 iterate 2 refine wW ?_
 try simp [go_sem, g]
@[go_sem] def ztQ : List DE := [d2 0 [3] 3 3, d1 1 [3] 3, d2 2 [14] 3 14, d1 3 [3] 3, d2 4 [16] 3 16, d0 6 [0], d2 7 [3] 3 3, d3 5 [15, 17], d3 8 [19, 20], d3 9 [13, 18, 21], d0 10 [22]]
def zaz (a0c0 : List Int) (a0c1 : Int) (a0c2 : Int) (a1 : Group) : Option (Int × (List Int × Int × Int)) :=
 ((if decide (a1.P < 3) = true then (
 some true) else (
 some (decide (a1.Q < 1))) : Option Bool).bind fun x3 =>
 if x3 = true then (
 some (1, (a0c0, a0c1, a0c2))) else (
 (zdh a1.G a1.P).bind fun z6 =>
 (zau a0c0 a0c1 a0c2 a1).bind fun z7 =>
 (zaH a1 z6 z7.1).bind fun z8 =>
 some (z8, (z7.2.1, z7.2.2.1, z7.2.2.2))))
theorem zaw : ∀ {a0c0} {a0c1} {a0c2} {a1} {r}, zaz a0c0 a0c1 a0c2 a1 = some r → PCalls Tryz.prog 133 [(.io, vB a0c0 a0c1 a0c2), (.sh, vE a1)] (Eo (.int .i64 r.1) [vB r.2.1 r.2.2.1 r.2.2.2, .junk]) := by
 intro a0c0 a0c1 a0c2 a1 r hr
 apply pF 23 [0] [] [] [.tmp 4] hr zvZ Tryz.func133
 intro Φ hΦ hF g
 unfold zaz at hF
 refine wW ?_
 refine wJ hF (fun x3 => [(0, .v (vB a0c0 a0c1 a0c2)), (3, .bl [.int .i64 a1.P, .int .i64 a1.Q, .int .i64 a1.G]), (12, .v (.bool x3))]) (fun x3 hF => ?_) fun _ hj1 hF => ?_
 ·refine wI hF (fun h5 hF => ?_) (fun h5 hF => ?_)
  ·exact wl hΦ hF
  refine wW ?_
  refine wX ztQ follows ?_
  refine wC hF [.sh, .sh] zjk (fun z6 hF => ?_)
  refine wC hF [.io, .sh] zaq (fun z7 hF => ?_)
  refine wC hF [.sh, .sh, .sh] zbp (fun z8 hF => ?_)
  refine wK [0, 4] ?_
  exact wm hΦ hF
 refine wG hF (fun h4 hF => ?_) fun h4 hF => ?_
 ·exact wV h4 (hj1 _) (zaa hF)
 exact wV h4 (hj1 _) (zaa hF)
@[go_sem] def zvY : List DE := [d1 0 [5] 5, d2 1 [9] 5 9, d1 3 [5] 5, d2 4 [12] 5 12, d1 6 [5] 5, d2 7 [15] 5 15, d3 2 [10], d3 5 [13], d3 8 [16], d0 9 [11, 14, 17], d2 10 [5, 18] 5 5]
@[go_sem] def zwd : List DE := [d1 0 [5] 5, d2 1 [23] 5 23, d1 2 [5] 5, d2 3 [25] 5 25, d1 4 [5] 5, d2 5 [27] 5 27, d0 6 [24, 26, 28], d0 7 [0], d3 8 [30], ⟨9, [29, 31], [], none, true, true, false⟩, d0 10 [32], d0 11 [33]]
@[go_sem] def zkF : List DE := [d0 0 [7], d0 1 [8], d0 2 [0], d0 3 [0], d2 4 [4] 4 4, d0 6 [0], d2 7 [4] 4 4, d1 9 [4] 4, d2 10 [50] 4 50, d0 11 [7], d0 12 [8], d0 13 [52, 53], d0 14 [54], d0 15 [55], d3 5 [44, 45], d3 8 [47, 48], d0 16 [46, 49, 51, 56], ⟨17, [43, 57], [], none, true, true, true⟩, d0 18 [41, 42], d0 19 [59, 58]]
@[go_sem] def zk6 : List DE := [d0 0 [7], d0 1 [8], d0 2 [0], d0 3 [0], d2 4 [4] 4 4, d0 6 [0], d2 7 [4] 4 4, d1 9 [4] 4, d2 10 [50] 4 50, d0 11 [7], d0 12 [8], d0 13 [52, 53], d3 5 [44, 45], d0 14 [54], d0 15 [55], d3 8 [47, 48], d0 16 [46, 49, 51, 56], ⟨17, [43, 57], [], none, true, true, true⟩, d0 18 [41, 42], d0 19 [59, 58]]
@[go_sem] def zkB : List DE := [d0 0 [7], d0 1 [8], d0 2 [0], d0 3 [0], d2 4 [4] 4 4, d0 6 [0], d2 7 [4] 4 4, d1 9 [4] 4, d2 10 [50] 4 50, d0 11 [7], d0 12 [8], d0 13 [52, 53], d3 5 [44, 45], d3 8 [47, 48], d0 14 [54], d0 15 [55], d0 16 [46, 49, 51, 56], ⟨17, [43, 57], [], none, true, true, true⟩, d0 18 [41, 42], d0 19 [59, 58]]
def zb8 (a0c0 : List Int) (a0c1 : Int) (a0c2 : Int) (a1 : Group) (a2 : Proof) : Option (Proof × (List Int × Int × Int)) :=
 (zdR a2.Commits).bind fun z1 =>
 (zdR a2.Challenges).bind fun z2 =>
 (zdR a2.Responses).bind fun z3 =>
 (zat a0c0 a0c1 a0c2 3).bind fun z4 =>
 if (!z4.1) = true then (
 some ((Proof.mk z1 z2 z3), (z4.2.1, z4.2.2.1, z4.2.2.2))) else (
 (zaf z4.2.1 z4.2.2.1 z4.2.2.2 3).bind fun z6 =>
 if (z6.1 == 0) = true then (
 ((if decide (0 < (z1.length : Int)) = true then (
 (zaf z6.2.1 z6.2.2.1 z6.2.2.2 (z1.length : Int)).bind fun z11 =>
 (ix z1 z11.1).bind fun x12 =>
 (zau z11.2.1 z11.2.2.1 z11.2.2.2 a1).bind fun z13 =>
 (zaz z13.2.1 z13.2.2.1 z13.2.2.2 a1).bind fun z14 =>
 (zal z14.2.1 z14.2.2.1 z14.2.2.2 [z13.1, z14.1, (-1), a1.Q, i64.wrap (x12 + 1)]).bind fun z15 =>
 some ((z15.2.1, z15.2.2.1, z15.2.2.2), z1.set z11.1.toNat z15.1, z2, z3)) else (
 some ((z6.2.1, z6.2.2.1, z6.2.2.2), z1, z2, z3)) : Option (((List Int × Int × Int) × List Int × List Int × List Int))).bind fun x9 =>
 (zaf x9.1.1 x9.1.2.1 x9.1.2.2 10).bind fun z16 =>
 ((if (z16.1 == 0) = true then (
 gd ((x9.2.1.length + 1) * 8 ≤ 140737488355328 ∧ x9.2.1.length + 1 ≤ 4611686018427387904) <|
 some (x9.2.1 ++ [1], x9.2.2.1, x9.2.2.2)) else (
 if (z16.1 == 1) = true then (
 some (x9.2.1, x9.2.2.1, [])) else (
 if (z16.1 == 2) = true then (
 gd ((x9.2.2.1.length + 1) * 8 ≤ 140737488355328 ∧ x9.2.2.1.length + 1 ≤ 4611686018427387904) <|
 some (x9.2.1, x9.2.2.1 ++ [0], x9.2.2.2)) else (
 some (x9.2.1, x9.2.2.1, x9.2.2.2)))) : Option ((List Int × List Int × List Int))).bind fun x19 =>
 some ((Proof.mk x19.1 x19.2.1 x19.2.2), (z16.2.1, z16.2.2.1, z16.2.2.2))))) else (
 if (z6.1 == 1) = true then (
 ((if decide (0 < (z2.length : Int)) = true then (
 (zaf z6.2.1 z6.2.2.1 z6.2.2.2 (z2.length : Int)).bind fun z27 =>
 (ix z2 z27.1).bind fun x28 =>
 (zau z27.2.1 z27.2.2.1 z27.2.2.2 a1).bind fun z29 =>
 (zaz z29.2.1 z29.2.2.1 z29.2.2.2 a1).bind fun z30 =>
 (zal z30.2.1 z30.2.2.1 z30.2.2.2 [z29.1, z30.1, (-1), a1.Q, i64.wrap (x28 + 1)]).bind fun z31 =>
 some ((z31.2.1, z31.2.2.1, z31.2.2.2), z1, z2.set z27.1.toNat z31.1, z3)) else (
 some ((z6.2.1, z6.2.2.1, z6.2.2.2), z1, z2, z3)) : Option (((List Int × Int × Int) × List Int × List Int × List Int))).bind fun x25 =>
 (zaf x25.1.1 x25.1.2.1 x25.1.2.2 10).bind fun z32 =>
 ((if (z32.1 == 0) = true then (
 gd ((x25.2.1.length + 1) * 8 ≤ 140737488355328 ∧ x25.2.1.length + 1 ≤ 4611686018427387904) <|
 some (x25.2.1 ++ [1], x25.2.2.1, x25.2.2.2)) else (
 if (z32.1 == 1) = true then (
 some (x25.2.1, x25.2.2.1, [])) else (
 if (z32.1 == 2) = true then (
 gd ((x25.2.2.1.length + 1) * 8 ≤ 140737488355328 ∧ x25.2.2.1.length + 1 ≤ 4611686018427387904) <|
 some (x25.2.1, x25.2.2.1 ++ [0], x25.2.2.2)) else (
 some (x25.2.1, x25.2.2.1, x25.2.2.2)))) : Option ((List Int × List Int × List Int))).bind fun x35 =>
 some ((Proof.mk x35.1 x35.2.1 x35.2.2), (z32.2.1, z32.2.2.1, z32.2.2.2))))) else (
 if (z6.1 == 2) = true then (
 ((if decide (0 < (z3.length : Int)) = true then (
 (zaf z6.2.1 z6.2.2.1 z6.2.2.2 (z3.length : Int)).bind fun z43 =>
 (ix z3 z43.1).bind fun x44 =>
 (zau z43.2.1 z43.2.2.1 z43.2.2.2 a1).bind fun z45 =>
 (zaz z45.2.1 z45.2.2.1 z45.2.2.2 a1).bind fun z46 =>
 (zal z46.2.1 z46.2.2.1 z46.2.2.2 [z45.1, z46.1, (-1), a1.Q, i64.wrap (x44 + 1)]).bind fun z47 =>
 some ((z47.2.1, z47.2.2.1, z47.2.2.2), z1, z2, z3.set z43.1.toNat z47.1)) else (
 some ((z6.2.1, z6.2.2.1, z6.2.2.2), z1, z2, z3)) : Option (((List Int × Int × Int) × List Int × List Int × List Int))).bind fun x41 =>
 (zaf x41.1.1 x41.1.2.1 x41.1.2.2 10).bind fun z48 =>
 ((if (z48.1 == 0) = true then (
 gd ((x41.2.1.length + 1) * 8 ≤ 140737488355328 ∧ x41.2.1.length + 1 ≤ 4611686018427387904) <|
 some (x41.2.1 ++ [1], x41.2.2.1, x41.2.2.2)) else (
 if (z48.1 == 1) = true then (
 some (x41.2.1, x41.2.2.1, [])) else (
 if (z48.1 == 2) = true then (
 gd ((x41.2.2.1.length + 1) * 8 ≤ 140737488355328 ∧ x41.2.2.1.length + 1 ≤ 4611686018427387904) <|
 some (x41.2.1, x41.2.2.1 ++ [0], x41.2.2.2)) else (
 some (x41.2.1, x41.2.2.1, x41.2.2.2)))) : Option ((List Int × List Int × List Int))).bind fun x51 =>
 some ((Proof.mk x51.1 x51.2.1 x51.2.2), (z48.2.1, z48.2.2.1, z48.2.2.2))))) else (
 none))))
set_option maxHeartbeats 1000000 in
theorem zhl : ∀ {a0c0} {a0c1} {a0c2} {a1} {a2} {r}, zb8 a0c0 a0c1 a0c2 a1 a2 = some r → PCalls Tryz.prog 87 [(.io, vB a0c0 a0c1 a0c2), (.sh, vE a1), (.sh, vL a2)] (Eo (vM r.1) [vB r.2.1 r.2.2.1 r.2.2.2, .junk, .junk]) := by
 intro a0c0 a0c1 a0c2 a1 a2 r hr
 apply pF 80 [0] [167, 189] [] [.cell 6 38] hr zAf Tryz.func87
 intro Φ hΦ hF g
 unfold zb8 at hF
 refine wW ?_
 refine wX zvY follows ?_
 refine wC hF [.sh] zgR (fun z1 hF => ?_)
 refine wC hF [.sh] zgR (fun z2 hF => ?_)
 refine wC hF [.sh] zgR (fun z3 hF => ?_)
 refine wK [0, 4, 5, 6] ?_
 refine wC hF [.io, .sh] zaI (fun z4 hF => ?_)
 refine wW ?_
 refine wI hF (fun h5 hF => ?_) (fun h5 hF => ?_)
 ·exact wl hΦ hF
 refine wW ?_
 refine wX zwd follows ?_
 refine wC hF [.io, .sh] zag (fun z6 hF => ?_)
 refine pX g hF (fun g hF => ?_) fun hF => ?_
 ·refine wK [0, 4, 5, 6, 7] ?_
  try simp [go_sem, g]
  try intros
  refine zaY ?_
  refine wJ hF (fun x9 => [(0, .v (vB x9.1.1 x9.1.2.1 x9.1.2.2)), (5, .bl [vD x9.2.1, vD x9.2.2.1, vD x9.2.2.2]), (6, .bl [.sl true 1 [], .sl true 1 [], .sl true 1 []])]) (fun x9 hF => ?_) fun _ hj7 hF => ?_
  ·refine wC hF [.io, .sh] zag (fun z16 hF => ?_)
   refine wW ?_
   refine wJ hF (fun x19 => [(0, .v (vB z16.2.1 z16.2.2.1 z16.2.2.2)), (5, .bl [vD x19.1, vD x19.2.1, vD x19.2.2]), (6, .bl [.sl true 1 [], .sl true 1 [], .sl true 1 []])]) (fun x19 hF => ?_) fun _ hj17 hF => ?_
   ·exact wl hΦ hF
   refine wB ?_
   refine wW ?_
   refine wI hF (fun h20 hF => ?_) (fun h20 hF => ?_)
   ·obtain ⟨g, hF⟩ := Rg g hF
    exact wT (hj17 _) (zaa hF)
   refine wW ?_
   refine wI hF (fun h21 hF => ?_) (fun h21 hF => ?_)
   ·exact wT (hj17 _) (zaa hF)
   refine wK [0, 5, 6, 72] ?_
   refine wI hF (fun h22 hF => ?_) (fun h22 hF => ?_)
   ·obtain ⟨g, hF⟩ := Rg g hF
    exact wT (hj17 _) (zaa hF)
   exact wT (hj17 _) (zaa hF)
  refine wI hF (fun h10 hF => ?_) (fun h10 hF => ?_)
  ·try simp [go_sem, g]
   try intros
   refine wC hF [.io, .sh] zag (fun z11 hF => ?_)
   refine wW ?_
   repeat rw [sq]
   refine zjO 14 5 14 8 0 1 zkF zk6 zkB follows (by decide) (by kernel_rfl) (by kernel_rfl) (by kernel_rfl) (by kernel_rfl) rfl rfl rfl ?_ ?_ ?_
   ·obtain ⟨x12, g, hF⟩ := Rx g hF
    refine wC hF [.io, .sh] zaq (fun z13 hF => ?_)
    refine wC hF [.io, .sh] zaw (fun z14 hF => ?_)
    refine wC hF [.io, .mv] zak (fun z15 hF => ?_)
    exact wT (hj7 _) (zaa hF)
   ·obtain ⟨x12, g, hF⟩ := Rx g hF
    refine wC hF [.io, .sh] zaq (fun z13 hF => ?_)
    refine wC hF [.io, .sh] zaw (fun z14 hF => ?_)
    refine wC hF [.io, .mv] zak (fun z15 hF => ?_)
    exact wT (hj7 _) (zaa hF)
   obtain ⟨x12, g, hF⟩ := Rx g hF
   refine wC hF [.io, .sh] zaq (fun z13 hF => ?_)
   refine wC hF [.io, .sh] zaw (fun z14 hF => ?_)
   refine wC hF [.io, .mv] zak (fun z15 hF => ?_)
   exact wT (hj7 _) (zaa hF)
  exact wT (hj7 _) (zaa hF)
 refine pX g hF (fun g hF => ?_) fun hF => ?_
 ·refine wK [0, 4, 5, 6, 7] ?_
  try simp [go_sem, g]
  try intros
  refine zaY ?_
  refine wJ hF (fun x25 => [(0, .v (vB x25.1.1 x25.1.2.1 x25.1.2.2)), (5, .bl [vD x25.2.1, vD x25.2.2.1, vD x25.2.2.2]), (6, .bl [.sl true 1 [], .sl true 1 [], .sl true 1 []])]) (fun x25 hF => ?_) fun _ hj23 hF => ?_
  ·refine wC hF [.io, .sh] zag (fun z32 hF => ?_)
   refine wW ?_
   refine wJ hF (fun x35 => [(0, .v (vB z32.2.1 z32.2.2.1 z32.2.2.2)), (5, .bl [vD x35.1, vD x35.2.1, vD x35.2.2]), (6, .bl [.sl true 1 [], .sl true 1 [], .sl true 1 []])]) (fun x35 hF => ?_) fun _ hj33 hF => ?_
   ·exact wl hΦ hF
   refine wB ?_
   refine wW ?_
   refine wI hF (fun h36 hF => ?_) (fun h36 hF => ?_)
   ·obtain ⟨g, hF⟩ := Rg g hF
    exact wT (hj33 _) (zaa hF)
   refine wW ?_
   refine wI hF (fun h37 hF => ?_) (fun h37 hF => ?_)
   ·exact wT (hj33 _) (zaa hF)
   refine wK [0, 5, 6, 72] ?_
   refine wI hF (fun h38 hF => ?_) (fun h38 hF => ?_)
   ·obtain ⟨g, hF⟩ := Rg g hF
    exact wT (hj33 _) (zaa hF)
   exact wT (hj33 _) (zaa hF)
  refine wI hF (fun h26 hF => ?_) (fun h26 hF => ?_)
  ·try simp [go_sem, g]
   try intros
   refine wC hF [.io, .sh] zag (fun z27 hF => ?_)
   refine wW ?_
   repeat rw [sq]
   refine zjO 14 5 14 8 0 1 zkF zk6 zkB follows (by decide) (by kernel_rfl) (by kernel_rfl) (by kernel_rfl) (by kernel_rfl) rfl rfl rfl ?_ ?_ ?_
   ·obtain ⟨x28, g, hF⟩ := Rx g hF
    refine wC hF [.io, .sh] zaq (fun z29 hF => ?_)
    refine wC hF [.io, .sh] zaw (fun z30 hF => ?_)
    refine wC hF [.io, .mv] zak (fun z31 hF => ?_)
    exact wT (hj23 _) (zaa hF)
   ·obtain ⟨x28, g, hF⟩ := Rx g hF
    refine wC hF [.io, .sh] zaq (fun z29 hF => ?_)
    refine wC hF [.io, .sh] zaw (fun z30 hF => ?_)
    refine wC hF [.io, .mv] zak (fun z31 hF => ?_)
    exact wT (hj23 _) (zaa hF)
   obtain ⟨x28, g, hF⟩ := Rx g hF
   refine wC hF [.io, .sh] zaq (fun z29 hF => ?_)
   refine wC hF [.io, .sh] zaw (fun z30 hF => ?_)
   refine wC hF [.io, .mv] zak (fun z31 hF => ?_)
   exact wT (hj23 _) (zaa hF)
  exact wT (hj23 _) (zaa hF)
 refine pX g hF (fun g hF => ?_) fun hF => ?_
 ·refine wK [0, 4, 5, 6, 7] ?_
  try simp [go_sem, g]
  try intros
  refine zaY ?_
  refine wJ hF (fun x41 => [(0, .v (vB x41.1.1 x41.1.2.1 x41.1.2.2)), (5, .bl [vD x41.2.1, vD x41.2.2.1, vD x41.2.2.2]), (6, .bl [.sl true 1 [], .sl true 1 [], .sl true 1 []])]) (fun x41 hF => ?_) fun _ hj39 hF => ?_
  ·refine wC hF [.io, .sh] zag (fun z48 hF => ?_)
   refine wW ?_
   refine wJ hF (fun x51 => [(0, .v (vB z48.2.1 z48.2.2.1 z48.2.2.2)), (5, .bl [vD x51.1, vD x51.2.1, vD x51.2.2]), (6, .bl [.sl true 1 [], .sl true 1 [], .sl true 1 []])]) (fun x51 hF => ?_) fun _ hj49 hF => ?_
   ·exact wl hΦ hF
   refine wB ?_
   refine wW ?_
   refine wI hF (fun h52 hF => ?_) (fun h52 hF => ?_)
   ·obtain ⟨g, hF⟩ := Rg g hF
    exact wT (hj49 _) (zaa hF)
   refine wW ?_
   refine wI hF (fun h53 hF => ?_) (fun h53 hF => ?_)
   ·exact wT (hj49 _) (zaa hF)
   refine wK [0, 5, 6, 72] ?_
   refine wI hF (fun h54 hF => ?_) (fun h54 hF => ?_)
   ·obtain ⟨g, hF⟩ := Rg g hF
    exact wT (hj49 _) (zaa hF)
   exact wT (hj49 _) (zaa hF)
  refine wI hF (fun h42 hF => ?_) (fun h42 hF => ?_)
  ·try simp [go_sem, g]
   try intros
   refine wC hF [.io, .sh] zag (fun z43 hF => ?_)
   refine wW ?_
   repeat rw [sq]
   refine zjO 14 5 14 8 0 1 zkF zk6 zkB follows (by decide) (by kernel_rfl) (by kernel_rfl) (by kernel_rfl) (by kernel_rfl) rfl rfl rfl ?_ ?_ ?_
   ·obtain ⟨x44, g, hF⟩ := Rx g hF
    refine wC hF [.io, .sh] zaq (fun z45 hF => ?_)
    refine wC hF [.io, .sh] zaw (fun z46 hF => ?_)
    refine wC hF [.io, .mv] zak (fun z47 hF => ?_)
    exact wT (hj39 _) (zaa hF)
   ·obtain ⟨x44, g, hF⟩ := Rx g hF
    refine wC hF [.io, .sh] zaq (fun z45 hF => ?_)
    refine wC hF [.io, .sh] zaw (fun z46 hF => ?_)
    refine wC hF [.io, .mv] zak (fun z47 hF => ?_)
    exact wT (hj39 _) (zaa hF)
   obtain ⟨x44, g, hF⟩ := Rx g hF
   refine wC hF [.io, .sh] zaq (fun z45 hF => ?_)
   refine wC hF [.io, .sh] zaw (fun z46 hF => ?_)
   refine wC hF [.io, .mv] zak (fun z47 hF => ?_)
   exact wT (hj39 _) (zaa hF)
  exact wT (hj39 _) (zaa hF)
 exact (zn8 hF).elim
@[go_sem] def ztG : List DE := [d2 0 [3] 3 3, d1 1 [3] 3, d2 2 [39] 3 39, d0 3 [0], d1 4 [3] 3, d2 5 [42] 3 42, d0 6 [43], d3 7 [44], d3 8 [41, 45], d0 9 [46], d3 10 [38, 40, 47], d0 11 [48]]
@[go_sem] def ztZ : List DE := [d0 0 [10], d2 1 [3] 3 3, d0 2 [8], d0 3 [12], d0 4 [0], d2 5 [3] 3 3, d3 6 [57, 58], d3 7 [54, 55, 56, 59], d0 8 [60], ⟨9, [53, 61], [], none, true, false, false⟩, d0 10 [62]]
@[go_sem] def ztf : List DE := [d2 0 [3] 3 3, d0 1 [15], d0 2 [0], d2 3 [3] 3 3, d3 4 [79, 80], d3 5 [77, 78, 81], d0 6 [82], d0 7 [76], d0 8 [76], d0 9 [83], d0 10 [84]]
@[go_sem] def zs8 : List DE := [d2 0 [3] 3 3, d0 1 [8], d0 2 [15], d0 3 [0], d1 5 [3] 3, d2 6 [96] 3 96, d0 8 [0], d2 9 [3] 3 3, d0 12 [], d3 4 [94], d0 7 [95, 97], d3 10 [99, 100], d3 11 [91, 92, 93, 98, 101], d2 13 [18, 102] 18 18]
def zbK (a0c0 : List Int) (a0c1 : Int) (a0c2 : Int) (a1 : Group) : Option (Int × List Cipher × List Cast × (List Int × Int × Int)) :=
 (zau a0c0 a0c1 a0c2 a1).bind fun z1 =>
 (zc2 a1).bind fun z2 =>
 if (!z2) = true then (
 some (z1.1, [], [], (z1.2.1, z1.2.2.1, z1.2.2.2))) else (
 (zaH a1 a1.G z1.1).bind fun z4 =>
 (zaf z1.2.1 z1.2.2.1 z1.2.2.2 3).bind fun z5 =>
 ((zbG (σ := (List Int × Int × Int) × List Int × List Cipher × Int) (fun s20 =>
 if decide (0 < s20.2.2.2) = true then (
 (zeB (i64.wrap (a1.Q - 1)) 50000).bind fun z26 =>
 (zaf s20.1.1 s20.1.2.1 s20.1.2.2 z26).bind fun z27 =>
 (zaH a1 a1.G (i64.wrap (1 + z27.1))).bind fun z28 =>
 gd ((s20.2.1.length + 1) * 8 ≤ 140737488355328 ∧ s20.2.1.length + 1 ≤ 4611686018427387904) <|
 (zau z27.2.1 z27.2.2.1 z27.2.2.2 a1).bind fun z29 =>
 (zdK a1 z4 z28 z29.1).bind fun z30 =>
 gd ((s20.2.2.1.length + 1) * 16 ≤ 140737488355328 ∧ s20.2.2.1.length + 1 ≤ 4611686018427387904) <|
 some (.go ((z29.2.1, z29.2.2.1, z29.2.2.2), s20.2.1 ++ [z28], s20.2.2.1 ++ [z30], i64.wrap (s20.2.2.2 - 1)))) else (
 some (.out ((s20.1.1, s20.1.2.1, s20.1.2.2), s20.2.1, s20.2.2.1)))) ((z5.2.1, z5.2.2.1, z5.2.2.2), [], [], i64.wrap (1 + z5.1)) : Option (((List Int × Int × Int) × List Int × List Cipher))).bind fun x8 =>
 (zaf x8.1.1 x8.1.2.1 x8.1.2.2 6).bind fun z33 =>
 ((zbG (σ := (List Int × Int × Int) × List Cast × Int) (fun s93 =>
 if decide (0 < s93.2.2) = true then (
 (zaf s93.1.1 s93.1.2.1 s93.1.2.2 (x8.2.1.length : Int)).bind fun z99 =>
 (ix x8.2.1 z99.1).bind fun x100 =>
 (zau z99.2.1 z99.2.2.1 z99.2.2.2 a1).bind fun z101 =>
 (zcj a1 x100 z101.1).bind fun z102 =>
 ((if z102.2 = true then (
 (zat z101.2.1 z101.2.2.1 z101.2.2.2 4).bind fun z107 =>
 some ((z107.2.1, z107.2.2.1, z107.2.2.2), z107.1)) else (
 some ((z101.2.1, z101.2.2.1, z101.2.2.2), false)) : Option (((List Int × Int × Int) × Bool))).bind fun x105 =>
 ((if x105.2 = true then (
 some z102.1) else (
 some x100) : Option Int).bind fun x110 =>
 (zaf x105.1.1 x105.1.2.1 x105.1.2.2 3).bind fun z112 =>
 gd (a1.Q ≠ 0) <|
 (zbU z112.2.1 z112.2.2.1 z112.2.2.2 a1 4).bind fun z113 =>
 (zez a1 z4 x110 (z112.1.tmod a1.Q) z113.1).bind fun z114 =>
 (zat z113.2.1 z113.2.2.1 z113.2.2.2 8).bind fun z115 =>
 ((if z115.1 = true then (
 (zb8 z115.2.1 z115.2.2.1 z115.2.2.2 a1 z114.Pi).bind fun z120 =>
 some ((z120.2.1, z120.2.2.1, z120.2.2.2), z114.Credential.A, z114.Credential.B, z114.Vote.A, z114.Vote.B, z120.1.Commits, z120.1.Challenges, z120.1.Responses)) else (
 some ((z115.2.1, z115.2.2.1, z115.2.2.2), z114.Credential.A, z114.Credential.B, z114.Vote.A, z114.Vote.B, z114.Pi.Commits, z114.Pi.Challenges, z114.Pi.Responses)) : Option (((List Int × Int × Int) × Int × Int × Int × Int × List Int × List Int × List Int))).bind fun x118 =>
 gd ((s93.2.1.length + 1) * 104 ≤ 140737488355328 ∧ s93.2.1.length + 1 ≤ 4611686018427387904) <|
 some (.go ((x118.1.1, x118.1.2.1, x118.1.2.2), s93.2.1 ++ [(Cast.mk (Cipher.mk x118.2.1 x118.2.2.1) (Cipher.mk x118.2.2.2.1 x118.2.2.2.2.1) (Proof.mk x118.2.2.2.2.2.1 x118.2.2.2.2.2.2.1 x118.2.2.2.2.2.2.2))], i64.wrap (s93.2.2 - 1))))))) else (
 some (.out ((s93.1.1, s93.1.2.1, s93.1.2.2), s93.2.1)))) ((z33.2.1, z33.2.2.1, z33.2.2.2), [], z33.1) : Option (((List Int × Int × Int) × List Cast))).bind fun x36 =>
 some (z1.1, x8.2.2, x36.2, (x36.1.1, x36.1.2.1, x36.1.2.2)))))
theorem zgF : ∀ {a0c0} {a0c1} {a0c2} {a1} {r}, zbK a0c0 a0c1 a0c2 a1 = some r → PCalls Tryz.prog 30 [(.io, vB a0c0 a0c1 a0c2), (.sh, vE a1)] (Eo (.tup [.int .i64 r.1, vG r.2.1, vN r.2.2.1]) [vB r.2.2.2.1 r.2.2.2.2.1 r.2.2.2.2.2, .junk]) := by
 intro a0c0 a0c1 a0c2 a1 r hr
 apply pF 118 [0] [108] [] [.tmp 4, .tmp 5, .tmp 6] hr zyw Tryz.func30
 intro Φ hΦ hF g
 unfold zbK at hF
 refine wW ?_
 refine wC hF [.io, .sh] zaq (fun z1 hF => ?_)
 refine wW ?_
 refine wC hF [.sh] zf4 (fun z2 hF => ?_)
 refine wK [0, 3, 7, 24] ?_
 refine wI hF (fun h3 hF => ?_) (fun h3 hF => ?_)
 ·exact wl hΦ hF
 refine wW ?_
 refine wC hF [.sh, .sh, .sh] zbp (fun z4 hF => ?_)
 iterate 3 refine wW ?_
 refine wC hF [.io, .sh] zag (fun z5 hF => ?_)
 refine wK [0, 3, 7, 8, 9, 10, 11] ?_
 refine wJ hF (fun x8 => [(0, .v (vB x8.1.1 x8.1.2.1 x8.1.2.2)), (3, .bl [.int .i64 a1.P, .int .i64 a1.Q, .int .i64 a1.G]), (7, .v (.int .i64 z1.1)), (8, .v (.int .i64 z4)), (9, .v (vD x8.2.1)), (10, .v (vG x8.2.2))]) (fun x8 hF => ?_) fun _ hj6 hF => ?_
 ·refine wW ?_
  refine wC hF [.io, .sh] zag (fun z33 hF => ?_)
  refine wW ?_
  refine wJ hF (fun x36 => [(0, .v (vB x36.1.1 x36.1.2.1 x36.1.2.2)), (7, .v (.int .i64 z1.1)), (10, .v (vG x8.2.2)), (13, .v (vN x36.2))]) (fun x36 hF => ?_) fun _ hj34 hF => ?_
  ·refine wK [0, 4, 5, 6] ?_
   exact wm hΦ hF
  refine wB ?_
  obtain ⟨b121, hb122, hψ97⟩ := hF
  refine pL hb122 (fun s93 => [(0, .v (vB s93.1.1 s93.1.2.1 s93.1.2.2)), (3, .bl [.int .i64 a1.P, .int .i64 a1.Q, .int .i64 a1.G]), (7, .v (.int .i64 z1.1)), (8, .v (.int .i64 z4)), (9, .v (vD x8.2.1)), (10, .v (vG x8.2.2)), (13, .v (vN s93.2.1)), (14, .v (.int .i64 s93.2.2))]) (fun s93 _ _ ho95 hg96 hF => ?_)
  refine wW ?_
  refine wI hF (fun h98 hF => ?_) (fun h98 hF => ?_)
  ·refine wW ?_
   refine wB ?_
   try simp [go_sem, g]
   try intros
   refine wC hF [.io, .sh] zag (fun z99 hF => ?_)
   obtain ⟨x100, g, hF⟩ := Rx g hF
   refine wK [0, 3, 7, 8, 9, 10, 13, 14, 15] ?_
   refine wX ztf follows ?_
   refine wC hF [.io, .sh] zaq (fun z101 hF => ?_)
   refine wC hF [.sh, .sh, .sh] zhu (fun z102 hF => ?_)
   refine wK [0, 3, 7, 8, 9, 10, 13, 14, 15, 16, 17] ?_
   refine wJ hF (fun x105 => [(0, .v (vB x105.1.1 x105.1.2.1 x105.1.2.2)), (3, .bl [.int .i64 a1.P, .int .i64 a1.Q, .int .i64 a1.G]), (7, .v (.int .i64 z1.1)), (8, .v (.int .i64 z4)), (9, .v (vD x8.2.1)), (10, .v (vG x8.2.2)), (13, .v (vN s93.2.1)), (14, .v (.int .i64 s93.2.2)), (15, .v (.int .i64 x100)), (16, .v (.int .i64 z102.1)), (89, .v (.bool x105.2))]) (fun x105 hF => ?_) fun _ hj103 hF => ?_
   ·refine wJ hF (fun x110 => [(0, .v (vB x105.1.1 x105.1.2.1 x105.1.2.2)), (3, .bl [.int .i64 a1.P, .int .i64 a1.Q, .int .i64 a1.G]), (7, .v (.int .i64 z1.1)), (8, .v (.int .i64 z4)), (9, .v (vD x8.2.1)), (10, .v (vG x8.2.2)), (13, .v (vN s93.2.1)), (14, .v (.int .i64 s93.2.2)), (15, .v (.int .i64 x110))]) (fun x110 hF => ?_) fun _ hj108 hF => ?_
    ·refine wX zs8 follows ?_
     refine wC hF [.io, .sh] zag (fun z112 hF => ?_)
     obtain ⟨g, hF⟩ := Rz g hF
     refine wC hF [.io, .sh, .sh] zgV (fun z113 hF => ?_)
     refine wC hF [.sh, .sh, .sh, .sh, .sh] zmW (fun z114 hF => ?_)
     refine wK [0, 3, 7, 8, 9, 10, 13, 14, 18] ?_
     refine wC hF [.io, .sh] zaI (fun z115 hF => ?_)
     refine wW ?_
     refine wJ hF (fun x118 => [(0, .v (vB x118.1.1 x118.1.2.1 x118.1.2.2)), (3, .bl [.int .i64 a1.P, .int .i64 a1.Q, .int .i64 a1.G]), (7, .v (.int .i64 z1.1)), (8, .v (.int .i64 z4)), (9, .v (vD x8.2.1)), (10, .v (vG x8.2.2)), (13, .v (vN s93.2.1)), (14, .v (.int .i64 s93.2.2)), (18, .bl [.int .i64 x118.2.1, .int .i64 x118.2.2.1, .int .i64 x118.2.2.2.1, .int .i64 x118.2.2.2.2.1, vD x118.2.2.2.2.2.1, vD x118.2.2.2.2.2.2.1, vD x118.2.2.2.2.2.2.2])]) (fun x118 hF => ?_) fun _ hj116 hF => ?_
     ·obtain ⟨g, hF⟩ := Rg g hF
      refine wW ?_
      exact wT (hg96 _) (zaa hF)
     refine wI hF (fun h119 hF => ?_) (fun h119 hF => ?_)
     ·refine wC hF [.io, .sh, .sh] zhl (fun z120 hF => ?_)
      exact wT (hj116 _) (zaa hF)
     exact wT (hj116 _) (zaa hF)
    refine wI hF (fun h111 hF => ?_) (fun h111 hF => ?_)
    ·exact wT (hj108 _) (zaa hF)
    exact wT (hj108 _) (zaa hF)
   refine wG hF (fun h106 hF => ?_) fun h106 hF => ?_
   ·try simp [go_sem, g, h106]
    refine wC hF [.io, .sh] zaI (fun z107 hF => ?_)
    exact wV h106 (hj103 _) (zaa hF)
   exact wV h106 (hj103 _) (zaa hF)
  cases ho95 _ (zaa hF)
  exact wT (hj34 _) hψ97
 refine wB ?_
 obtain ⟨b31, hb32, hψ24⟩ := hF
 refine pL hb32 (fun s20 => [(0, .v (vB s20.1.1 s20.1.2.1 s20.1.2.2)), (3, .bl [.int .i64 a1.P, .int .i64 a1.Q, .int .i64 a1.G]), (7, .v (.int .i64 z1.1)), (8, .v (.int .i64 z4)), (9, .v (vD s20.2.1)), (10, .v (vG s20.2.2.1)), (11, .v (.int .i64 s20.2.2.2))]) (fun s20 _ _ ho22 hg23 hF => ?_)
 refine wW ?_
 refine wI hF (fun h25 hF => ?_) (fun h25 hF => ?_)
 ·refine wW ?_
  refine wB ?_
  refine wX ztG follows ?_
  refine wC hF [.sh, .sh] zkG (fun z26 hF => ?_)
  refine wC hF [.io, .sh] zag (fun z27 hF => ?_)
  refine wC hF [.sh, .sh, .sh] zbp (fun z28 hF => ?_)
  refine wK [0, 3, 7, 8, 9, 10, 11, 12] ?_
  obtain ⟨g, hF⟩ := Rg g hF
  refine wW ?_
  refine wX ztZ follows ?_
  refine wC hF [.io, .sh] zaq (fun z29 hF => ?_)
  refine wC hF [.sh, .sh, .sh, .sh] zhe (fun z30 hF => ?_)
  obtain ⟨g, hF⟩ := Rg g hF
  refine wK [0, 3, 7, 8, 9, 10, 11] ?_
  exact wT (hg23 _) (zaa hF)
 cases ho22 _ (zaa hF)
 exact wT (hj6 _) hψ24
@[go_sem] def zv3 : List DE := [d0 0 [0], d2 1 [3] 3 3, d0 3 [0], d2 4 [3] 3 3, d3 2 [5, 6], d3 5 [8, 9], d0 6 [7, 10], d2 7 [4, 11] 4 4]
def zbM (a0c0 : List Int) (a0c1 : Int) (a0c2 : Int) (a1 : Group) : Option (Cipher × (List Int × Int × Int)) :=
 (zaz a0c0 a0c1 a0c2 a1).bind fun z1 =>
 (zaz z1.2.1 z1.2.2.1 z1.2.2.2 a1).bind fun z2 =>
 some ((Cipher.mk z1.1 z2.1), (z2.2.1, z2.2.2.1, z2.2.2.2))
theorem zgK : ∀ {a0c0} {a0c1} {a0c2} {a1} {r}, zbM a0c0 a0c1 a0c2 a1 = some r → PCalls Tryz.prog 88 [(.io, vB a0c0 a0c1 a0c2), (.sh, vE a1)] (Eo (vF r.1) [vB r.2.1 r.2.2.1 r.2.2.2, .junk]) := by
 intro a0c0 a0c1 a0c2 a1 r hr
 apply pF 12 [0] [] [] [.cell 4 36] hr zyk Tryz.func88
 intro Φ hΦ hF g
 unfold zbM at hF
 refine wW ?_
 refine wX zv3 follows ?_
 refine wC hF [.io, .sh] zaw (fun z1 hF => ?_)
 refine wC hF [.io, .sh] zaw (fun z2 hF => ?_)
 refine wK [0, 4] ?_
 exact wm hΦ hF
def za4 (a0c0 : List Int) (a0c1 : Int) (a0c2 : Int) (a1 : Group) : Option (Int × (List Int × Int × Int)) :=
 (zat a0c0 a0c1 a0c2 20).bind fun z1 =>
 if z1.1 = true then (
 (zal z1.2.1 z1.2.2.1 z1.2.2.2 [0, 1, i64.wrap (a1.P - 1), a1.P, (-1), 5]).bind fun z3 =>
 some (z3.1, (z3.2.1, z3.2.2.1, z3.2.2.2))) else (
 (zaz z1.2.1 z1.2.2.1 z1.2.2.2 a1).bind fun z4 =>
 some (z4.1, (z4.2.1, z4.2.2.1, z4.2.2.2)))
theorem zdW : ∀ {a0c0} {a0c1} {a0c2} {a1} {r}, za4 a0c0 a0c1 a0c2 a1 = some r → PCalls Tryz.prog 112 [(.io, vB a0c0 a0c1 a0c2), (.sh, vE a1)] (Eo (.int .i64 r.1) [vB r.2.1 r.2.2.1 r.2.2.2, .junk]) := by
 intro a0c0 a0c1 a0c2 a1 r hr
 apply pF 18 [0] [] [] [.tmp 4] hr zuG Tryz.func112
 intro Φ hΦ hF g
 unfold za4 at hF
 refine wW ?_
 refine wC hF [.io, .sh] zaI (fun z1 hF => ?_)
 refine wW ?_
 refine wI hF (fun h2 hF => ?_) (fun h2 hF => ?_)
 ·refine wC hF [.io, .mv] zak (fun z3 hF => ?_)
  refine wK [0, 4] ?_
  exact wm hΦ hF
 refine wW ?_
 refine wC hF [.io, .sh] zaw (fun z4 hF => ?_)
 exact wl hΦ hF
@[go_sem] def zuZ : List DE := [d0 0 [0], d2 1 [3] 3 3, d0 3 [0], d2 4 [3] 3 3, d3 2 [5, 6], d3 5 [8, 9], d0 6 [7, 10], d2 7 [4, 11] 4 4]
def zbr (a0c0 : List Int) (a0c1 : Int) (a0c2 : Int) (a1 : Group) : Option (Cipher × (List Int × Int × Int)) :=
 (za4 a0c0 a0c1 a0c2 a1).bind fun z1 =>
 (za4 z1.2.1 z1.2.2.1 z1.2.2.2 a1).bind fun z2 =>
 some ((Cipher.mk z1.1 z2.1), (z2.2.1, z2.2.2.1, z2.2.2.2))
theorem zfT : ∀ {a0c0} {a0c1} {a0c2} {a1} {r}, zbr a0c0 a0c1 a0c2 a1 = some r → PCalls Tryz.prog 55 [(.io, vB a0c0 a0c1 a0c2), (.sh, vE a1)] (Eo (vF r.1) [vB r.2.1 r.2.2.1 r.2.2.2, .junk]) := by
 intro a0c0 a0c1 a0c2 a1 r hr
 apply pF 12 [0] [] [] [.cell 4 36] hr zzk Tryz.func55
 intro Φ hΦ hF g
 unfold zbr at hF
 refine wW ?_
 refine wX zuZ follows ?_
 refine wC hF [.io, .sh] zdW (fun z1 hF => ?_)
 refine wC hF [.io, .sh] zdW (fun z2 hF => ?_)
 refine wK [0, 4] ?_
 exact wm hΦ hF
def zbE (a0c0 : List Int) (a0c1 : Int) (a0c2 : Int) (a1 : Group) (a2 : Int) : Option (List Cipher × (List Int × Int × Int)) :=
 (zaf a0c0 a0c1 a0c2 (i64.wrap (a2 + 1))).bind fun z1 =>
 ((zbG (σ := (List Int × Int × Int) × List Cipher × Int) (fun s12 =>
 if decide (0 < s12.2.2) = true then (
 (zbM s12.1.1 s12.1.2.1 s12.1.2.2 a1).bind fun z18 =>
 gd ((s12.2.1.length + 1) * 16 ≤ 140737488355328 ∧ s12.2.1.length + 1 ≤ 4611686018427387904) <|
 some (.go ((z18.2.1, z18.2.2.1, z18.2.2.2), s12.2.1 ++ [z18.1], i64.wrap (s12.2.2 - 1)))) else (
 some (.out ((s12.1.1, s12.1.2.1, s12.1.2.2), s12.2.1)))) ((z1.2.1, z1.2.2.1, z1.2.2.2), [], z1.1) : Option (((List Int × Int × Int) × List Cipher))).bind fun x4 =>
 (zat x4.1.1 x4.1.2.1 x4.1.2.2 24).bind fun z21 =>
 ((if z21.1 = true then (
 (zbr z21.2.1 z21.2.2.1 z21.2.2.2 a1).bind fun z26 =>
 gd ((x4.2.length + 1) * 16 ≤ 140737488355328 ∧ x4.2.length + 1 ≤ 4611686018427387904) <|
 some ((z26.2.1, z26.2.2.1, z26.2.2.2), x4.2 ++ [z26.1])) else (
 some ((z21.2.1, z21.2.2.1, z21.2.2.2), x4.2)) : Option (((List Int × Int × Int) × List Cipher))).bind fun x24 =>
 (zat x24.1.1 x24.1.2.1 x24.1.2.2 40).bind fun z27 =>
 ((if z27.1 = true then (
 (zaf z27.2.1 z27.2.2.1 z27.2.2.2 2).bind fun z32 =>
 zbG (σ := (List Cipher) × Int) (fun s33 =>
 if decide (0 < s33.2) = true then (
 gd ((s33.1.length + 1) * 16 ≤ 140737488355328 ∧ s33.1.length + 1 ≤ 4611686018427387904) <|
 some (.go (s33.1 ++ [(Cipher.mk 1 1)], i64.wrap (s33.2 - 1)))) else (
 some (.out ((z32.2.1, z32.2.2.1, z32.2.2.2), s33.1)))) ([], i64.wrap (24 + z32.1))) else (
 some ((z27.2.1, z27.2.2.1, z27.2.2.2), x24.2)) : Option (((List Int × Int × Int) × List Cipher))).bind fun x30 =>
 some (x30.2, (x30.1.1, x30.1.2.1, x30.1.2.2)))))
theorem zgd : ∀ {a0c0} {a0c1} {a0c2} {a1} {a2} {r}, zbE a0c0 a0c1 a0c2 a1 a2 = some r → PCalls Tryz.prog 31 [(.io, vB a0c0 a0c1 a0c2), (.sh, vE a1), (.sh, .int .i64 a2)] (Eo (vG r.1) [vB r.2.1 r.2.2.1 r.2.2.2, .junk, .junk]) := by
 intro a0c0 a0c1 a0c2 a1 a2 r hr
 apply pF 46 [0] [] [] [.tmp 6] hr zyP Tryz.func31
 intro Φ hΦ hF g
 unfold zbE at hF
 iterate 2 refine wW ?_
 refine wC hF [.io, .sh] zag (fun z1 hF => ?_)
 refine wW ?_
 refine wJ hF (fun x4 => [(0, .v (vB x4.1.1 x4.1.2.1 x4.1.2.2)), (4, .bl [.int .i64 a1.P, .int .i64 a1.Q, .int .i64 a1.G]), (7, .v (vG x4.2))]) (fun x4 hF => ?_) fun _ hj2 hF => ?_
 ·refine wC hF [.io, .sh] zaI (fun z21 hF => ?_)
  refine wK [0, 4, 7, 25] ?_
  refine wJ hF (fun x24 => [(0, .v (vB x24.1.1 x24.1.2.1 x24.1.2.2)), (7, .v (vG x24.2))]) (fun x24 hF => ?_) fun _ hj22 hF => ?_
  ·refine wC hF [.io, .sh] zaI (fun z27 hF => ?_)
   refine wW ?_
   refine wJ hF (fun x30 => [(0, .v (vB x30.1.1 x30.1.2.1 x30.1.2.2)), (7, .v (vG x30.2))]) (fun x30 hF => ?_) fun _ hj28 hF => ?_
   ·exact wl hΦ hF
   refine wI hF (fun h31 hF => ?_) (fun h31 hF => ?_)
   ·refine wW ?_
    refine wC hF [.io, .sh] zag (fun z32 hF => ?_)
    refine wW ?_
    refine wB ?_
    obtain ⟨b39, hb40, hψ37⟩ := hF
    refine pL hb40 (fun s33 => [(0, .v (vB z32.2.1 z32.2.2.1 z32.2.2.2)), (7, .v (vG s33.1)), (9, .v (.int .i64 s33.2))]) (fun s33 _ _ ho35 hg36 hF => ?_)
    refine wW ?_
    refine wI hF (fun h38 hF => ?_) (fun h38 hF => ?_)
    ·refine wW ?_
     refine wB ?_
     obtain ⟨g, hF⟩ := Rg g hF
     refine wK [0, 7, 9] ?_
     exact wT (hg36 _) (zaa hF)
    cases ho35 _ (zaa hF)
    exact wT (hj28 _) hψ37
   exact wT (hj28 _) (zaa hF)
  refine wI hF (fun h25 hF => ?_) (fun h25 hF => ?_)
  ·refine wC hF [.io, .sh] zfT (fun z26 hF => ?_)
   obtain ⟨g, hF⟩ := Rg g hF
   exact wT (hj22 _) (zaa hF)
  exact wT (hj22 _) (zaa hF)
 refine wB ?_
 obtain ⟨b19, hb20, hψ16⟩ := hF
 refine pL hb20 (fun s12 => [(0, .v (vB s12.1.1 s12.1.2.1 s12.1.2.2)), (4, .bl [.int .i64 a1.P, .int .i64 a1.Q, .int .i64 a1.G]), (7, .v (vG s12.2.1)), (8, .v (.int .i64 s12.2.2))]) (fun s12 _ _ ho14 hg15 hF => ?_)
 refine wK [0, 4, 7, 8, 15] ?_
 refine wI hF (fun h17 hF => ?_) (fun h17 hF => ?_)
 ·refine wW ?_
  refine wB ?_
  refine wC hF [.io, .sh] zgK (fun z18 hF => ?_)
  obtain ⟨g, hF⟩ := Rg g hF
  refine wW ?_
  exact wT (hg15 _) (zaa hF)
 cases ho14 _ (zaa hF)
 exact wT (hj2 _) hψ16
def zbF (a0c0 : List Int) (a0c1 : Int) (a0c2 : Int) (a1 : Group) : Option (Int × (List Int × Int × Int)) :=
 (zat a0c0 a0c1 a0c2 24).bind fun z1 =>
 if z1.1 = true then (
 (zal z1.2.1 z1.2.2.1 z1.2.2.2 [a1.Q, (-1), i64.wrap (a1.Q - 1)]).bind fun z3 =>
 some (z3.1, (z3.2.1, z3.2.2.1, z3.2.2.2))) else (
 (zau z1.2.1 z1.2.2.1 z1.2.2.2 a1).bind fun z4 =>
 some (z4.1, (z4.2.1, z4.2.2.1, z4.2.2.2)))
theorem zgb : ∀ {a0c0} {a0c1} {a0c2} {a1} {r}, zbF a0c0 a0c1 a0c2 a1 = some r → PCalls Tryz.prog 32 [(.io, vB a0c0 a0c1 a0c2), (.sh, vE a1)] (Eo (.int .i64 r.1) [vB r.2.1 r.2.2.1 r.2.2.2, .junk]) := by
 intro a0c0 a0c1 a0c2 a1 r hr
 apply pF 18 [0] [] [] [.tmp 4] hr zxq Tryz.func32
 intro Φ hΦ hF g
 unfold zbF at hF
 refine wW ?_
 refine wC hF [.io, .sh] zaI (fun z1 hF => ?_)
 refine wW ?_
 refine wI hF (fun h2 hF => ?_) (fun h2 hF => ?_)
 ·refine wC hF [.io, .mv] zak (fun z3 hF => ?_)
  refine wK [0, 4] ?_
  exact wm hΦ hF
 refine wW ?_
 refine wC hF [.io, .sh] zaq (fun z4 hF => ?_)
 exact wl hΦ hF
def zcu (a0 : List Int) : Option (Group × Int × Int × List Cipher × List Cast) :=
 (zbs a0 0 0).bind fun z1 =>
 (zat z1.2.1 z1.2.2.1 z1.2.2.2 16).bind fun z2 =>
 ((if z2.1 = true then (
 (zbw z2.2.1 z2.2.2.1 z2.2.2.2).bind fun z7 =>
 some ((z7.2.1, z7.2.2.1, z7.2.2.2), z7.1.P, z7.1.Q, z7.1.G)) else (
 some ((z2.2.1, z2.2.2.1, z2.2.2.2), z1.1.P, z1.1.Q, z1.1.G)) : Option (((List Int × Int × Int) × Int × Int × Int))).bind fun x5 =>
 (zbK x5.1.1 x5.1.2.1 x5.1.2.2 (Group.mk x5.2.1 x5.2.2.1 x5.2.2.2)).bind fun z8 =>
 (zat z8.2.2.2.1 z8.2.2.2.2.1 z8.2.2.2.2.2 16).bind fun z9 =>
 ((if z9.1 = true then (
 (zbE z9.2.1 z9.2.2.1 z9.2.2.2 (Group.mk x5.2.1 x5.2.2.1 x5.2.2.2) 3).bind fun z14 =>
 some ((z14.2.1, z14.2.2.1, z14.2.2.2), z14.1)) else (
 some ((z9.2.1, z9.2.2.1, z9.2.2.2), z8.2.1)) : Option (((List Int × Int × Int) × List Cipher))).bind fun x12 =>
 (zbF x12.1.1 x12.1.2.1 x12.1.2.2 (Group.mk x5.2.1 x5.2.2.1 x5.2.2.2)).bind fun z15 =>
 ((if (z15.1 == 0) = true then (
 (zat z15.2.1 z15.2.2.1 z15.2.2.2 3).bind fun z20 =>
 some (!z20.1)) else (
 some false) : Option Bool).bind fun x18 =>
 ((if x18 = true then (
 some 1) else (
 some z15.1) : Option Int).bind fun x23 =>
 some ((Group.mk x5.2.1 x5.2.2.1 x5.2.2.2), z8.1, x23, x12.2, z8.2.2.1)))))
theorem zhP : ∀ {a0} {r}, zcu a0 = some r → PCalls Tryz.prog 5 [(.sh, vA a0)] (Eo (.tup [vE r.1, .int .i64 r.2.1, .int .i64 r.2.2.1, vG r.2.2.2.1, vN r.2.2.2.2]) [.junk]) := by
 intro a0 r hr
 apply pF 49 [] [] [15] [.cell 2 24, .tmp 3, .tmp 4, .tmp 5, .tmp 6] hr cl5 Tryz.func5
 intro Φ hΦ hF g
 unfold zcu at hF
 iterate 2 refine wW ?_
 refine wC hF [.io] zeG (fun z1 hF => ?_)
 refine wK [2, 7, 8] ?_
 refine wC hF [.io, .sh] zaI (fun z2 hF => ?_)
 refine wW ?_
 refine wJ hF (fun x5 => [(2, .bl [.int .i64 0, .int .i64 0, .int .i64 0]), (7, .v (vB x5.1.1 x5.1.2.1 x5.1.2.2)), (8, .bl [.int .i64 x5.2.1, .int .i64 x5.2.2.1, .int .i64 x5.2.2.2])]) (fun x5 hF => ?_) fun _ hj3 hF => ?_
 ·refine wC hF [.io, .sh] zgF (fun z8 hF => ?_)
  refine wK [2, 7, 8, 9, 10, 11] ?_
  refine wC hF [.io, .sh] zaI (fun z9 hF => ?_)
  refine wW ?_
  refine wJ hF (fun x12 => [(2, .bl [.int .i64 0, .int .i64 0, .int .i64 0]), (7, .v (vB x12.1.1 x12.1.2.1 x12.1.2.2)), (8, .bl [.int .i64 x5.2.1, .int .i64 x5.2.2.1, .int .i64 x5.2.2.2]), (9, .v (.int .i64 z8.1)), (10, .v (vG x12.2)), (11, .v (vN z8.2.2.1))]) (fun x12 hF => ?_) fun _ hj10 hF => ?_
  ·refine wC hF [.io, .sh] zgb (fun z15 hF => ?_)
   refine wW ?_
   refine wJ hF (fun x18 => [(2, .bl [.int .i64 0, .int .i64 0, .int .i64 0]), (8, .bl [.int .i64 x5.2.1, .int .i64 x5.2.2.1, .int .i64 x5.2.2.2]), (9, .v (.int .i64 z8.1)), (10, .v (vG x12.2)), (11, .v (vN z8.2.2.1)), (12, .v (.int .i64 z15.1)), (43, .v (.bool x18))]) (fun x18 hF => ?_) fun _ hj16 hF => ?_
   ·refine wJ hF (fun x23 => [(2, .bl [.int .i64 0, .int .i64 0, .int .i64 0]), (8, .bl [.int .i64 x5.2.1, .int .i64 x5.2.2.1, .int .i64 x5.2.2.2]), (9, .v (.int .i64 z8.1)), (10, .v (vG x12.2)), (11, .v (vN z8.2.2.1)), (12, .v (.int .i64 x23))]) (fun x23 hF => ?_) fun _ hj21 hF => ?_
    ·refine wK [2, 3, 4, 5, 6] ?_
     exact wm hΦ hF
    refine wI hF (fun h24 hF => ?_) (fun h24 hF => ?_)
    ·exact wT (hj21 _) (zaa hF)
    exact wT (hj21 _) (zaa hF)
   refine wG hF (fun h19 hF => ?_) fun h19 hF => ?_
   ·try simp [go_sem, g, h19]
    refine wC hF [.io, .sh] zaI (fun z20 hF => ?_)
    exact wV h19 (hj16 _) (zaa hF)
   exact wV h19 (hj16 _) (zaa hF)
  refine wI hF (fun h13 hF => ?_) (fun h13 hF => ?_)
  ·refine wC hF [.io, .sh, .sh] zgd (fun z14 hF => ?_)
   exact wT (hj10 _) (zaa hF)
  exact wT (hj10 _) (zaa hF)
 refine wI hF (fun h6 hF => ?_) (fun h6 hF => ?_)
 ·refine wC hF [.io] zf1 (fun z7 hF => ?_)
  exact wT (hj3 _) (zaa hF)
 exact wT (hj3 _) (zaa hF)
def zbx (a0 : Int) (a1 : Int) (a2 : Int) : Option Bool :=
 ((if decide (a1 ≤ a0) = true then (
 some (decide (a0 ≤ a2))) else (
 some false) : Option Bool).bind fun x3 =>
 some x3)
theorem zc5 : ∀ {a0} {a1} {a2} {r}, zbx a0 a1 a2 = some r → PCalls Tryz.prog 113 [(.sh, .int .i64 a0), (.sh, .int .i64 a1), (.sh, .int .i64 a2)] (Eo (.bool r) [.junk, .junk, .junk]) := by
 intro a0 a1 a2 r hr
 apply pF 15 [] [] [] [.tmp 6] hr zvC Tryz.func113
 intro Φ hΦ hF g
 unfold zbx at hF
 refine wW ?_
 refine wJ hF (fun x3 => [(6, .v (.bool x3))]) (fun x3 hF => ?_) fun _ hj1 hF => ?_
 ·exact wm hΦ hF
 refine wG hF (fun h4 hF => ?_) fun h4 hF => ?_
 ·exact wV h4 (hj1 _) (zaa hF)
 exact wV h4 (hj1 _) (zaa hF)
def zdm (a0 : Int) : Option Bool :=
 (zbx a0 2 2000000000).bind fun z1 =>
 some z1
theorem zjz : ∀ {a0} {r}, zdm a0 = some r → PCalls Tryz.prog 165 [(.sh, .int .i64 a0)] (Eo (.bool r) [.junk]) := by
 intro a0 r hr
 apply pF 5 [] [] [] [.tmp 2] hr zu8 Tryz.func165
 intro Φ hΦ hF g
 unfold zdm at hF
 refine wW ?_
 refine wC hF [.sh, .sh, .sh] zc5 (fun z1 hF => ?_)
 exact wl hΦ hF
def zdi (a0 : Int) : Option Bool :=
 (((zdm a0).bind fun z4 =>
 if (!z4) = true then (
 some true) else (
 if ((a0.tmod 2) == 0) = true then (
 some (a0 != 2)) else (
 some false)) : Option Bool).bind fun x3 =>
 if x3 = true then (
 some false) else (
 ((zbG (σ := Int) (fun s11 =>
 if decide ((i64.wrap (s11 * s11)) ≤ a0) = true then (
 gd (s11 ≠ 0) <|
 if ((a0.tmod s11) == 0) = true then (
 some (.out (.inr false))) else (
 some (.go (i64.wrap (s11 + 2))))) else (
 some (.out (.inl ())))) 3 : Option (Unit ⊕ Bool)).bind (Sum.elim (fun x10 =>
 some true) some))))
theorem zhC : ∀ {a0} {r}, zdi a0 = some r → PCalls Tryz.prog 119 [(.sh, .int .i64 a0)] (Eo (.bool r) [.junk]) := by
 intro a0 r hr
 apply pF 27 [] [] [] [.tmp 2] hr zuK Tryz.func119
 intro Φ hΦ hF g
 unfold zdi at hF
 refine wW ?_
 refine wJ hF (fun x3 => [(0, .v (.int .i64 a0)), (15, .v (.bool x3))]) (fun x3 hF => ?_) fun _ hj1 hF => ?_
 ·refine wI hF (fun h7 hF => ?_) (fun h7 hF => ?_)
  ·exact wl hΦ hF
  iterate 2 refine wW ?_
  refine wS hF (fun x10 => []) (fun x10 hF => ?_) fun _ hj8 hr9 hF => ?_
  ·exact wl hΦ hF
  refine wB ?_
  obtain ⟨b18, hb19, hψ15⟩ := hF
  refine pL hb19 (fun s11 => [(0, .v (.int .i64 a0)), (3, .v (.int .i64 s11))]) (fun s11 _ _ ho13 hg14 hF => ?_)
  refine wW ?_
  refine wI hF (fun h16 hF => ?_) (fun h16 hF => ?_)
  ·refine wW ?_
   refine wB ?_
   obtain ⟨g, hF⟩ := Rz g hF
   refine wK [0, 3, 26] ?_
   refine wI hF (fun h17 hF => ?_) (fun h17 hF => ?_)
   ·cases ho13 _ (zaa hF)
    cases hΦ _ (hr9 _ hψ15)
    refine wW ?_
    try simp [go_sem, g]
   refine wW ?_
   exact wT (hg14 _) (zaa hF)
  cases ho13 _ (zaa hF)
  exact wT (hj8 _) hψ15
 refine wC hF [.sh] zjz (fun z4 hF => ?_)
 refine wG hF (fun h5 hF => ?_) fun h5 hF => ?_
 ·exact wV h5 (hj1 _) (zaa hF)
 have g := Ld g 2
 try simp [go_sem, g, h5]
 refine wG hF (fun h6 hF => ?_) fun h6 hF => ?_
 ·try simp [go_sem, g, h6, h5]
  exact wT (hj1 _) (zaa hF)
 try simp [go_sem, g, h6, h5]
 exact wT (hj1 _) (zaa hF)
def zcX (a0 : Int) (a1 : Int) (a2 : Int) : Option Int :=
 gd (a2 ≠ 0) <|
 ((zbG (σ := Int × Int × Int) (fun s4 =>
 if decide (0 < s4.2.1) = true then (
 ((if ((i64.wrap ((BitVec.ofInt i64.bits s4.2.1 &&& BitVec.ofInt i64.bits 1).toNat)) == 1) = true then (
 gd (a2 ≠ 0) <|
 some ((i64.wrap (s4.2.2 * s4.1)).tmod a2)) else (
 some s4.2.2) : Option Int).bind fun x12 =>
 gd (a2 ≠ 0) <|
 some (.go ((i64.wrap (s4.1 * s4.1)).tmod a2, s4.2.1.fdiv 2, x12)))) else (
 some (.out s4.2.2))) (a0, a1, (1 : Int).tmod a2) : Option Int).bind fun x3 =>
 some x3)
theorem zgC : ∀ {a0} {a1} {a2} {r}, zcX a0 a1 a2 = some r → PCalls Tryz.prog 120 [(.sh, .int .i64 a0), (.sh, .int .i64 a1), (.sh, .int .i64 a2)] (Eo (.int .i64 r) [.junk, .junk, .junk]) := by
 intro a0 a1 a2 r hr
 apply pF 28 [] [] [] [.tmp 6] hr zv6 Tryz.func120
 intro Φ hΦ hF g
 unfold zcX at hF
 obtain ⟨g, hF⟩ := Rz g hF
 iterate 2 refine wW ?_
 refine wJ hF (fun x3 => [(7, .v (.int .i64 x3))]) (fun x3 hF => ?_) fun _ hj1 hF => ?_
 ·exact wl hΦ hF
 refine wB ?_
 obtain ⟨b14, hb15, hψ8⟩ := hF
 refine pL hb15 (fun s4 => [(0, .v (.int .i64 s4.1)), (1, .v (.int .i64 s4.2.1)), (2, .v (.int .i64 a2)), (7, .v (.int .i64 s4.2.2))]) (fun s4 _ _ ho6 hg7 hF => ?_)
 refine wW ?_
 refine wI hF (fun h9 hF => ?_) (fun h9 hF => ?_)
 ·refine wW ?_
  refine wB ?_
  refine wW ?_
  refine wJ hF (fun x12 => [(0, .v (.int .i64 s4.1)), (1, .v (.int .i64 s4.2.1)), (2, .v (.int .i64 a2)), (7, .v (.int .i64 x12))]) (fun x12 hF => ?_) fun _ hj10 hF => ?_
  ·obtain ⟨g, hF⟩ := Rz g hF
   refine wK [0, 1, 2, 7] ?_
   have g := Ls g 1
   exact wT (hg7 _) (zaa hF)
  refine wI hF (fun h13 hF => ?_) (fun h13 hF => ?_)
  ·obtain ⟨g, hF⟩ := Rz g hF
   exact wT (hj10 _) (zaa hF)
  exact wT (hj10 _) (zaa hF)
 cases ho6 _ (zaa hF)
 exact wT (hj1 _) hψ8
def zcG (a0 : Group) : Option Bool :=
 (((zbx a0.P 3 2000000000).bind fun z4 =>
 if z4 = true then (
 (zbx a0.Q 2 (i64.wrap (a0.P - 1))).bind fun z6 =>
 if z6 = true then (
 gd (a0.Q ≠ 0) <|
 if (((i64.wrap (a0.P - 1)).tmod a0.Q) == 0) = true then (
 (zbx a0.G 2 (i64.wrap (a0.P - 1))).bind fun z9 =>
 if z9 = true then (
 (zdi a0.P).bind fun z11 =>
 if z11 = true then (
 (zdi a0.Q).bind fun z13 =>
 if z13 = true then (
 (zcX a0.G a0.Q a0.P).bind fun z15 =>
 some (z15 == 1)) else (
 some false)) else (
 some false)) else (
 some false)) else (
 some false)) else (
 some false)) else (
 some false) : Option Bool).bind fun x3 =>
 some x3)
theorem zia : ∀ {a0} {r}, zcG a0 = some r → PCalls Tryz.prog 66 [(.sh, vE a0)] (Eo (.bool r) [.junk]) := by
 intro a0 r hr
 apply pF 51 [] [] [] [.tmp 2] hr zyi Tryz.func66
 intro Φ hΦ hF g
 unfold zcG at hF
 refine wW ?_
 refine wJ hF (fun x3 => [(2, .v (.bool x3))]) (fun x3 hF => ?_) fun _ hj1 hF => ?_
 ·exact wm hΦ hF
 refine wC hF [.sh, .sh, .sh] zc5 (fun z4 hF => ?_)
 refine wG hF (fun h5 hF => ?_) fun h5 hF => ?_
 ·try simp [go_sem, g, h5]
  refine wC hF [.sh, .sh, .sh] zc5 (fun z6 hF => ?_)
  try simp [go_sem, g, h5]
  refine wG hF (fun h7 hF => ?_) fun h7 hF => ?_
  ·obtain ⟨g, hF⟩ := Rz g hF
   try simp [go_sem, g, h7]
   refine wG hF (fun h8 hF => ?_) fun h8 hF => ?_
   ·try simp [go_sem, g, h8]
    refine wC hF [.sh, .sh, .sh] zc5 (fun z9 hF => ?_)
    try simp [go_sem, g, h8]
    refine wG hF (fun h10 hF => ?_) fun h10 hF => ?_
    ·try simp [go_sem, g, h10]
     refine wC hF [.sh] zhC (fun z11 hF => ?_)
     try simp [go_sem, g, h10]
     refine wG hF (fun h12 hF => ?_) fun h12 hF => ?_
     ·try simp [go_sem, g, h12]
      refine wC hF [.sh] zhC (fun z13 hF => ?_)
      try simp [go_sem, g, h12]
      refine wG hF (fun h14 hF => ?_) fun h14 hF => ?_
      ·try simp [go_sem, g, h14]
       refine wC hF [.sh, .sh, .sh] zgC (fun z15 hF => ?_)
       exact wV h14 (hj1 _) (zaa hF)
      exact wV h14 (hj1 _) (zaa hF)
     exact wV h12 (hj1 _) (zaa hF)
    exact wV h10 (hj1 _) (zaa hF)
   exact wV h8 (hj1 _) (zaa hF)
  exact wV h7 (hj1 _) (zaa hF)
 exact wV h5 (hj1 _) (zaa hF)
def zcY (a0 : Group) (a1 : Int) : Option Bool :=
 (zbx a1 0 (i64.wrap (a0.Q - 1))).bind fun z1 =>
 some z1
theorem ziT : ∀ {a0} {a1} {r}, zcY a0 a1 = some r → PCalls Tryz.prog 68 [(.sh, vE a0), (.sh, .int .i64 a1)] (Eo (.bool r) [.junk, .junk]) := by
 intro a0 a1 r hr
 apply pF 10 [] [] [] [.tmp 4] hr zAg Tryz.func68
 intro Φ hΦ hF g
 unfold zcY at hF
 refine wW ?_
 refine wC hF [.sh, .sh, .sh] zc5 (fun z1 hF => ?_)
 exact wl hΦ hF
def za3 (a0 : Int) (a1c0x0 : Group) : Option Bool :=
 (zcY a1c0x0 a0).bind fun z1 =>
 some (!z1)
theorem zeS : ∀ {a0} {a1c0x0} {r}, za3 a0 a1c0x0 = some r → PCalls Tryz.prog 158 [(.sh, .int .i64 a0), (.sh, .fp [.func (.func 68) [vE a1c0x0] []])] (Eo (.bool r) [.junk, .junk]) := by
 intro a0 a1c0x0 r hr
 apply pF 8 [] [] [] [.tmp 3] hr zoI Tryz.func158
 intro Φ hΦ hF g
 unfold za3 at hF
 refine wW ?_
 refine wC hF [.sh] ziT (fun z1 hF => ?_)
 exact wl hΦ hF
def zaP (a0 : List Int) (a1u0c0x0 : Group) : Option Int :=
 ((zaQ (σ := Unit) (fun i5 s4 =>
 (ix a0 i5).bind fun x11 =>
 (za3 x11 a1u0c0x0).bind fun z12 =>
 if z12 = true then (
 some (.out (.inr i5))) else (
 some (.go ()))) (fun s4 => .inl ()) (a0.length) 0 () : Option (Unit ⊕ Int)).bind (Sum.elim (fun x3 =>
 some (-1)) some))
theorem zcD : ∀ {a0} {a1u0c0x0} {r}, zaP a0 a1u0c0x0 = some r → PCalls Tryz.prog 179 [(.sh, vC a0), (.sh, .func (.func 158) [] [.fp [.func (.func 68) [vE a1u0c0x0] []]])] (Eo (.int .i64 r) [.junk, .junk]) := by
 intro a0 a1u0c0x0 r hr
 apply pF 19 [] [] [] [.tmp 4] hr zo3 Tryz.func179
 intro Φ hΦ hF g
 unfold zaP at hF
 iterate 2 (try simp [go_sem, g]; try intros; refine zaY ?_)
 refine wS hF (fun x3 => []) (fun x3 hF => ?_) fun _ hj1 hr2 hF => ?_
 ·exact wl hΦ hF
 refine wB ?_
 obtain ⟨b14, hb15, hψ8⟩ := hF
 refine pR hb15 (fun i5 s4 => [(0, .v (vC a0)), (1, .v (.func (.func 158) [] [.fp [.func (.func 68) [vE a1u0c0x0] []]])), (7, .v (.int .i64 (a0.length : Int))), (8, .v (.int .i64 i5))]) (fun s4 _ hN16 => ?_) (fun i5 s4 _ _ hi9 hi10 ho6 hg7 hF => ?_)
 ·exact wn hN16 (hj1 _) hψ8
 refine wW ?_
 refine wu hi9 hi10 ?_
 refine wW ?_
 refine wB ?_
 obtain ⟨x11, g, hF⟩ := Rx g hF
 refine wW ?_
 refine wC hF [.sh] zeS (fun z12 hF => ?_)
 refine wK [0, 1, 5, 7, 8, 16] ?_
 refine wI hF (fun h13 hF => ?_) (fun h13 hF => ?_)
 ·cases ho6 _ (zaa hF)
  cases hΦ _ (hr2 _ hψ8)
  refine wW ?_
  try simp [go_sem, g]
 refine wW ?_
 exact wi hi9 hi10 (hg7 _) (zaa hF)
def zaJ (a0 : List Int) (a1u0c0x0 : Group) : Option Bool :=
 (zaP a0 a1u0c0x0).bind fun z1 =>
 some (decide (0 ≤ z1))
theorem zco : ∀ {a0} {a1u0c0x0} {r}, zaJ a0 a1u0c0x0 = some r → PCalls Tryz.prog 157 [(.sh, vC a0), (.sh, .func (.func 158) [] [.fp [.func (.func 68) [vE a1u0c0x0] []]])] (Eo (.bool r) [.junk, .junk]) := by
 intro a0 a1u0c0x0 r hr
 apply pF 9 [] [] [] [.tmp 4] hr zoP Tryz.func157
 intro Φ hΦ hF g
 unfold zaJ at hF
 refine wW ?_
 refine wC hF [.sh, .sh] zcD (fun z1 hF => ?_)
 exact wl hΦ hF
def zbA (a0 : List Int) (a1x0 : Group) : Option Bool :=
 (zaJ a0 a1x0).bind fun z1 =>
 some (!z1)
theorem zfl : ∀ {a0} {a1x0} {r}, zbA a0 a1x0 = some r → PCalls Tryz.prog 114 [(.sh, vC a0), (.sh, .func (.func 68) [vE a1x0] [])] (Eo (.bool r) [.junk, .junk]) := by
 intro a0 a1x0 r hr
 apply pF 9 [] [] [1000000] [.tmp 4] hr zor Tryz.func114
 intro Φ hΦ hF g
 unfold zbA at hF
 refine wW ?_
 refine wC hF [.sh, .sh] zco (fun z1 hF => ?_)
 exact wl hΦ hF
def zbO (a0 : Group) (a1 : List Int) : Option Bool :=
 (zbA a1 a0).bind fun z1 =>
 some z1
theorem zfz : ∀ {a0} {a1} {r}, zbO a0 a1 = some r → PCalls Tryz.prog 59 [(.sh, vE a0), (.sh, vC a1)] (Eo (.bool r) [.junk, .junk]) := by
 intro a0 a1 r hr
 apply pF 9 [] [] [] [.tmp 4] hr zzK Tryz.func59
 intro Φ hΦ hF g
 unfold zbO at hF
 refine wW ?_
 refine wC hF [.sh, .sh] zfl (fun z1 hF => ?_)
 exact wl hΦ hF
def zbv (a0 : Group) (a1 : Int) (a2 : Int) : Option Bool :=
 (((zcG a0).bind fun z4 =>
 if z4 = true then (
 (zbO a0 [a1, a2]).bind fun z6 =>
 if z6 = true then (
 some (a2 != 0)) else (
 some false)) else (
 some false) : Option Bool).bind fun x3 =>
 some x3)
theorem zgQ : ∀ {a0} {a1} {a2} {r}, zbv a0 a1 a2 = some r → PCalls Tryz.prog 33 [(.sh, vE a0), (.sh, .int .i64 a1), (.sh, .int .i64 a2)] (Eo (.bool r) [.junk, .junk, .junk]) := by
 intro a0 a1 a2 r hr
 apply pF 20 [] [] [] [.tmp 6] hr zzH Tryz.func33
 intro Φ hΦ hF g
 unfold zbv at hF
 refine wW ?_
 refine wJ hF (fun x3 => [(6, .v (.bool x3))]) (fun x3 hF => ?_) fun _ hj1 hF => ?_
 ·exact wm hΦ hF
 refine wC hF [.sh] zia (fun z4 hF => ?_)
 refine wG hF (fun h5 hF => ?_) fun h5 hF => ?_
 ·try simp [go_sem, g, h5]
  refine wC hF [.sh, .sh] zfz (fun z6 hF => ?_)
  try simp [go_sem, g, h5]
  refine wG hF (fun h7 hF => ?_) fun h7 hF => ?_
  ·exact wV h7 (hj1 _) (zaa hF)
  exact wV h7 (hj1 _) (zaa hF)
 exact wV h5 (hj1 _) (zaa hF)
def zce (a0 : Group) (a1 : Int) : Option Bool :=
 (((zbx a1 1 (i64.wrap (a0.P - 1))).bind fun z4 =>
 if z4 = true then (
 (zcX a1 a0.Q a0.P).bind fun z6 =>
 some (z6 == 1)) else (
 some false) : Option Bool).bind fun x3 =>
 some x3)
theorem ze3 : ∀ {a0} {a1} {r}, zce a0 a1 = some r → PCalls Tryz.prog 67 [(.sh, vE a0), (.sh, .int .i64 a1)] (Eo (.bool r) [.junk, .junk]) := by
 intro a0 a1 r hr
 apply pF 19 [] [] [] [.tmp 4] hr zzB Tryz.func67
 intro Φ hΦ hF g
 unfold zce at hF
 refine wW ?_
 refine wJ hF (fun x3 => [(4, .v (.bool x3))]) (fun x3 hF => ?_) fun _ hj1 hF => ?_
 ·exact wm hΦ hF
 refine wC hF [.sh, .sh, .sh] zc5 (fun z4 hF => ?_)
 refine wG hF (fun h5 hF => ?_) fun h5 hF => ?_
 ·try simp [go_sem, g, h5]
  refine wC hF [.sh, .sh, .sh] zgC (fun z6 hF => ?_)
  exact wV h5 (hj1 _) (zaa hF)
 exact wV h5 (hj1 _) (zaa hF)
def zbj (a0 : Group) (a1 : Cipher) : Option Bool :=
 (((zce a0 a1.A).bind fun z4 =>
 if z4 = true then (
 (zce a0 a1.B).bind fun z6 =>
 some z6) else (
 some false) : Option Bool).bind fun x3 =>
 some x3)
theorem zdM : ∀ {a0} {a1} {r}, zbj a0 a1 = some r → PCalls Tryz.prog 57 [(.sh, vE a0), (.sh, vF a1)] (Eo (.bool r) [.junk, .junk]) := by
 intro a0 a1 r hr
 apply pF 15 [] [] [] [.tmp 4] hr zzg Tryz.func57
 intro Φ hΦ hF g
 unfold zbj at hF
 refine wW ?_
 refine wJ hF (fun x3 => [(4, .v (.bool x3))]) (fun x3 hF => ?_) fun _ hj1 hF => ?_
 ·exact wm hΦ hF
 refine wC hF [.sh, .sh] ze3 (fun z4 hF => ?_)
 refine wG hF (fun h5 hF => ?_) fun h5 hF => ?_
 ·try simp [go_sem, g, h5]
  refine wC hF [.sh, .sh] ze3 (fun z6 hF => ?_)
  exact wV h5 (hj1 _) (zaa hF)
 exact wV h5 (hj1 _) (zaa hF)
def zcb (a0 : Cipher) (a1c0 : Int) (a1c1 : Int) (a1c2 : Int) : Option Bool :=
 (zbj (Group.mk a1c0 a1c1 a1c2) a0).bind fun z1 =>
 some (!z1)
theorem zf0 : ∀ {a0} {a1c0} {a1c1} {a1c2} {r}, zcb a0 a1c0 a1c1 a1c2 = some r → PCalls Tryz.prog 90 [(.sh, vF a0), (.sh, .fp [.int .i64 a1c0, .int .i64 a1c1, .int .i64 a1c2])] (Eo (.bool r) [.junk, .junk]) := by
 intro a0 a1c0 a1c1 a1c2 r hr
 apply pF 8 [] [] [] [.tmp 3] hr zz5 Tryz.func90
 intro Φ hΦ hF g
 unfold zcb at hF
 refine wW ?_
 refine wC hF [.sh, .sh] zdM (fun z1 hF => ?_)
 exact wl hΦ hF
def zan (a0 : List Cipher) (a1u0c0 : Int) (a1u0c1 : Int) (a1u0c2 : Int) : Option Int :=
 ((zaQ (σ := Unit) (fun i5 s4 =>
 (ix a0 i5).bind fun x11 =>
 (zcb x11 a1u0c0 a1u0c1 a1u0c2).bind fun z12 =>
 if z12 = true then (
 some (.out (.inr i5))) else (
 some (.go ()))) (fun s4 => .inl ()) (a0.length) 0 () : Option (Unit ⊕ Int)).bind (Sum.elim (fun x3 =>
 some (-1)) some))
theorem zb4 : ∀ {a0} {a1u0c0} {a1u0c1} {a1u0c2} {r}, zan a0 a1u0c0 a1u0c1 a1u0c2 = some r → PCalls Tryz.prog 134 [(.sh, vO a0), (.sh, .func (.func 90) [] [.fp [.int .i64 a1u0c0, .int .i64 a1u0c1, .int .i64 a1u0c2]])] (Eo (.int .i64 r) [.junk, .junk]) := by
 intro a0 a1u0c0 a1u0c1 a1u0c2 r hr
 apply pF 19 [] [] [] [.tmp 4] hr zuv Tryz.func134
 intro Φ hΦ hF g
 unfold zan at hF
 iterate 2 (try simp [go_sem, g]; try intros; refine zaY ?_)
 refine wS hF (fun x3 => []) (fun x3 hF => ?_) fun _ hj1 hr2 hF => ?_
 ·exact wl hΦ hF
 refine wB ?_
 obtain ⟨b14, hb15, hψ8⟩ := hF
 refine pR hb15 (fun i5 s4 => [(0, .v (vO a0)), (1, .v (.func (.func 90) [] [.fp [.int .i64 a1u0c0, .int .i64 a1u0c1, .int .i64 a1u0c2]])), (7, .v (.int .i64 (a0.length : Int))), (8, .v (.int .i64 i5))]) (fun s4 _ hN16 => ?_) (fun i5 s4 _ _ hi9 hi10 ho6 hg7 hF => ?_)
 ·exact wn hN16 (hj1 _) hψ8
 refine wW ?_
 refine wu hi9 hi10 ?_
 refine wW ?_
 refine wB ?_
 obtain ⟨x11, g, hF⟩ := Rx g hF
 refine wW ?_
 refine wC hF [.sh] zf0 (fun z12 hF => ?_)
 refine wK [0, 1, 5, 7, 8, 16] ?_
 refine wI hF (fun h13 hF => ?_) (fun h13 hF => ?_)
 ·cases ho6 _ (zaa hF)
  cases hΦ _ (hr2 _ hψ8)
  refine wW ?_
  try simp [go_sem, g]
 refine wW ?_
 exact wi hi9 hi10 (hg7 _) (zaa hF)
def zar (a0 : List Cipher) (a1u0c0 : Int) (a1u0c1 : Int) (a1u0c2 : Int) : Option Bool :=
 (zan a0 a1u0c0 a1u0c1 a1u0c2).bind fun z1 =>
 some (decide (0 ≤ z1))
theorem zbQ : ∀ {a0} {a1u0c0} {a1u0c1} {a1u0c2} {r}, zar a0 a1u0c0 a1u0c1 a1u0c2 = some r → PCalls Tryz.prog 89 [(.sh, vO a0), (.sh, .func (.func 90) [] [.fp [.int .i64 a1u0c0, .int .i64 a1u0c1, .int .i64 a1u0c2]])] (Eo (.bool r) [.junk, .junk]) := by
 intro a0 a1u0c0 a1u0c1 a1u0c2 r hr
 apply pF 9 [] [] [] [.tmp 4] hr zyo Tryz.func89
 intro Φ hΦ hF g
 unfold zar at hF
 refine wW ?_
 refine wC hF [.sh, .sh] zb4 (fun z1 hF => ?_)
 exact wl hΦ hF
def zbt (a0 : Group) (a1 : List Cipher) : Option Bool :=
 ((if decide ((a1.length : Int) ≤ 24) = true then (
 (zar a1 a0.P a0.Q a0.G).bind fun z5 =>
 some (!z5)) else (
 some false) : Option Bool).bind fun x3 =>
 some x3)
theorem zeF : ∀ {a0} {a1} {r}, zbt a0 a1 = some r → PCalls Tryz.prog 34 [(.sh, vE a0), (.sh, vO a1)] (Eo (.bool r) [.junk, .junk]) := by
 intro a0 a1 r hr
 apply pF 14 [] [] [1000000] [.tmp 4] hr zyK Tryz.func34
 intro Φ hΦ hF g
 unfold zbt at hF
 refine wW ?_
 refine wJ hF (fun x3 => [(4, .v (.bool x3))]) (fun x3 hF => ?_) fun _ hj1 hF => ?_
 ·exact wm hΦ hF
 try simp [go_sem, g]
 try intros
 refine wG hF (fun h4 hF => ?_) fun h4 hF => ?_
 ·try simp [go_sem, g, h4]
  refine wC hF [.sh, .sh] zbQ (fun z5 hF => ?_)
  exact wV h4 (hj1 _) (zaa hF)
 exact wV h4 (hj1 _) (zaa hF)
def zcx (a0 : Group) (a1 : Cast) : Option Bool :=
 (((zbj a0 a1.Credential).bind fun z4 =>
 if z4 = true then (
 (zbj a0 a1.Vote).bind fun z6 =>
 some z6) else (
 some false) : Option Bool).bind fun x3 =>
 some x3)
theorem zhL : ∀ {a0} {a1} {r}, zcx a0 a1 = some r → PCalls Tryz.prog 37 [(.sh, vE a0), (.sh, vJ a1)] (Eo (.bool r) [.junk, .junk]) := by
 intro a0 a1 r hr
 apply pF 15 [] [] [] [.tmp 4] hr zzF Tryz.func37
 intro Φ hΦ hF g
 unfold zcx at hF
 refine wW ?_
 refine wJ hF (fun x3 => [(4, .v (.bool x3))]) (fun x3 hF => ?_) fun _ hj1 hF => ?_
 ·exact wm hΦ hF
 refine wC hF [.sh, .sh] zdM (fun z4 hF => ?_)
 refine wG hF (fun h5 hF => ?_) fun h5 hF => ?_
 ·try simp [go_sem, g, h5]
  refine wC hF [.sh, .sh] zdM (fun z6 hF => ?_)
  exact wV h5 (hj1 _) (zaa hF)
 exact wV h5 (hj1 _) (zaa hF)
def zds (a0 : Cast) (a1c0 : Int) (a1c1 : Int) (a1c2 : Int) : Option Bool :=
 (zcx (Group.mk a1c0 a1c1 a1c2) a0).bind fun z1 =>
 some (!z1)
theorem zic : ∀ {a0} {a1c0} {a1c1} {a1c2} {r}, zds a0 a1c0 a1c1 a1c2 = some r → PCalls Tryz.prog 36 [(.sh, vJ a0), (.sh, .fp [.int .i64 a1c0, .int .i64 a1c1, .int .i64 a1c2])] (Eo (.bool r) [.junk, .junk]) := by
 intro a0 a1c0 a1c1 a1c2 r hr
 apply pF 8 [] [] [] [.tmp 3] hr zza Tryz.func36
 intro Φ hΦ hF g
 unfold zds at hF
 refine wW ?_
 refine wC hF [.sh, .sh] zhL (fun z1 hF => ?_)
 exact wl hΦ hF
def zaE (a0 : List Cast) (a1u0c0 : Int) (a1u0c1 : Int) (a1u0c2 : Int) : Option Int :=
 ((zaQ (σ := Unit) (fun i5 s4 =>
 (ix a0 i5).bind fun x11 =>
 (zds x11 a1u0c0 a1u0c1 a1u0c2).bind fun z12 =>
 if z12 = true then (
 some (.out (.inr i5))) else (
 some (.go ()))) (fun s4 => .inl ()) (a0.length) 0 () : Option (Unit ⊕ Int)).bind (Sum.elim (fun x3 =>
 some (-1)) some))
theorem zcM : ∀ {a0} {a1u0c0} {a1u0c1} {a1u0c2} {r}, zaE a0 a1u0c0 a1u0c1 a1u0c2 = some r → PCalls Tryz.prog 91 [(.sh, vP a0), (.sh, .func (.func 36) [] [.fp [.int .i64 a1u0c0, .int .i64 a1u0c1, .int .i64 a1u0c2]])] (Eo (.int .i64 r) [.junk, .junk]) := by
 intro a0 a1u0c0 a1u0c1 a1u0c2 r hr
 apply pF 19 [] [] [] [.tmp 4] hr zxC Tryz.func91
 intro Φ hΦ hF g
 unfold zaE at hF
 iterate 2 (try simp [go_sem, g]; try intros; refine zaY ?_)
 refine wS hF (fun x3 => []) (fun x3 hF => ?_) fun _ hj1 hr2 hF => ?_
 ·exact wl hΦ hF
 refine wB ?_
 obtain ⟨b14, hb15, hψ8⟩ := hF
 refine pR hb15 (fun i5 s4 => [(0, .v (vP a0)), (1, .v (.func (.func 36) [] [.fp [.int .i64 a1u0c0, .int .i64 a1u0c1, .int .i64 a1u0c2]])), (7, .v (.int .i64 (a0.length : Int))), (8, .v (.int .i64 i5))]) (fun s4 _ hN16 => ?_) (fun i5 s4 _ _ hi9 hi10 ho6 hg7 hF => ?_)
 ·exact wn hN16 (hj1 _) hψ8
 refine wW ?_
 refine wu hi9 hi10 ?_
 refine wW ?_
 refine wB ?_
 obtain ⟨x11, g, hF⟩ := Rx g hF
 refine wW ?_
 refine wC hF [.sh] zic (fun z12 hF => ?_)
 refine wK [0, 1, 5, 7, 8, 16] ?_
 refine wI hF (fun h13 hF => ?_) (fun h13 hF => ?_)
 ·cases ho6 _ (zaa hF)
  cases hΦ _ (hr2 _ hψ8)
  refine wW ?_
  try simp [go_sem, g]
 refine wW ?_
 exact wi hi9 hi10 (hg7 _) (zaa hF)
def zap (a0 : List Cast) (a1u0c0 : Int) (a1u0c1 : Int) (a1u0c2 : Int) : Option Bool :=
 (zaE a0 a1u0c0 a1u0c1 a1u0c2).bind fun z1 =>
 some (decide (0 ≤ z1))
theorem zcz : ∀ {a0} {a1u0c0} {a1u0c1} {a1u0c2} {r}, zap a0 a1u0c0 a1u0c1 a1u0c2 = some r → PCalls Tryz.prog 35 [(.sh, vP a0), (.sh, .func (.func 36) [] [.fp [.int .i64 a1u0c0, .int .i64 a1u0c1, .int .i64 a1u0c2]])] (Eo (.bool r) [.junk, .junk]) := by
 intro a0 a1u0c0 a1u0c1 a1u0c2 r hr
 apply pF 9 [] [] [] [.tmp 4] hr zyX Tryz.func35
 intro Φ hΦ hF g
 unfold zap at hF
 refine wW ?_
 refine wC hF [.sh, .sh] zcM (fun z1 hF => ?_)
 exact wl hΦ hF
def zfo (a0 : Int) (a1 : Int) : Option Int :=
 gd (a1 ≠ 0) <|
 gd (a1 ≠ 0) <|
 some ((i64.wrap ((a0.tmod a1) + a1)).tmod a1)
theorem zoq : ∀ {a0} {a1} {r}, zfo a0 a1 = some r → PCalls Tryz.prog 121 [(.sh, .int .i64 a0), (.sh, .int .i64 a1)] (Eo (.int .i64 r) [.junk, .junk]) := by
 intro a0 a1 r hr
 apply pF 12 [] [] [] [.tmp 4] hr zuH Tryz.func121
 intro Φ hΦ hF g
 unfold zfo at hF
 obtain ⟨g, hF⟩ := Rz g hF
 obtain ⟨g, hF⟩ := Rz g hF
 cases hΦ _ (zaa hF)
 iterate 2 refine wW ?_
 try simp [go_sem, g]
@[go_sem] def zvJ : List DE := [d0 0 [1], d0 1 [2], d1 2 [3] 3, d2 3 [9] 3 9, d1 5 [3] 3, d2 6 [12] 3 12, d3 4 [8, 10], d3 7 [7, 11, 13], d0 8 [14]]
def zaZ (a0 : Group) (a1 : Int) (a2 : Int) : Option Int :=
 (zfo a2 a0.Q).bind fun z1 =>
 (zcX a1 z1 a0.P).bind fun z2 =>
 some z2
theorem zcf : ∀ {a0} {a1} {a2} {r}, zaZ a0 a1 a2 = some r → PCalls Tryz.prog 69 [(.sh, vE a0), (.sh, .int .i64 a1), (.sh, .int .i64 a2)] (Eo (.int .i64 r) [.junk, .junk, .junk]) := by
 intro a0 a1 a2 r hr
 apply pF 15 [] [] [] [.tmp 6] hr zyb Tryz.func69
 intro Φ hΦ hF g
 unfold zaZ at hF
 refine wW ?_
 refine wX zvJ follows ?_
 refine wC hF [.sh, .sh] zoq (fun z1 hF => ?_)
 refine wC hF [.sh, .sh, .sh] zgC (fun z2 hF => ?_)
 refine wK [6] ?_
 exact wm hΦ hF
def zea (a0 : Group) (a1 : Int) : Option Int :=
 (zaZ a0 a1 (-1)).bind fun z1 =>
 some z1
theorem zjx : ∀ {a0} {a1} {r}, zea a0 a1 = some r → PCalls Tryz.prog 49 [(.sh, vE a0), (.sh, .int .i64 a1)] (Eo (.int .i64 r) [.junk, .junk]) := by
 intro a0 a1 r hr
 apply pF 8 [] [] [] [.tmp 4] hr zxu Tryz.func49
 intro Φ hΦ hF g
 unfold zea at hF
 refine wW ?_
 refine wC hF [.sh, .sh, .sh] zcf (fun z1 hF => ?_)
 exact wl hΦ hF
def zbu (a0 : Group) (a1 : List Int) : Option Int :=
 ((zaQ (σ := Int) (fun i5 s4 =>
 (ix a1 i5).bind fun x11 =>
 gd (a0.P ≠ 0) <|
 some (.go ((i64.wrap (s4 * x11)).tmod a0.P))) (fun s4 => s4) (a1.length) 0 1 : Option Int).bind fun x3 =>
 some x3)
theorem ze1 : ∀ {a0} {a1} {r}, zbu a0 a1 = some r → PCalls Tryz.prog 48 [(.sh, vE a0), (.sh, vC a1)] (Eo (.int .i64 r) [.junk, .junk]) := by
 intro a0 a1 r hr
 apply pF 22 [] [] [] [.tmp 4] hr zzR Tryz.func48
 intro Φ hΦ hF g
 unfold zbu at hF
 iterate 3 (try simp [go_sem, g]; try intros; refine zaY ?_)
 refine wJ hF (fun x3 => [(5, .v (.int .i64 x3))]) (fun x3 hF => ?_) fun _ hj1 hF => ?_
 ·exact wl hΦ hF
 refine wB ?_
 obtain ⟨b12, hb13, hψ8⟩ := hF
 refine pR hb13 (fun i5 s4 => [(2, .bl [.int .i64 a0.P, .int .i64 a0.Q, .int .i64 a0.G]), (5, .v (.int .i64 s4)), (8, .v (vC a1)), (9, .v (.int .i64 (a1.length : Int))), (10, .v (.int .i64 i5))]) (fun s4 _ hN14 => ?_) (fun i5 s4 _ _ hi9 hi10 ho6 hg7 hF => ?_)
 ·exact wn hN14 (hj1 _) hψ8
 refine wW ?_
 refine wu hi9 hi10 ?_
 refine wW ?_
 refine wB ?_
 obtain ⟨x11, g, hF⟩ := Rx g hF
 refine wK [2, 5, 7, 8, 9, 10] ?_
 obtain ⟨g, hF⟩ := Rz g hF
 refine wW ?_
 exact wi hi9 hi10 (hg7 _) (zaa hF)
@[go_sem] def zvh : List DE := [d2 0 [3] 3 3, d1 1 [5] 5, d2 2 [8] 5 8, d2 3 [3] 3 3, d2 4 [3] 3 3, d1 5 [5] 5, d2 6 [12] 5 12, d0 7 [1], d3 8 [11, 13, 14], d3 9 [10, 15], d0 10 [9, 16], ⟨11, [7, 17], [], none, true, true, true⟩, d0 12 [18]]
def zbP (a0 : Group) (a1 : Int) (a2 : Cipher) : Option Int :=
 (zaZ a0 a2.A a1).bind fun z1 =>
 (zea a0 z1).bind fun z2 =>
 (zbu a0 [a2.B, z2]).bind fun z3 =>
 some z3
theorem zfA : ∀ {a0} {a1} {a2} {r}, zbP a0 a1 a2 = some r → PCalls Tryz.prog 45 [(.sh, vE a0), (.sh, .int .i64 a1), (.sh, vF a2)] (Eo (.int .i64 r) [.junk, .junk, .junk]) := by
 intro a0 a1 a2 r hr
 apply pF 19 [] [] [] [.tmp 6] hr zyr Tryz.func45
 intro Φ hΦ hF g
 unfold zbP at hF
 refine wW ?_
 refine wX zvh follows ?_
 refine wC hF [.sh, .sh, .sh] zcf (fun z1 hF => ?_)
 refine wC hF [.sh, .sh] zjx (fun z2 hF => ?_)
 refine wC hF [.sh, .sh] ze1 (fun z3 hF => ?_)
 refine wK [6] ?_
 exact wm hΦ hF
@[go_sem] def zvv : List DE := [d0 0 [9], d2 1 [4] 4 4, d2 2 [4] 4 4, d0 3 [1], d2 4 [11] 11 11, d0 6 [2], d3 5 [21, 22, 23], d3 7 [20, 24, 25], d0 8 [26], ⟨9, [19, 27], [], none, true, false, false⟩, d0 10 [28]]
def zbY (a0 : Group) (a1 : Int) (a2 : Int) (a3 : List Cipher) : Option ((List Int)) :=
 ((zaQ (σ := (List Int)) (fun i5 s4 =>
 (ix a3 i5).bind fun x11 =>
 (zbP a0 a1 x11).bind fun z12 =>
 (zaZ a0 z12 a2).bind fun z13 =>
 gd ((s4.length + 1) * 8 ≤ 140737488355328 ∧ s4.length + 1 ≤ 4611686018427387904) <|
 some (.go (s4 ++ [z13]))) (fun s4 => s4) (a3.length) 0 [] : Option ((List Int))).bind fun x3 =>
 some x3)
theorem zeK : ∀ {a0} {a1} {a2} {a3} {r}, zbY a0 a1 a2 a3 = some r → PCalls Tryz.prog 38 [(.sh, vE a0), (.sh, .int .i64 a1), (.sh, .int .i64 a2), (.sh, vO a3)] (Eo (vD r) [.junk, .junk, .junk, .junk]) := by
 intro a0 a1 a2 a3 r hr
 apply pF 31 [] [] [] [.tmp 8] hr zyT Tryz.func38
 intro Φ hΦ hF g
 unfold zbY at hF
 iterate 3 (try simp [go_sem, g]; try intros; refine zaY ?_)
 refine wJ hF (fun x3 => [(9, .v (vD x3))]) (fun x3 hF => ?_) fun _ hj1 hF => ?_
 ·exact wl hΦ hF
 refine wB ?_
 obtain ⟨b14, hb15, hψ8⟩ := hF
 refine pR hb15 (fun i5 s4 => [(1, .v (.int .i64 a1)), (2, .v (.int .i64 a2)), (4, .bl [.int .i64 a0.P, .int .i64 a0.Q, .int .i64 a0.G]), (9, .v (vD s4)), (13, .v (vO a3)), (14, .v (.int .i64 (a3.length : Int))), (15, .v (.int .i64 i5))]) (fun s4 _ hN16 => ?_) (fun i5 s4 _ _ hi9 hi10 ho6 hg7 hF => ?_)
 ·exact wn hN16 (hj1 _) hψ8
 refine wW ?_
 refine wu hi9 hi10 ?_
 refine wW ?_
 refine wB ?_
 obtain ⟨x11, g, hF⟩ := Rx g hF
 refine wK [1, 2, 4, 9, 11, 13, 14, 15] ?_
 refine wX zvv follows ?_
 refine wC hF [.sh, .sh, .sh] zfA (fun z12 hF => ?_)
 refine wC hF [.sh, .sh, .sh] zcf (fun z13 hF => ?_)
 obtain ⟨g, hF⟩ := Rg g hF
 refine wK [1, 2, 4, 9, 13, 14, 15] ?_
 exact wi hi9 hi10 (hg7 _) (zaa hF)
def zba (a0 : Int) (a1c0x0 : Group) : Option Bool :=
 (zce a1c0x0 a0).bind fun z1 =>
 some (!z1)
theorem zfk : ∀ {a0} {a1c0x0} {r}, zba a0 a1c0x0 = some r → PCalls Tryz.prog 158 [(.sh, .int .i64 a0), (.sh, .fp [.func (.func 67) [vE a1c0x0] []])] (Eo (.bool r) [.junk, .junk]) := by
 intro a0 a1c0x0 r hr
 apply pF 8 [] [] [] [.tmp 3] hr zoI Tryz.func158
 intro Φ hΦ hF g
 unfold zba at hF
 refine wW ?_
 refine wC hF [.sh] ze3 (fun z1 hF => ?_)
 exact wl hΦ hF
def zaF (a0 : List Int) (a1u0c0x0 : Group) : Option Int :=
 ((zaQ (σ := Unit) (fun i5 s4 =>
 (ix a0 i5).bind fun x11 =>
 (zba x11 a1u0c0x0).bind fun z12 =>
 if z12 = true then (
 some (.out (.inr i5))) else (
 some (.go ()))) (fun s4 => .inl ()) (a0.length) 0 () : Option (Unit ⊕ Int)).bind (Sum.elim (fun x3 =>
 some (-1)) some))
theorem zcP : ∀ {a0} {a1u0c0x0} {r}, zaF a0 a1u0c0x0 = some r → PCalls Tryz.prog 179 [(.sh, vC a0), (.sh, .func (.func 158) [] [.fp [.func (.func 67) [vE a1u0c0x0] []]])] (Eo (.int .i64 r) [.junk, .junk]) := by
 intro a0 a1u0c0x0 r hr
 apply pF 19 [] [] [] [.tmp 4] hr zo3 Tryz.func179
 intro Φ hΦ hF g
 unfold zaF at hF
 iterate 2 (try simp [go_sem, g]; try intros; refine zaY ?_)
 refine wS hF (fun x3 => []) (fun x3 hF => ?_) fun _ hj1 hr2 hF => ?_
 ·exact wl hΦ hF
 refine wB ?_
 obtain ⟨b14, hb15, hψ8⟩ := hF
 refine pR hb15 (fun i5 s4 => [(0, .v (vC a0)), (1, .v (.func (.func 158) [] [.fp [.func (.func 67) [vE a1u0c0x0] []]])), (7, .v (.int .i64 (a0.length : Int))), (8, .v (.int .i64 i5))]) (fun s4 _ hN16 => ?_) (fun i5 s4 _ _ hi9 hi10 ho6 hg7 hF => ?_)
 ·exact wn hN16 (hj1 _) hψ8
 refine wW ?_
 refine wu hi9 hi10 ?_
 refine wW ?_
 refine wB ?_
 obtain ⟨x11, g, hF⟩ := Rx g hF
 refine wW ?_
 refine wC hF [.sh] zfk (fun z12 hF => ?_)
 refine wK [0, 1, 5, 7, 8, 16] ?_
 refine wI hF (fun h13 hF => ?_) (fun h13 hF => ?_)
 ·cases ho6 _ (zaa hF)
  cases hΦ _ (hr2 _ hψ8)
  refine wW ?_
  try simp [go_sem, g]
 refine wW ?_
 exact wi hi9 hi10 (hg7 _) (zaa hF)
def zaC (a0 : List Int) (a1u0c0x0 : Group) : Option Bool :=
 (zaF a0 a1u0c0x0).bind fun z1 =>
 some (decide (0 ≤ z1))
theorem zcy : ∀ {a0} {a1u0c0x0} {r}, zaC a0 a1u0c0x0 = some r → PCalls Tryz.prog 157 [(.sh, vC a0), (.sh, .func (.func 158) [] [.fp [.func (.func 67) [vE a1u0c0x0] []]])] (Eo (.bool r) [.junk, .junk]) := by
 intro a0 a1u0c0x0 r hr
 apply pF 9 [] [] [] [.tmp 4] hr zoP Tryz.func157
 intro Φ hΦ hF g
 unfold zaC at hF
 refine wW ?_
 refine wC hF [.sh, .sh] zcP (fun z1 hF => ?_)
 exact wl hΦ hF
def zbJ (a0 : List Int) (a1x0 : Group) : Option Bool :=
 (zaC a0 a1x0).bind fun z1 =>
 some (!z1)
theorem zfC : ∀ {a0} {a1x0} {r}, zbJ a0 a1x0 = some r → PCalls Tryz.prog 114 [(.sh, vC a0), (.sh, .func (.func 67) [vE a1x0] [])] (Eo (.bool r) [.junk, .junk]) := by
 intro a0 a1x0 r hr
 apply pF 9 [] [] [1000000] [.tmp 4] hr zor Tryz.func114
 intro Φ hΦ hF g
 unfold zbJ at hF
 refine wW ?_
 refine wC hF [.sh, .sh] zcy (fun z1 hF => ?_)
 exact wl hΦ hF
def zcF (a0 : Group) (a1 : List Int) : Option Bool :=
 (zbJ a1 a0).bind fun z1 =>
 some z1
theorem zid : ∀ {a0} {a1} {r}, zcF a0 a1 = some r → PCalls Tryz.prog 92 [(.sh, vE a0), (.sh, vC a1)] (Eo (.bool r) [.junk, .junk]) := by
 intro a0 a1 r hr
 apply pF 9 [] [] [] [.tmp 4] hr zzt Tryz.func92
 intro Φ hΦ hF g
 unfold zcF at hF
 refine wW ?_
 refine wC hF [.sh, .sh] zfC (fun z1 hF => ?_)
 exact wl hΦ hF
def zeo (a0 : ByteArray) (a1 : List Int) : Option ((List Int)) :=
 ((zbG (σ := (List Int) × Int) (fun s4 =>
 if decide (s4.2 < (a0.size : Int)) = true then (
 (ixs a0 s4.2).bind fun x10 =>
 gd ((s4.1.length + 1) * 8 ≤ 140737488355328 ∧ s4.1.length + 1 ≤ 4611686018427387904) <|
 some (.go (s4.1 ++ [i64.wrap x10], i64.wrap (s4.2 + 1)))) else (
 some (.out s4.1))) ([(a0.size : Int)], 0) : Option ((List Int))).bind fun x3 =>
 gd ((x3.length + a1.length) * 8 ≤ 140737488355328 ∧ x3.length + a1.length ≤ 4611686018427387904) <|
 some (x3 ++ a1))
theorem zj6 : ∀ {a0} {a1} {r}, zeo a0 a1 = some r → PCalls Tryz.prog 183 [(.sh, .str a0), (.sh, vC a1)] (Eo (vD r) [.junk, .junk]) := by
 intro a0 a1 r hr
 apply pF 26 [] [] [] [.tmp 4] hr zu3 Tryz.func183
 intro Φ hΦ hF g
 unfold zeo at hF
 iterate 3 refine wW ?_
 refine wJ hF (fun x3 => [(1, .v (vC a1)), (5, .v (vD x3))]) (fun x3 hF => ?_) fun _ hj1 hF => ?_
 ·obtain ⟨g, hF⟩ := Rg g hF
  refine wK [4] ?_
  exact wm hΦ hF
 refine wB ?_
 obtain ⟨b11, hb12, hψ8⟩ := hF
 refine pL hb12 (fun s4 => [(0, .v (.str a0)), (1, .v (vC a1)), (5, .v (vD s4.1)), (11, .v (.int .i64 (a0.size : Int))), (12, .v (.int .i64 s4.2))]) (fun s4 _ _ ho6 hg7 hF => ?_)
 refine wW ?_
 refine wI hF (fun h9 hF => ?_) (fun h9 hF => ?_)
 ·refine wW ?_
  refine wB ?_
  refine wK [0, 1, 5, 6, 11, 12] ?_
  obtain ⟨x10, g, hF⟩ := Rxs g hF
  obtain ⟨g, hF⟩ := Rg g hF
  refine wW ?_
  exact wT (hg7 _) (zaa hF)
 cases ho6 _ (zaa hF)
 exact wT (hj1 _) hψ8
def zdE (a0 : Int) : Option Bool :=
 (zbx a0 0 4611686018427387903).bind fun z1 =>
 some z1
theorem zjW : ∀ {a0} {r}, zdE a0 = some r → PCalls Tryz.prog 192 [(.sh, .int .i64 a0)] (Eo (.bool r) [.junk]) := by
 intro a0 r hr
 apply pF 5 [] [] [] [.tmp 2] hr zvI Tryz.func192
 intro Φ hΦ hF g
 unfold zdE at hF
 refine wW ?_
 refine wC hF [.sh, .sh, .sh] zc5 (fun z1 hF => ?_)
 exact wl hΦ hF
def zbg (a0 : Int) : Option Bool :=
 (zdE a0).bind fun z1 =>
 some (!z1)
theorem zfm : ∀ {a0} {r}, zbg a0 = some r → PCalls Tryz.prog 158 [(.sh, .int .i64 a0), (.sh, .fp [.func (.func 192) [] []])] (Eo (.bool r) [.junk, .junk]) := by
 intro a0 r hr
 apply pF 8 [] [] [] [.tmp 3] hr zoI Tryz.func158
 intro Φ hΦ hF g
 unfold zbg at hF
 refine wW ?_
 refine wC hF [.sh] zjW (fun z1 hF => ?_)
 exact wl hΦ hF
def zaV (a0 : List Int) : Option Int :=
 ((zaQ (σ := Unit) (fun i5 s4 =>
 (ix a0 i5).bind fun x11 =>
 (zbg x11).bind fun z12 =>
 if z12 = true then (
 some (.out (.inr i5))) else (
 some (.go ()))) (fun s4 => .inl ()) (a0.length) 0 () : Option (Unit ⊕ Int)).bind (Sum.elim (fun x3 =>
 some (-1)) some))
theorem zcR : ∀ {a0} {r}, zaV a0 = some r → PCalls Tryz.prog 179 [(.sh, vC a0), (.sh, .func (.func 158) [] [.fp [.func (.func 192) [] []]])] (Eo (.int .i64 r) [.junk, .junk]) := by
 intro a0 r hr
 apply pF 19 [] [] [] [.tmp 4] hr zo3 Tryz.func179
 intro Φ hΦ hF g
 unfold zaV at hF
 iterate 2 (try simp [go_sem, g]; try intros; refine zaY ?_)
 refine wS hF (fun x3 => []) (fun x3 hF => ?_) fun _ hj1 hr2 hF => ?_
 ·exact wl hΦ hF
 refine wB ?_
 obtain ⟨b14, hb15, hψ8⟩ := hF
 refine pR hb15 (fun i5 s4 => [(0, .v (vC a0)), (1, .v (.func (.func 158) [] [.fp [.func (.func 192) [] []]])), (7, .v (.int .i64 (a0.length : Int))), (8, .v (.int .i64 i5))]) (fun s4 _ hN16 => ?_) (fun i5 s4 _ _ hi9 hi10 ho6 hg7 hF => ?_)
 ·exact wn hN16 (hj1 _) hψ8
 refine wW ?_
 refine wu hi9 hi10 ?_
 refine wW ?_
 refine wB ?_
 obtain ⟨x11, g, hF⟩ := Rx g hF
 refine wW ?_
 refine wC hF [.sh] zfm (fun z12 hF => ?_)
 refine wK [0, 1, 5, 7, 8, 16] ?_
 refine wI hF (fun h13 hF => ?_) (fun h13 hF => ?_)
 ·cases ho6 _ (zaa hF)
  cases hΦ _ (hr2 _ hψ8)
  refine wW ?_
  try simp [go_sem, g]
 refine wW ?_
 exact wi hi9 hi10 (hg7 _) (zaa hF)
def zaO (a0 : List Int) : Option Bool :=
 (zaV a0).bind fun z1 =>
 some (decide (0 ≤ z1))
theorem zcC : ∀ {a0} {r}, zaO a0 = some r → PCalls Tryz.prog 157 [(.sh, vC a0), (.sh, .func (.func 158) [] [.fp [.func (.func 192) [] []]])] (Eo (.bool r) [.junk, .junk]) := by
 intro a0 r hr
 apply pF 9 [] [] [] [.tmp 4] hr zoP Tryz.func157
 intro Φ hΦ hF g
 unfold zaO at hF
 refine wW ?_
 refine wC hF [.sh, .sh] zcR (fun z1 hF => ?_)
 exact wl hΦ hF
def zbT (a0 : List Int) : Option Bool :=
 (zaO a0).bind fun z1 =>
 some (!z1)
theorem zfD : ∀ {a0} {r}, zbT a0 = some r → PCalls Tryz.prog 114 [(.sh, vC a0), (.sh, .func (.func 192) [] [])] (Eo (.bool r) [.junk, .junk]) := by
 intro a0 r hr
 apply pF 9 [] [] [1000000] [.tmp 4] hr zor Tryz.func114
 intro Φ hΦ hF g
 unfold zbT at hF
 refine wW ?_
 refine wC hF [.sh, .sh] zcC (fun z1 hF => ?_)
 exact wl hΦ hF
def zda (a0 : List Int) : Option Bool :=
 ((if decide ((a0.length : Int) ≤ 400) = true then (
 (zbT a0).bind fun z5 =>
 some z5) else (
 some false) : Option Bool).bind fun x3 =>
 some x3)
theorem zjc : ∀ {a0} {r}, zda a0 = some r → PCalls Tryz.prog 189 [(.sh, vC a0)] (Eo (.bool r) [.junk]) := by
 intro a0 r hr
 apply pF 10 [] [] [] [.tmp 2] hr zvp Tryz.func189
 intro Φ hΦ hF g
 unfold zda at hF
 refine wW ?_
 refine wJ hF (fun x3 => [(2, .v (.bool x3))]) (fun x3 hF => ?_) fun _ hj1 hF => ?_
 ·exact wm hΦ hF
 try simp [go_sem, g]
 try intros
 refine wG hF (fun h4 hF => ?_) fun h4 hF => ?_
 ·try simp [go_sem, g, h4]
  refine wC hF [.sh, .sh] zfD (fun z5 hF => ?_)
  exact wV h4 (hj1 _) (zaa hF)
 exact wV h4 (hj1 _) (zaa hF)
def zeR (a0 : List Int) : Option Int :=
 gd (([(a0.length : Int)].length + a0.length) * 8 ≤ 140737488355328 ∧ [(a0.length : Int)].length + a0.length ≤ 4611686018427387904) <|
 (some ([(a0.length : Int)] ++ a0)).bind fun x1 =>
 ((zaQ (σ := Int × Int) (fun i7 s6 =>
 (ix x1 i7).bind fun x13 =>
 some (.go ((i64.wrap ((i64.wrap ((i64.wrap (48271 * ((i64.wrap ((i64.wrap ((i64.wrap (48271 * s6.1)) + (i64.wrap ((BitVec.ofInt i64.bits x13 &&& BitVec.ofInt i64.bits 2147483647).toNat)))) + 1)).tmod 2147483647))) + (x13.fdiv 2147483648))) + 1)).tmod 2147483647, (i64.wrap ((i64.wrap ((i64.wrap (69621 * ((i64.wrap ((i64.wrap ((i64.wrap (69621 * s6.2)) + (i64.wrap ((BitVec.ofInt i64.bits x13 &&& BitVec.ofInt i64.bits 2147483647).toNat)))) + 1)).tmod 2147483647))) + (x13.fdiv 2147483648))) + 1)).tmod 2147483647))) (fun s6 => (s6.1, s6.2)) (x1.length) 0 (1, 2) : Option ((Int × Int))).bind fun x5 =>
 some (i64.wrap ((i64.wrap (x5.1 * 2147483648)) + x5.2)))
theorem zna : ∀ {a0} {r}, zeR a0 = some r → PCalls Tryz.prog 190 [(.sh, vC a0)] (Eo (.int .i64 r) [.junk]) := by
 intro a0 r hr
 apply pF 52 [] [] [] [.tmp 2] hr zvE Tryz.func190
 intro Φ hΦ hF g
 unfold zeR at hF
 obtain ⟨g, hF⟩ := Rg g hF
 obtain ⟨x1, e2, hF⟩ := zdw hF
 have g := And.intro g (show [.int .i64 (a0.length : Int)] :: (List.map zai a0) = x1.map zai by injection e2 with e2; rw [← e2]; simp [go_sem])
 iterate 2 (try simp [go_sem, g]; try intros; refine zaY ?_)
 try simp [go_sem, g]
 try intros
 refine wK [3, 4, 13, 14, 15] ?_
 refine wJ hF (fun x5 => [(3, .v (.int .i64 x5.1)), (4, .v (.int .i64 x5.2))]) (fun x5 hF => ?_) fun _ hj3 hF => ?_
 ·have g := Ls g 31
  exact wl hΦ hF
 refine wB ?_
 obtain ⟨b14, hb15, hψ10⟩ := hF
 refine pR hb15 (fun i7 s6 => [(3, .v (.int .i64 s6.1)), (4, .v (.int .i64 s6.2)), (13, .v (vD x1)), (14, .v (.int .i64 (x1.length : Int))), (15, .v (.int .i64 i7))]) (fun s6 _ hN16 => ?_) (fun i7 s6 _ _ hi11 hi12 ho8 hg9 hF => ?_)
 ·exact wn hN16 (hj3 _) hψ10
 refine wW ?_
 refine wu hi11 hi12 ?_
 refine wW ?_
 refine wB ?_
 obtain ⟨x13, g, hF⟩ := Rx g hF
 have g := Ls g 31
 refine wW ?_
 refine wK [3, 4, 7, 8, 13, 14, 15] ?_
 have g := Ld g 2147483647
 refine wW ?_
 refine wK [3, 4, 7, 8, 13, 14, 15] ?_
 refine wW ?_
 refine wK [3, 4, 13, 14, 15] ?_
 exact wi hi11 hi12 (hg9 _) (zaa hF)
def zdD (a0 : List Int) : Option (Int × Bool) :=
 (zda a0).bind fun z1 =>
 if (!z1) = true then (
 some (0, false)) else (
 (zeR a0).bind fun z3 =>
 some (z3, true))
theorem zke : ∀ {a0} {r}, zdD a0 = some r → PCalls Tryz.prog 182 [(.sh, vC a0)] (Eo (.tup [.int .i64 r.1, .bool r.2]) [.junk]) := by
 intro a0 r hr
 apply pF 9 [] [] [] [.tmp 2, .tmp 3] hr zuQ Tryz.func182
 intro Φ hΦ hF g
 unfold zdD at hF
 refine wW ?_
 refine wC hF [.sh] zjc (fun z1 hF => ?_)
 refine wW ?_
 refine wI hF (fun h2 hF => ?_) (fun h2 hF => ?_)
 ·exact wl hΦ hF
 refine wW ?_
 refine wC hF [.sh] zna (fun z3 hF => ?_)
 exact wl hΦ hF
def zcJ (a0 : ByteArray) (a1 : List Int) : Option (Int × Bool) :=
 ((if decide (40 < (a0.size : Int)) = true then (
 some true) else (
 some (decide (400 < (a1.length : Int)))) : Option Bool).bind fun x3 =>
 if x3 = true then (
 some (0, false)) else (
 (zeo a0 a1).bind fun z6 =>
 (zdD z6).bind fun z7 =>
 some (z7.1, z7.2)))
theorem zie : ∀ {a0} {a1} {r}, zcJ a0 a1 = some r → PCalls Tryz.prog 167 [(.sh, .str a0), (.sh, vC a1)] (Eo (.tup [.int .i64 r.1, .bool r.2]) [.junk, .junk]) := by
 intro a0 a1 r hr
 apply pF 20 [] [] [] [.tmp 4, .tmp 5] hr zuN Tryz.func167
 intro Φ hΦ hF g
 unfold zcJ at hF
 refine wW ?_
 refine wJ hF (fun x3 => [(0, .v (.str a0)), (1, .v (vC a1)), (13, .v (.bool x3))]) (fun x3 hF => ?_) fun _ hj1 hF => ?_
 ·refine wI hF (fun h5 hF => ?_) (fun h5 hF => ?_)
  ·exact wl hΦ hF
  refine wW ?_
  refine wC hF [.sh, .sh] zj6 (fun z6 hF => ?_)
  refine wC hF [.sh] zke (fun z7 hF => ?_)
  refine wK [4, 5] ?_
  exact wm hΦ hF
 refine wG hF (fun h4 hF => ?_) fun h4 hF => ?_
 ·exact wV h4 (hj1 _) (zaa hF)
 try simp [go_sem, g, h4]
 try intros
 exact wT (hj1 _) (zaa hF)
def zb9 (a0 : Group) (a1 : ByteArray) (a2 : List Int) : Option (Int × Bool) :=
 gd (([a0.P, a0.Q, a0.G].length + a2.length) * 8 ≤ 140737488355328 ∧ [a0.P, a0.Q, a0.G].length + a2.length ≤ 4611686018427387904) <|
 (zcJ a1 ([a0.P, a0.Q, a0.G] ++ a2)).bind fun z1 =>
 if (!z1.2) = true then (
 some (0, false)) else (
 gd (a0.Q ≠ 0) <|
 some (z1.1.tmod a0.Q, true))
theorem zhf : ∀ {a0} {a1} {a2} {r}, zb9 a0 a1 a2 = some r → PCalls Tryz.prog 135 [(.sh, vE a0), (.sh, .str a1), (.sh, vC a2)] (Eo (.tup [.int .i64 r.1, .bool r.2]) [.junk, .junk, .junk]) := by
 intro a0 a1 a2 r hr
 apply pF 30 [] [] [] [.tmp 6, .tmp 7] hr zuW Tryz.func135
 intro Φ hΦ hF g
 unfold zb9 at hF
 obtain ⟨g, hF⟩ := Rg g hF
 refine wW ?_
 refine wC hF [.sh, .sh] zie (fun z1 hF => ?_)
 refine wK [3, 8, 9] ?_
 refine wW ?_
 refine wI hF (fun h2 hF => ?_) (fun h2 hF => ?_)
 ·exact wl hΦ hF
 obtain ⟨g, hF⟩ := Rz g hF
 cases hΦ _ (zaa hF)
 iterate 2 refine wW ?_
 try simp [go_sem, g]
@[go_sem] def zwc : List DE := [d2 0 [3] 3 3, d1 1 [4] 4, d1 2 [11] 4, d2 3 [12] 4 12, d1 4 [4] 4, d1 5 [14] 4, d2 6 [15] 4 15, d1 7 [4] 4, d1 8 [17] 4, d2 9 [18] 4 18, d1 10 [4] 4, d1 11 [20] 4, d2 12 [21] 4 21, d0 13 [13, 16, 19, 22], d0 14 [2], ⟨15, [23, 24], [], none, true, false, false⟩, d3 16 [10, 25], d0 17 [26], d0 18 [9], d0 19 [9], d0 20 [27], d0 21 [28]]
def zby (a0 : Group) (a1 : Cast) (a2 : List Int) : Option Int :=
 gd (([a1.Credential.A, a1.Credential.B, a1.Vote.A, a1.Vote.B].length + a2.length) * 8 ≤ 140737488355328 ∧ [a1.Credential.A, a1.Credential.B, a1.Vote.A, a1.Vote.B].length + a2.length ≤ 4611686018427387904) <|
 (zb9 a0 (⟨#[99, 97, 115, 116]⟩ : ByteArray) ([a1.Credential.A, a1.Credential.B, a1.Vote.A, a1.Vote.B] ++ a2)).bind fun z1 =>
 some z1.1
theorem zf6 : ∀ {a0} {a1} {a2} {r}, zby a0 a1 a2 = some r → PCalls Tryz.prog 93 [(.sh, vE a0), (.sh, vJ a1), (.sh, vC a2)] (Eo (.int .i64 r) [.junk, .junk, .junk]) := by
 intro a0 a1 a2 r hr
 apply pF 30 [] [] [] [.tmp 6] hr zyz Tryz.func93
 intro Φ hΦ hF g
 unfold zby at hF
 refine wW ?_
 refine wX zwc follows ?_
 obtain ⟨g, hF⟩ := Rg g hF
 refine wC hF [.sh, .sh, .sh] zhf (fun z1 hF => ?_)
 refine wK [7] ?_
 exact wl hΦ hF
@[go_sem] def zv4 : List DE := [d1 0 [5] 5, d2 1 [44] 5 44, d0 2 [45], d0 3 [46], d0 4 [6], d0 5 [47, 48], d0 6 [49], d2 7 [2, 50] 2 2, d1 8 [2, 50] 2, d2 9 [52, 50] 2 52, d1 10 [5, 50] 5, d2 11 [54, 50] 5 54, d0 12 [55, 50], d0 13 [56, 50], d2 15 [2, 50] 2 2, d1 16 [5, 50] 5, d2 17 [60, 50] 5 60, d0 18 [61, 50], d0 19 [62, 50], d2 20 [2, 50] 2 2, d1 21 [3, 50] 3, d1 22 [65, 50] 3, d2 23 [66, 50] 3 66, d0 24 [6, 50], ⟨14, [51, 53, 57, 50], [], none, false, true, false⟩, ⟨25, [64, 67, 68, 50], [], none, false, true, false⟩, d0 26 [63, 69, 50], ⟨27, [59, 70, 50], [], none, true, true, true⟩, d0 28 [58, 71, 50], d0 29 [50, 72], d0 30 [73], d2 31 [2, 74] 2 2, d1 32 [2, 74] 2, d2 33 [76, 74] 2 76, d1 34 [5, 74] 5, d2 35 [78, 74] 5 78, d0 36 [79, 74], d0 37 [80, 74], d2 39 [2, 74] 2 2, d1 40 [5, 74] 5, d2 41 [84, 74] 5 84, d0 42 [85, 74], d0 43 [86, 74], d2 44 [2, 74] 2 2, d1 45 [3, 74] 3, d1 46 [89, 74] 3, d2 47 [90, 74] 3 90, d0 48 [6, 74], ⟨38, [75, 77, 81, 74], [], none, false, true, false⟩, ⟨49, [88, 91, 92, 74], [], none, false, true, false⟩, d0 50 [87, 93, 74], ⟨51, [83, 94, 74], [], none, true, true, true⟩, d0 52 [82, 95, 74], d0 53 [74, 96], d0 54 [97]]
def zcI (a0 : Group) (a1 : Cast) : Option Bool :=
 ((if ((a1.Pi.Commits.length : Int) != 2) = true then (
 some true) else (
 if ((a1.Pi.Challenges.length : Int) != 1) = true then (
 some true) else (
 if ((a1.Pi.Responses.length : Int) != 2) = true then (
 some true) else (
 (zcF a0 a1.Pi.Commits).bind fun z7 =>
 if (!z7) = true then (
 some true) else (
 (zbO a0 a1.Pi.Responses).bind fun z9 =>
 some (!z9))))) : Option Bool).bind fun x3 =>
 if x3 = true then (
 some false) else (
 (zby a0 a1 a1.Pi.Commits).bind fun z11 =>
 (((ix a1.Pi.Challenges 0).bind fun x15 =>
 if (x15 == z11) = true then (
 (ix a1.Pi.Responses 0).bind fun x17 =>
 (ix a1.Pi.Commits 0).bind fun x18 =>
 (zaZ a0 a0.G x17).bind fun z19 =>
 (zaZ a0 a1.Credential.A z11).bind fun z20 =>
 (zbu a0 [x18, z20]).bind fun z21 =>
 if (z19 == z21) = true then (
 (ix a1.Pi.Responses 1).bind fun x23 =>
 (ix a1.Pi.Commits 1).bind fun x24 =>
 (zaZ a0 a0.G x23).bind fun z25 =>
 (zaZ a0 a1.Vote.A z11).bind fun z26 =>
 (zbu a0 [x24, z26]).bind fun z27 =>
 some (z25 == z27)) else (
 some false)) else (
 some false) : Option Bool).bind fun x14 =>
 some x14)))
theorem zib : ∀ {a0} {a1} {r}, zcI a0 a1 = some r → PCalls Tryz.prog 39 [(.sh, vE a0), (.sh, vJ a1)] (Eo (.bool r) [.junk, .junk]) := by
 intro a0 a1 r hr
 apply pF 98 [] [] [] [.tmp 4] hr zzu Tryz.func39
 intro Φ hΦ hF g
 unfold zcI at hF
 iterate 2 refine wW ?_
 refine wJ hF (fun x3 => [(2, .bl [.int .i64 a0.P, .int .i64 a0.Q, .int .i64 a0.G]), (3, .bl [.int .i64 a1.Credential.A, .int .i64 a1.Credential.B, .int .i64 a1.Vote.A, .int .i64 a1.Vote.B, vC a1.Pi.Commits, vC a1.Pi.Challenges, vC a1.Pi.Responses]), (5, .bl [vC a1.Pi.Commits, vC a1.Pi.Challenges, vC a1.Pi.Responses]), (38, .v (.bool x3))]) (fun x3 hF => ?_) fun _ hj1 hF => ?_
 ·refine wI hF (fun h10 hF => ?_) (fun h10 hF => ?_)
  ·exact wl hΦ hF
  refine wW ?_
  refine wC hF [.sh, .sh, .sh] zf6 (fun z11 hF => ?_)
  refine wK [2, 3, 5, 6] ?_
  refine wJ hF (fun x14 => [(4, .v (.bool x14))]) (fun x14 hF => ?_) fun _ hj12 hF => ?_
  ·exact wm hΦ hF
  refine wX zv4 follows ?_
  obtain ⟨x15, g, hF⟩ := Rxn g 0 hF
  refine wH hF (fun h16 hF => ?_) fun h16 hF => ?_
  ·obtain ⟨x17, g, hF⟩ := Rxn g 0 hF
   obtain ⟨x18, g, hF⟩ := Rxn g 0 hF
   try simp [go_sem, g, h16]
   refine wD hF zcf (fun z19 hF => ?_)
   try simp [go_sem, g, h16]
   refine wD hF zcf (fun z20 hF => ?_)
   try simp [go_sem, g, h16]
   refine wC hF [.sh, .sh] ze1 (fun z21 hF => ?_)
   try simp [go_sem, g, h16]
   refine wH hF (fun h22 hF => ?_) fun h22 hF => ?_
   ·obtain ⟨x23, g, hF⟩ := Rxn g 1 hF
    obtain ⟨x24, g, hF⟩ := Rxn g 1 hF
    try simp [go_sem, g, h22]
    refine wD hF zcf (fun z25 hF => ?_)
    try simp [go_sem, g, h22]
    refine wD hF zcf (fun z26 hF => ?_)
    try simp [go_sem, g, h22]
    refine wC hF [.sh, .sh] ze1 (fun z27 hF => ?_)
    exact wV h22 (hj12 _) (zaa hF)
   exact wV h22 (hj12 _) (zaa hF)
  exact wV h16 (hj12 _) (zaa hF)
 try simp [go_sem, g]
 try intros
 refine wG hF (fun h4 hF => ?_) fun h4 hF => ?_
 ·exact wV h4 (hj1 _) (zaa hF)
 try simp [go_sem, g, h4]
 try intros
 refine wG hF (fun h5 hF => ?_) fun h5 hF => ?_
 ·exact wV h5 (hj1 _) (zaa hF)
 try simp [go_sem, g, h5]
 try intros
 refine wG hF (fun h6 hF => ?_) fun h6 hF => ?_
 ·exact wV h6 (hj1 _) (zaa hF)
 try simp [go_sem, g, h6]
 refine wC hF [.sh, .sh] zid (fun z7 hF => ?_)
 try simp [go_sem, g, h6]
 refine wG hF (fun h8 hF => ?_) fun h8 hF => ?_
 ·exact wV h8 (hj1 _) (zaa hF)
 try simp [go_sem, g, h8]
 refine wC hF [.sh, .sh] zfz (fun z9 hF => ?_)
 exact wV h8 (hj1 _) (zaa hF)
def zbB (a0 : List Int) (a1 : Int) : Option Int :=
 ((zaQ (σ := Unit) (fun i5 s4 =>
 (ix a0 i5).bind fun x11 =>
 if (a1 == x11) = true then (
 some (.out (.inr i5))) else (
 some (.go ()))) (fun s4 => .inl ()) (a0.length) 0 () : Option (Unit ⊕ Int)).bind (Sum.elim (fun x3 =>
 some (-1)) some))
theorem zhd : ∀ {a0} {a1} {r}, zbB a0 a1 = some r → PCalls Tryz.prog 94 [(.sh, vC a0), (.sh, .int .i64 a1)] (Eo (.int .i64 r) [.junk, .junk]) := by
 intro a0 a1 r hr
 apply pF 19 [] [] [] [.tmp 4] hr zxs Tryz.func94
 intro Φ hΦ hF g
 unfold zbB at hF
 iterate 2 (try simp [go_sem, g]; try intros; refine zaY ?_)
 refine wS hF (fun x3 => []) (fun x3 hF => ?_) fun _ hj1 hr2 hF => ?_
 ·exact wl hΦ hF
 refine wB ?_
 obtain ⟨b13, hb14, hψ8⟩ := hF
 refine pR hb14 (fun i5 s4 => [(0, .v (vC a0)), (1, .v (.int .i64 a1)), (7, .v (.int .i64 (a0.length : Int))), (8, .v (.int .i64 i5))]) (fun s4 _ hN15 => ?_) (fun i5 s4 _ _ hi9 hi10 ho6 hg7 hF => ?_)
 ·exact wn hN15 (hj1 _) hψ8
 refine wW ?_
 refine wu hi9 hi10 ?_
 refine wW ?_
 refine wB ?_
 obtain ⟨x11, g, hF⟩ := Rx g hF
 refine wW ?_
 refine wK [0, 1, 5, 7, 8, 16] ?_
 refine wI hF (fun h12 hF => ?_) (fun h12 hF => ?_)
 ·cases ho6 _ (zaa hF)
  cases hΦ _ (hr2 _ hψ8)
  refine wW ?_
  try simp [go_sem, g]
 refine wW ?_
 exact wi hi9 hi10 (hg7 _) (zaa hF)
def zaR (a0 : List Int) (a1 : Int) : Option Bool :=
 (zbB a0 a1).bind fun z1 =>
 some (decide (0 ≤ z1))
theorem zdc : ∀ {a0} {a1} {r}, zaR a0 a1 = some r → PCalls Tryz.prog 40 [(.sh, vC a0), (.sh, .int .i64 a1)] (Eo (.bool r) [.junk, .junk]) := by
 intro a0 a1 r hr
 apply pF 9 [] [] [] [.tmp 4] hr zx5 Tryz.func40
 intro Φ hΦ hF g
 unfold zaR at hF
 refine wW ?_
 refine wC hF [.sh, .sh] zhd (fun z1 hF => ?_)
 exact wl hΦ hF
@[go_sem] def zvA : List DE := [d0 0 [5], d0 1 [4], d0 2 [15], d0 3 [75, 76], d0 4 [77], d3 5 [74, 78], d0 6 [79], d0 7 [80]]
@[go_sem] def zzq : List DE := [d0 0 [5], d0 1 [1], d0 2 [2], d0 3 [4], d0 4 [15], d0 5 [57, 58], d0 6 [59], d0 7 [60], d0 8 [61], ⟨9, [54, 55, 56, 62], [], none, true, true, true⟩, d0 10 [63], d0 11 [64], d0 12 [65]]
def zbk (a0 : Group) (a1 : Int) (a2 : Int) (a3 : List Cipher) (a4 : List Cast) : Option (List Int × Bool) :=
 (((zbv a0 a1 a2).bind fun z4 =>
 if (!z4) = true then (
 some true) else (
 (zbt a0 a3).bind fun z6 =>
 if (!z6) = true then (
 some true) else (
 if decide (24 < (a4.length : Int)) = true then (
 some true) else (
 (zap a4 a0.P a0.Q a0.G).bind fun z9 =>
 some z9))) : Option Bool).bind fun x3 =>
 if x3 = true then (
 some ([], false)) else (
 (zbY a0 a1 a2 a3).bind fun z11 =>
 gd (0 ≤ (a4.length : Int) ∧ (a4.length : Int) ≤ (a4.length : Int) ∧ 8 * (a4.length : Int) ≤ 140737488355328 ∧ (a4.length : Int) ≤ 4611686018427387904) <|
 (some (List.replicate a4.length 0)).bind fun x12 =>
 ((zbG (σ := (List Int) × List Int × Int) (fun s40 =>
 if decide (0 ≤ s40.2.2) = true then (
 (((ix a4 s40.2.2).bind fun x49 =>
 (zbY a0 a1 a2 [x49.Credential]).bind fun z50 =>
 (ix z50 0).bind fun x51 =>
 (zcI a0 x49).bind fun z52 =>
 if (!z52) = true then (
 (ix s40.2.1 s40.2.2).bind fun x54 =>
 some (s40.1, s40.2.1.set s40.2.2.toNat 1)) else (
 (zaR z11 x51).bind fun z55 =>
 if (!z55) = true then (
 (ix s40.2.1 s40.2.2).bind fun x57 =>
 some (s40.1, s40.2.1.set s40.2.2.toNat 2)) else (
 (zaR s40.1 x51).bind fun z58 =>
 if z58 = true then (
 (ix s40.2.1 s40.2.2).bind fun x60 =>
 some (s40.1, s40.2.1.set s40.2.2.toNat 3)) else (
 (ix s40.2.1 s40.2.2).bind fun x61 =>
 gd ((s40.1.length + 1) * 8 ≤ 140737488355328 ∧ s40.1.length + 1 ≤ 4611686018427387904) <|
 some (s40.1 ++ [x51], s40.2.1.set s40.2.2.toNat 0)))) : Option ((List Int × List Int))).bind fun x48 =>
 some (.go (x48.1, x48.2, i64.wrap (s40.2.2 - 1))))) else (
 some (.out s40.2.1))) ([], x12, i64.wrap ((a4.length : Int) - 1)) : Option ((List Int))).bind fun x17 =>
 some (x17, true))))
theorem zgU : ∀ {a0} {a1} {a2} {a3} {a4} {r}, zbk a0 a1 a2 a3 a4 = some r → PCalls Tryz.prog 6 [(.sh, vE a0), (.sh, .int .i64 a1), (.sh, .int .i64 a2), (.sh, vO a3), (.sh, vP a4)] (Eo (.tup [vD r.1, .bool r.2]) [.junk, .junk, .junk, .junk, .junk]) := by
 intro a0 a1 a2 a3 a4 r hr
 apply pF 100 [] [5] [5, 1000000] [.tmp 10, .tmp 11] hr cl6 Tryz.func6
 intro Φ hΦ hF g
 unfold zbk at hF
 refine wW ?_
 refine wJ hF (fun x3 => [(1, .v (.int .i64 a1)), (2, .v (.int .i64 a2)), (3, .v (vO a3)), (4, .v (vP a4)), (5, .v (.fp [.int .i64 a0.P, .int .i64 a0.Q, .int .i64 a0.G])), (37, .v (.bool x3))]) (fun x3 hF => ?_) fun _ hj1 hF => ?_
 ·refine wI hF (fun h10 hF => ?_) (fun h10 hF => ?_)
  ·exact wl hΦ hF
  refine wW ?_
  refine wC hF [.sh, .sh, .sh, .sh] zeK (fun z11 hF => ?_)
  refine wK [1, 2, 4, 5, 12, 13] ?_
  obtain ⟨g, hF⟩ := Rg g hF
  obtain ⟨x12, e13, hF⟩ := zdw hF
  have g14 : List.replicate a4.length ([.int .i64 0] : List PV) = x12.map zai := by injection e13 with e13; rw [← e13]; simp [go_sem]
  iterate 2 (try simp [go_sem, g, g14]; try intros; refine zaY ?_)
  refine wJ hF (fun x17 => [(14, .v (vD x17))]) (fun x17 hF => ?_) fun _ hj15 hF => ?_
  ·refine wK [10, 11] ?_
   exact wm hΦ hF
  refine wB ?_
  obtain ⟨b62, hb63, hψ44⟩ := hF
  refine pL hb63 (fun s40 => [(1, .v (.int .i64 a1)), (2, .v (.int .i64 a2)), (4, .v (vP a4)), (5, .v (.fp [.int .i64 a0.P, .int .i64 a0.Q, .int .i64 a0.G])), (12, .v (vD z11)), (13, .v (vD s40.1)), (14, .v (vD s40.2.1)), (15, .v (.int .i64 s40.2.2))]) (fun s40 _ _ ho42 hg43 hF => ?_)
  refine wK [1, 2, 4, 5, 12, 13, 14, 15, 51] ?_
  refine wI hF (fun h45 hF => ?_) (fun h45 hF => ?_)
  ·refine wW ?_
   refine wJ hF (fun x48 => [(1, .v (.int .i64 a1)), (2, .v (.int .i64 a2)), (4, .v (vP a4)), (5, .v (.fp [.int .i64 a0.P, .int .i64 a0.Q, .int .i64 a0.G])), (12, .v (vD z11)), (13, .v (vD x48.1)), (14, .v (vD x48.2)), (15, .v (.int .i64 s40.2.2))]) (fun x48 hF => ?_) fun _ hj46 hF => ?_
   ·exact wT (hg43 _) (zaa hF)
   refine wB ?_
   refine wX zzq follows ?_
   obtain ⟨x49, g, hF⟩ := Rx g hF
   refine wC hF [.sh, .sh, .sh, .sh] zeK (fun z50 hF => ?_)
   obtain ⟨x51, g, hF⟩ := Rxn g 0 hF
   refine wK [1, 2, 4, 5, 12, 13, 14, 15, 16] ?_
   refine wB ?_
   refine wX zvA follows ?_
   refine wC hF [.sh, .sh] zib (fun z52 hF => ?_)
   refine wW ?_
   refine wI hF (fun h53 hF => ?_) (fun h53 hF => ?_)
   ·obtain ⟨x54, g, hF⟩ := Rx g hF
    exact wT (hj46 _) (zaa hF)
   refine wC hF [.sh, .sh] zdc (fun z55 hF => ?_)
   refine wK [1, 2, 4, 5, 12, 13, 14, 15, 16, 84] ?_
   refine wI hF (fun h56 hF => ?_) (fun h56 hF => ?_)
   ·obtain ⟨x57, g, hF⟩ := Rx g hF
    exact wT (hj46 _) (zaa hF)
   refine wC hF [.sh, .sh] zdc (fun z58 hF => ?_)
   refine wW ?_
   refine wI hF (fun h59 hF => ?_) (fun h59 hF => ?_)
   ·obtain ⟨x60, g, hF⟩ := Rx g hF
    exact wT (hj46 _) (zaa hF)
   obtain ⟨x61, g, hF⟩ := Rx g hF
   obtain ⟨g, hF⟩ := Rg g hF
   refine wW ?_
   exact wT (hj46 _) (zaa hF)
  cases ho42 _ (zaa hF)
  exact wT (hj15 _) hψ44
 refine wC hF [.sh, .sh, .sh] zgQ (fun z4 hF => ?_)
 refine wG hF (fun h5 hF => ?_) fun h5 hF => ?_
 ·exact wV h5 (hj1 _) (zaa hF)
 try simp [go_sem, g, h5]
 refine wC hF [.sh, .sh] zeF (fun z6 hF => ?_)
 try simp [go_sem, g, h5]
 refine wG hF (fun h7 hF => ?_) fun h7 hF => ?_
 ·exact wV h7 (hj1 _) (zaa hF)
 try simp [go_sem, g, h7]
 try intros
 refine wG hF (fun h8 hF => ?_) fun h8 hF => ?_
 ·exact wV h8 (hj1 _) (zaa hF)
 try simp [go_sem, g, h8]
 refine wC hF [.sh, .sh] zcz (fun z9 hF => ?_)
 exact wV h8 (hj1 _) (zaa hF)
def zc0 (a0 : Group) (a1 : Int) (a2 : Int) : Option Bool :=
 (((zc2 a0).bind fun z4 =>
 if z4 = true then (
 (zdk a0 [a1, a2]).bind fun z6 =>
 if z6 = true then (
 some (a2 != 0)) else (
 some false)) else (
 some false) : Option Bool).bind fun x3 =>
 some x3)
theorem zkg : ∀ {a0} {a1} {a2} {r}, zc0 a0 a1 a2 = some r → PCalls Tryz.prog 95 [(.sh, vE a0), (.sh, .int .i64 a1), (.sh, .int .i64 a2)] (Eo (.bool r) [.junk, .junk, .junk]) := by
 intro a0 a1 a2 r hr
 apply pF 20 [] [] [] [.tmp 6] hr zz2 Tryz.func95
 intro Φ hΦ hF g
 unfold zc0 at hF
 refine wW ?_
 refine wJ hF (fun x3 => [(6, .v (.bool x3))]) (fun x3 hF => ?_) fun _ hj1 hF => ?_
 ·exact wm hΦ hF
 refine wC hF [.sh] zf4 (fun z4 hF => ?_)
 refine wG hF (fun h5 hF => ?_) fun h5 hF => ?_
 ·try simp [go_sem, g, h5]
  refine wC hF [.sh, .sh] zgM (fun z6 hF => ?_)
  try simp [go_sem, g, h5]
  refine wG hF (fun h7 hF => ?_) fun h7 hF => ?_
  ·exact wV h7 (hj1 _) (zaa hF)
  exact wV h7 (hj1 _) (zaa hF)
 exact wV h5 (hj1 _) (zaa hF)
def zdl (a0 : Group) (a1 : List Cipher) : Option Bool :=
 if decide (24 < (a1.length : Int)) = true then (
 some false) else (
 ((zaQ (σ := Unit) (fun i6 s5 =>
 (ix a1 i6).bind fun x12 =>
 (zd5 a0 [x12.A, x12.B]).bind fun z13 =>
 if (!z13) = true then (
 some (.out (.inr false))) else (
 some (.go ()))) (fun s5 => .inl ()) (a1.length) 0 () : Option (Unit ⊕ Bool)).bind (Sum.elim (fun x4 =>
 some true) some)))
theorem zig : ∀ {a0} {a1} {r}, zdl a0 a1 = some r → PCalls Tryz.prog 62 [(.sh, vE a0), (.sh, vO a1)] (Eo (.bool r) [.junk, .junk]) := by
 intro a0 a1 r hr
 apply pF 25 [] [] [] [.tmp 4] hr zz6 Tryz.func62
 intro Φ hΦ hF g
 unfold zdl at hF
 iterate 2 (try simp [go_sem, g]; try intros; refine zaY ?_)
 refine wI hF (fun h1 hF => ?_) (fun h1 hF => ?_)
 ·exact wl hΦ hF
 iterate 2 (try simp [go_sem, g]; try intros; refine zaY ?_)
 refine wS hF (fun x4 => []) (fun x4 hF => ?_) fun _ hj2 hr3 hF => ?_
 ·exact wl hΦ hF
 refine wB ?_
 obtain ⟨b15, hb16, hψ9⟩ := hF
 refine pR hb16 (fun i6 s5 => [(2, .bl [.int .i64 a0.P, .int .i64 a0.Q, .int .i64 a0.G]), (10, .v (vO a1)), (11, .v (.int .i64 (a1.length : Int))), (12, .v (.int .i64 i6))]) (fun s5 _ hN17 => ?_) (fun i6 s5 _ _ hi10 hi11 ho7 hg8 hF => ?_)
 ·exact wn hN17 (hj2 _) hψ9
 refine wW ?_
 refine wu hi10 hi11 ?_
 refine wW ?_
 refine wB ?_
 obtain ⟨x12, g, hF⟩ := Rx g hF
 refine wK [2, 6, 10, 11, 12] ?_
 refine wC hF [.sh, .sh] zhG (fun z13 hF => ?_)
 refine wW ?_
 refine wI hF (fun h14 hF => ?_) (fun h14 hF => ?_)
 ·cases ho7 _ (zaa hF)
  cases hΦ _ (hr3 _ hψ9)
  refine wW ?_
  try simp [go_sem, g]
 refine wW ?_
 exact wi hi10 hi11 (hg8 _) (zaa hF)
def zdA (a0 : Group) (a1 : Int) (a2 : Int) (a3 : List Cipher) (a4 : List Cast) : Option Bool :=
 (((zc0 a0 a1 a2).bind fun z4 =>
 if (!z4) = true then (
 some true) else (
 (zdl a0 a3).bind fun z6 =>
 if (!z6) = true then (
 some true) else (
 some (decide (24 < (a4.length : Int))))) : Option Bool).bind fun x3 =>
 if x3 = true then (
 some false) else (
 ((zaQ (σ := Unit) (fun i13 s12 =>
 (ix a4 i13).bind fun x19 =>
 (zdl a0 [x19.Credential, x19.Vote]).bind fun z20 =>
 if (!z20) = true then (
 some (.out (.inr false))) else (
 some (.go ()))) (fun s12 => .inl ()) (a4.length) 0 () : Option (Unit ⊕ Bool)).bind (Sum.elim (fun x11 =>
 some true) some))))
theorem zlt : ∀ {a0} {a1} {a2} {a3} {a4} {r}, zdA a0 a1 a2 a3 a4 = some r → PCalls Tryz.prog 41 [(.sh, vE a0), (.sh, .int .i64 a1), (.sh, .int .i64 a2), (.sh, vO a3), (.sh, vP a4)] (Eo (.bool r) [.junk, .junk, .junk, .junk, .junk]) := by
 intro a0 a1 a2 a3 a4 r hr
 apply pF 44 [] [] [] [.tmp 10] hr zy3 Tryz.func41
 intro Φ hΦ hF g
 unfold zdA at hF
 refine wW ?_
 refine wJ hF (fun x3 => [(4, .v (vP a4)), (5, .bl [.int .i64 a0.P, .int .i64 a0.Q, .int .i64 a0.G]), (28, .v (.bool x3))]) (fun x3 hF => ?_) fun _ hj1 hF => ?_
 ·refine wI hF (fun h8 hF => ?_) (fun h8 hF => ?_)
  ·exact wl hΦ hF
  iterate 2 (try simp [go_sem, g]; try intros; refine zaY ?_)
  refine wS hF (fun x11 => []) (fun x11 hF => ?_) fun _ hj9 hr10 hF => ?_
  ·exact wl hΦ hF
  refine wB ?_
  obtain ⟨b22, hb23, hψ16⟩ := hF
  refine pR hb23 (fun i13 s12 => [(5, .bl [.int .i64 a0.P, .int .i64 a0.Q, .int .i64 a0.G]), (29, .v (vP a4)), (30, .v (.int .i64 (a4.length : Int))), (31, .v (.int .i64 i13))]) (fun s12 _ hN24 => ?_) (fun i13 s12 _ _ hi17 hi18 ho14 hg15 hF => ?_)
  ·exact wn hN24 (hj9 _) hψ16
  refine wW ?_
  refine wu hi17 hi18 ?_
  refine wW ?_
  refine wB ?_
  obtain ⟨x19, g, hF⟩ := Rx g hF
  refine wK [5, 12, 29, 30, 31] ?_
  refine wC hF [.sh, .sh] zig (fun z20 hF => ?_)
  refine wW ?_
  refine wI hF (fun h21 hF => ?_) (fun h21 hF => ?_)
  ·cases ho14 _ (zaa hF)
   cases hΦ _ (hr10 _ hψ16)
   refine wW ?_
   try simp [go_sem, g]
  refine wW ?_
  exact wi hi17 hi18 (hg15 _) (zaa hF)
 refine wC hF [.sh, .sh, .sh] zkg (fun z4 hF => ?_)
 refine wG hF (fun h5 hF => ?_) fun h5 hF => ?_
 ·exact wV h5 (hj1 _) (zaa hF)
 try simp [go_sem, g, h5]
 refine wC hF [.sh, .sh] zig (fun z6 hF => ?_)
 try simp [go_sem, g, h5]
 refine wG hF (fun h7 hF => ?_) fun h7 hF => ?_
 ·exact wV h7 (hj1 _) (zaa hF)
 try simp [go_sem, g, h7]
 try intros
 exact wT (hj1 _) (zaa hF)
def zeT (a0 : Group) (a1 : Int) : Option Int :=
 (zbe a1 (i64.wrap (a0.Q - 1)) a0.P).bind fun z1 =>
 some z1
theorem zne : ∀ {a0} {a1} {r}, zeT a0 a1 = some r → PCalls Tryz.prog 109 [(.sh, vE a0), (.sh, .int .i64 a1)] (Eo (.int .i64 r) [.junk, .junk]) := by
 intro a0 a1 r hr
 apply pF 12 [] [] [] [.tmp 4] hr zvS Tryz.func109
 intro Φ hΦ hF g
 unfold zeT at hF
 refine wW ?_
 refine wC hF [.sh, .sh, .sh] zdz (fun z1 hF => ?_)
 refine wK [4] ?_
 exact wm hΦ hF
@[go_sem] def ztI : List DE := [d2 0 [3] 3 3, d1 1 [5] 5, d2 2 [8] 5 8, d2 3 [3] 3 3, d2 4 [3] 3 3, d1 5 [5] 5, d2 6 [12] 5 12, d0 7 [1], d3 8 [11, 13, 14], d3 9 [10, 15], d0 10 [9, 16], ⟨11, [7, 17], [], none, true, true, true⟩, d0 12 [18]]
def zeO (a0 : Group) (a1 : Int) (a2 : Cipher) : Option Int :=
 (zaH a0 a2.A a1).bind fun z1 =>
 (zeT a0 z1).bind fun z2 =>
 (zcT a0 [a2.B, z2]).bind fun z3 =>
 some z3
theorem znj : ∀ {a0} {a1} {a2} {r}, zeO a0 a1 a2 = some r → PCalls Tryz.prog 136 [(.sh, vE a0), (.sh, .int .i64 a1), (.sh, vF a2)] (Eo (.int .i64 r) [.junk, .junk, .junk]) := by
 intro a0 a1 a2 r hr
 apply pF 19 [] [] [] [.tmp 6] hr zvX Tryz.func136
 intro Φ hΦ hF g
 unfold zeO at hF
 refine wW ?_
 refine wX ztI follows ?_
 refine wC hF [.sh, .sh, .sh] zbp (fun z1 hF => ?_)
 refine wC hF [.sh, .sh] zne (fun z2 hF => ?_)
 refine wC hF [.sh, .sh] zfP (fun z3 hF => ?_)
 refine wK [6] ?_
 exact wm hΦ hF
@[go_sem] def zvV : List DE := [d2 0 [4] 4 4, d2 1 [4] 4 4, d0 2 [1], d2 3 [7] 7 7, d0 5 [2], d3 4 [10, 11, 12], d3 6 [9, 13, 14], d0 7 [15]]
def zei (a0 : Group) (a1 : Int) (a2 : Int) (a3 : Cipher) : Option Int :=
 (zeO a0 a1 a3).bind fun z1 =>
 (zaH a0 z1 a2).bind fun z2 =>
 some z2
theorem zji : ∀ {a0} {a1} {a2} {a3} {r}, zei a0 a1 a2 a3 = some r → PCalls Tryz.prog 96 [(.sh, vE a0), (.sh, .int .i64 a1), (.sh, .int .i64 a2), (.sh, vF a3)] (Eo (.int .i64 r) [.junk, .junk, .junk, .junk]) := by
 intro a0 a1 a2 a3 r hr
 apply pF 16 [] [] [] [.tmp 8] hr zxr Tryz.func96
 intro Φ hΦ hF g
 unfold zei at hF
 refine wW ?_
 refine wX zvV follows ?_
 refine wC hF [.sh, .sh, .sh] znj (fun z1 hF => ?_)
 refine wC hF [.sh, .sh, .sh] zbp (fun z2 hF => ?_)
 refine wK [8] ?_
 exact wm hΦ hF
@[go_sem] def zvi : List DE := [d1 0 [5] 5, d2 1 [10] 5 10, d0 2 [11], d0 3 [12], d0 4 [13], d1 5 [5, 14] 5, d2 6 [15, 14] 5 15, d0 7 [16, 14], d0 8 [17, 14], d0 9 [14, 18], d0 10 [19], d1 11 [5, 20] 5, d2 12 [21, 20] 5 21, d0 13 [22, 20], d0 14 [23, 20], d0 15 [20, 24], d0 16 [25], d2 17 [2, 26] 2 2, d1 18 [5, 26] 5, d2 19 [28, 26] 5 28, d3 20 [27, 29, 26], d0 21 [30, 26], d0 22 [26, 31], d0 23 [32], d2 24 [2, 33] 2 2, d1 25 [5, 33] 5, d2 26 [35, 33] 5 35, d3 27 [34, 36, 33], d0 28 [37, 33], d0 29 [33, 38], d0 30 [39], d1 31 [5, 40] 5, d2 32 [41, 40] 5 41, d0 33 [42, 40], d0 34 [43, 40], d2 35 [2, 40] 2 2, d2 36 [3, 40] 3 3, ⟨37, [45, 46, 40], [], none, false, true, false⟩, d0 38 [44, 47, 40], d0 39 [40, 48]]
@[go_sem] def zu5 : List DE := [d2 0 [2] 2 2, d1 1 [2] 2, d2 2 [64] 2 64, d1 3 [5] 5, d2 4 [66] 5 66, d0 5 [6], d0 6 [67, 68], d0 7 [69], d2 9 [2] 2 2, d1 10 [5] 5, d2 11 [73] 5 73, d0 12 [6], d0 13 [74, 75], d0 14 [76], d2 15 [2] 2 2, d0 16 [7], d1 17 [5] 5, d2 18 [80] 5 80, d0 19 [81], d0 20 [82], ⟨8, [63, 65, 70], [], none, false, true, false⟩, ⟨21, [78, 79, 83], [], none, false, true, false⟩, d0 22 [77, 84], ⟨23, [72, 85], [], none, true, true, true⟩, d0 24 [71, 86]]
def zdT (a0 : Group) (a1 : Cast) : Option Bool :=
 ((if ((a1.Pi.Commits.length : Int) != 2) = true then (
 some true) else (
 if ((a1.Pi.Challenges.length : Int) != 1) = true then (
 some true) else (
 if ((a1.Pi.Responses.length : Int) != 2) = true then (
 some true) else (
 (zd5 a0 a1.Pi.Commits).bind fun z7 =>
 if (!z7) = true then (
 some true) else (
 (zdk a0 a1.Pi.Responses).bind fun z9 =>
 if (!z9) = true then (
 some true) else (
 (ix a1.Pi.Challenges 0).bind fun x11 =>
 (zbZ a0 a1).bind fun z12 =>
 some (x11 != z12)))))) : Option Bool).bind fun x3 =>
 if x3 = true then (
 some false) else (
 (some [a1.Credential.A, a1.Vote.A]).bind fun x14 =>
 ((zaQ (σ := Unit) (fun i20 s19 =>
 (ix x14 i20).bind fun x26 =>
 (ix a1.Pi.Responses i20).bind fun x27 =>
 (ix a1.Pi.Commits i20).bind fun x28 =>
 (ix a1.Pi.Challenges 0).bind fun x29 =>
 (zaH a0 a0.G x27).bind fun z30 =>
 (zaH a0 x26 x29).bind fun z31 =>
 (zcT a0 [x28, z31]).bind fun z32 =>
 if (z30 != z32) = true then (
 some (.out (.inr false))) else (
 some (.go ()))) (fun s19 => .inl ()) (x14.length) 0 () : Option (Unit ⊕ Bool)).bind (Sum.elim (fun x18 =>
 some true) some))))
theorem zkS : ∀ {a0} {a1} {r}, zdT a0 a1 = some r → PCalls Tryz.prog 97 [(.sh, vE a0), (.sh, vJ a1)] (Eo (.bool r) [.junk, .junk]) := by
 intro a0 a1 r hr
 apply pF 89 [] [] [] [.tmp 4] hr zxI Tryz.func97
 intro Φ hΦ hF g
 unfold zdT at hF
 iterate 2 refine wW ?_
 refine wJ hF (fun x3 => [(2, .bl [.int .i64 a0.P, .int .i64 a0.Q, .int .i64 a0.G]), (3, .bl [.int .i64 a1.Credential.A, .int .i64 a1.Credential.B, .int .i64 a1.Vote.A, .int .i64 a1.Vote.B, vC a1.Pi.Commits, vC a1.Pi.Challenges, vC a1.Pi.Responses]), (5, .bl [vC a1.Pi.Commits, vC a1.Pi.Challenges, vC a1.Pi.Responses]), (49, .v (.bool x3))]) (fun x3 hF => ?_) fun _ hj1 hF => ?_
 ·refine wI hF (fun h13 hF => ?_) (fun h13 hF => ?_)
  ·exact wl hΦ hF
  obtain ⟨x14, e15, hF⟩ := zdw hF
  have g := And.intro g (show [[.int .i64 a1.Credential.A], [.int .i64 a1.Vote.A]] = x14.map zai by injection e15 with e15; rw [← e15]; simp [go_sem])
  try simp [go_sem, g]
  try intros
  refine zaY ?_
  try simp [go_sem, g]
  try intros
  refine wK [2, 5, 56, 57, 58] ?_
  refine wS hF (fun x18 => []) (fun x18 hF => ?_) fun _ hj16 hr17 hF => ?_
  ·exact wl hΦ hF
  refine wB ?_
  obtain ⟨b34, hb35, hψ23⟩ := hF
  refine pR hb35 (fun i20 s19 => [(2, .bl [.int .i64 a0.P, .int .i64 a0.Q, .int .i64 a0.G]), (5, .bl [vC a1.Pi.Commits, vC a1.Pi.Challenges, vC a1.Pi.Responses]), (56, .v (vD x14)), (57, .v (.int .i64 (x14.length : Int))), (58, .v (.int .i64 i20))]) (fun s19 _ hN36 => ?_) (fun i20 s19 _ _ hi24 hi25 ho21 hg22 hF => ?_)
  ·exact wn hN36 (hj16 _) hψ23
  refine wW ?_
  refine wu hi24 hi25 ?_
  refine wW ?_
  refine wB ?_
  obtain ⟨x26, g, hF⟩ := Rx g hF
  refine wW ?_
  refine wX zu5 follows ?_
  obtain ⟨x27, g, hF⟩ := Rx g hF
  obtain ⟨x28, g, hF⟩ := Rx g hF
  obtain ⟨x29, g, hF⟩ := Rxn g 0 hF
  refine wD hF zbp (fun z30 hF => ?_)
  refine wD hF zbp (fun z31 hF => ?_)
  refine wC hF [.sh, .sh] zfP (fun z32 hF => ?_)
  refine wK [2, 5, 56, 57, 58, 87] ?_
  refine wI hF (fun h33 hF => ?_) (fun h33 hF => ?_)
  ·cases ho21 _ (zaa hF)
   cases hΦ _ (hr17 _ hψ23)
   refine wW ?_
   try simp [go_sem, g]
  refine wW ?_
  exact wi hi24 hi25 (hg22 _) (zaa hF)
 refine wX zvi follows ?_
 try simp [go_sem, g]
 try intros
 refine wH hF (fun h4 hF => ?_) fun h4 hF => ?_
 ·exact wV h4 (hj1 _) (zaa hF)
 try simp [go_sem, g, h4]
 try intros
 refine wH hF (fun h5 hF => ?_) fun h5 hF => ?_
 ·exact wV h5 (hj1 _) (zaa hF)
 try simp [go_sem, g, h5]
 try intros
 refine wH hF (fun h6 hF => ?_) fun h6 hF => ?_
 ·exact wV h6 (hj1 _) (zaa hF)
 try simp [go_sem, g, h6]
 refine wC hF [.sh, .sh] zhG (fun z7 hF => ?_)
 try simp [go_sem, g, h6]
 refine wH hF (fun h8 hF => ?_) fun h8 hF => ?_
 ·exact wV h8 (hj1 _) (zaa hF)
 try simp [go_sem, g, h8]
 refine wC hF [.sh, .sh] zgM (fun z9 hF => ?_)
 try simp [go_sem, g, h8]
 refine wH hF (fun h10 hF => ?_) fun h10 hF => ?_
 ·exact wV h10 (hj1 _) (zaa hF)
 obtain ⟨x11, g, hF⟩ := Rxn g 0 hF
 try simp [go_sem, g, h10]
 refine wD hF zf7 (fun z12 hF => ?_)
 exact wV h10 (hj1 _) (zaa hF)
def zcU (a0 : List Int) (a1 : Int) : Option Bool :=
 ((zaQ (σ := Unit) (fun i5 s4 =>
 (ix a0 i5).bind fun x11 =>
 if (x11 == a1) = true then (
 some (.out (.inr true))) else (
 some (.go ()))) (fun s4 => .inl ()) (a0.length) 0 () : Option (Unit ⊕ Bool)).bind (Sum.elim (fun x3 =>
 some false) some))
theorem zgy : ∀ {a0} {a1} {r}, zcU a0 a1 = some r → PCalls Tryz.prog 44 [(.sh, vC a0), (.sh, .int .i64 a1)] (Eo (.bool r) [.junk, .junk]) := by
 intro a0 a1 r hr
 apply pF 17 [] [] [] [.tmp 4] hr zyW Tryz.func44
 intro Φ hΦ hF g
 unfold zcU at hF
 iterate 2 (try simp [go_sem, g]; try intros; refine zaY ?_)
 refine wS hF (fun x3 => []) (fun x3 hF => ?_) fun _ hj1 hr2 hF => ?_
 ·exact wl hΦ hF
 refine wB ?_
 obtain ⟨b13, hb14, hψ8⟩ := hF
 refine pR hb14 (fun i5 s4 => [(1, .v (.int .i64 a1)), (7, .v (vC a0)), (8, .v (.int .i64 (a0.length : Int))), (9, .v (.int .i64 i5))]) (fun s4 _ hN15 => ?_) (fun i5 s4 _ _ hi9 hi10 ho6 hg7 hF => ?_)
 ·exact wn hN15 (hj1 _) hψ8
 refine wW ?_
 refine wu hi9 hi10 ?_
 refine wW ?_
 refine wB ?_
 obtain ⟨x11, g, hF⟩ := Rx g hF
 refine wW ?_
 refine wK [1, 7, 8, 9, 15] ?_
 refine wI hF (fun h12 hF => ?_) (fun h12 hF => ?_)
 ·cases ho6 _ (zaa hF)
  cases hΦ _ (hr2 _ hψ8)
  refine wW ?_
  try simp [go_sem, g]
 refine wW ?_
 exact wi hi9 hi10 (hg7 _) (zaa hF)
@[go_sem] def ztw : List DE := [d2 0 [5] 5 5, d0 1 [1], d0 2 [2], d0 3 [4], d0 4 [16], d0 5 [46, 47], d0 6 [48], d0 7 [49], d3 8 [43, 44, 45, 50], d0 9 [51]]
@[go_sem] def ztx : List DE := [d2 0 [5] 5 5, d0 1 [4], d0 2 [16], d0 3 [58, 59], d0 4 [60], d3 5 [57, 61], d0 6 [62], d0 7 [63]]
def zes (a0 : Group) (a1 : Int) (a2 : Int) (a3 : List Cipher) (a4 : List Cast) : Option ((List Int)) :=
 ((zaQ (σ := (List Int)) (fun i5 s4 =>
 (ix a3 i5).bind fun x11 =>
 (zei a0 a1 a2 x11).bind fun z12 =>
 gd ((s4.length + 1) * 8 ≤ 140737488355328 ∧ s4.length + 1 ≤ 4611686018427387904) <|
 some (.go (s4 ++ [z12]))) (fun s4 => s4) (a3.length) 0 [] : Option ((List Int))).bind fun x3 =>
 gd (0 ≤ (a4.length : Int) ∧ (a4.length : Int) ≤ (a4.length : Int) ∧ 8 * (a4.length : Int) ≤ 140737488355328 ∧ (a4.length : Int) ≤ 4611686018427387904) <|
 (some (List.replicate a4.length 0)).bind fun x17 =>
 ((zbG (σ := (List Int) × List Int × Int) (fun s43 =>
 if decide (0 ≤ s43.2.2) = true then (
 (((ix a4 s43.2.2).bind fun x52 =>
 (zei a0 a1 a2 x52.Credential).bind fun z53 =>
 (zdT a0 x52).bind fun z54 =>
 if (!z54) = true then (
 (ix s43.2.1 s43.2.2).bind fun x56 =>
 some (s43.1, s43.2.1.set s43.2.2.toNat 1)) else (
 (zcU x3 z53).bind fun z57 =>
 if (!z57) = true then (
 (ix s43.2.1 s43.2.2).bind fun x59 =>
 some (s43.1, s43.2.1.set s43.2.2.toNat 2)) else (
 (zcU s43.1 z53).bind fun z60 =>
 if z60 = true then (
 (ix s43.2.1 s43.2.2).bind fun x62 =>
 some (s43.1, s43.2.1.set s43.2.2.toNat 3)) else (
 gd ((s43.1.length + 1) * 8 ≤ 140737488355328 ∧ s43.1.length + 1 ≤ 4611686018427387904) <|
 some (s43.1 ++ [z53], s43.2.1)))) : Option ((List Int × List Int))).bind fun x51 =>
 some (.go (x51.1, x51.2, i64.wrap (s43.2.2 - 1))))) else (
 some (.out s43.2.1))) ([], x17, i64.wrap ((a4.length : Int) - 1)) : Option ((List Int))).bind fun x22 =>
 some x22))
theorem zm2 : ∀ {a0} {a1} {a2} {a3} {a4} {r}, zes a0 a1 a2 a3 a4 = some r → PCalls Tryz.prog 42 [(.sh, vE a0), (.sh, .int .i64 a1), (.sh, .int .i64 a2), (.sh, vO a3), (.sh, vP a4)] (Eo (vD r) [.junk, .junk, .junk, .junk, .junk]) := by
 intro a0 a1 a2 a3 a4 r hr
 apply pF 83 [] [] [] [.tmp 10] hr zzM Tryz.func42
 intro Φ hΦ hF g
 unfold zes at hF
 iterate 3 (try simp [go_sem, g]; try intros; refine zaY ?_)
 refine wJ hF (fun x3 => [(1, .v (.int .i64 a1)), (2, .v (.int .i64 a2)), (4, .v (vP a4)), (5, .bl [.int .i64 a0.P, .int .i64 a0.Q, .int .i64 a0.G]), (11, .v (vD x3)), (12, .v (.sl true 1 []))]) (fun x3 hF => ?_) fun _ hj1 hF => ?_
 ·obtain ⟨g, hF⟩ := Rg g hF
  obtain ⟨x17, e18, hF⟩ := zdw hF
  have g19 : List.replicate a4.length ([.int .i64 0] : List PV) = x17.map zai := by injection e18 with e18; rw [← e18]; simp [go_sem]
  try simp [go_sem, g, g19]
  try intros
  refine wK [1, 2, 4, 5, 11, 12, 15] ?_
  try simp [go_sem, g]
  try intros
  refine zaY ?_
  refine wJ hF (fun x22 => [(15, .v (vD x22))]) (fun x22 hF => ?_) fun _ hj20 hF => ?_
  ·exact wl hΦ hF
  refine wB ?_
  obtain ⟨b63, hb64, hψ47⟩ := hF
  refine pL hb64 (fun s43 => [(1, .v (.int .i64 a1)), (2, .v (.int .i64 a2)), (4, .v (vP a4)), (5, .bl [.int .i64 a0.P, .int .i64 a0.Q, .int .i64 a0.G]), (11, .v (vD x3)), (12, .v (vD s43.1)), (15, .v (vD s43.2.1)), (16, .v (.int .i64 s43.2.2))]) (fun s43 _ _ ho45 hg46 hF => ?_)
  refine wW ?_
  refine wI hF (fun h48 hF => ?_) (fun h48 hF => ?_)
  ·refine wW ?_
   refine wJ hF (fun x51 => [(1, .v (.int .i64 a1)), (2, .v (.int .i64 a2)), (4, .v (vP a4)), (5, .bl [.int .i64 a0.P, .int .i64 a0.Q, .int .i64 a0.G]), (11, .v (vD x3)), (12, .v (vD x51.1)), (15, .v (vD x51.2)), (16, .v (.int .i64 s43.2.2))]) (fun x51 hF => ?_) fun _ hj49 hF => ?_
   ·exact wT (hg46 _) (zaa hF)
   refine wB ?_
   refine wX ztw follows ?_
   obtain ⟨x52, g, hF⟩ := Rx g hF
   refine wC hF [.sh, .sh, .sh, .sh] zji (fun z53 hF => ?_)
   refine wK [1, 2, 4, 5, 11, 12, 15, 16, 17] ?_
   refine wB ?_
   refine wX ztx follows ?_
   refine wC hF [.sh, .sh] zkS (fun z54 hF => ?_)
   refine wW ?_
   refine wI hF (fun h55 hF => ?_) (fun h55 hF => ?_)
   ·obtain ⟨x56, g, hF⟩ := Rx g hF
    exact wT (hj49 _) (zaa hF)
   refine wC hF [.sh, .sh] zgy (fun z57 hF => ?_)
   refine wK [1, 2, 4, 5, 11, 12, 15, 16, 17, 67] ?_
   refine wI hF (fun h58 hF => ?_) (fun h58 hF => ?_)
   ·obtain ⟨x59, g, hF⟩ := Rx g hF
    exact wT (hj49 _) (zaa hF)
   refine wC hF [.sh, .sh] zgy (fun z60 hF => ?_)
   refine wW ?_
   refine wI hF (fun h61 hF => ?_) (fun h61 hF => ?_)
   ·obtain ⟨x62, g, hF⟩ := Rx g hF
    exact wT (hj49 _) (zaa hF)
   obtain ⟨g, hF⟩ := Rg g hF
   exact wT (hj49 _) (zaa hF)
  cases ho45 _ (zaa hF)
  exact wT (hj20 _) hψ47
 refine wB ?_
 obtain ⟨b13, hb14, hψ8⟩ := hF
 refine pR hb14 (fun i5 s4 => [(1, .v (.int .i64 a1)), (2, .v (.int .i64 a2)), (4, .v (vP a4)), (5, .bl [.int .i64 a0.P, .int .i64 a0.Q, .int .i64 a0.G]), (11, .v (vD s4)), (12, .v (.sl true 1 [])), (18, .v (vO a3)), (19, .v (.int .i64 (a3.length : Int))), (20, .v (.int .i64 i5))]) (fun s4 _ hN15 => ?_) (fun i5 s4 _ _ hi9 hi10 ho6 hg7 hF => ?_)
 ·exact wn hN15 (hj1 _) hψ8
 refine wW ?_
 refine wu hi9 hi10 ?_
 refine wW ?_
 refine wB ?_
 obtain ⟨x11, g, hF⟩ := Rx g hF
 refine wK [1, 2, 4, 5, 11, 12, 14, 18, 19, 20] ?_
 refine wC hF [.sh, .sh, .sh, .sh] zji (fun z12 hF => ?_)
 obtain ⟨g, hF⟩ := Rg g hF
 refine wW ?_
 exact wi hi9 hi10 (hg7 _) (zaa hF)
def zcd (a0 : Group) (a1 : Int) (a2 : Int) (a3 : List Cipher) (a4 : List Cast) : Option (List Int × Bool) :=
 (zdA a0 a1 a2 a3 a4).bind fun z1 =>
 if (!z1) = true then (
 some ([], false)) else (
 (zes a0 a1 a2 a3 a4).bind fun z3 =>
 some (z3, true))
theorem zjF : ∀ {a0} {a1} {a2} {a3} {a4} {r}, zcd a0 a1 a2 a3 a4 = some r → PCalls Tryz.prog 7 [(.sh, vE a0), (.sh, .int .i64 a1), (.sh, .int .i64 a2), (.sh, vO a3), (.sh, vP a4)] (Eo (.tup [vD r.1, .bool r.2]) [.junk, .junk, .junk, .junk, .junk]) := by
 intro a0 a1 a2 a3 a4 r hr
 apply pF 25 [] [] [] [.tmp 10, .tmp 11] hr cl7 Tryz.func7
 intro Φ hΦ hF g
 unfold zcd at hF
 refine wW ?_
 refine wC hF [.sh, .sh, .sh, .sh, .sh] zlt (fun z1 hF => ?_)
 refine wK [1, 2, 3, 4, 5, 18] ?_
 refine wI hF (fun h2 hF => ?_) (fun h2 hF => ?_)
 ·exact wl hΦ hF
 refine wW ?_
 refine wC hF [.sh, .sh, .sh, .sh, .sh] zm2 (fun z3 hF => ?_)
 exact wl hΦ hF
def zci (a0 : List Int) : Option ((List Int)) :=
 (zat a0 0 0 16).bind fun z1 =>
 if z1.1 = true then (
 (zaf z1.2.1 z1.2.2.1 z1.2.2.2 2).bind fun z3 =>
 gd (0 ≤ (i64.wrap (24 + z3.1)) ∧ (i64.wrap (24 + z3.1)) ≤ (i64.wrap (24 + z3.1)) ∧ 8 * (i64.wrap (24 + z3.1)) ≤ 140737488355328 ∧ (i64.wrap (24 + z3.1)) ≤ 4611686018427387904) <|
 (some (List.replicate ((i64.wrap (24 + z3.1)).toNat) 0)).bind fun x4 =>
 some x4) else (
 (zaf z1.2.1 z1.2.2.1 z1.2.2.2 9).bind fun z7 =>
 ((zbG (σ := (List Int × Int × Int) × List Int × Int) (fun s18 =>
 if decide (0 < s18.2.2) = true then (
 (zaf s18.1.1 s18.1.2.1 s18.1.2.2 4).bind fun z24 =>
 gd ((s18.2.1.length + 1) * 8 ≤ 140737488355328 ∧ s18.2.1.length + 1 ≤ 4611686018427387904) <|
 some (.go ((z24.2.1, z24.2.2.1, z24.2.2.2), s18.2.1 ++ [z24.1], i64.wrap (s18.2.2 - 1)))) else (
 some (.out s18.2.1))) ((z7.2.1, z7.2.2.1, z7.2.2.2), [], z7.1) : Option ((List Int))).bind fun x10 =>
 some x10))
theorem zhz : ∀ {a0} {r}, zci a0 = some r → PCalls Tryz.prog 8 [(.sh, vA a0)] (Eo (vD r) [.junk]) := by
 intro a0 r hr
 apply pF 27 [] [] [8] [.tmp 2] hr cl8 Tryz.func8
 intro Φ hΦ hF g
 unfold zci at hF
 iterate 2 refine wW ?_
 refine wC hF [.io, .sh] zaI (fun z1 hF => ?_)
 refine wW ?_
 refine wI hF (fun h2 hF => ?_) (fun h2 hF => ?_)
 ·refine wC hF [.io, .sh] zag (fun z3 hF => ?_)
  obtain ⟨g, hF⟩ := Rg g hF
  obtain ⟨x4, e5, hF⟩ := zdw hF
  have g6 : List.replicate ((i64.wrap (24 + z3.1)).toNat) ([.int .i64 0] : List PV) = x4.map zai := by injection e5 with e5; rw [← e5]; simp [go_sem]
  try simp [go_sem, g, g6]
  refine wK [2] ?_
  exact wm hΦ hF
 iterate 2 refine wW ?_
 refine wC hF [.io, .sh] zag (fun z7 hF => ?_)
 refine wK [3, 4, 5] ?_
 refine wJ hF (fun x10 => [(4, .v (vD x10))]) (fun x10 hF => ?_) fun _ hj8 hF => ?_
 ·exact wl hΦ hF
 refine wB ?_
 obtain ⟨b25, hb26, hψ22⟩ := hF
 refine pL hb26 (fun s18 => [(3, .v (vB s18.1.1 s18.1.2.1 s18.1.2.2)), (4, .v (vD s18.2.1)), (5, .v (.int .i64 s18.2.2))]) (fun s18 _ _ ho20 hg21 hF => ?_)
 refine wW ?_
 refine wI hF (fun h23 hF => ?_) (fun h23 hF => ?_)
 ·refine wW ?_
  refine wB ?_
  refine wC hF [.io, .sh] zag (fun z24 hF => ?_)
  obtain ⟨g, hF⟩ := Rg g hF
  refine wW ?_
  exact wT (hg21 _) (zaa hF)
 cases ho20 _ (zaa hF)
 exact wT (hj8 _) hψ22
def zbW (a0 : List Int) : Option (List Int × Bool) :=
 if decide (24 < (a0.length : Int)) = true then (
 some ([], false)) else (
 ((zaQ (σ := (List Int)) (fun i6 s5 =>
 (((ix a0 i6).bind fun x15 =>
 gd (0 ≤ (i64.wrap (i6 + 1))) <|
 gd ((i64.wrap (i6 + 1)).toNat ≤ a0.length ∧ a0.length ≤ a0.length) <|
 (zaR ((a0.take a0.length).drop ((i64.wrap (i6 + 1)).toNat)) x15).bind fun z16 =>
 if (!z16) = true then (
 gd ((s5.length + 1) * 8 ≤ 140737488355328 ∧ s5.length + 1 ≤ 4611686018427387904) <|
 some (s5 ++ [i6])) else (
 some s5) : Option ((List Int))).bind fun x14 =>
 some (.go x14))) (fun s5 => s5) (a0.length) 0 [] : Option ((List Int))).bind fun x4 =>
 some (x4, true)))
theorem zja : ∀ {a0} {r}, zbW a0 = some r → PCalls Tryz.prog 9 [(.sh, vC a0)] (Eo (.tup [vD r.1, .bool r.2]) [.junk]) := by
 intro a0 r hr
 apply pF 31 [] [] [] [.tmp 2, .tmp 3] hr cl9 Tryz.func9
 intro Φ hΦ hF g
 unfold zbW at hF
 iterate 2 (try simp [go_sem, g]; try intros; refine zaY ?_)
 refine wI hF (fun h1 hF => ?_) (fun h1 hF => ?_)
 ·exact wl hΦ hF
 iterate 2 (try simp [go_sem, g]; try intros; refine zaY ?_)
 try simp [go_sem, g]
 try intros
 refine wK [0, 4, 11, 12, 13] ?_
 refine wJ hF (fun x4 => [(4, .v (vD x4))]) (fun x4 hF => ?_) fun _ hj2 hF => ?_
 ·exact wl hΦ hF
 refine wB ?_
 obtain ⟨b18, hb19, hψ9⟩ := hF
 refine pR hb19 (fun i6 s5 => [(0, .v (vC a0)), (4, .v (vD s5)), (11, .v (vC a0)), (12, .v (.int .i64 (a0.length : Int))), (13, .v (.int .i64 i6))]) (fun s5 _ hN20 => ?_) (fun i6 s5 _ _ hi10 hi11 ho7 hg8 hF => ?_)
 ·exact wn hN20 (hj2 _) hψ9
 refine wW ?_
 refine wu hi10 hi11 ?_
 refine wW ?_
 refine wJ hF (fun x14 => [(0, .v (vC a0)), (4, .v (vD x14)), (11, .v (vC a0)), (12, .v (.int .i64 (a0.length : Int))), (13, .v (.int .i64 i6))]) (fun x14 hF => ?_) fun _ hj12 hF => ?_
 ·exact wi hi10 hi11 (hg8 _) (zaa hF)
 refine wB ?_
 obtain ⟨x15, g, hF⟩ := Rx g hF
 obtain ⟨g, hF⟩ := Rg g hF
 obtain ⟨g, hF⟩ := Rg g hF
 refine wW ?_
 refine wC hF [.sh, .sh] zdc (fun z16 hF => ?_)
 refine wK [0, 4, 5, 11, 12, 13, 24] ?_
 refine wI hF (fun h17 hF => ?_) (fun h17 hF => ?_)
 ·obtain ⟨g, hF⟩ := Rg g hF
  exact wT (hj12 _) (zaa hF)
 exact wT (hj12 _) (zaa hF)
def zc7 (a0 : List Int) : Option (List Int × Bool) :=
 if decide (24 < (a0.length : Int)) = true then (
 some ([], false)) else (
 ((zaQ (σ := (List Int)) (fun i6 s5 =>
 (((ix a0 i6).bind fun x15 =>
 gd (0 ≤ (i64.wrap (i6 + 1))) <|
 gd ((i64.wrap (i6 + 1)).toNat ≤ a0.length ∧ a0.length ≤ a0.length) <|
 (zcU ((a0.take a0.length).drop ((i64.wrap (i6 + 1)).toNat)) x15).bind fun z16 =>
 if (!z16) = true then (
 gd ((s5.length + 1) * 8 ≤ 140737488355328 ∧ s5.length + 1 ≤ 4611686018427387904) <|
 some (s5 ++ [i6])) else (
 some s5) : Option ((List Int))).bind fun x14 =>
 some (.go x14))) (fun s5 => s5) (a0.length) 0 [] : Option ((List Int))).bind fun x4 =>
 some (x4, true)))
theorem zi9 : ∀ {a0} {r}, zc7 a0 = some r → PCalls Tryz.prog 10 [(.sh, vC a0)] (Eo (.tup [vD r.1, .bool r.2]) [.junk]) := by
 intro a0 r hr
 apply pF 30 [] [] [] [.tmp 2, .tmp 3] hr zxv Tryz.func10
 intro Φ hΦ hF g
 unfold zc7 at hF
 iterate 2 (try simp [go_sem, g]; try intros; refine zaY ?_)
 refine wI hF (fun h1 hF => ?_) (fun h1 hF => ?_)
 ·exact wl hΦ hF
 iterate 3 (try simp [go_sem, g]; try intros; refine zaY ?_)
 refine wJ hF (fun x4 => [(4, .v (vD x4))]) (fun x4 hF => ?_) fun _ hj2 hF => ?_
 ·refine wK [2, 3] ?_
  exact wm hΦ hF
 refine wB ?_
 obtain ⟨b18, hb19, hψ9⟩ := hF
 refine pR hb19 (fun i6 s5 => [(0, .v (vC a0)), (4, .v (vD s5)), (10, .v (vC a0)), (11, .v (.int .i64 (a0.length : Int))), (12, .v (.int .i64 i6))]) (fun s5 _ hN20 => ?_) (fun i6 s5 _ _ hi10 hi11 ho7 hg8 hF => ?_)
 ·exact wn hN20 (hj2 _) hψ9
 refine wK [0, 4, 10, 11, 12, 13] ?_
 refine wu hi10 hi11 ?_
 refine wW ?_
 refine wJ hF (fun x14 => [(0, .v (vC a0)), (4, .v (vD x14)), (10, .v (vC a0)), (11, .v (.int .i64 (a0.length : Int))), (12, .v (.int .i64 i6))]) (fun x14 hF => ?_) fun _ hj12 hF => ?_
 ·exact wi hi10 hi11 (hg8 _) (zaa hF)
 refine wB ?_
 obtain ⟨x15, g, hF⟩ := Rx g hF
 obtain ⟨g, hF⟩ := Rg g hF
 obtain ⟨g, hF⟩ := Rg g hF
 refine wW ?_
 refine wC hF [.sh, .sh] zgy (fun z16 hF => ?_)
 refine wK [0, 4, 5, 10, 11, 12, 23] ?_
 refine wI hF (fun h17 hF => ?_) (fun h17 hF => ?_)
 ·obtain ⟨g, hF⟩ := Rg g hF
  exact wT (hj12 _) (zaa hF)
 exact wT (hj12 _) (zaa hF)
@[go_sem] def zuY : List DE := [d0 0 [0], d0 1 [5], d0 2 [16, 17], d0 3 [18], d0 4 [1], d0 5 [5], d0 6 [20, 21], d0 7 [22], d0 8 [19, 23]]
def zdO (a0 : List Int) (a1 : List Int) : Option Bool :=
 if ((a0.length : Int) != (a1.length : Int)) = true then (
 some false) else (
 ((zaQ (σ := Unit) (fun i6 s5 =>
 (ix a0 i6).bind fun x12 =>
 (ix a1 i6).bind fun x13 =>
 if (x12 != x13) = true then (
 some (.out (.inr false))) else (
 some (.go ()))) (fun s5 => .inl ()) (a0.length) 0 () : Option (Unit ⊕ Bool)).bind (Sum.elim (fun x4 =>
 some true) some)))
theorem ziA : ∀ {a0} {a1} {r}, zdO a0 a1 = some r → PCalls Tryz.prog 11 [(.sh, vC a0), (.sh, vC a1)] (Eo (.bool r) [.junk, .junk]) := by
 intro a0 a1 r hr
 apply pF 26 [] [] [] [.tmp 4] hr zyQ Tryz.func11
 intro Φ hΦ hF g
 unfold zdO at hF
 iterate 2 (try simp [go_sem, g]; try intros; refine zaY ?_)
 refine wI hF (fun h1 hF => ?_) (fun h1 hF => ?_)
 ·exact wl hΦ hF
 iterate 2 (try simp [go_sem, g]; try intros; refine zaY ?_)
 refine wS hF (fun x4 => []) (fun x4 hF => ?_) fun _ hj2 hr3 hF => ?_
 ·refine wK [4] ?_
  exact wm hΦ hF
 refine wB ?_
 obtain ⟨b15, hb16, hψ9⟩ := hF
 refine pR hb16 (fun i6 s5 => [(0, .v (vC a0)), (1, .v (vC a1)), (12, .v (.int .i64 (a0.length : Int))), (13, .v (.int .i64 i6))]) (fun s5 _ hN17 => ?_) (fun i6 s5 _ _ hi10 hi11 ho7 hg8 hF => ?_)
 ·exact wn hN17 (hj2 _) hψ9
 refine wK [0, 1, 12, 13, 14] ?_
 refine wu hi10 hi11 ?_
 refine wW ?_
 refine wB ?_
 refine wW ?_
 refine wX zuY follows ?_
 obtain ⟨x12, g, hF⟩ := Rx g hF
 obtain ⟨x13, g, hF⟩ := Rx g hF
 refine wK [0, 1, 12, 13, 24] ?_
 refine wI hF (fun h14 hF => ?_) (fun h14 hF => ?_)
 ·cases ho7 _ (zaa hF)
  cases hΦ _ (hr3 _ hψ9)
  refine wW ?_
  try simp [go_sem, g]
 refine wW ?_
 exact wi hi10 hi11 (hg8 _) (zaa hF)
def zed (a0 : Group) (a1 : Int) (a2 : Int) (a3 : List Cipher) : Option (List Int × Bool) :=
 (((zbv a0 a1 a2).bind fun z4 =>
 if (!z4) = true then (
 some true) else (
 (zbt a0 a3).bind fun z6 =>
 some (!z6)) : Option Bool).bind fun x3 =>
 if x3 = true then (
 some ([], false)) else (
 (zbY a0 a1 a2 a3).bind fun z8 =>
 some (z8, true)))
theorem zlB : ∀ {a0} {a1} {a2} {a3} {r}, zed a0 a1 a2 a3 = some r → PCalls Tryz.prog 12 [(.sh, vE a0), (.sh, .int .i64 a1), (.sh, .int .i64 a2), (.sh, vO a3)] (Eo (.tup [vD r.1, .bool r.2]) [.junk, .junk, .junk, .junk]) := by
 intro a0 a1 a2 a3 r hr
 apply pF 26 [] [] [] [.tmp 8, .tmp 9] hr zzT Tryz.func12
 intro Φ hΦ hF g
 unfold zed at hF
 refine wW ?_
 refine wJ hF (fun x3 => [(1, .v (.int .i64 a1)), (2, .v (.int .i64 a2)), (3, .v (vO a3)), (4, .bl [.int .i64 a0.P, .int .i64 a0.Q, .int .i64 a0.G]), (20, .v (.bool x3))]) (fun x3 hF => ?_) fun _ hj1 hF => ?_
 ·refine wI hF (fun h7 hF => ?_) (fun h7 hF => ?_)
  ·exact wl hΦ hF
  refine wW ?_
  refine wC hF [.sh, .sh, .sh, .sh] zeK (fun z8 hF => ?_)
  refine wK [8, 9] ?_
  exact wm hΦ hF
 refine wC hF [.sh, .sh, .sh] zgQ (fun z4 hF => ?_)
 refine wG hF (fun h5 hF => ?_) fun h5 hF => ?_
 ·exact wV h5 (hj1 _) (zaa hF)
 try simp [go_sem, g, h5]
 refine wC hF [.sh, .sh] zeF (fun z6 hF => ?_)
 exact wV h5 (hj1 _) (zaa hF)
def zcc (a0 : List Int) : Option (List Int) :=
 gd (a0.length * 8 ≤ 140737488355328) <|
 some (srt a0)
theorem zf5 : ∀ {a0} {r}, zcc a0 = some r → PCalls Tryz.prog 46 [(.io, .sl true 1 (a0.map zai))] (Eo .junk [.sl true 1 (r.map zai)]) := by
 intro a0 r hr
 have hF : Rn _ (fun x => x = r) := ⟨r, hr, rfl⟩
 unfold zcc at hF
 obtain ⟨g0, hF⟩ := zhW hF
 have h1 := zaa hF
 subst h1
 exact Go.Pm.sort_calls zvr zai (fun _ => rfl) g0
@[go_sem] def zvm : List DE := [d0 0 [14], d2 1 [5] 5 5, d0 2 [1], d0 3 [4], d0 4 [15], d0 5 [41, 42], d0 6 [43], d0 7 [44], d3 8 [39, 40, 45], d0 9 [46], ⟨10, [38, 47], [], none, true, false, false⟩, d0 11 [48]]
def zcH (a0 : Group) (a1 : Int) (a2 : Int) (a3 : List Cipher) (a4 : List Cast) : Option (List Int × Bool) :=
 (zbk a0 a1 a2 a3 a4).bind fun z1 =>
 if (!z1.2) = true then (
 some ([], false)) else (
 ((zaQ (σ := (List Int)) (fun i7 s6 =>
 (((ix z1.1 i7).bind fun x16 =>
 if (x16 == 0) = true then (
 (ix a4 i7).bind fun x18 =>
 (zbP a0 a1 x18.Vote).bind fun z19 =>
 gd ((s6.length + 1) * 8 ≤ 140737488355328 ∧ s6.length + 1 ≤ 4611686018427387904) <|
 some (s6 ++ [z19])) else (
 some s6) : Option ((List Int))).bind fun x15 =>
 some (.go x15))) (fun s6 => s6) (z1.1.length) 0 [] : Option ((List Int))).bind fun x5 =>
 (zcc x5).bind fun z24 =>
 some (z24, true)))
theorem zif : ∀ {a0} {a1} {a2} {a3} {a4} {r}, zcH a0 a1 a2 a3 a4 = some r → PCalls Tryz.prog 13 [(.sh, vE a0), (.sh, .int .i64 a1), (.sh, .int .i64 a2), (.sh, vO a3), (.sh, vP a4)] (Eo (.tup [vD r.1, .bool r.2]) [.junk, .junk, .junk, .junk, .junk]) := by
 intro a0 a1 a2 a3 a4 r hr
 apply pF 53 [] [] [] [.tmp 10, .tmp 11] hr zxo Tryz.func13
 intro Φ hΦ hF g
 unfold zcH at hF
 refine wW ?_
 refine wC hF [.sh, .sh, .sh, .sh, .sh] zgU (fun z1 hF => ?_)
 refine wK [1, 4, 5, 12, 13] ?_
 refine wW ?_
 refine wI hF (fun h2 hF => ?_) (fun h2 hF => ?_)
 ·exact wl hΦ hF
 iterate 3 (try simp [go_sem, g]; try intros; refine zaY ?_)
 refine wJ hF (fun x5 => [(14, .v (vD x5))]) (fun x5 hF => ?_) fun _ hj3 hF => ?_
 ·refine wC hF [.io] zf5 (fun z24 hF => ?_)
  refine wW ?_
  refine wK [10, 11] ?_
  exact wm hΦ hF
 refine wB ?_
 obtain ⟨b20, hb21, hψ10⟩ := hF
 refine pR hb21 (fun i7 s6 => [(1, .v (.int .i64 a1)), (4, .v (vP a4)), (5, .bl [.int .i64 a0.P, .int .i64 a0.Q, .int .i64 a0.G]), (12, .v (vD z1.1)), (14, .v (vD s6)), (29, .rf 12 []), (30, .v (.int .i64 (z1.1.length : Int))), (31, .v (.int .i64 i7))]) (fun s6 _ hN22 => ?_) (fun i7 s6 _ _ hi11 hi12 ho8 hg9 hF => ?_)
 ·exact wn hN22 (hj3 _) hψ10
 refine wW ?_
 refine wu hi11 hi12 ?_
 refine wW ?_
 refine wJ hF (fun x15 => [(1, .v (.int .i64 a1)), (4, .v (vP a4)), (5, .bl [.int .i64 a0.P, .int .i64 a0.Q, .int .i64 a0.G]), (12, .v (vD z1.1)), (14, .v (vD x15)), (29, .rf 12 []), (30, .v (.int .i64 (z1.1.length : Int))), (31, .v (.int .i64 i7))]) (fun x15 hF => ?_) fun _ hj13 hF => ?_
 ·exact wi hi11 hi12 (hg9 _) (zaa hF)
 refine wB ?_
 obtain ⟨x16, g, hF⟩ := Rx g hF
 refine wK [1, 4, 5, 12, 14, 15, 16, 29, 30, 31] ?_
 refine wW ?_
 refine wI hF (fun h17 hF => ?_) (fun h17 hF => ?_)
 ·refine wX zvm follows ?_
  obtain ⟨x18, g, hF⟩ := Rx g hF
  refine wC hF [.sh, .sh, .sh] zfA (fun z19 hF => ?_)
  obtain ⟨g, hF⟩ := Rg g hF
  exact wT (hj13 _) (zaa hF)
 exact wT (hj13 _) (zaa hF)
@[go_sem] def zuy : List DE := [d0 0 [32], d0 1 [184], d0 2 [22, 185], d0 3 [31, 185], d0 4 [186, 187, 185], d0 5 [188, 185], d0 6 [22, 185], d0 7 [34, 185], d0 8 [190, 191, 185], d0 9 [192, 185], d0 10 [189, 193, 185], d0 11 [185, 194], d0 12 [195]]
def zdj (a0 : List Int) (a1 : List Int) : Option Bool :=
 if decide (1048576 < (i64.wrap ((a0.length : Int) + (a1.length : Int)))) = true then (
 some true) else (
 (zcu a0).bind fun z2 =>
 (zbk z2.1 z2.2.1 z2.2.2.1 z2.2.2.2.1 z2.2.2.2.2).bind fun z3 =>
 (zcd z2.1 z2.2.1 z2.2.2.1 z2.2.2.2.1 z2.2.2.2.2).bind fun z4 =>
 (zci a1).bind fun z5 =>
 (zbW z5).bind fun z6 =>
 (zc7 z5).bind fun z7 =>
 ((if (z3.2 != z4.2) = true then (
 some true) else (
 (zdO z3.1 z4.1).bind fun z12 =>
 if (!z12) = true then (
 some true) else (
 if (z6.2 != z7.2) = true then (
 some true) else (
 (zdO z6.1 z7.1).bind fun z15 =>
 some (!z15)))) : Option Bool).bind fun x10 =>
 if x10 = true then (
 some false) else (
 if (!z3.2) = true then (
 some true) else (
 ((zaQ (σ := (List Cipher)) (fun i22 s21 =>
 (ix z2.2.2.2.2 i22).bind fun x28 =>
 gd ((s21.length + 1) * 16 ≤ 140737488355328 ∧ s21.length + 1 ≤ 4611686018427387904) <|
 some (.go (s21 ++ [x28.Credential]))) (fun s21 => s21) (z2.2.2.2.2.length) 0 [] : Option ((List Cipher))).bind fun x20 =>
 (zed z2.1 z2.2.1 z2.2.2.1 x20).bind fun z33 =>
 (zcH z2.1 z2.2.1 z2.2.2.1 z2.2.2.2.1 z2.2.2.2.2).bind fun z34 =>
 ((if (!z33.2) = true then (
 some true) else (
 if (!z34.2) = true then (
 some true) else (
 if ((z3.1.length : Int) != (z2.2.2.2.2.length : Int)) = true then (
 some true) else (
 some ((z33.1.length : Int) != (z2.2.2.2.2.length : Int))))) : Option Bool).bind fun x37 =>
 if x37 = true then (
 some false) else (
 ((zaQ (σ := (List Int)) (fun i46 s45 =>
 (((ix z3.1 i46).bind fun x55 =>
 ((if (x55 == 0) = true then (
 some true) else (
 some (x55 == 3)) : Option Bool).bind fun x58 =>
 if x58 = true then (
 gd ((s45.length + 1) * 8 ≤ 140737488355328 ∧ s45.length + 1 ≤ 4611686018427387904) <|
 some (s45 ++ [i46])) else (
 some s45)) : Option ((List Int))).bind fun x54 =>
 some (.go x54))) (fun s45 => s45) (z3.1.length) 0 [] : Option ((List Int))).bind fun x44 =>
 ((zaQ (σ := Int) (fun i69 s68 =>
 (((ix x44 i69).bind fun x78 =>
 gd (0 ≤ (i64.wrap (i69 + 1))) <|
 gd ((i64.wrap (i69 + 1)).toNat ≤ x44.length ∧ x44.length ≤ x44.length) <|
 ((zaQ (σ := Bool) (fun i83 s82 =>
 (((ix ((x44.take x44.length).drop ((i64.wrap (i69 + 1)).toNat)) i83).bind fun x93 =>
 if s82 = true then (
 some true) else (
 (ix z33.1 x78).bind fun x95 =>
 (ix z33.1 x93).bind fun x96 =>
 some (x95 == x96)) : Option Bool).bind fun x92 =>
 some (.go x92))) (fun s82 => s82) (((x44.take x44.length).drop ((i64.wrap (i69 + 1)).toNat)).length) 0 false : Option Bool).bind fun x81 =>
 (ix z3.1 x78).bind fun x101 =>
 if (x81 == (x101 == 0)) = true then (
 some (.inr (.out (.inr false)))) else (
 if (!x81) = true then (
 some (.inl (i64.wrap (s68 + 1)))) else (
 some (.inl s68)))) : Option (Int ⊕ (Stp Int (Int ⊕ Bool)))).bind (Sum.elim (fun x77 =>
 some (.go x77)) some))) (fun s68 => .inl s68) (x44.length) 0 0 : Option (Int ⊕ Bool)).bind (Sum.elim (fun x67 =>
 some ((z34.1.length : Int) == x67)) some))))))))))
set_option maxHeartbeats 1000000 in
theorem zjB : ∀ {a0} {a1} {r}, zdj a0 a1 = some r → PCalls Tryz.prog 3 [(.sh, .sl false 1 (a0.map zdV)), (.sh, .sl false 1 (a1.map zdV))] (Eo (.bool r) [.junk, .junk]) := by
 intro a0 a1 r hr
 apply pF 213 [] [9, 168] [] [.tmp 4] hr cl3 Tryz.func3
 intro Φ hΦ hF g
 unfold zdj at hF
 iterate 2 (try simp [go_sem, g]; try intros; refine zaY ?_)
 refine wI hF (fun h1 hF => ?_) (fun h1 hF => ?_)
 ·exact wl hΦ hF
 refine wW ?_
 refine wC hF [.sh] zhP (fun z2 hF => ?_)
 refine wK [1, 5, 6, 7, 8, 9] ?_
 refine wC hF [.sh, .sh, .sh, .sh, .sh] zgU (fun z3 hF => ?_)
 refine wK [1, 5, 6, 7, 8, 9, 10, 11] ?_
 refine wC hF [.sh, .sh, .sh, .sh, .sh] zjF (fun z4 hF => ?_)
 refine wK [1, 5, 6, 7, 8, 9, 10, 11, 12, 13] ?_
 refine wC hF [.sh] zhz (fun z5 hF => ?_)
 refine wW ?_
 refine wC hF [.sh] zja (fun z6 hF => ?_)
 refine wK [5, 6, 7, 8, 9, 10, 11, 12, 13, 14, 15, 16] ?_
 refine wC hF [.sh] zi9 (fun z7 hF => ?_)
 refine wW ?_
 refine wJ hF (fun x10 => [(5, .bl [.int .i64 z2.1.P, .int .i64 z2.1.Q, .int .i64 z2.1.G]), (6, .v (.int .i64 z2.2.1)), (7, .v (.int .i64 z2.2.2.1)), (8, .v (vG z2.2.2.2.1)), (9, .v (vP z2.2.2.2.2)), (10, .v (vD z3.1)), (11, .v (.bool z3.2)), (98, .v (.bool x10))]) (fun x10 hF => ?_) fun _ hj8 hF => ?_
 ·refine wI hF (fun h16 hF => ?_) (fun h16 hF => ?_)
  ·exact wl hΦ hF
  iterate 2 refine wW ?_
  refine wI hF (fun h17 hF => ?_) (fun h17 hF => ?_)
  ·refine wK [4] ?_
   exact wm hΦ hF
  refine wW ?_
  refine wK [5, 6, 7, 8, 9, 10, 19] ?_
  try simp [go_sem, g]
  try intros
  refine zaY ?_
  refine wJ hF (fun x20 => [(5, .bl [.int .i64 z2.1.P, .int .i64 z2.1.Q, .int .i64 z2.1.G]), (6, .v (.int .i64 z2.2.1)), (7, .v (.int .i64 z2.2.2.1)), (8, .v (vG z2.2.2.2.1)), (9, .v (vP z2.2.2.2.2)), (10, .v (vD z3.1)), (19, .v (vG x20))]) (fun x20 hF => ?_) fun _ hj18 hF => ?_
  ·refine wC hF [.sh, .sh, .sh, .sh] zlB (fun z33 hF => ?_)
   refine wK [5, 6, 7, 8, 9, 10, 22, 23] ?_
   refine wC hF [.sh, .sh, .sh, .sh, .sh] zif (fun z34 hF => ?_)
   refine wK [9, 10, 22, 23, 24, 25] ?_
   refine wJ hF (fun x37 => [(10, .v (vD z3.1)), (22, .v (vD z33.1)), (24, .v (vD z34.1)), (149, .v (.bool x37))]) (fun x37 hF => ?_) fun _ hj35 hF => ?_
   ·refine wI hF (fun h41 hF => ?_) (fun h41 hF => ?_)
    ·exact wl hΦ hF
    iterate 3 (try simp [go_sem, g]; try intros; refine zaY ?_)
    refine wJ hF (fun x44 => [(10, .v (vD z3.1)), (22, .v (vD z33.1)), (24, .v (vD z34.1)), (26, .v (vD x44))]) (fun x44 hF => ?_) fun _ hj42 hF => ?_
    ·iterate 2 (try simp [go_sem, g]; try intros; refine zaY ?_)
     refine wS hF (fun x67 => [(24, .v (vD z34.1)), (29, .v (.int .i64 x67))]) (fun x67 hF => ?_) fun _ hj65 hr66 hF => ?_
     ·try simp [go_sem, g]
      try intros
      refine wK [4] ?_
      exact wm hΦ hF
     refine wB ?_
     obtain ⟨b104, hb105, hψ72⟩ := hF
     refine pR hb105 (fun i69 s68 => [(10, .v (vD z3.1)), (22, .v (vD z33.1)), (24, .v (vD z34.1)), (26, .v (vC x44)), (29, .v (.int .i64 s68)), (168, .v (vC x44)), (169, .v (.int .i64 (x44.length : Int))), (170, .v (.int .i64 i69))]) (fun s68 _ hN106 => ?_) (fun i69 s68 _ _ hi73 hi74 ho70 hg71 hF => ?_)
     ·exact wn hN106 (hj65 _) hψ72
     refine wW ?_
     refine wu hi73 hi74 ?_
     refine wW ?_
     refine wS hF (fun x77 => [(10, .v (vD z3.1)), (22, .v (vD z33.1)), (24, .v (vD z34.1)), (26, .v (vC x44)), (29, .v (.int .i64 x77)), (168, .v (vC x44)), (169, .v (.int .i64 (x44.length : Int))), (170, .v (.int .i64 i69))]) (fun x77 hF => ?_) fun _ hj75 hr76 hF => ?_
     ·exact wi hi73 hi74 (hg71 _) (zaa hF)
     refine wB ?_
     obtain ⟨x78, g, hF⟩ := Rx g hF
     refine wK [10, 22, 24, 26, 29, 30, 31, 168, 169, 170] ?_
     obtain ⟨g, hF⟩ := Rg g hF
     obtain ⟨g, hF⟩ := Rg g hF
     iterate 2 (try simp [go_sem, g]; try intros; refine zaY ?_)
     refine wJ hF (fun x81 => [(10, .v (vD z3.1)), (22, .v (vD z33.1)), (24, .v (vD z34.1)), (26, .v (vC x44)), (29, .v (.int .i64 s68)), (31, .v (.int .i64 x78)), (32, .v (.bool x81)), (168, .v (vC x44)), (169, .v (.int .i64 (x44.length : Int))), (170, .v (.int .i64 i69))]) (fun x81 hF => ?_) fun _ hj79 hF => ?_
     ·obtain ⟨x101, g, hF⟩ := Rx g hF
      refine wK [10, 22, 24, 26, 29, 32, 168, 169, 170, 203] ?_
      refine wI hF (fun h102 hF => ?_) (fun h102 hF => ?_)
      ·cases ho70 _ (hr76 _ (zaa hF))
       cases hΦ _ (hr66 _ hψ72)
       refine wW ?_
       try simp [go_sem, g]
      iterate 2 refine wW ?_
      refine wI hF (fun h103 hF => ?_) (fun h103 hF => ?_)
      ·exact wT (hj75 _) (zaa hF)
      exact wT (hj75 _) (zaa hF)
     refine wB ?_
     obtain ⟨b97, hb98, hψ86⟩ := hF
     refine pR hb98 (fun i83 s82 => [(10, .v (vD z3.1)), (22, .v (vD z33.1)), (24, .v (vD z34.1)), (26, .v (vC x44)), (29, .v (.int .i64 s68)), (31, .v (.int .i64 x78)), (32, .v (.bool s82)), (168, .v (vC x44)), (169, .v (.int .i64 (x44.length : Int))), (170, .v (.int .i64 i69)), (178, .v (vC ((x44.take x44.length).drop ((i64.wrap (i69 + 1)).toNat)))), (179, .v (.int .i64 (((x44.take x44.length).drop ((i64.wrap (i69 + 1)).toNat)).length : Int))), (180, .v (.int .i64 i83))]) (fun s82 _ hN99 => ?_) (fun i83 s82 _ _ hi87 hi88 ho84 hg85 hF => ?_)
     ·exact wn hN99 (hj79 _) hψ86
     have hi89 := hi88
     try simp at hi89
     refine wW ?_
     refine wt ?_ (hb := by simp [go_sem, g, hi87, hi88, hi89] <;> omega)
     refine wW ?_
     refine wJ hF (fun x92 => [(10, .v (vD z3.1)), (22, .v (vD z33.1)), (24, .v (vD z34.1)), (26, .v (vC x44)), (29, .v (.int .i64 s68)), (31, .v (.int .i64 x78)), (32, .v (.bool x92)), (168, .v (vC x44)), (169, .v (.int .i64 (x44.length : Int))), (170, .v (.int .i64 i69)), (178, .v (vC ((x44.take x44.length).drop ((i64.wrap (i69 + 1)).toNat)))), (179, .v (.int .i64 (((x44.take x44.length).drop ((i64.wrap (i69 + 1)).toNat)).length : Int))), (180, .v (.int .i64 i83))]) (fun x92 hF => ?_) fun _ hj90 hF => ?_
     ·exact wT (hg85 x92) (zaa hF) (a := by simp [go_sem, g, ztA hi87 hi88 (by first | assumption | (simp; assumption) | (simp; omega))])
     refine wB ?_
     obtain ⟨x93, g, hF⟩ := Rxq g hF
     refine wK [10, 22, 24, 26, 29, 31, 32, 34, 168, 169, 170, 178, 179, 180] ?_
     refine wX zuy follows ?_
     refine wH hF (fun h94 hF => ?_) fun h94 hF => ?_
     ·exact wV h94 (hj90 _) (zaa hF)
     obtain ⟨x95, g, hF⟩ := Rx g hF
     obtain ⟨x96, g, hF⟩ := Rx g hF
     exact wV h94 (hj90 _) (zaa hF)
    refine wB ?_
    obtain ⟨b61, hb62, hψ49⟩ := hF
    refine pR hb62 (fun i46 s45 => [(10, .v (vD z3.1)), (22, .v (vD z33.1)), (24, .v (vD z34.1)), (26, .v (vD s45)), (150, .rf 10 []), (151, .v (.int .i64 (z3.1.length : Int))), (152, .v (.int .i64 i46))]) (fun s45 _ hN63 => ?_) (fun i46 s45 _ _ hi50 hi51 ho47 hg48 hF => ?_)
    ·exact wn hN63 (hj42 _) hψ49
    refine wW ?_
    refine wu hi50 hi51 ?_
    refine wW ?_
    refine wJ hF (fun x54 => [(10, .v (vD z3.1)), (22, .v (vD z33.1)), (24, .v (vD z34.1)), (26, .v (vD x54)), (150, .rf 10 []), (151, .v (.int .i64 (z3.1.length : Int))), (152, .v (.int .i64 i46))]) (fun x54 hF => ?_) fun _ hj52 hF => ?_
    ·exact wi hi50 hi51 (hg48 _) (zaa hF)
    refine wB ?_
    obtain ⟨x55, g, hF⟩ := Rx g hF
    refine wK [10, 22, 24, 26, 27, 28, 150, 151, 152] ?_
    refine wJ hF (fun x58 => [(10, .v (vD z3.1)), (22, .v (vD z33.1)), (24, .v (vD z34.1)), (26, .v (vD s45)), (27, .v (.int .i64 i46)), (150, .rf 10 []), (151, .v (.int .i64 (z3.1.length : Int))), (152, .v (.int .i64 i46)), (162, .v (.bool x58))]) (fun x58 hF => ?_) fun _ hj56 hF => ?_
    ·refine wI hF (fun h60 hF => ?_) (fun h60 hF => ?_)
     ·obtain ⟨g, hF⟩ := Rg g hF
      exact wT (hj52 _) (zaa hF)
     exact wT (hj52 _) (zaa hF)
    refine wG hF (fun h59 hF => ?_) fun h59 hF => ?_
    ·exact wV h59 (hj56 _) (zaa hF)
    exact wV h59 (hj56 _) (zaa hF)
   refine wG hF (fun h38 hF => ?_) fun h38 hF => ?_
   ·exact wV h38 (hj35 _) (zaa hF)
   try simp [go_sem, g, h38]
   refine wG hF (fun h39 hF => ?_) fun h39 hF => ?_
   ·exact wV h39 (hj35 _) (zaa hF)
   try simp [go_sem, g, h39]
   try intros
   refine wG hF (fun h40 hF => ?_) fun h40 hF => ?_
   ·exact wV h40 (hj35 _) (zaa hF)
   try simp [go_sem, g, h40]
   try intros
   exact wT (hj35 _) (zaa hF)
  refine wB ?_
  obtain ⟨b29, hb30, hψ25⟩ := hF
  refine pR hb30 (fun i22 s21 => [(5, .bl [.int .i64 z2.1.P, .int .i64 z2.1.Q, .int .i64 z2.1.G]), (6, .v (.int .i64 z2.2.1)), (7, .v (.int .i64 z2.2.2.1)), (8, .v (vG z2.2.2.2.1)), (9, .v (vP z2.2.2.2.2)), (10, .v (vD z3.1)), (19, .v (vG s21)), (101, .v (vP z2.2.2.2.2)), (102, .v (.int .i64 (z2.2.2.2.2.length : Int))), (103, .v (.int .i64 i22))]) (fun s21 _ hN31 => ?_) (fun i22 s21 _ _ hi26 hi27 ho23 hg24 hF => ?_)
  ·exact wn hN31 (hj18 _) hψ25
  refine wW ?_
  refine wu hi26 hi27 ?_
  refine wW ?_
  refine wB ?_
  obtain ⟨x28, g, hF⟩ := Rx g hF
  obtain ⟨g, hF⟩ := Rg g hF
  refine wW ?_
  refine wK [5, 6, 7, 8, 9, 10, 19, 101, 102, 103] ?_
  exact wi hi26 hi27 (hg24 _) (zaa hF)
 refine wG hF (fun h11 hF => ?_) fun h11 hF => ?_
 ·exact wV h11 (hj8 _) (zaa hF)
 try simp [go_sem, g, h11]
 refine wC hF [.sh, .sh] ziA (fun z12 hF => ?_)
 try simp [go_sem, g, h11]
 refine wG hF (fun h13 hF => ?_) fun h13 hF => ?_
 ·exact wV h13 (hj8 _) (zaa hF)
 try simp [go_sem, g, h13]
 refine wG hF (fun h14 hF => ?_) fun h14 hF => ?_
 ·exact wV h14 (hj8 _) (zaa hF)
 try simp [go_sem, g, h14]
 refine wC hF [.sh, .sh] ziA (fun z15 hF => ?_)
 exact wV h14 (hj8 _) (zaa hF)
end
end Go.Pm
