/-
  Plain functions and their walks. Written by wip/tools/lift.py.
-/
import Derived.Test.YtanpbcjcbfhflaaGreatPS
namespace Go.Pm
open Go.Am IntKind
open Go.Proofs
set_option maxRecDepth 100000
attribute [local irreducible] pw pwx pw1 pwg qv qz qf
attribute [-simp] List.map_set
set_option linter.unusedSimpArgs false
set_option linter.unusedVariables false
structure Group where
 P : Int
 Q : Int
 G : Int
structure Contest where
 Kind : Int
 Options : Int
 Least : Int
 Most : Int
 Points : Int
structure l1Cur where
 code : (List Int)
 at_ : Int
 seed : Int
structure Cipher where
 A : Int
 B : Int
structure Proof where
 Commits : (List Int)
 Challenges : (List Int)
 Responses : (List Int)
structure Sealed where
 Voter : Int
 Ciphers : (List Cipher)
 Proofs : (List Proof)
 Sum : Proof
structure l3State where
 s : Int
 t : Int
structure EqualLog where
 G1 : Int
 Y1 : Int
 G2 : Int
 Y2 : Int
def row_u8 (x : Int) : List PV := [.int .u8 x]
@[go_sem] theorem row_u8_eq {x : Int} : row_u8 x = [.int .u8 x] := (rfl)
@[go_sem] theorem row_u8_drop {l : List Int} : List.map (List.map drop ∘ row_u8) l = l.map row_u8 := by refine List.map_congr_left fun x _ => ?_; simp [go_sem]
@[go_sem] theorem row_u8_drop' {l : List Int} : List.map (List.map drop) (l.map row_u8) = l.map row_u8 := by rw [List.map_map]; exact row_u8_drop
@[go_sem] theorem row_u8_set {l : List Int} {i : Nat} {a : Int} : (l.map row_u8).set i [.int .u8 a] = (l.set i a).map row_u8 := by rw [List.map_set]; rfl
def row_i64 (x : Int) : List PV := [.int .i64 x]
@[go_sem] theorem row_i64_eq {x : Int} : row_i64 x = [.int .i64 x] := (rfl)
@[go_sem] theorem row_i64_drop {l : List Int} : List.map (List.map drop ∘ row_i64) l = l.map row_i64 := by refine List.map_congr_left fun x _ => ?_; simp [go_sem]
@[go_sem] theorem row_i64_drop' {l : List Int} : List.map (List.map drop) (l.map row_i64) = l.map row_i64 := by rw [List.map_map]; exact row_i64_drop
@[go_sem] theorem row_i64_set {l : List Int} {i : Nat} {a : Int} : (l.map row_i64).set i [.int .i64 a] = (l.set i a).map row_i64 := by rw [List.map_set]; rfl
def row_zi64 (x : (List Int)) : List PV := [.sl false 1 (x.map row_i64)]
@[go_sem] theorem row_zi64_eq {x : (List Int)} : row_zi64 x = [.sl false 1 (x.map row_i64)] := (rfl)
@[go_sem] theorem row_zi64_drop {l : List (List Int)} : List.map (List.map drop ∘ row_zi64) l = l.map row_zi64 := by refine List.map_congr_left fun x _ => ?_; simp [go_sem]
@[go_sem] theorem row_zi64_drop' {l : List (List Int)} : List.map (List.map drop) (l.map row_zi64) = l.map row_zi64 := by rw [List.map_map]; exact row_zi64_drop
@[go_sem] theorem row_zi64_set {l : List (List Int)} {i : Nat} {a : (List Int)} : (l.map row_zi64).set i [.sl false 1 (a.map row_i64)] = (l.set i a).map row_zi64 := by rw [List.map_set]; rfl
def row_EqualLog (x : EqualLog) : List PV := [.int .i64 x.G1, .int .i64 x.Y1, .int .i64 x.G2, .int .i64 x.Y2]
@[go_sem] theorem row_EqualLog_eq {x : EqualLog} : row_EqualLog x = [.int .i64 x.G1, .int .i64 x.Y1, .int .i64 x.G2, .int .i64 x.Y2] := (rfl)
@[go_sem] theorem row_EqualLog_drop {l : List EqualLog} : List.map (List.map drop ∘ row_EqualLog) l = l.map row_EqualLog := by refine List.map_congr_left fun x _ => ?_; simp [go_sem]
@[go_sem] theorem row_EqualLog_drop' {l : List EqualLog} : List.map (List.map drop) (l.map row_EqualLog) = l.map row_EqualLog := by rw [List.map_map]; exact row_EqualLog_drop
@[go_sem] theorem row_EqualLog_set {l : List EqualLog} {i : Nat} {G1 : Int} {Y1 : Int} {G2 : Int} {Y2 : Int} : (l.map row_EqualLog).set i [.int .i64 G1, .int .i64 Y1, .int .i64 G2, .int .i64 Y2] = (l.set i (EqualLog.mk G1 Y1 G2 Y2)).map row_EqualLog := by rw [List.map_set]; rfl
def row_Cipher (x : Cipher) : List PV := [.int .i64 x.A, .int .i64 x.B]
@[go_sem] theorem row_Cipher_eq {x : Cipher} : row_Cipher x = [.int .i64 x.A, .int .i64 x.B] := (rfl)
@[go_sem] theorem row_Cipher_drop {l : List Cipher} : List.map (List.map drop ∘ row_Cipher) l = l.map row_Cipher := by refine List.map_congr_left fun x _ => ?_; simp [go_sem]
@[go_sem] theorem row_Cipher_drop' {l : List Cipher} : List.map (List.map drop) (l.map row_Cipher) = l.map row_Cipher := by rw [List.map_map]; exact row_Cipher_drop
@[go_sem] theorem row_Cipher_set {l : List Cipher} {i : Nat} {A : Int} {B : Int} : (l.map row_Cipher).set i [.int .i64 A, .int .i64 B] = (l.set i (Cipher.mk A B)).map row_Cipher := by rw [List.map_set]; rfl
def row_Proof_zzz (x : Proof) : List PV := [.sl false 1 (x.Commits.map row_i64), .sl false 1 (x.Challenges.map row_i64), .sl false 1 (x.Responses.map row_i64)]
@[go_sem] theorem row_Proof_zzz_eq {x : Proof} : row_Proof_zzz x = [.sl false 1 (x.Commits.map row_i64), .sl false 1 (x.Challenges.map row_i64), .sl false 1 (x.Responses.map row_i64)] := (rfl)
@[go_sem] theorem row_Proof_zzz_drop {l : List Proof} : List.map (List.map drop ∘ row_Proof_zzz) l = l.map row_Proof_zzz := by refine List.map_congr_left fun x _ => ?_; simp [go_sem]
@[go_sem] theorem row_Proof_zzz_drop' {l : List Proof} : List.map (List.map drop) (l.map row_Proof_zzz) = l.map row_Proof_zzz := by rw [List.map_map]; exact row_Proof_zzz_drop
@[go_sem] theorem row_Proof_zzz_set {l : List Proof} {i : Nat} {Commits : (List Int)} {Challenges : (List Int)} {Responses : (List Int)} : (l.map row_Proof_zzz).set i [.sl false 1 (Commits.map row_i64), .sl false 1 (Challenges.map row_i64), .sl false 1 (Responses.map row_i64)] = (l.set i (Proof.mk Commits Challenges Responses)).map row_Proof_zzz := by rw [List.map_set]; rfl
def row_Proof_ooo (x : Proof) : List PV := [.sl true 1 (x.Commits.map row_i64), .sl true 1 (x.Challenges.map row_i64), .sl true 1 (x.Responses.map row_i64)]
@[go_sem] theorem row_Proof_ooo_eq {x : Proof} : row_Proof_ooo x = [.sl true 1 (x.Commits.map row_i64), .sl true 1 (x.Challenges.map row_i64), .sl true 1 (x.Responses.map row_i64)] := (rfl)
@[go_sem] theorem row_Proof_ooo_drop {l : List Proof} : List.map (List.map drop ∘ row_Proof_ooo) l = l.map row_Proof_zzz := by refine List.map_congr_left fun x _ => ?_; simp [go_sem]
@[go_sem] theorem row_Proof_ooo_drop' {l : List Proof} : List.map (List.map drop) (l.map row_Proof_ooo) = l.map row_Proof_zzz := by rw [List.map_map]; exact row_Proof_ooo_drop
@[go_sem] theorem row_Proof_ooo_set {l : List Proof} {i : Nat} {Commits : (List Int)} {Challenges : (List Int)} {Responses : (List Int)} : (l.map row_Proof_ooo).set i [.sl true 1 (Commits.map row_i64), .sl true 1 (Challenges.map row_i64), .sl true 1 (Responses.map row_i64)] = (l.set i (Proof.mk Commits Challenges Responses)).map row_Proof_ooo := by rw [List.map_set]; rfl
noncomputable def F_laws_big (a0 : (List Int)) (a1 : (List Int)) : Option (Bool) :=
 ((if decide (1048576 < (a0.length : Int)) = true then (
 some true) else (
 some (decide ((i64.wrap (1048576 - (a0.length : Int))) < (a1.length : Int)))) : Option (Bool)).bind fun x3 =>
 some x3)
theorem c_laws_big : ∀ {a0} {a1} {r}, F_laws_big a0 a1 = some r → PCalls Tryz.prog 5 [(.sh, .sl false 1 (a0.map row_u8)), (.sh, .sl false 1 (a1.map row_u8))] (Eo (.bool r) [.junk, .junk]) := by
 intro a0 a1 r hr
 apply pF 16 [] [] [] [.tmp 4] hr cl5 Tryz.func5
 intro Φ hΦ hF g
 unfold F_laws_big at hF
 try simp [go_sem, g]
 refine pw_wk ?_
 repeat rw [sq]
 refine pJ hF (fun x3 => [(4, .v (.bool x3))]) (fun x3 hF => ?_) fun _ hj1 hF => ?_
 ·cases hΦ _ (Rn_some hF)
  try simp [go_sem, g]
 ·try simp [go_sem, g]
  try intros
  refine pwg_F hF (fun h4 hF => ?_) fun h4 hF => ?_
  ·try simp [go_sem, g, h4]
   exact pT (hj1 true) (Rn_some hF)
  ·try simp [go_sem, g, h4]
   try intros
   exact pT (hj1 (decide ((i64.wrap (1048576 - (a0.length : Int))) < (a1.length : Int)))) (Rn_some hF)
def D115_2 : List DE := [d0 0 [0], d0 1 [4], d0 2 [5], d0 3 [6], d0 4 [0], d0 5 [8], d0 6 [9], d0 7 [10], d0 8 [11], d0 9 [7, 12]]
def D115_3 : List DE := [d0 0 [0], d0 1 [14], d0 2 [15], d0 3 [16], d0 4 [0], d0 5 [18], d0 6 [19], d0 7 [20], d0 8 [17, 21], d0 9 [22], d0 10 [23], d0 11 [24]]
def D115_6 : List DE := [d0 0 [0], d0 1 [44], d0 2 [45], d0 3 [46], d0 4 [0], d0 5 [48], d0 6 [49], d0 7 [50], d0 8 [51], d0 9 [47, 52]]
noncomputable def F_spec_l1Cur_next__io0 (a0c0 : (List Int)) (a0c1 : Int) (a0c2 : Int) : Option (Int × ((List Int) × Int × Int)) :=
 ((if decide (a0c1 < (a0c0.length : Int)) = true then (
 (ix a0c0 a0c1).bind fun x5 =>
 some (i64.wrap x5)) else (
 some 0) : Option (Int)).bind fun x3 =>
 if decide ((i64.wrap (a0c1 + 1)) ≤ (a0c0.length : Int)) = true then (
 some (x3, (a0c0, i64.wrap (a0c1 + 1), u64.wrap ((u64.wrap ((u64.wrap (a0c2 * 6364136223846793005)) + (u64.wrap x3))) + 1442695040888963407)))) else (
 some (i64.wrap (u64.wrap ((BitVec.ofInt u64.bits ((u64.wrap ((u64.wrap ((u64.wrap (a0c2 * 6364136223846793005)) + (u64.wrap x3))) + 1442695040888963407)).fdiv 1099511627776) &&& BitVec.ofInt u64.bits 255).toNat)), (a0c0, i64.wrap (a0c1 + 1), u64.wrap ((u64.wrap ((u64.wrap (a0c2 * 6364136223846793005)) + (u64.wrap x3))) + 1442695040888963407)))))
theorem c_spec_l1Cur_next__io0 : ∀ {a0c0} {a0c1} {a0c2} {r}, F_spec_l1Cur_next__io0 a0c0 a0c1 a0c2 = some r → PCalls Tryz.prog 115 [(.io, .bx [.sl false 1 (a0c0.map row_u8), .int .i64 a0c1, .int .u64 a0c2])] (Eo (.int .i64 r.1) [.bx [.sl false 1 (r.2.1.map row_u8), .int .i64 r.2.2.1, .int .u64 r.2.2.2]]) := by
 intro a0c0 a0c1 a0c2 r hr
 apply pF 62 [0] [] [] [.tmp 2] hr cl115 Tryz.func115
 intro Φ hΦ hF g
 unfold F_spec_l1Cur_next__io0 at hF
 iterate 2 (try simp [go_sem, g]; refine pw_wk ?_)
 repeat rw [sq]
 refine pw_draw D115_2 follows (by kernel_rfl) rfl ?_
 try simp only [go_sem, D115_2]
 try simp [go_sem, g]
 try intros
 refine pw_wkK [0, 3, 13] (by simp [go_sem, g]; rfl) ?_
 repeat rw [sq]
 refine pJ hF (fun x3 => [(0, .v (.bx [.sl false 1 (a0c0.map row_u8), .int .i64 a0c1, .int .u64 a0c2])), (3, .v (.int .i64 x3))]) (fun x3 hF => ?_) fun _ hj1 hF => ?_
 ·try simp [go_sem, g]
  refine pw_wk ?_
  try simp [go_sem, g]
  refine pw_wkK [0, 3] (by simp [go_sem, g]; rfl) ?_
  repeat rw [sq]
  refine pw_draw D115_6 follows (by kernel_rfl) rfl ?_
  try simp only [go_sem, D115_6]
  try simp [go_sem, g]
  try intros
  refine pw_wkK [0, 3, 53] (by simp [go_sem, g]; rfl) ?_
  repeat rw [sq]
  refine pI hF (fun h6 hF => ?_) (fun h6 hF => ?_)
  ·cases hΦ _ (Rn_some hF)
   try simp [go_sem, g]
   refine pw_wk ?_
   try simp [go_sem, g]
  ·have g := Ls g 40
   cases hΦ _ (Rn_some hF)
   iterate 2 (try simp [go_sem, g]; refine pw_wk ?_)
   try simp [go_sem, g]
 ·repeat rw [sq]
  refine pI hF (fun h4 hF => ?_) (fun h4 hF => ?_)
  ·repeat rw [sq]
   refine pw_draw D115_3 follows (by kernel_rfl) rfl ?_
   try simp only [go_sem, D115_3]
   obtain ⟨x5, g, hF⟩ := Rx g hF
   try simp [go_sem, g]
   exact pT (hj1 (i64.wrap x5)) (Rn_some hF)
  ·try simp [go_sem, g]
   exact pT (hj1 0) (Rn_some hF)
noncomputable def F_spec_l1Cur_pick__io0 (a0c0 : (List Int)) (a0c1 : Int) (a0c2 : Int) (a1 : Int) : Option (Int × ((List Int) × Int × Int)) :=
 if decide (a1 ≤ 1) = true then (
 some (0, (a0c0, a0c1, a0c2))) else (
 (F_spec_l1Cur_next__io0 a0c0 a0c1 a0c2).bind fun z2 =>
 ((if decide (200 < a1) = true then (
 (F_spec_l1Cur_next__io0 z2.2.1 z2.2.2.1 z2.2.2.2).bind fun z7 =>
 some ((z7.2.1, z7.2.2.1, z7.2.2.2), i64.wrap ((i64.wrap (z2.1 * 256)) + z7.1))) else (
 some ((z2.2.1, z2.2.2.1, z2.2.2.2), z2.1)) : Option ((((List Int) × Int × Int) × Int))).bind fun x5 =>
 gd (a1 ≠ 0) <|
 some (x5.2.tmod a1, (x5.1.1, x5.1.2.1, x5.1.2.2))))
theorem c_spec_l1Cur_pick__io0 : ∀ {a0c0} {a0c1} {a0c2} {a1} {r}, F_spec_l1Cur_pick__io0 a0c0 a0c1 a0c2 a1 = some r → PCalls Tryz.prog 50 [(.io, .bx [.sl false 1 (a0c0.map row_u8), .int .i64 a0c1, .int .u64 a0c2]), (.sh, .int .i64 a1)] (Eo (.int .i64 r.1) [.bx [.sl false 1 (r.2.1.map row_u8), .int .i64 r.2.2.1, .int .u64 r.2.2.2], .junk]) := by
 intro a0c0 a0c1 a0c2 a1 r hr
 apply pF 20 [0] [] [] [.tmp 4] hr cl50 Tryz.func50
 intro Φ hΦ hF g
 unfold F_spec_l1Cur_pick__io0 at hF
 iterate 2 (try simp [go_sem, g]; refine pw_wk ?_)
 repeat rw [sq]
 refine pI hF (fun h1 hF => ?_) (fun h1 hF => ?_)
 ·cases hΦ _ (Rn_some hF)
  try simp [go_sem, g]
  refine pw_wk ?_
  try simp [go_sem, g]
 ·try simp [go_sem, g]
  refine pw_wk ?_
  try simp [go_sem, g]
  refine pC hF [.io] c_spec_l1Cur_next__io0 (fun z2 hF => ?_)
  iterate 2 (try simp [go_sem, g]; refine pw_wk ?_)
  repeat rw [sq]
  refine pJ hF (fun x5 => [(0, .v (.bx [.sl false 1 (x5.1.1.map row_u8), .int .i64 x5.1.2.1, .int .u64 x5.1.2.2])), (1, .v (.int .i64 a1)), (5, .v (.int .i64 x5.2))]) (fun x5 hF => ?_) fun _ hj3 hF => ?_
  ·obtain ⟨g, hF⟩ := Rz g hF
   try simp [go_sem, g]
   refine pw_wkK [0, 4] (by simp [go_sem, g]; rfl) ?_
   cases hΦ _ (Rn_some hF)
   try simp [go_sem, g]
  ·repeat rw [sq]
   refine pI hF (fun h6 hF => ?_) (fun h6 hF => ?_)
   ·try simp [go_sem, g]
    refine pC hF [.io] c_spec_l1Cur_next__io0 (fun z7 hF => ?_)
    try simp [go_sem, g]
    exact pT (hj3 ((z7.2.1, z7.2.2.1, z7.2.2.2), i64.wrap ((i64.wrap (z2.1 * 256)) + z7.1))) (Rn_some hF)
   ·try simp [go_sem, g]
    exact pT (hj3 ((z2.2.1, z2.2.2.1, z2.2.2.2), z2.1)) (Rn_some hF)
noncomputable def F_spec_l1Cur_among__io0 (a0c0 : (List Int)) (a0c1 : Int) (a0c2 : Int) (a1 : (List Int)) : Option (Int × ((List Int) × Int × Int)) :=
 (F_spec_l1Cur_pick__io0 a0c0 a0c1 a0c2 (a1.length : Int)).bind fun z1 =>
 (ix a1 z1.1).bind fun x2 =>
 some (x2, (z1.2.1, z1.2.2.1, z1.2.2.2))
theorem c_spec_l1Cur_among__io0 : ∀ {a0c0} {a0c1} {a0c2} {a1} {r}, F_spec_l1Cur_among__io0 a0c0 a0c1 a0c2 a1 = some r → PCalls Tryz.prog 48 [(.io, .bx [.sl false 1 (a0c0.map row_u8), .int .i64 a0c1, .int .u64 a0c2]), (.sh, .sl false 1 (a1.map row_i64))] (Eo (.int .i64 r.1) [.bx [.sl false 1 (r.2.1.map row_u8), .int .i64 r.2.2.1, .int .u64 r.2.2.2], .junk]) := by
 intro a0c0 a0c1 a0c2 a1 r hr
 apply pF 12 [0] [] [] [.tmp 4] hr cl48 Tryz.func48
 intro Φ hΦ hF g
 unfold F_spec_l1Cur_among__io0 at hF
 try simp [go_sem, g]
 try intros
 refine pw_wk ?_
 try simp [go_sem, g]
 try intros
 refine pC hF [.io, .sh] c_spec_l1Cur_pick__io0 (fun z1 hF => ?_)
 obtain ⟨x2, g, hF⟩ := Rx g hF
 cases hΦ _ (Rn_some hF)
 try simp [go_sem, g]
 refine pw_wk ?_
 try simp [go_sem, g]
noncomputable def F_spec_l1Cur_among__io0_mv1 (a0c0 : (List Int)) (a0c1 : Int) (a0c2 : Int) (a1 : (List Int)) : Option (Int × ((List Int) × Int × Int)) :=
 (F_spec_l1Cur_pick__io0 a0c0 a0c1 a0c2 (a1.length : Int)).bind fun z1 =>
 (ix a1 z1.1).bind fun x2 =>
 some (x2, (z1.2.1, z1.2.2.1, z1.2.2.2))
theorem c_spec_l1Cur_among__io0_mv1 : ∀ {a0c0} {a0c1} {a0c2} {a1} {r}, F_spec_l1Cur_among__io0_mv1 a0c0 a0c1 a0c2 a1 = some r → PCalls Tryz.prog 48 [(.io, .bx [.sl false 1 (a0c0.map row_u8), .int .i64 a0c1, .int .u64 a0c2]), (.mv, .sl true 1 (a1.map row_i64))] (Eo (.int .i64 r.1) [.bx [.sl false 1 (r.2.1.map row_u8), .int .i64 r.2.2.1, .int .u64 r.2.2.2], .junk]) := by
 intro a0c0 a0c1 a0c2 a1 r hr
 apply pF 12 [0] [] [] [.tmp 4] hr cl48 Tryz.func48
 intro Φ hΦ hF g
 unfold F_spec_l1Cur_among__io0_mv1 at hF
 try simp [go_sem, g]
 try intros
 refine pw_wk ?_
 try simp [go_sem, g]
 try intros
 refine pC hF [.io, .sh] c_spec_l1Cur_pick__io0 (fun z1 hF => ?_)
 obtain ⟨x2, g, hF⟩ := Rx g hF
 cases hΦ _ (Rn_some hF)
 try simp [go_sem, g]
 refine pw_wk ?_
 try simp [go_sem, g]
noncomputable def F_spec_l1In (a0 : Int) (a1 : Int) (a2 : Int) : Option (Bool) :=
 ((if decide (a1 ≤ a0) = true then (
 some (decide (a0 ≤ a2))) else (
 some false) : Option (Bool)).bind fun x3 =>
 some x3)
theorem c_spec_l1In : ∀ {a0} {a1} {a2} {r}, F_spec_l1In a0 a1 a2 = some r → PCalls Tryz.prog 32 [(.sh, .int .i64 a0), (.sh, .int .i64 a1), (.sh, .int .i64 a2)] (Eo (.bool r) [.junk, .junk, .junk]) := by
 intro a0 a1 a2 r hr
 apply pF 15 [] [] [] [.tmp 6] hr cl32 Tryz.func32
 intro Φ hΦ hF g
 unfold F_spec_l1In at hF
 try simp [go_sem, g]
 refine pw_wk ?_
 repeat rw [sq]
 refine pJ hF (fun x3 => [(6, .v (.bool x3))]) (fun x3 hF => ?_) fun _ hj1 hF => ?_
 ·cases hΦ _ (Rn_some hF)
  try simp [go_sem, g]
 ·try simp [go_sem, g]
  refine pwg_F hF (fun h4 hF => ?_) fun h4 hF => ?_
  ·try simp [go_sem, g, h4]
   exact pT (hj1 (decide (a0 ≤ a2))) (Rn_some hF)
  ·try simp [go_sem, g, h4]
   exact pT (hj1 false) (Rn_some hF)
noncomputable def F_spec_nPrime (a0 : Int) : Option (Bool) :=
 if decide (a0 < 2) = true then (
 some false) else (
 ((wloop (σ := Int) (fun s5 =>
 if decide ((i64.wrap (s5 * s5)) ≤ a0) = true then (
 gd (s5 ≠ 0) <|
 if ((a0.tmod s5) == 0) = true then (
 some (.out (.inr false))) else (
 some (.go (i64.wrap (s5 + 1))))) else (
 some (.out (.inl ())))) 2 : Option (Unit ⊕ Bool)).bind (Sum.elim (fun x4 =>
 some true) some)))
theorem c_spec_nPrime : ∀ {a0} {r}, F_spec_nPrime a0 = some r → PCalls Tryz.prog 87 [(.sh, .int .i64 a0)] (Eo (.bool r) [.junk]) := by
 intro a0 r hr
 apply pF 17 [] [] [] [.tmp 2] hr cl87 Tryz.func87
 intro Φ hΦ hF g
 unfold F_spec_nPrime at hF
 iterate 2 (try simp [go_sem, g]; refine pw_wk ?_)
 repeat rw [sq]
 refine pI hF (fun h1 hF => ?_) (fun h1 hF => ?_)
 ·cases hΦ _ (Rn_some hF)
  try simp [go_sem, g]
  refine pw_wk ?_
  try simp [go_sem, g]
 ·iterate 2 (try simp [go_sem, g]; refine pw_wk ?_)
  repeat rw [sq]
  refine pJs hF (fun x4 => []) (fun x4 hF => ?_) fun _ hj2 hr3 hF => ?_
  ·cases hΦ _ (Rn_some hF)
   try simp [go_sem, g]
   refine pw_wk ?_
   try simp [go_sem, g]
  ·repeat rw [sq]
   rw [pw_block]
   obtain ⟨b12, hb13, hψ9⟩ := hF
   refine pL hb13 (fun s5 => [(0, .v (.int .i64 a0)), (3, .v (.int .i64 s5))]) (fun s5 _ _ ho7 hg8 hF => ?_)
   try simp [go_sem, g]
   refine pw_wk ?_
   repeat rw [sq]
   refine pI hF (fun h10 hF => ?_) (fun h10 hF => ?_)
   ·try simp [go_sem, g]
    refine pw_wk ?_
    repeat rw [sq]
    rw [pw_block]
    obtain ⟨g, hF⟩ := Rz g hF
    try simp [go_sem, g]
    refine pw_wkK [0, 3, 16] (by simp [go_sem, g]; rfl) ?_
    repeat rw [sq]
    refine pI hF (fun h11 hF => ?_) (fun h11 hF => ?_)
    ·cases ho7 _ (Rn_some hF)
     cases hΦ _ (hr3 _ hψ9)
     try simp [go_sem, g]
     refine pw_wk ?_
     try simp [go_sem, g]
    ·try simp [go_sem, g]
     refine pw_wk ?_
     try simp [go_sem, g]
     exact pT (hg8 (i64.wrap (s5 + 1))) (Rn_some hF)
   ·try simp [go_sem, g]
    cases ho7 _ (Rn_some hF)
    exact pT (hj2 ()) hψ9
noncomputable def F_spec_nPower (a0 : Int) (a1 : Int) (a2 : Int) : Option (Int) :=
 gd (a2 ≠ 0) <|
 ((wloop (σ := Int × Int × Int) (fun s4 =>
 if decide (0 < s4.2.1) = true then (
 ((if ((s4.2.1.tmod 2) == 1) = true then (
 gd (a2 ≠ 0) <|
 some ((i64.wrap (s4.2.2 * s4.1)).tmod a2)) else (
 some s4.2.2) : Option (Int)).bind fun x12 =>
 gd (a2 ≠ 0) <|
 some (.go ((i64.wrap (s4.1 * s4.1)).tmod a2, i64.wrap (s4.2.1.tdiv 2), x12)))) else (
 some (.out s4.2.2))) (a0, a1, (1 : Int).tmod a2) : Option (Int)).bind fun x3 =>
 some x3)
theorem c_spec_nPower : ∀ {a0} {a1} {a2} {r}, F_spec_nPower a0 a1 a2 = some r → PCalls Tryz.prog 86 [(.sh, .int .i64 a0), (.sh, .int .i64 a1), (.sh, .int .i64 a2)] (Eo (.int .i64 r) [.junk, .junk, .junk]) := by
 intro a0 a1 a2 r hr
 apply pF 28 [] [] [] [.tmp 6] hr cl86 Tryz.func86
 intro Φ hΦ hF g
 unfold F_spec_nPower at hF
 obtain ⟨g, hF⟩ := Rz g hF
 iterate 2 (try simp [go_sem, g]; refine pw_wk ?_)
 repeat rw [sq]
 refine pJ hF (fun x3 => [(7, .v (.int .i64 x3))]) (fun x3 hF => ?_) fun _ hj1 hF => ?_
 ·cases hΦ _ (Rn_some hF)
  try simp [go_sem, g]
  refine pw_wk ?_
  try simp [go_sem, g]
 ·repeat rw [sq]
  rw [pw_block]
  obtain ⟨b14, hb15, hψ8⟩ := hF
  refine pL hb15 (fun s4 => [(0, .v (.int .i64 s4.1)), (1, .v (.int .i64 s4.2.1)), (2, .v (.int .i64 a2)), (7, .v (.int .i64 s4.2.2))]) (fun s4 _ _ ho6 hg7 hF => ?_)
  try simp [go_sem, g]
  refine pw_wk ?_
  repeat rw [sq]
  refine pI hF (fun h9 hF => ?_) (fun h9 hF => ?_)
  ·try simp [go_sem, g]
   refine pw_wk ?_
   repeat rw [sq]
   rw [pw_block]
   have g := Ld g 2
   try simp [go_sem, g]
   refine pw_wk ?_
   repeat rw [sq]
   refine pJ hF (fun x12 => [(0, .v (.int .i64 s4.1)), (1, .v (.int .i64 s4.2.1)), (2, .v (.int .i64 a2)), (7, .v (.int .i64 x12))]) (fun x12 hF => ?_) fun _ hj10 hF => ?_
   ·obtain ⟨g, hF⟩ := Rz g hF
    try simp [go_sem, g]
    refine pw_wkK [0, 1, 2, 7] (by simp [go_sem, g]; rfl) ?_
    try simp [go_sem, g]
    exact pT (hg7 ((i64.wrap (s4.1 * s4.1)).tmod a2, i64.wrap (s4.2.1.tdiv 2), x12)) (Rn_some hF)
   ·repeat rw [sq]
    refine pI hF (fun h13 hF => ?_) (fun h13 hF => ?_)
    ·obtain ⟨g, hF⟩ := Rz g hF
     try simp [go_sem, g]
     exact pT (hj10 ((i64.wrap (s4.2.2 * s4.1)).tmod a2)) (Rn_some hF)
    ·try simp [go_sem, g]
     exact pT (hj10 s4.2.2) (Rn_some hF)
  ·try simp [go_sem, g]
   cases ho6 _ (Rn_some hF)
   exact pT (hj1 s4.2.2) hψ8
noncomputable def F_spec_MakeGroup (a0 : Int) : Option (Group × Bool) :=
 (((F_spec_l1In a0 2 1000000).bind fun z4 =>
 if (!z4) = true then (
 some true) else (
 (F_spec_nPrime a0).bind fun z6 =>
 some (!z6)) : Option (Bool)).bind fun x3 =>
 if x3 = true then (
 some ((Group.mk 0 0 0), false)) else (
 ((wloop (σ := Int) (fun s11 =>
 if decide (s11 ≤ 2000000000) = true then (
 (F_spec_nPrime s11).bind fun z17 =>
 if (!z17) = true then (
 some (.go (i64.wrap (s11 + a0)))) else (
 ((wloop (σ := Int) (fun s22 =>
 gd (a0 ≠ 0) <|
 (F_spec_nPower s22 (i64.wrap ((i64.wrap (s11 - 1)).tdiv a0)) s11).bind fun z27 =>
 if (z27 == 1) = true then (
 some (.go (i64.wrap (s22 + 1)))) else (
 some (.out s22))) 2 : Option (Int)).bind fun x21 =>
 gd (a0 ≠ 0) <|
 (F_spec_nPower x21 (i64.wrap ((i64.wrap (s11 - 1)).tdiv a0)) s11).bind fun z31 =>
 some (.out (.inr ((Group.mk s11 a0 z31), true)))))) else (
 some (.out (.inl ())))) (i64.wrap (a0 + 1)) : Option (Unit ⊕ (Group × Bool))).bind (Sum.elim (fun x10 =>
 some ((Group.mk 0 0 0), false)) some))))
theorem c_spec_MakeGroup : ∀ {a0} {r}, F_spec_MakeGroup a0 = some r → PCalls Tryz.prog 113 [(.sh, .int .i64 a0)] (Eo (.tup [.agg [.int .i64 r.1.P, .int .i64 r.1.Q, .int .i64 r.1.G], .bool r.2]) [.junk]) := by
 intro a0 r hr
 apply pF 46 [] [] [] [.cell 2 25, .tmp 3] hr cl113 Tryz.func113
 intro Φ hΦ hF g
 unfold F_spec_MakeGroup at hF
 try simp [go_sem, g]
 refine pw_wk ?_
 repeat rw [sq]
 refine pJ hF (fun x3 => [(0, .v (.int .i64 a0)), (2, .bl [.int .i64 0, .int .i64 0, .int .i64 0]), (13, .v (.bool x3))]) (fun x3 hF => ?_) fun _ hj1 hF => ?_
 ·repeat rw [sq]
  refine pI hF (fun h7 hF => ?_) (fun h7 hF => ?_)
  ·cases hΦ _ (Rn_some hF)
   try simp [go_sem, g]
   refine pw_wk ?_
   try simp [go_sem, g]
  ·iterate 2 (try simp [go_sem, g]; refine pw_wk ?_)
   repeat rw [sq]
   refine pJs hF (fun x10 => [(2, .bl [.int .i64 0, .int .i64 0, .int .i64 0])]) (fun x10 hF => ?_) fun _ hj8 hr9 hF => ?_
   ·cases hΦ _ (Rn_some hF)
    try simp [go_sem, g]
    refine pw_wk ?_
    try simp [go_sem, g]
   ·repeat rw [sq]
    rw [pw_block]
    obtain ⟨b32, hb33, hψ15⟩ := hF
    refine pL hb33 (fun s11 => [(0, .v (.int .i64 a0)), (2, .bl [.int .i64 0, .int .i64 0, .int .i64 0]), (4, .v (.int .i64 s11))]) (fun s11 _ _ ho13 hg14 hF => ?_)
    try simp [go_sem, g]
    refine pw_wk ?_
    repeat rw [sq]
    refine pI hF (fun h16 hF => ?_) (fun h16 hF => ?_)
    ·try simp [go_sem, g]
     refine pw_wk ?_
     repeat rw [sq]
     rw [pw_block]
     try simp [go_sem, g]
     refine pC hF [.sh] c_spec_nPrime (fun z17 hF => ?_)
     try simp [go_sem, g]
     refine pw_wkK [0, 2, 4, 24] (by simp [go_sem, g]; rfl) ?_
     repeat rw [sq]
     refine pI hF (fun h18 hF => ?_) (fun h18 hF => ?_)
     ·try simp [go_sem, g]
      refine pw_wk ?_
      try simp [go_sem, g]
      exact pT (hg14 (i64.wrap (s11 + a0))) (Rn_some hF)
     ·iterate 2 (try simp [go_sem, g]; refine pw_wk ?_)
      repeat rw [sq]
      refine pJ hF (fun x21 => [(0, .v (.int .i64 a0)), (2, .bl [.int .i64 0, .int .i64 0, .int .i64 0]), (4, .v (.int .i64 s11)), (5, .v (.int .i64 x21))]) (fun x21 hF => ?_) fun _ hj19 hF => ?_
      ·obtain ⟨g, hF⟩ := Rz g hF
       try simp [go_sem, g]
       refine pC hF [.sh, .sh, .sh] c_spec_nPower (fun z31 hF => ?_)
       try simp [go_sem, g]
       refine pw_wkK [2, 3] (by simp [go_sem, g]; rfl) ?_
       cases ho13 _ (Rn_some hF)
       cases hΦ _ (hr9 _ hψ15)
       try simp [go_sem, g]
      ·repeat rw [sq]
       rw [pw_block]
       obtain ⟨b29, hb30, hψ26⟩ := hF
       refine pL hb30 (fun s22 => [(0, .v (.int .i64 a0)), (2, .bl [.int .i64 0, .int .i64 0, .int .i64 0]), (4, .v (.int .i64 s11)), (5, .v (.int .i64 s22))]) (fun s22 _ _ ho24 hg25 hF => ?_)
       obtain ⟨g, hF⟩ := Rz g hF
       try simp [go_sem, g]
       refine pC hF [.sh, .sh, .sh] c_spec_nPower (fun z27 hF => ?_)
       try simp [go_sem, g]
       refine pw_wk ?_
       repeat rw [sq]
       refine pI hF (fun h28 hF => ?_) (fun h28 hF => ?_)
       ·try simp [go_sem, g]
        refine pw_wk ?_
        repeat rw [sq]
        rw [pw_block]
        try simp [go_sem, g]
        exact pT (hg25 (i64.wrap (s22 + 1))) (Rn_some hF)
       ·try simp [go_sem, g]
        cases ho24 _ (Rn_some hF)
        first | exact pT (hj19 s22) hψ26 | exact pT (hj19 _) hψ26
    ·try simp [go_sem, g]
     cases ho13 _ (Rn_some hF)
     exact pT (hj8 ()) hψ15
 ·try simp [go_sem, g]
  refine pC hF [.sh, .sh, .sh] c_spec_l1In (fun z4 hF => ?_)
  try simp [go_sem, g]
  refine pwg_F hF (fun h5 hF => ?_) fun h5 hF => ?_
  ·try simp [go_sem, g, h5]
   exact pT (hj1 true) (Rn_some hF)
  ·try simp [go_sem, g, h5]
   refine pC hF [.sh] c_spec_nPrime (fun z6 hF => ?_)
   try simp [go_sem, g, h5]
   exact pT (hj1 (!z6)) (Rn_some hF)
noncomputable def F_spec_l1Cur_tiny__io0 (a0c0 : (List Int)) (a0c1 : Int) (a0c2 : Int) : Option (Group × ((List Int) × Int × Int)) :=
 (F_spec_l1Cur_among__io0_mv1 a0c0 a0c1 a0c2 [3, 5, 5, 7, 11, 11, 13, 23]).bind fun z1 =>
 (F_spec_MakeGroup z1.1).bind fun z2 =>
 some (z2.1, (z1.2.1, z1.2.2.1, z1.2.2.2))
theorem c_spec_l1Cur_tiny__io0 : ∀ {a0c0} {a0c1} {a0c2} {r}, F_spec_l1Cur_tiny__io0 a0c0 a0c1 a0c2 = some r → PCalls Tryz.prog 168 [(.io, .bx [.sl false 1 (a0c0.map row_u8), .int .i64 a0c1, .int .u64 a0c2])] (Eo (.agg [.int .i64 r.1.P, .int .i64 r.1.Q, .int .i64 r.1.G]) [.bx [.sl false 1 (r.2.1.map row_u8), .int .i64 r.2.2.1, .int .u64 r.2.2.2]]) := by
 intro a0c0 a0c1 a0c2 r hr
 apply pF 13 [0] [] [] [.cell 2 25] hr cl168 Tryz.func168
 intro Φ hΦ hF g
 unfold F_spec_l1Cur_tiny__io0 at hF
 try simp [go_sem, g]
 refine pw_wk ?_
 try simp [go_sem, g]
 refine pC hF [.io, .mv] c_spec_l1Cur_among__io0_mv1 (fun z1 hF => ?_)
 try simp [go_sem, g]
 refine pC hF [.sh] c_spec_MakeGroup (fun z2 hF => ?_)
 try simp [go_sem, g]
 refine pw_wkK [0, 2, 3] (by simp [go_sem, g]; rfl) ?_
 cases hΦ _ (Rn_some hF)
 try simp [go_sem, g]
 refine pw_wk ?_
 try simp [go_sem, g]
noncomputable def F_spec_nMod (a0 : Int) (a1 : Int) : Option (Int) :=
 gd (a1 ≠ 0) <|
 gd (a1 ≠ 0) <|
 some ((i64.wrap ((a0.tmod a1) + a1)).tmod a1)
theorem c_spec_nMod : ∀ {a0} {a1} {r}, F_spec_nMod a0 a1 = some r → PCalls Tryz.prog 89 [(.sh, .int .i64 a0), (.sh, .int .i64 a1)] (Eo (.int .i64 r) [.junk, .junk]) := by
 intro a0 a1 r hr
 apply pF 12 [] [] [] [.tmp 4] hr cl89 Tryz.func89
 intro Φ hΦ hF g
 unfold F_spec_nMod at hF
 obtain ⟨g, hF⟩ := Rz g hF
 obtain ⟨g, hF⟩ := Rz g hF
 cases hΦ _ (Rn_some hF)
 iterate 2 (try simp [go_sem, g]; refine pw_wk ?_)
 try simp [go_sem, g]
def D29_1 : List DE := [d0 0 [1], d0 1 [2], d1 2 [3] 3, d2 3 [9] 3 9, d1 5 [3] 3, d2 6 [12] 3 12, d3 4 [8, 10], d3 7 [7, 11, 13], d0 8 [14]]
noncomputable def F_spec_gExp (a0 : Group) (a1 : Int) (a2 : Int) : Option (Int) :=
 (F_spec_nMod a2 a0.Q).bind fun z1 =>
 (F_spec_nPower a1 z1 a0.P).bind fun z2 =>
 some z2
theorem c_spec_gExp : ∀ {a0} {a1} {a2} {r}, F_spec_gExp a0 a1 a2 = some r → PCalls Tryz.prog 29 [(.sh, .agg [.int .i64 a0.P, .int .i64 a0.Q, .int .i64 a0.G]), (.sh, .int .i64 a1), (.sh, .int .i64 a2)] (Eo (.int .i64 r) [.junk, .junk, .junk]) := by
 intro a0 a1 a2 r hr
 apply pF 15 [] [] [] [.tmp 6] hr cl29 Tryz.func29
 intro Φ hΦ hF g
 unfold F_spec_gExp at hF
 try simp [go_sem, g]
 refine pw_wk ?_
 repeat rw [sq]
 refine pw_draw D29_1 follows (by kernel_rfl) rfl ?_
 try simp only [go_sem, D29_1]
 try simp [go_sem, g]
 refine pC hF [.sh, .sh] c_spec_nMod (fun z1 hF => ?_)
 try simp [go_sem, g]
 refine pC hF [.sh, .sh, .sh] c_spec_nPower (fun z2 hF => ?_)
 try simp [go_sem, g]
 refine pw_wkK [6] (by simp [go_sem, g]; rfl) ?_
 cases hΦ _ (Rn_some hF)
 try simp [go_sem, g]
def D131_8 : List DE := [d2 0 [5] 5 5, d1 1 [5] 5, d2 2 [24] 5 24, d0 3 [0], d1 4 [5] 5, d2 5 [27] 5 27, d0 6 [28], d3 7 [26, 29], d0 8 [30], d3 9 [23, 25, 31], d1 10 [5] 5, d2 11 [33, 32] 5 33]
noncomputable def F_spec_l1Cur_group__io0 (a0c0 : (List Int)) (a0c1 : Int) (a0c2 : Int) : Option (Group × ((List Int) × Int × Int)) :=
 (F_spec_l1Cur_pick__io0 a0c0 a0c1 a0c2 6).bind fun z1 =>
 if (z1.1 == 0) = true then (
 some ((Group.mk 1000000007 500000003 4), (z1.2.1, z1.2.2.1, z1.2.2.2))) else (
 if (z1.1 == 1) = true then (
 (F_spec_l1Cur_among__io0_mv1 z1.2.1 z1.2.2.1 z1.2.2.2 [101, 1009, 1019, 65537, 999983]).bind fun z4 =>
 (F_spec_MakeGroup z4.1).bind fun z5 =>
 some (z5.1, (z4.2.1, z4.2.2.1, z4.2.2.2))) else (
 (F_spec_l1Cur_tiny__io0 z1.2.1 z1.2.2.1 z1.2.2.2).bind fun z6 =>
 (F_spec_l1Cur_pick__io0 z6.2.1 z6.2.2.1 z6.2.2.2 (i64.wrap (z6.1.Q - 1))).bind fun z7 =>
 (F_spec_gExp z6.1 z6.1.G (i64.wrap (1 + z7.1))).bind fun z8 =>
 some ((Group.mk z6.1.P z6.1.Q z8), (z7.2.1, z7.2.2.1, z7.2.2.2))))
theorem c_spec_l1Cur_group__io0 : ∀ {a0c0} {a0c1} {a0c2} {r}, F_spec_l1Cur_group__io0 a0c0 a0c1 a0c2 = some r → PCalls Tryz.prog 131 [(.io, .bx [.sl false 1 (a0c0.map row_u8), .int .i64 a0c1, .int .u64 a0c2])] (Eo (.agg [.int .i64 r.1.P, .int .i64 r.1.Q, .int .i64 r.1.G]) [.bx [.sl false 1 (r.2.1.map row_u8), .int .i64 r.2.2.1, .int .u64 r.2.2.2]]) := by
 intro a0c0 a0c1 a0c2 r hr
 apply pF 35 [0] [] [] [.cell 2 25] hr cl131 Tryz.func131
 intro Φ hΦ hF g
 unfold F_spec_l1Cur_group__io0 at hF
 try simp [go_sem, g]
 refine pw_wk ?_
 try simp [go_sem, g]
 refine pC hF [.io, .sh] c_spec_l1Cur_pick__io0 (fun z1 hF => ?_)
 try simp [go_sem, g]
 refine pw_wk ?_
 repeat rw [sq]
 rw [pw_block]
 try simp [go_sem, g]
 refine pw_wk ?_
 repeat rw [sq]
 refine pI hF (fun h2 hF => ?_) (fun h2 hF => ?_)
 ·cases hΦ _ (Rn_some hF)
  try simp [go_sem, g]
  refine pw_wk ?_
  try simp [go_sem, g]
 ·try simp [go_sem, g]
  refine pw_wk ?_
  repeat rw [sq]
  refine pI hF (fun h3 hF => ?_) (fun h3 hF => ?_)
  ·try simp [go_sem, g]
   refine pC hF [.io, .mv] c_spec_l1Cur_among__io0_mv1 (fun z4 hF => ?_)
   try simp [go_sem, g]
   refine pC hF [.sh] c_spec_MakeGroup (fun z5 hF => ?_)
   try simp [go_sem, g]
   refine pw_wkK [0, 2, 3] (by simp [go_sem, g]; rfl) ?_
   cases hΦ _ (Rn_some hF)
   try simp [go_sem, g]
   refine pw_wk ?_
   try simp [go_sem, g]
  ·try simp [go_sem, g]
   refine pw_wk ?_
   try simp [go_sem, g]
   refine pC hF [.io] c_spec_l1Cur_tiny__io0 (fun z6 hF => ?_)
   try simp [go_sem, g]
   refine pw_wkK [0, 2, 5] (by simp [go_sem, g]; rfl) ?_
   repeat rw [sq]
   refine pw_draw D131_8 follows (by kernel_rfl) rfl ?_
   try simp only [go_sem, D131_8]
   try simp [go_sem, g]
   refine pC hF [.io, .sh] c_spec_l1Cur_pick__io0 (fun z7 hF => ?_)
   try simp [go_sem, g]
   refine pC hF [.sh, .sh, .sh] c_spec_gExp (fun z8 hF => ?_)
   try simp [go_sem, g]
   refine pw_wkK [0, 2, 5] (by simp [go_sem, g]; rfl) ?_
   cases hΦ _ (Rn_some hF)
   try simp [go_sem, g]
   refine pw_wk ?_
   try simp [go_sem, g]
noncomputable def F_spec_l1Cur_anyGroup__io0 (a0c0 : (List Int)) (a0c1 : Int) (a0c2 : Int) : Option (Group × ((List Int) × Int × Int)) :=
 (F_spec_l1Cur_group__io0 a0c0 a0c1 a0c2).bind fun z1 =>
 (F_spec_l1Cur_pick__io0 z1.2.1 z1.2.2.1 z1.2.2.2 24).bind fun z2 =>
 ((if (z2.1 == 0) = true then (
 (F_spec_l1Cur_among__io0_mv1 z2.2.1 z2.2.2.1 z2.2.2.2 [0, i64.wrap (z1.1.P + 2), 4, (-7)]).bind fun z7 =>
 some ((z7.2.1, z7.2.2.1, z7.2.2.2), z7.1, z1.1.Q, z1.1.G)) else (
 if (z2.1 == 1) = true then (
 (F_spec_l1Cur_among__io0_mv1 z2.2.1 z2.2.2.1 z2.2.2.2 [0, 1, i64.wrap (z1.1.Q + 1), i64.wrap (z1.1.P - 1)]).bind fun z9 =>
 some ((z9.2.1, z9.2.2.1, z9.2.2.2), z1.1.P, z9.1, z1.1.G)) else (
 if (z2.1 == 2) = true then (
 (F_spec_l1Cur_among__io0_mv1 z2.2.1 z2.2.2.1 z2.2.2.2 [0, 1, i64.wrap (z1.1.P - 1), z1.1.P, i64.wrap (z1.1.G + 1)]).bind fun z11 =>
 some ((z11.2.1, z11.2.2.1, z11.2.2.2), z1.1.P, z1.1.Q, z11.1)) else (
 some ((z2.2.1, z2.2.2.1, z2.2.2.2), z1.1.P, z1.1.Q, z1.1.G)))) : Option ((((List Int) × Int × Int) × Int × Int × Int))).bind fun x5 =>
 some ((Group.mk x5.2.1 x5.2.2.1 x5.2.2.2), (x5.1.1, x5.1.2.1, x5.1.2.2)))
theorem c_spec_l1Cur_anyGroup__io0 : ∀ {a0c0} {a0c1} {a0c2} {r}, F_spec_l1Cur_anyGroup__io0 a0c0 a0c1 a0c2 = some r → PCalls Tryz.prog 79 [(.io, .bx [.sl false 1 (a0c0.map row_u8), .int .i64 a0c1, .int .u64 a0c2])] (Eo (.agg [.int .i64 r.1.P, .int .i64 r.1.Q, .int .i64 r.1.G]) [.bx [.sl false 1 (r.2.1.map row_u8), .int .i64 r.2.2.1, .int .u64 r.2.2.2]]) := by
 intro a0c0 a0c1 a0c2 r hr
 apply pF 44 [0] [] [] [.cell 2 25] hr cl79 Tryz.func79
 intro Φ hΦ hF g
 unfold F_spec_l1Cur_anyGroup__io0 at hF
 try simp [go_sem, g]
 refine pw_wk ?_
 try simp [go_sem, g]
 refine pC hF [.io] c_spec_l1Cur_group__io0 (fun z1 hF => ?_)
 try simp [go_sem, g]
 refine pw_wk ?_
 try simp [go_sem, g]
 refine pC hF [.io, .sh] c_spec_l1Cur_pick__io0 (fun z2 hF => ?_)
 try simp [go_sem, g]
 refine pw_wk ?_
 repeat rw [sq]
 refine pJ hF (fun x5 => [(0, .v (.bx [.sl false 1 (x5.1.1.map row_u8), .int .i64 x5.1.2.1, .int .u64 x5.1.2.2])), (2, .bl [.int .i64 0, .int .i64 0, .int .i64 0]), (3, .bl [.int .i64 x5.2.1, .int .i64 x5.2.2.1, .int .i64 x5.2.2.2])]) (fun x5 hF => ?_) fun _ hj3 hF => ?_
 ·cases hΦ _ (Rn_some hF)
  try simp [go_sem, g]
  refine pw_wk ?_
  try simp [go_sem, g]
 ·repeat rw [sq]
  rw [pw_block]
  try simp [go_sem, g]
  refine pw_wk ?_
  repeat rw [sq]
  refine pI hF (fun h6 hF => ?_) (fun h6 hF => ?_)
  ·try simp [go_sem, g]
   refine pC hF [.io, .mv] c_spec_l1Cur_among__io0_mv1 (fun z7 hF => ?_)
   try simp [go_sem, g]
   exact pT (hj3 ((z7.2.1, z7.2.2.1, z7.2.2.2), z7.1, z1.1.Q, z1.1.G)) (Rn_some hF)
  ·try simp [go_sem, g]
   refine pw_wkK [0, 2, 3, 7, 17] (by simp [go_sem, g]; rfl) ?_
   repeat rw [sq]
   refine pI hF (fun h8 hF => ?_) (fun h8 hF => ?_)
   ·try simp [go_sem, g]
    refine pC hF [.io, .mv] c_spec_l1Cur_among__io0_mv1 (fun z9 hF => ?_)
    try simp [go_sem, g]
    exact pT (hj3 ((z9.2.1, z9.2.2.1, z9.2.2.2), z1.1.P, z9.1, z1.1.G)) (Rn_some hF)
   ·try simp [go_sem, g]
    refine pw_wk ?_
    repeat rw [sq]
    refine pI hF (fun h10 hF => ?_) (fun h10 hF => ?_)
    ·try simp [go_sem, g]
     refine pC hF [.io, .mv] c_spec_l1Cur_among__io0_mv1 (fun z11 hF => ?_)
     try simp [go_sem, g]
     exact pT (hj3 ((z11.2.1, z11.2.2.1, z11.2.2.2), z1.1.P, z1.1.Q, z11.1)) (Rn_some hF)
    ·try simp [go_sem, g]
     exact pT (hj3 ((z2.2.1, z2.2.2.1, z2.2.2.2), z1.1.P, z1.1.Q, z1.1.G)) (Rn_some hF)
noncomputable def F_spec_l1Cur_one__io0 (a0c0 : (List Int)) (a0c1 : Int) (a0c2 : Int) (a1 : Int) : Option (Bool × ((List Int) × Int × Int)) :=
 (F_spec_l1Cur_pick__io0 a0c0 a0c1 a0c2 a1).bind fun z1 =>
 some ((z1.1 == 0), (z1.2.1, z1.2.2.1, z1.2.2.2))
theorem c_spec_l1Cur_one__io0 : ∀ {a0c0} {a0c1} {a0c2} {a1} {r}, F_spec_l1Cur_one__io0 a0c0 a0c1 a0c2 a1 = some r → PCalls Tryz.prog 80 [(.io, .bx [.sl false 1 (a0c0.map row_u8), .int .i64 a0c1, .int .u64 a0c2]), (.sh, .int .i64 a1)] (Eo (.bool r.1) [.bx [.sl false 1 (r.2.1.map row_u8), .int .i64 r.2.2.1, .int .u64 r.2.2.2], .junk]) := by
 intro a0c0 a0c1 a0c2 a1 r hr
 apply pF 9 [0] [] [] [.tmp 4] hr cl80 Tryz.func80
 intro Φ hΦ hF g
 unfold F_spec_l1Cur_one__io0 at hF
 try simp [go_sem, g]
 refine pw_wk ?_
 try simp [go_sem, g]
 refine pC hF [.io, .sh] c_spec_l1Cur_pick__io0 (fun z1 hF => ?_)
 cases hΦ _ (Rn_some hF)
 try simp [go_sem, g]
 refine pw_wk ?_
 try simp [go_sem, g]
noncomputable def F_spec_l1Least (a0 : Int) (a1 : Int) : Option (Int) :=
 if decide (a0 < a1) = true then (
 some a0) else (
 some a1)
theorem c_spec_l1Least : ∀ {a0} {a1} {r}, F_spec_l1Least a0 a1 = some r → PCalls Tryz.prog 132 [(.sh, .int .i64 a0), (.sh, .int .i64 a1)] (Eo (.int .i64 r) [.junk, .junk]) := by
 intro a0 a1 r hr
 apply pF 10 [] [] [] [.tmp 4] hr cl132 Tryz.func132
 intro Φ hΦ hF g
 unfold F_spec_l1Least at hF
 iterate 2 (try simp [go_sem, g]; refine pw_wk ?_)
 repeat rw [sq]
 refine pI hF (fun h1 hF => ?_) (fun h1 hF => ?_)
 ·cases hΦ _ (Rn_some hF)
  try simp [go_sem, g]
  refine pw_wk ?_
  try simp [go_sem, g]
 ·cases hΦ _ (Rn_some hF)
  iterate 2 (try simp [go_sem, g]; refine pw_wk ?_)
  try simp [go_sem, g]
def D82_13 : List DE := [d1 0 [3] 3, d2 1 [37] 3 37, d0 2 [0], d0 3 [4], d1 4 [3] 3, d2 5 [41] 3 41, d0 6 [40, 42], d0 7 [43], d3 8 [39, 44], d0 9 [38, 45], d1 10 [3] 3, d2 11 [47, 46] 3 47]
noncomputable def F_spec_l1Cur_contest__io0 (a0c0 : (List Int)) (a0c1 : Int) (a0c2 : Int) : Option (Contest × ((List Int) × Int × Int)) :=
 (F_spec_l1Cur_pick__io0 a0c0 a0c1 a0c2 4).bind fun z1 =>
 (F_spec_l1Cur_pick__io0 z1.2.1 z1.2.2.1 z1.2.2.2 5).bind fun z2 =>
 (F_spec_l1Cur_one__io0 z2.2.1 z2.2.2.1 z2.2.2.2 12).bind fun z3 =>
 ((if z3.1 = true then (
 some (i64.wrap (1 + z1.1), 8, 0, 0, 0)) else (
 some (i64.wrap (1 + z1.1), i64.wrap (1 + z2.1), 0, 0, 0)) : Option ((Int × Int × Int × Int × Int))).bind fun x6 =>
 ((if (x6.1 == 2) = true then (
 (F_spec_l1Cur_pick__io0 z3.2.1 z3.2.2.1 z3.2.2.2 5).bind fun z12 =>
 some ((z12.2.1, z12.2.2.1, z12.2.2.2), x6.1, x6.2.1, x6.2.2.1, x6.2.2.2.1, i64.wrap (1 + z12.1), i64.wrap (x6.2.1 * (i64.wrap (1 + z12.1))))) else (
 if (x6.1 == 4) = true then (
 some ((z3.2.1, z3.2.2.1, z3.2.2.2), x6.1, 0, x6.2.2.1, x6.2.2.2.1, x6.2.2.2.2, 3)) else (
 some ((z3.2.1, z3.2.2.1, z3.2.2.2), x6.1, x6.2.1, x6.2.2.1, x6.2.2.2.1, x6.2.2.2.2, x6.2.1))) : Option ((((List Int) × Int × Int) × Int × Int × Int × Int × Int × Int))).bind fun x10 =>
 (F_spec_l1Least x10.2.2.2.2.2.2 3).bind fun z14 =>
 (F_spec_l1Cur_pick__io0 x10.1.1 x10.1.2.1 x10.1.2.2 z14).bind fun z15 =>
 (F_spec_l1Cur_pick__io0 z15.2.1 z15.2.2.1 z15.2.2.2 (i64.wrap ((i64.wrap (x10.2.2.2.2.2.2 - z15.1)) + 1))).bind fun z16 =>
 some ((Contest.mk x10.2.1 x10.2.2.1 z15.1 (i64.wrap (z15.1 + z16.1)) x10.2.2.2.2.2.1), (z16.2.1, z16.2.2.1, z16.2.2.2))))
theorem c_spec_l1Cur_contest__io0 : ∀ {a0c0} {a0c1} {a0c2} {r}, F_spec_l1Cur_contest__io0 a0c0 a0c1 a0c2 = some r → PCalls Tryz.prog 82 [(.io, .bx [.sl false 1 (a0c0.map row_u8), .int .i64 a0c1, .int .u64 a0c2])] (Eo (.agg [.int .i64 r.1.Kind, .int .i64 r.1.Options, .int .i64 r.1.Least, .int .i64 r.1.Most, .int .i64 r.1.Points]) [.bx [.sl false 1 (r.2.1.map row_u8), .int .i64 r.2.2.1, .int .u64 r.2.2.2]]) := by
 intro a0c0 a0c1 a0c2 r hr
 apply pF 49 [0] [] [] [.cell 2 27] hr cl82 Tryz.func82
 intro Φ hΦ hF g
 unfold F_spec_l1Cur_contest__io0 at hF
 try simp [go_sem, g]
 refine pw_wk ?_
 try simp [go_sem, g]
 refine pC hF [.io, .sh] c_spec_l1Cur_pick__io0 (fun z1 hF => ?_)
 try simp [go_sem, g]
 refine pC hF [.io, .sh] c_spec_l1Cur_pick__io0 (fun z2 hF => ?_)
 try simp [go_sem, g]
 refine pw_wkK [0, 2, 3] (by simp [go_sem, g]; rfl) ?_
 try simp [go_sem, g]
 refine pC hF [.io, .sh] c_spec_l1Cur_one__io0 (fun z3 hF => ?_)
 try simp [go_sem, g]
 refine pw_wk ?_
 repeat rw [sq]
 refine pJ hF (fun x6 => [(0, .v (.bx [.sl false 1 (z3.2.1.map row_u8), .int .i64 z3.2.2.1, .int .u64 z3.2.2.2])), (2, .bl [.int .i64 0, .int .i64 0, .int .i64 0, .int .i64 0, .int .i64 0]), (3, .bl [.int .i64 x6.1, .int .i64 x6.2.1, .int .i64 x6.2.2.1, .int .i64 x6.2.2.2.1, .int .i64 x6.2.2.2.2])]) (fun x6 hF => ?_) fun _ hj4 hF => ?_
 ·iterate 2 (try simp [go_sem, g]; refine pw_wk ?_)
  repeat rw [sq]
  refine pJ hF (fun x10 => [(0, .v (.bx [.sl false 1 (x10.1.1.map row_u8), .int .i64 x10.1.2.1, .int .u64 x10.1.2.2])), (2, .bl [.int .i64 0, .int .i64 0, .int .i64 0, .int .i64 0, .int .i64 0]), (3, .bl [.int .i64 x10.2.1, .int .i64 x10.2.2.1, .int .i64 x10.2.2.2.1, .int .i64 x10.2.2.2.2.1, .int .i64 x10.2.2.2.2.2.1]), (4, .v (.int .i64 x10.2.2.2.2.2.2))]) (fun x10 hF => ?_) fun _ hj8 hF => ?_
  ·try simp [go_sem, g]
   refine pC hF [.sh, .sh] c_spec_l1Least (fun z14 hF => ?_)
   try simp [go_sem, g]
   refine pC hF [.io, .sh] c_spec_l1Cur_pick__io0 (fun z15 hF => ?_)
   try simp [go_sem, g]
   refine pw_wkK [0, 2, 3, 4] (by simp [go_sem, g]; rfl) ?_
   repeat rw [sq]
   refine pw_draw D82_13 follows (by kernel_rfl) rfl ?_
   try simp only [go_sem, D82_13]
   try simp [go_sem, g]
   refine pC hF [.io, .sh] c_spec_l1Cur_pick__io0 (fun z16 hF => ?_)
   try simp [go_sem, g]
   refine pw_wkK [0, 2, 3] (by simp [go_sem, g]; rfl) ?_
   cases hΦ _ (Rn_some hF)
   try simp [go_sem, g]
   refine pw_wk ?_
   try simp [go_sem, g]
  ·repeat rw [sq]
   rw [pw_block]
   try simp [go_sem, g]
   refine pw_wk ?_
   repeat rw [sq]
   refine pI hF (fun h11 hF => ?_) (fun h11 hF => ?_)
   ·try simp [go_sem, g]
    refine pC hF [.io, .sh] c_spec_l1Cur_pick__io0 (fun z12 hF => ?_)
    try simp [go_sem, g]
    refine pw_wkK [0, 2, 3, 4] (by simp [go_sem, g]; rfl) ?_
    try simp [go_sem, g]
    exact pT (hj8 ((z12.2.1, z12.2.2.1, z12.2.2.2), x6.1, x6.2.1, x6.2.2.1, x6.2.2.2.1, i64.wrap (1 + z12.1), i64.wrap (x6.2.1 * (i64.wrap (1 + z12.1))))) (Rn_some hF)
   ·try simp [go_sem, g]
    refine pw_wkK [0, 2, 3, 4, 29] (by simp [go_sem, g]; rfl) ?_
    repeat rw [sq]
    refine pI hF (fun h13 hF => ?_) (fun h13 hF => ?_)
    ·try simp [go_sem, g]
     refine pw_wk ?_
     try simp [go_sem, g]
     exact pT (hj8 ((z3.2.1, z3.2.2.1, z3.2.2.2), x6.1, 0, x6.2.2.1, x6.2.2.2.1, x6.2.2.2.2, 3)) (Rn_some hF)
    ·try simp [go_sem, g]
     exact pT (hj8 ((z3.2.1, z3.2.2.1, z3.2.2.2), x6.1, x6.2.1, x6.2.2.1, x6.2.2.2.1, x6.2.2.2.2, x6.2.1)) (Rn_some hF)
 ·repeat rw [sq]
  refine pI hF (fun h7 hF => ?_) (fun h7 hF => ?_)
  ·try simp [go_sem, g]
   exact pT (hj4 (i64.wrap (1 + z1.1), 8, 0, 0, 0)) (Rn_some hF)
  ·try simp [go_sem, g]
   exact pT (hj4 (i64.wrap (1 + z1.1), i64.wrap (1 + z2.1), 0, 0, 0)) (Rn_some hF)
noncomputable def F_spec_l1Cur_anyContest__io0 (a0c0 : (List Int)) (a0c1 : Int) (a0c2 : Int) : Option (Contest × ((List Int) × Int × Int)) :=
 (F_spec_l1Cur_contest__io0 a0c0 a0c1 a0c2).bind fun z1 =>
 (F_spec_l1Cur_pick__io0 z1.2.1 z1.2.2.1 z1.2.2.2 20).bind fun z2 =>
 ((if (z2.1 == 0) = true then (
 (F_spec_l1Cur_among__io0_mv1 z2.2.1 z2.2.2.1 z2.2.2.2 [0, 5, 4, 1]).bind fun z7 =>
 some ((z7.2.1, z7.2.2.1, z7.2.2.2), z7.1, z1.1.Options, z1.1.Least, z1.1.Most, z1.1.Points)) else (
 if (z2.1 == 1) = true then (
 (F_spec_l1Cur_among__io0_mv1 z2.2.1 z2.2.2.1 z2.2.2.2 [0, 9, (-1), 8]).bind fun z9 =>
 some ((z9.2.1, z9.2.2.1, z9.2.2.2), z1.1.Kind, z9.1, z1.1.Least, z1.1.Most, z1.1.Points)) else (
 if (z2.1 == 2) = true then (
 (F_spec_l1Cur_among__io0_mv1 z2.2.1 z2.2.2.1 z2.2.2.2 [(-1), z1.1.Most, i64.wrap (z1.1.Most + 1)]).bind fun z11 =>
 some ((z11.2.1, z11.2.2.1, z11.2.2.2), z1.1.Kind, z1.1.Options, z11.1, z1.1.Most, z1.1.Points)) else (
 if (z2.1 == 3) = true then (
 (F_spec_l1Cur_among__io0_mv1 z2.2.1 z2.2.2.1 z2.2.2.2 [0, 5, 6, 40, 41, 8, 9]).bind fun z13 =>
 some ((z13.2.1, z13.2.2.1, z13.2.2.2), z1.1.Kind, z1.1.Options, z1.1.Least, z13.1, z1.1.Points)) else (
 if (z2.1 == 4) = true then (
 (F_spec_l1Cur_among__io0_mv1 z2.2.1 z2.2.2.1 z2.2.2.2 [0, 5, 6, (-1)]).bind fun z15 =>
 some ((z15.2.1, z15.2.2.1, z15.2.2.2), z1.1.Kind, z1.1.Options, z1.1.Least, z1.1.Most, z15.1)) else (
 some ((z2.2.1, z2.2.2.1, z2.2.2.2), z1.1.Kind, z1.1.Options, z1.1.Least, z1.1.Most, z1.1.Points)))))) : Option ((((List Int) × Int × Int) × Int × Int × Int × Int × Int))).bind fun x5 =>
 some ((Contest.mk x5.2.1 x5.2.2.1 x5.2.2.2.1 x5.2.2.2.2.1 x5.2.2.2.2.2), (x5.1.1, x5.1.2.1, x5.1.2.2)))
theorem c_spec_l1Cur_anyContest__io0 : ∀ {a0c0} {a0c1} {a0c2} {r}, F_spec_l1Cur_anyContest__io0 a0c0 a0c1 a0c2 = some r → PCalls Tryz.prog 81 [(.io, .bx [.sl false 1 (a0c0.map row_u8), .int .i64 a0c1, .int .u64 a0c2])] (Eo (.agg [.int .i64 r.1.Kind, .int .i64 r.1.Options, .int .i64 r.1.Least, .int .i64 r.1.Most, .int .i64 r.1.Points]) [.bx [.sl false 1 (r.2.1.map row_u8), .int .i64 r.2.2.1, .int .u64 r.2.2.2]]) := by
 intro a0c0 a0c1 a0c2 r hr
 apply pF 44 [0] [] [] [.cell 2 27] hr cl81 Tryz.func81
 intro Φ hΦ hF g
 unfold F_spec_l1Cur_anyContest__io0 at hF
 try simp [go_sem, g]
 refine pw_wk ?_
 try simp [go_sem, g]
 refine pC hF [.io] c_spec_l1Cur_contest__io0 (fun z1 hF => ?_)
 try simp [go_sem, g]
 refine pw_wk ?_
 try simp [go_sem, g]
 refine pC hF [.io, .sh] c_spec_l1Cur_pick__io0 (fun z2 hF => ?_)
 try simp [go_sem, g]
 refine pw_wk ?_
 repeat rw [sq]
 refine pJ hF (fun x5 => [(0, .v (.bx [.sl false 1 (x5.1.1.map row_u8), .int .i64 x5.1.2.1, .int .u64 x5.1.2.2])), (2, .bl [.int .i64 0, .int .i64 0, .int .i64 0, .int .i64 0, .int .i64 0]), (3, .bl [.int .i64 x5.2.1, .int .i64 x5.2.2.1, .int .i64 x5.2.2.2.1, .int .i64 x5.2.2.2.2.1, .int .i64 x5.2.2.2.2.2])]) (fun x5 hF => ?_) fun _ hj3 hF => ?_
 ·cases hΦ _ (Rn_some hF)
  try simp [go_sem, g]
  refine pw_wk ?_
  try simp [go_sem, g]
 ·repeat rw [sq]
  rw [pw_block]
  try simp [go_sem, g]
  refine pw_wk ?_
  repeat rw [sq]
  refine pI hF (fun h6 hF => ?_) (fun h6 hF => ?_)
  ·try simp [go_sem, g]
   refine pC hF [.io, .mv] c_spec_l1Cur_among__io0_mv1 (fun z7 hF => ?_)
   try simp [go_sem, g]
   exact pT (hj3 ((z7.2.1, z7.2.2.1, z7.2.2.2), z7.1, z1.1.Options, z1.1.Least, z1.1.Most, z1.1.Points)) (Rn_some hF)
  ·try simp [go_sem, g]
   refine pw_wkK [0, 2, 3, 7, 14] (by simp [go_sem, g]; rfl) ?_
   repeat rw [sq]
   refine pI hF (fun h8 hF => ?_) (fun h8 hF => ?_)
   ·try simp [go_sem, g]
    refine pC hF [.io, .mv] c_spec_l1Cur_among__io0_mv1 (fun z9 hF => ?_)
    try simp [go_sem, g]
    exact pT (hj3 ((z9.2.1, z9.2.2.1, z9.2.2.2), z1.1.Kind, z9.1, z1.1.Least, z1.1.Most, z1.1.Points)) (Rn_some hF)
   ·try simp [go_sem, g]
    refine pw_wk ?_
    repeat rw [sq]
    refine pI hF (fun h10 hF => ?_) (fun h10 hF => ?_)
    ·try simp [go_sem, g]
     refine pC hF [.io, .mv] c_spec_l1Cur_among__io0_mv1 (fun z11 hF => ?_)
     try simp [go_sem, g]
     exact pT (hj3 ((z11.2.1, z11.2.2.1, z11.2.2.2), z1.1.Kind, z1.1.Options, z11.1, z1.1.Most, z1.1.Points)) (Rn_some hF)
    ·try simp [go_sem, g]
     refine pw_wk ?_
     repeat rw [sq]
     refine pI hF (fun h12 hF => ?_) (fun h12 hF => ?_)
     ·try simp [go_sem, g]
      refine pC hF [.io, .mv] c_spec_l1Cur_among__io0_mv1 (fun z13 hF => ?_)
      try simp [go_sem, g]
      exact pT (hj3 ((z13.2.1, z13.2.2.1, z13.2.2.2), z1.1.Kind, z1.1.Options, z1.1.Least, z13.1, z1.1.Points)) (Rn_some hF)
     ·try simp [go_sem, g]
      refine pw_wk ?_
      repeat rw [sq]
      refine pI hF (fun h14 hF => ?_) (fun h14 hF => ?_)
      ·try simp [go_sem, g]
       refine pC hF [.io, .mv] c_spec_l1Cur_among__io0_mv1 (fun z15 hF => ?_)
       try simp [go_sem, g]
       exact pT (hj3 ((z15.2.1, z15.2.2.1, z15.2.2.2), z1.1.Kind, z1.1.Options, z1.1.Least, z1.1.Most, z15.1)) (Rn_some hF)
      ·try simp [go_sem, g]
       exact pT (hj3 ((z2.2.1, z2.2.2.1, z2.2.2.2), z1.1.Kind, z1.1.Options, z1.1.Least, z1.1.Most, z1.1.Points)) (Rn_some hF)
noncomputable def F_spec_l2Good (a0 : Group) : Option (Bool) :=
 (((F_spec_l1In a0.P 3 2000000000).bind fun z4 =>
 if z4 = true then (
 (F_spec_l1In a0.Q 2 (i64.wrap (a0.P - 1))).bind fun z6 =>
 if z6 = true then (
 gd (a0.Q ≠ 0) <|
 if (((i64.wrap (a0.P - 1)).tmod a0.Q) == 0) = true then (
 (F_spec_l1In a0.G 2 (i64.wrap (a0.P - 1))).bind fun z9 =>
 if z9 = true then (
 (F_spec_nPower a0.G a0.Q a0.P).bind fun z11 =>
 if (z11 == 1) = true then (
 (F_spec_nPrime a0.Q).bind fun z13 =>
 if z13 = true then (
 (F_spec_nPrime a0.P).bind fun z15 =>
 some z15) else (
 some false)) else (
 some false)) else (
 some false)) else (
 some false)) else (
 some false)) else (
 some false) : Option (Bool)).bind fun x3 =>
 some x3)
theorem c_spec_l2Good : ∀ {a0} {r}, F_spec_l2Good a0 = some r → PCalls Tryz.prog 27 [(.sh, .agg [.int .i64 a0.P, .int .i64 a0.Q, .int .i64 a0.G])] (Eo (.bool r) [.junk]) := by
 intro a0 r hr
 apply pF 51 [] [] [] [.tmp 2] hr cl27 Tryz.func27
 intro Φ hΦ hF g
 unfold F_spec_l2Good at hF
 try simp [go_sem, g]
 refine pw_wk ?_
 repeat rw [sq]
 refine pJ hF (fun x3 => [(2, .v (.bool x3))]) (fun x3 hF => ?_) fun _ hj1 hF => ?_
 ·cases hΦ _ (Rn_some hF)
  try simp [go_sem, g]
 ·try simp [go_sem, g]
  refine pC hF [.sh, .sh, .sh] c_spec_l1In (fun z4 hF => ?_)
  try simp [go_sem, g]
  refine pwg_F hF (fun h5 hF => ?_) fun h5 hF => ?_
  ·try simp [go_sem, g, h5]
   refine pC hF [.sh, .sh, .sh] c_spec_l1In (fun z6 hF => ?_)
   try simp [go_sem, g, h5]
   refine pwg_F hF (fun h7 hF => ?_) fun h7 hF => ?_
   ·obtain ⟨g, hF⟩ := Rz g hF
    try simp [go_sem, g, h7]
    refine pwg_F hF (fun h8 hF => ?_) fun h8 hF => ?_
    ·try simp [go_sem, g, h8]
     refine pC hF [.sh, .sh, .sh] c_spec_l1In (fun z9 hF => ?_)
     try simp [go_sem, g, h8]
     refine pwg_F hF (fun h10 hF => ?_) fun h10 hF => ?_
     ·try simp [go_sem, g, h10]
      refine pC hF [.sh, .sh, .sh] c_spec_nPower (fun z11 hF => ?_)
      try simp [go_sem, g, h10]
      refine pwg_F hF (fun h12 hF => ?_) fun h12 hF => ?_
      ·try simp [go_sem, g, h12]
       refine pC hF [.sh] c_spec_nPrime (fun z13 hF => ?_)
       try simp [go_sem, g, h12]
       refine pwg_F hF (fun h14 hF => ?_) fun h14 hF => ?_
       ·try simp [go_sem, g, h14]
        refine pC hF [.sh] c_spec_nPrime (fun z15 hF => ?_)
        try simp [go_sem, g, h14]
        exact pT (hj1 z15) (Rn_some hF)
       ·try simp [go_sem, g, h14]
        exact pT (hj1 false) (Rn_some hF)
      ·try simp [go_sem, g, h12]
       exact pT (hj1 false) (Rn_some hF)
     ·try simp [go_sem, g, h10]
      exact pT (hj1 false) (Rn_some hF)
    ·try simp [go_sem, g, h8]
     exact pT (hj1 false) (Rn_some hF)
   ·try simp [go_sem, g, h7]
    exact pT (hj1 false) (Rn_some hF)
  ·try simp [go_sem, g, h5]
   exact pT (hj1 false) (Rn_some hF)
noncomputable def F_spec_vContest (a0 : Contest) : Option (Bool) :=
 ((if decide (a0.Least < 0) = true then (
 some true) else (
 some (decide (a0.Most < a0.Least))) : Option (Bool)).bind fun x3 =>
 if x3 = true then (
 some false) else (
 ((if (a0.Kind == 1) = true then (
 some (a0.Kind == 1)) else (
 some (a0.Kind == 3)) : Option (Bool)).bind fun x8 =>
 if x8 = true then (
 (((F_spec_l1In a0.Options 1 8).bind fun z14 =>
 if z14 = true then (
 if decide (a0.Most ≤ a0.Options) = true then (
 some (a0.Points == 0)) else (
 some false)) else (
 some false) : Option (Bool)).bind fun x13 =>
 some x13)) else (
 if (a0.Kind == 2) = true then (
 (((F_spec_l1In a0.Options 1 8).bind fun z21 =>
 if z21 = true then (
 (F_spec_l1In a0.Points 1 5).bind fun z23 =>
 if z23 = true then (
 some (decide (a0.Most ≤ (i64.wrap (a0.Options * a0.Points))))) else (
 some false)) else (
 some false) : Option (Bool)).bind fun x20 =>
 some x20)) else (
 ((if (a0.Kind == 4) = true then (
 if (a0.Options == 0) = true then (
 if decide (a0.Most ≤ 5) = true then (
 some (a0.Points == 0)) else (
 some false)) else (
 some false)) else (
 some false) : Option (Bool)).bind fun x27 =>
 some x27))))))
theorem c_spec_vContest : ∀ {a0} {r}, F_spec_vContest a0 = some r → PCalls Tryz.prog 84 [(.sh, .agg [.int .i64 a0.Kind, .int .i64 a0.Options, .int .i64 a0.Least, .int .i64 a0.Most, .int .i64 a0.Points])] (Eo (.bool r) [.junk]) := by
 intro a0 r hr
 apply pF 71 [] [] [] [.tmp 2] hr cl84 Tryz.func84
 intro Φ hΦ hF g
 unfold F_spec_vContest at hF
 try simp [go_sem, g]
 refine pw_wk ?_
 repeat rw [sq]
 refine pJ hF (fun x3 => [(1, .bl [.int .i64 a0.Kind, .int .i64 a0.Options, .int .i64 a0.Least, .int .i64 a0.Most, .int .i64 a0.Points]), (12, .v (.bool x3))]) (fun x3 hF => ?_) fun _ hj1 hF => ?_
 ·repeat rw [sq]
  refine pI hF (fun h5 hF => ?_) (fun h5 hF => ?_)
  ·cases hΦ _ (Rn_some hF)
   try simp [go_sem, g]
   refine pw_wk ?_
   try simp [go_sem, g]
  ·iterate 2 (try simp [go_sem, g]; refine pw_wk ?_)
   repeat rw [sq]
   rw [pw_block]
   try simp [go_sem, g]
   refine pw_wk ?_
   repeat rw [sq]
   refine pJ hF (fun x8 => [(1, .bl [.int .i64 a0.Kind, .int .i64 a0.Options, .int .i64 a0.Least, .int .i64 a0.Most, .int .i64 a0.Points]), (14, .v (.int .i64 a0.Kind)), (15, .v (.bool x8))]) (fun x8 hF => ?_) fun _ hj6 hF => ?_
   ·repeat rw [sq]
    refine pI hF (fun h10 hF => ?_) (fun h10 hF => ?_)
    ·repeat rw [sq]
     refine pJ hF (fun x13 => [(2, .v (.bool x13))]) (fun x13 hF => ?_) fun _ hj11 hF => ?_
     ·cases hΦ _ (Rn_some hF)
      try simp [go_sem, g]
     ·try simp [go_sem, g]
      refine pC hF [.sh, .sh, .sh] c_spec_l1In (fun z14 hF => ?_)
      try simp [go_sem, g]
      refine pwg_F hF (fun h15 hF => ?_) fun h15 hF => ?_
      ·try simp [go_sem, g, h15]
       refine pwg_F hF (fun h16 hF => ?_) fun h16 hF => ?_
       ·try simp [go_sem, g, h16]
        exact pT (hj11 (a0.Points == 0)) (Rn_some hF)
       ·try simp [go_sem, g, h16]
        exact pT (hj11 false) (Rn_some hF)
      ·try simp [go_sem, g, h15]
       exact pT (hj11 false) (Rn_some hF)
    ·try simp [go_sem, g]
     refine pw_wk ?_
     repeat rw [sq]
     refine pI hF (fun h17 hF => ?_) (fun h17 hF => ?_)
     ·repeat rw [sq]
      refine pJ hF (fun x20 => [(2, .v (.bool x20))]) (fun x20 hF => ?_) fun _ hj18 hF => ?_
      ·cases hΦ _ (Rn_some hF)
       try simp [go_sem, g]
      ·try simp [go_sem, g]
       refine pC hF [.sh, .sh, .sh] c_spec_l1In (fun z21 hF => ?_)
       try simp [go_sem, g]
       refine pwg_F hF (fun h22 hF => ?_) fun h22 hF => ?_
       ·try simp [go_sem, g, h22]
        refine pC hF [.sh, .sh, .sh] c_spec_l1In (fun z23 hF => ?_)
        try simp [go_sem, g, h22]
        refine pwg_F hF (fun h24 hF => ?_) fun h24 hF => ?_
        ·try simp [go_sem, g, h24]
         exact pT (hj18 (decide (a0.Most ≤ (i64.wrap (a0.Options * a0.Points))))) (Rn_some hF)
        ·try simp [go_sem, g, h24]
         exact pT (hj18 false) (Rn_some hF)
       ·try simp [go_sem, g, h22]
        exact pT (hj18 false) (Rn_some hF)
     ·try simp [go_sem, g]
      refine pw_wk ?_
      repeat rw [sq]
      refine pJ hF (fun x27 => [(2, .v (.bool x27))]) (fun x27 hF => ?_) fun _ hj25 hF => ?_
      ·cases hΦ _ (Rn_some hF)
       try simp [go_sem, g]
      ·try simp [go_sem, g]
       refine pwg_F hF (fun h28 hF => ?_) fun h28 hF => ?_
       ·try simp [go_sem, g, h28]
        refine pwg_F hF (fun h29 hF => ?_) fun h29 hF => ?_
        ·try simp [go_sem, g, h29]
         refine pwg_F hF (fun h30 hF => ?_) fun h30 hF => ?_
         ·try simp [go_sem, g, h30]
          exact pT (hj25 (a0.Points == 0)) (Rn_some hF)
         ·try simp [go_sem, g, h30]
          exact pT (hj25 false) (Rn_some hF)
        ·try simp [go_sem, g, h29]
         exact pT (hj25 false) (Rn_some hF)
       ·try simp [go_sem, g, h28]
        exact pT (hj25 false) (Rn_some hF)
   ·repeat rw [sq]
    refine pI hF (fun h9 hF => ?_) (fun h9 hF => ?_)
    ·try simp [go_sem, g]
     exact pT (hj6 (a0.Kind == 1)) (Rn_some hF)
    ·try simp [go_sem, g]
     exact pT (hj6 (a0.Kind == 3)) (Rn_some hF)
 ·try simp [go_sem, g]
  refine pwg_F hF (fun h4 hF => ?_) fun h4 hF => ?_
  ·try simp [go_sem, g, h4]
   exact pT (hj1 true) (Rn_some hF)
  ·try simp [go_sem, g, h4]
   exact pT (hj1 (decide (a0.Most < a0.Least))) (Rn_some hF)
noncomputable def F_spec_vMarks (a0 : Contest) (a1 : (List Int)) : Option ((List Int)) :=
 gd (0 ≤ a0.Options ∧ a0.Options ≤ a0.Options ∧ 8 * a0.Options ≤ 140737488355328 ∧ a0.Options ≤ 4611686018427387904) <|
 (some (List.replicate a0.Options.toNat 0)).bind fun x1 =>
 ((rloop (σ := (List Int)) (fun i17 s16 =>
 (ix a1 i17).bind fun x23 =>
 (ix s16 x23).bind fun x24 =>
 some (.go (s16.set x23.toNat 1))) (fun s16 => s16) (a1.length) 0 x1 : Option ((List Int))).bind fun x6 =>
 some x6)
theorem c_spec_vMarks : ∀ {a0} {a1} {r}, F_spec_vMarks a0 a1 = some r → PCalls Tryz.prog 110 [(.sh, .agg [.int .i64 a0.Kind, .int .i64 a0.Options, .int .i64 a0.Least, .int .i64 a0.Most, .int .i64 a0.Points]), (.sh, .sl false 1 (a1.map row_i64))] (Eo (.sl true 1 (r.map row_i64)) [.junk, .junk]) := by
 intro a0 a1 r hr
 apply pF 22 [] [] [] [.tmp 4] hr cl110 Tryz.func110
 intro Φ hΦ hF g
 unfold F_spec_vMarks at hF
 obtain ⟨g, hF⟩ := Rg g hF
 obtain ⟨x1, e2, hF⟩ := Rn_bind hF
 have g3 : List.replicate a0.Options.toNat ([.int .i64 0] : List PV) = x1.map row_i64 := by injection e2 with e2; rw [← e2]; simp [go_sem]
 iterate 3 (try simp [go_sem, g, g3]; try intros; refine pw_wk ?_)
 repeat rw [sq]
 refine pJ hF (fun x6 => [(5, .v (.sl true 1 (x6.map row_i64)))]) (fun x6 hF => ?_) fun _ hj4 hF => ?_
 ·try simp [go_sem, g]
  refine pw_wkK [4] (by simp [go_sem, g]; rfl) ?_
  cases hΦ _ (Rn_some hF)
  try simp [go_sem, g]
 ·repeat rw [sq]
  rw [pw_block]
  obtain ⟨b25, hb26, hψ20⟩ := hF
  refine pR hb26 (fun i17 s16 => [(5, .v (.sl true 1 (s16.map row_i64))), (11, .v (.sl false 1 (a1.map row_i64))), (12, .v (.int .i64 (a1.length : Int))), (13, .v (.int .i64 i17))]) (fun s16 _ hN27 => ?_) (fun i17 s16 _ _ hi21 hi22 ho18 hg19 hF => ?_)
  ·subst hN27
   try simp [go_sem]
   refine pw_wk ?_
   repeat rw [sq]
   refine pw_cond_f (by simp [go_sem]) ?_
   try simp [go_sem]
   exact pT (hj4 s16) hψ20 (by simp [go_sem])
  ·try simp [go_sem, g]
   refine pw_wkK [5, 11, 12, 13, 14] (by simp [go_sem, g]; rfl) ?_
   repeat rw [sq]
   refine pw_cond_t (by simp [go_sem, g, hi21, hi22]) ?_
   try simp [go_sem, g]
   refine pw_wk ?_
   repeat rw [sq]
   rw [pw_block]
   obtain ⟨x23, g, hF⟩ := Rx g hF
   obtain ⟨x24, g, hF⟩ := Rx g hF
   iterate 2 (try simp [go_sem, g]; refine pw_wk ?_)
   try simp [go_sem, g]
   exact pT (hg19 (s16.set x23.toNat 1)) (Rn_some hF) (by simp [go_sem, g, wr_i hi21 hi22 (by assumption)])
noncomputable def F_spec_vNumber (a0 : (List Int)) (a1 : Int) (a2 : Int) : Option (Int) :=
 ((wloop (σ := Int × Int) (fun s4 =>
 if decide (0 ≤ s4.2) = true then (
 (ix a0 s4.2).bind fun x10 =>
 some (.go (i64.wrap ((i64.wrap ((i64.wrap (s4.1 * a1)) + x10)) + a2), i64.wrap (s4.2 - 1)))) else (
 some (.out s4.1))) (0, i64.wrap ((a0.length : Int) - 1)) : Option (Int)).bind fun x3 =>
 some x3)
theorem c_spec_vNumber : ∀ {a0} {a1} {a2} {r}, F_spec_vNumber a0 a1 a2 = some r → PCalls Tryz.prog 109 [(.sh, .sl false 1 (a0.map row_i64)), (.sh, .int .i64 a1), (.sh, .int .i64 a2)] (Eo (.int .i64 r) [.junk, .junk, .junk]) := by
 intro a0 a1 a2 r hr
 apply pF 27 [] [] [] [.tmp 6] hr cl109 Tryz.func109
 intro Φ hΦ hF g
 unfold F_spec_vNumber at hF
 iterate 3 (try simp [go_sem, g]; try intros; refine pw_wk ?_)
 repeat rw [sq]
 refine pJ hF (fun x3 => [(7, .v (.int .i64 x3))]) (fun x3 hF => ?_) fun _ hj1 hF => ?_
 ·cases hΦ _ (Rn_some hF)
  try simp [go_sem, g]
  refine pw_wk ?_
  try simp [go_sem, g]
 ·repeat rw [sq]
  rw [pw_block]
  obtain ⟨b11, hb12, hψ8⟩ := hF
  refine pL hb12 (fun s4 => [(0, .v (.sl false 1 (a0.map row_i64))), (1, .v (.int .i64 a1)), (2, .v (.int .i64 a2)), (7, .v (.int .i64 s4.1)), (8, .v (.int .i64 s4.2))]) (fun s4 _ _ ho6 hg7 hF => ?_)
  try simp [go_sem, g]
  refine pw_wk ?_
  repeat rw [sq]
  refine pI hF (fun h9 hF => ?_) (fun h9 hF => ?_)
  ·try simp [go_sem, g]
   refine pw_wk ?_
   repeat rw [sq]
   rw [pw_block]
   obtain ⟨x10, g, hF⟩ := Rx g hF
   try simp [go_sem, g]
   refine pw_wkK [0, 1, 2, 7, 8] (by simp [go_sem, g]; rfl) ?_
   try simp [go_sem, g]
   exact pT (hg7 (i64.wrap ((i64.wrap ((i64.wrap (s4.1 * a1)) + x10)) + a2), i64.wrap (s4.2 - 1))) (Rn_some hF)
  ·try simp [go_sem, g]
   cases ho6 _ (Rn_some hF)
   exact pT (hj1 s4.1) hψ8
noncomputable def F_spec_vCode (a0 : Contest) (a1 : (List Int)) : Option (Int) :=
 if (a0.Kind == 1) = true then (
 (F_spec_vMarks a0 a1).bind fun z2 =>
 (F_spec_vNumber z2 2 0).bind fun z3 =>
 some z3) else (
 if (a0.Kind == 2) = true then (
 (F_spec_vNumber a1 (i64.wrap (a0.Points + 1)) 0).bind fun z5 =>
 some z5) else (
 if (a0.Kind == 3) = true then (
 (F_spec_vNumber a1 (i64.wrap (a0.Options + 1)) 1).bind fun z7 =>
 some z7) else (
 (F_spec_vNumber a1 27 0).bind fun z8 =>
 some z8)))
theorem c_spec_vCode : ∀ {a0} {a1} {r}, F_spec_vCode a0 a1 = some r → PCalls Tryz.prog 44 [(.sh, .agg [.int .i64 a0.Kind, .int .i64 a0.Options, .int .i64 a0.Least, .int .i64 a0.Most, .int .i64 a0.Points]), (.sh, .sl false 1 (a1.map row_i64))] (Eo (.int .i64 r) [.junk, .junk]) := by
 intro a0 a1 r hr
 apply pF 29 [] [] [] [.tmp 4] hr cl44 Tryz.func44
 intro Φ hΦ hF g
 unfold F_spec_vCode at hF
 iterate 2 (try simp [go_sem, g]; refine pw_wk ?_)
 repeat rw [sq]
 rw [pw_block]
 try simp [go_sem, g]
 refine pw_wk ?_
 repeat rw [sq]
 refine pI hF (fun h1 hF => ?_) (fun h1 hF => ?_)
 ·try simp [go_sem, g]
  refine pC hF [.sh, .sh] c_spec_vMarks (fun z2 hF => ?_)
  try simp [go_sem, g]
  refine pC hF [.sh, .sh, .sh] c_spec_vNumber (fun z3 hF => ?_)
  try simp [go_sem, g]
  refine pw_wkK [4] (by simp [go_sem, g]; rfl) ?_
  cases hΦ _ (Rn_some hF)
  try simp [go_sem, g]
 ·try simp [go_sem, g]
  refine pw_wk ?_
  repeat rw [sq]
  refine pI hF (fun h4 hF => ?_) (fun h4 hF => ?_)
  ·try simp [go_sem, g]
   refine pC hF [.sh, .sh, .sh] c_spec_vNumber (fun z5 hF => ?_)
   try simp [go_sem, g]
   refine pw_wkK [4] (by simp [go_sem, g]; rfl) ?_
   cases hΦ _ (Rn_some hF)
   try simp [go_sem, g]
  ·try simp [go_sem, g]
   refine pw_wkK [1, 2, 20] (by simp [go_sem, g]; rfl) ?_
   repeat rw [sq]
   refine pI hF (fun h6 hF => ?_) (fun h6 hF => ?_)
   ·try simp [go_sem, g]
    refine pC hF [.sh, .sh, .sh] c_spec_vNumber (fun z7 hF => ?_)
    cases hΦ _ (Rn_some hF)
    try simp [go_sem, g]
    refine pw_wk ?_
    try simp [go_sem, g]
   ·try simp [go_sem, g]
    refine pw_wk ?_
    try simp [go_sem, g]
    refine pC hF [.sh, .sh, .sh] c_spec_vNumber (fun z8 hF => ?_)
    cases hΦ _ (Rn_some hF)
    try simp [go_sem, g]
    refine pw_wk ?_
    try simp [go_sem, g]
noncomputable def F_spec_bGreatest (a0 : Contest) : Option (Int) :=
 ((if (a0.Kind == 1) = true then (
 wloop (σ := (List Int) × Int) (fun s5 =>
 if decide (s5.2 < a0.Options) = true then (
 gd ((s5.1.length + 1) * 8 ≤ 140737488355328 ∧ s5.1.length + 1 ≤ 4611686018427387904) <|
 some (.go (s5.1 ++ [s5.2], i64.wrap (s5.2 + 1)))) else (
 some (.out s5.1))) ([], i64.wrap (a0.Options - a0.Most))) else (
 if (a0.Kind == 2) = true then (
 gd (0 ≤ a0.Options ∧ a0.Options ≤ a0.Options ∧ 8 * a0.Options ≤ 140737488355328 ∧ a0.Options ≤ 4611686018427387904) <|
 (some (List.replicate a0.Options.toNat 0)).bind fun x14 =>
 wloop (σ := (List Int) × Int × Int) (fun s26 =>
 if decide (0 ≤ s26.2.2) = true then (
 (F_spec_l1Least s26.2.1 a0.Points).bind fun z32 =>
 (ix s26.1 s26.2.2).bind fun x33 =>
 (ix (s26.1.set s26.2.2.toNat z32) s26.2.2).bind fun x34 =>
 some (.go (s26.1.set s26.2.2.toNat z32, i64.wrap (s26.2.1 - x34), i64.wrap (s26.2.2 - 1)))) else (
 some (.out s26.1))) (x14, a0.Most, i64.wrap (a0.Options - 1))) else (
 if (a0.Kind == 3) = true then (
 wloop (σ := (List Int) × Int) (fun s38 =>
 if decide (s38.2 < a0.Options) = true then (
 gd ((s38.1.length + 1) * 8 ≤ 140737488355328 ∧ s38.1.length + 1 ≤ 4611686018427387904) <|
 some (.go (s38.1 ++ [s38.2], i64.wrap (s38.2 + 1)))) else (
 some (.out s38.1))) ([], i64.wrap (a0.Options - a0.Most))) else (
 wloop (σ := (List Int) × Int) (fun s46 =>
 if decide (s46.2 < a0.Most) = true then (
 gd ((s46.1.length + 1) * 8 ≤ 140737488355328 ∧ s46.1.length + 1 ≤ 4611686018427387904) <|
 some (.go (s46.1 ++ [26], i64.wrap (s46.2 + 1)))) else (
 some (.out s46.1))) ([], 0)))) : Option ((List Int))).bind fun x3 =>
 (F_spec_vCode a0 x3).bind fun z54 =>
 some z54)
theorem c_spec_bGreatest : ∀ {a0} {r}, F_spec_bGreatest a0 = some r → PCalls Tryz.prog 90 [(.sh, .agg [.int .i64 a0.Kind, .int .i64 a0.Options, .int .i64 a0.Least, .int .i64 a0.Most, .int .i64 a0.Points])] (Eo (.int .i64 r) [.junk]) := by
 intro a0 r hr
 apply pF 84 [] [] [] [.tmp 2] hr cl90 Tryz.func90
 intro Φ hΦ hF g
 unfold F_spec_bGreatest at hF
 iterate 3 (try simp [go_sem, g]; refine pw_wk ?_)
 repeat rw [sq]
 refine pJ hF (fun x3 => [(1, .bl [.int .i64 a0.Kind, .int .i64 a0.Options, .int .i64 a0.Least, .int .i64 a0.Most, .int .i64 a0.Points]), (3, .v (.sl true 1 (x3.map row_i64)))]) (fun x3 hF => ?_) fun _ hj1 hF => ?_
 ·try simp [go_sem, g]
  refine pC hF [.sh, .sh] c_spec_vCode (fun z54 hF => ?_)
  cases hΦ _ (Rn_some hF)
  try simp [go_sem, g]
  refine pw_wk ?_
  try simp [go_sem, g]
 ·repeat rw [sq]
  rw [pw_block]
  try simp [go_sem, g]
  refine pw_wk ?_
  repeat rw [sq]
  refine pI hF (fun h4 hF => ?_) (fun h4 hF => ?_)
  ·try simp [go_sem, g]
   refine pw_wkK [1, 3, 4] (by simp [go_sem, g]; rfl) ?_
   repeat rw [sq]
   rw [pw_block]
   obtain ⟨b11, hb12, hψ9⟩ := hF
   refine pL hb12 (fun s5 => [(1, .bl [.int .i64 a0.Kind, .int .i64 a0.Options, .int .i64 a0.Least, .int .i64 a0.Most, .int .i64 a0.Points]), (3, .v (.sl true 1 (s5.1.map row_i64))), (4, .v (.int .i64 s5.2))]) (fun s5 _ _ ho7 hg8 hF => ?_)
   try simp [go_sem, g]
   refine pw_wk ?_
   repeat rw [sq]
   refine pI hF (fun h10 hF => ?_) (fun h10 hF => ?_)
   ·try simp [go_sem, g]
    refine pw_wk ?_
    repeat rw [sq]
    rw [pw_block]
    obtain ⟨g, hF⟩ := Rg g hF
    try simp [go_sem, g]
    refine pw_wk ?_
    try simp [go_sem, g]
    exact pT (hg8 (s5.1 ++ [s5.2], i64.wrap (s5.2 + 1))) (Rn_some hF)
   ·try simp [go_sem, g]
    cases ho7 _ (Rn_some hF)
    exact pT (hj1 s5.1) hψ9
  ·try simp [go_sem, g]
   refine pw_wk ?_
   repeat rw [sq]
   refine pI hF (fun h13 hF => ?_) (fun h13 hF => ?_)
   ·obtain ⟨g, hF⟩ := Rg g hF
    obtain ⟨x14, e15, hF⟩ := Rn_bind hF
    have g16 : List.replicate a0.Options.toNat ([.int .i64 0] : List PV) = x14.map row_i64 := by injection e15 with e15; rw [← e15]; simp [go_sem]
    try simp [go_sem, g, g16]
    refine pw_wkK [1, 3] (by simp [go_sem, g]; rfl) ?_
    iterate 2 (try simp [go_sem, g]; refine pw_wk ?_)
    repeat rw [sq]
    rw [pw_block]
    obtain ⟨b35, hb36, hψ30⟩ := hF
    refine pL hb36 (fun s26 => [(1, .bl [.int .i64 a0.Kind, .int .i64 a0.Options, .int .i64 a0.Least, .int .i64 a0.Most, .int .i64 a0.Points]), (3, .v (.sl true 1 (s26.1.map row_i64))), (5, .v (.int .i64 s26.2.1)), (6, .v (.int .i64 s26.2.2))]) (fun s26 _ _ ho28 hg29 hF => ?_)
    try simp [go_sem, g]
    refine pw_wk ?_
    repeat rw [sq]
    refine pI hF (fun h31 hF => ?_) (fun h31 hF => ?_)
    ·try simp [go_sem, g]
     refine pw_wk ?_
     repeat rw [sq]
     rw [pw_block]
     try simp [go_sem, g]
     refine pC hF [.sh, .sh] c_spec_l1Least (fun z32 hF => ?_)
     obtain ⟨x33, g, hF⟩ := Rx g hF
     try simp [go_sem, g]
     refine pw_wkK [1, 3, 5, 6] (by simp [go_sem, g]; rfl) ?_
     obtain ⟨x34, g, hF⟩ := Rx g hF
     try simp only [List.length_set] at g
     try simp [go_sem, g]
     refine pw_wk ?_
     try simp [go_sem, g]
     exact pT (hg29 (s26.1.set s26.2.2.toNat z32, i64.wrap (s26.2.1 - x34), i64.wrap (s26.2.2 - 1))) (Rn_some hF)
    ·try simp [go_sem, g]
     cases ho28 _ (Rn_some hF)
     exact pT (hj1 s26.1) hψ30
   ·try simp [go_sem, g]
    refine pw_wkK [1, 3, 64] (by simp [go_sem, g]; rfl) ?_
    repeat rw [sq]
    refine pI hF (fun h37 hF => ?_) (fun h37 hF => ?_)
    ·try simp [go_sem, g]
     refine pw_wk ?_
     repeat rw [sq]
     rw [pw_block]
     obtain ⟨b44, hb45, hψ42⟩ := hF
     refine pL hb45 (fun s38 => [(1, .bl [.int .i64 a0.Kind, .int .i64 a0.Options, .int .i64 a0.Least, .int .i64 a0.Most, .int .i64 a0.Points]), (3, .v (.sl true 1 (s38.1.map row_i64))), (7, .v (.int .i64 s38.2))]) (fun s38 _ _ ho40 hg41 hF => ?_)
     try simp [go_sem, g]
     refine pw_wkK [1, 3, 7, 74] (by simp [go_sem, g]; rfl) ?_
     repeat rw [sq]
     refine pI hF (fun h43 hF => ?_) (fun h43 hF => ?_)
     ·try simp [go_sem, g]
      refine pw_wk ?_
      repeat rw [sq]
      rw [pw_block]
      obtain ⟨g, hF⟩ := Rg g hF
      try simp [go_sem, g]
      refine pw_wk ?_
      try simp [go_sem, g]
      exact pT (hg41 (s38.1 ++ [s38.2], i64.wrap (s38.2 + 1))) (Rn_some hF)
     ·try simp [go_sem, g]
      cases ho40 _ (Rn_some hF)
      exact pT (hj1 s38.1) hψ42
    ·try simp [go_sem, g]
     refine pw_wk ?_
     repeat rw [sq]
     rw [pw_block]
     obtain ⟨b52, hb53, hψ50⟩ := hF
     refine pL hb53 (fun s46 => [(1, .bl [.int .i64 a0.Kind, .int .i64 a0.Options, .int .i64 a0.Least, .int .i64 a0.Most, .int .i64 a0.Points]), (3, .v (.sl true 1 (s46.1.map row_i64))), (8, .v (.int .i64 s46.2))]) (fun s46 _ _ ho48 hg49 hF => ?_)
     try simp [go_sem, g]
     refine pw_wk ?_
     repeat rw [sq]
     refine pI hF (fun h51 hF => ?_) (fun h51 hF => ?_)
     ·try simp [go_sem, g]
      refine pw_wk ?_
      repeat rw [sq]
      rw [pw_block]
      obtain ⟨g, hF⟩ := Rg g hF
      try simp [go_sem, g]
      refine pw_wk ?_
      try simp [go_sem, g]
      exact pT (hg49 (s46.1 ++ [26], i64.wrap (s46.2 + 1))) (Rn_some hF)
     ·try simp [go_sem, g]
      cases ho48 _ (Rn_some hF)
      exact pT (hj1 s46.1) hψ50
noncomputable def F_spec_bRows (a0 : Contest) : Option (Bool) :=
 ((if (a0.Kind == 1) = true then (
 some true) else (
 some (a0.Kind == 2)) : Option (Bool)).bind fun x3 =>
 some x3)
theorem c_spec_bRows : ∀ {a0} {r}, F_spec_bRows a0 = some r → PCalls Tryz.prog 91 [(.sh, .agg [.int .i64 a0.Kind, .int .i64 a0.Options, .int .i64 a0.Least, .int .i64 a0.Most, .int .i64 a0.Points])] (Eo (.bool r) [.junk]) := by
 intro a0 r hr
 apply pF 11 [] [] [] [.tmp 2] hr cl91 Tryz.func91
 intro Φ hΦ hF g
 unfold F_spec_bRows at hF
 try simp [go_sem, g]
 refine pw_wk ?_
 repeat rw [sq]
 refine pJ hF (fun x3 => [(2, .v (.bool x3))]) (fun x3 hF => ?_) fun _ hj1 hF => ?_
 ·cases hΦ _ (Rn_some hF)
  try simp [go_sem, g]
 ·try simp [go_sem, g]
  refine pwg_F hF (fun h4 hF => ?_) fun h4 hF => ?_
  ·try simp [go_sem, g, h4]
   exact pT (hj1 true) (Rn_some hF)
  ·try simp [go_sem, g, h4]
   exact pT (hj1 (a0.Kind == 2)) (Rn_some hF)
def D30_1 : List DE := [d2 0 [2] 2 2, d3 1 [5], d0 2 [6], d0 3 [7], d2 4 [3, 8] 3 3, d3 5 [9, 8], d0 6 [10, 8], d0 7 [8, 11], d0 8 [12], d2 9 [3, 13] 3 3, d3 10 [14, 13], d0 11 [15, 13], d0 12 [13, 16], d0 13 [17], d2 14 [3, 18] 3 3, d1 16 [2, 18] 2, d2 17 [21, 18] 2 21, d3 15 [19, 18], d0 18 [20, 22, 18], d0 19 [18, 23]]
noncomputable def F_spec_bGood (a0 : Group) (a1 : Contest) : Option (Bool) :=
 (((F_spec_l2Good a0).bind fun z4 =>
 if (!z4) = true then (
 some true) else (
 (F_spec_vContest a1).bind fun z6 =>
 if (!z6) = true then (
 some true) else (
 (F_spec_bGreatest a1).bind fun z8 =>
 if decide (100000 < z8) = true then (
 some true) else (
 (F_spec_bGreatest a1).bind fun z10 =>
 some (decide (a0.Q ≤ z10))))) : Option (Bool)).bind fun x3 =>
 if x3 = true then (
 some false) else (
 (((F_spec_bRows a1).bind fun z15 =>
 if (!z15) = true then (
 some true) else (
 if decide ((i64.wrap (a1.Most - a1.Least)) < 8) = true then (
 some (decide (a1.Most < a0.Q))) else (
 some false)) : Option (Bool)).bind fun x14 =>
 some x14)))
theorem c_spec_bGood : ∀ {a0} {a1} {r}, F_spec_bGood a0 a1 = some r → PCalls Tryz.prog 30 [(.sh, .agg [.int .i64 a0.P, .int .i64 a0.Q, .int .i64 a0.G]), (.sh, .agg [.int .i64 a1.Kind, .int .i64 a1.Options, .int .i64 a1.Least, .int .i64 a1.Most, .int .i64 a1.Points])] (Eo (.bool r) [.junk, .junk]) := by
 intro a0 a1 r hr
 apply pF 43 [] [] [] [.tmp 4] hr cl30 Tryz.func30
 intro Φ hΦ hF g
 unfold F_spec_bGood at hF
 try simp [go_sem, g]
 refine pw_wk ?_
 repeat rw [sq]
 refine pJ hF (fun x3 => [(2, .bl [.int .i64 a0.P, .int .i64 a0.Q, .int .i64 a0.G]), (3, .bl [.int .i64 a1.Kind, .int .i64 a1.Options, .int .i64 a1.Least, .int .i64 a1.Most, .int .i64 a1.Points]), (24, .v (.bool x3))]) (fun x3 hF => ?_) fun _ hj1 hF => ?_
 ·repeat rw [sq]
  refine pI hF (fun h11 hF => ?_) (fun h11 hF => ?_)
  ·cases hΦ _ (Rn_some hF)
   try simp [go_sem, g]
   refine pw_wk ?_
   try simp [go_sem, g]
  ·try simp [go_sem, g]
   refine pw_wk ?_
   repeat rw [sq]
   refine pJ hF (fun x14 => [(4, .v (.bool x14))]) (fun x14 hF => ?_) fun _ hj12 hF => ?_
   ·cases hΦ _ (Rn_some hF)
    try simp [go_sem, g]
   ·try simp [go_sem, g]
    refine pC hF [.sh] c_spec_bRows (fun z15 hF => ?_)
    try simp [go_sem, g]
    refine pwg_F hF (fun h16 hF => ?_) fun h16 hF => ?_
    ·try simp [go_sem, g, h16]
     exact pT (hj12 true) (Rn_some hF)
    ·try simp [go_sem, g, h16]
     refine pwg_F hF (fun h17 hF => ?_) fun h17 hF => ?_
     ·try simp [go_sem, g, h17, h16]
      exact pT (hj12 (decide (a1.Most < a0.Q))) (Rn_some hF)
     ·try simp [go_sem, g, h17, h16]
      exact pT (hj12 false) (Rn_some hF)
 ·repeat rw [sq]
  refine pw_draw D30_1 follows (by kernel_rfl) rfl ?_
  try simp only [go_sem, D30_1]
  try simp [go_sem, g]
  refine pC hF [.sh] c_spec_l2Good (fun z4 hF => ?_)
  try simp [go_sem, g]
  refine pwgD_F hF (fun h5 hF => ?_) fun h5 hF => ?_
  ·try simp [go_sem, g, h5]
   exact pT (hj1 true) (Rn_some hF)
  ·try simp [go_sem, g, h5]
   refine pC hF [.sh] c_spec_vContest (fun z6 hF => ?_)
   try simp [go_sem, g, h5]
   refine pwgD_F hF (fun h7 hF => ?_) fun h7 hF => ?_
   ·try simp [go_sem, g, h7]
    exact pT (hj1 true) (Rn_some hF)
   ·try simp [go_sem, g, h7]
    refine pC hF [.sh] c_spec_bGreatest (fun z8 hF => ?_)
    try simp [go_sem, g, h7]
    refine pwgD_F hF (fun h9 hF => ?_) fun h9 hF => ?_
    ·try simp [go_sem, g, h9]
     exact pT (hj1 true) (Rn_some hF)
    ·try simp [go_sem, g, h9]
     refine pC hF [.sh] c_spec_bGreatest (fun z10 hF => ?_)
     try simp [go_sem, g, h9]
     exact pT (hj1 (decide (a0.Q ≤ z10))) (Rn_some hF)
noncomputable def F_spec_l1Has (a0 : (List Int)) (a1 : Int) : Option (Bool) :=
 ((rloop (σ := Unit) (fun i5 s4 =>
 (ix a0 i5).bind fun x11 =>
 if (x11 == a1) = true then (
 some (.out (.inr true))) else (
 some (.go ()))) (fun s4 => .inl ()) (a0.length) 0 () : Option (Unit ⊕ Bool)).bind (Sum.elim (fun x3 =>
 some false) some))
theorem c_spec_l1Has : ∀ {a0} {a1} {r}, F_spec_l1Has a0 a1 = some r → PCalls Tryz.prog 136 [(.sh, .sl false 1 (a0.map row_i64)), (.sh, .int .i64 a1)] (Eo (.bool r) [.junk, .junk]) := by
 intro a0 a1 r hr
 apply pF 17 [] [] [] [.tmp 4] hr cl136 Tryz.func136
 intro Φ hΦ hF g
 unfold F_spec_l1Has at hF
 iterate 2 (try simp [go_sem, g]; try intros; refine pw_wk ?_)
 repeat rw [sq]
 refine pJs hF (fun x3 => []) (fun x3 hF => ?_) fun _ hj1 hr2 hF => ?_
 ·cases hΦ _ (Rn_some hF)
  try simp [go_sem, g]
  refine pw_wk ?_
  try simp [go_sem, g]
 ·repeat rw [sq]
  rw [pw_block]
  obtain ⟨b13, hb14, hψ8⟩ := hF
  refine pR hb14 (fun i5 s4 => [(1, .v (.int .i64 a1)), (7, .v (.sl false 1 (a0.map row_i64))), (8, .v (.int .i64 (a0.length : Int))), (9, .v (.int .i64 i5))]) (fun s4 _ hN15 => ?_) (fun i5 s4 _ _ hi9 hi10 ho6 hg7 hF => ?_)
  ·subst hN15
   try simp [go_sem]
   refine pw_wk ?_
   repeat rw [sq]
   refine pw_cond_f (by simp [go_sem]) ?_
   try simp [go_sem]
   exact pT (hj1 ()) hψ8 (by simp [go_sem])
  ·try simp [go_sem, g]
   refine pw_wk ?_
   repeat rw [sq]
   refine pw_cond_t (by simp [go_sem, g, hi9, hi10]) ?_
   try simp [go_sem, g]
   refine pw_wk ?_
   repeat rw [sq]
   rw [pw_block]
   obtain ⟨x11, g, hF⟩ := Rx g hF
   try simp [go_sem, g]
   refine pw_wk ?_
   try simp [go_sem, g]
   refine pw_wkK [1, 7, 8, 9, 15] (by simp [go_sem, g]; rfl) ?_
   repeat rw [sq]
   refine pI hF (fun h12 hF => ?_) (fun h12 hF => ?_)
   ·cases ho6 _ (Rn_some hF)
    cases hΦ _ (hr2 _ hψ8)
    try simp [go_sem, g]
    refine pw_wk ?_
    try simp [go_sem, g]
   ·try simp [go_sem, g]
    refine pw_wk ?_
    try simp [go_sem, g]
    exact pT (hg7 ()) (Rn_some hF) (by simp [go_sem, g, wr_i hi9 hi10 (by assumption)])
noncomputable def F_spec_l1Put__mv0 (a0 : (List Int)) (a1 : Int) : Option ((List Int)) :=
 ((wloop (σ := Int) (fun s4 =>
 ((if decide (s4 < (a0.length : Int)) = true then (
 (ix a0 s4).bind fun x13 =>
 some (decide (x13 < a1))) else (
 some false) : Option (Bool)).bind fun x11 =>
 if x11 = true then (
 some (.go (i64.wrap (s4 + 1)))) else (
 some (.out s4)))) 0 : Option (Int)).bind fun x3 =>
 ((if decide (x3 < (a0.length : Int)) = true then (
 (ix a0 x3).bind fun x21 =>
 some (x21 == a1)) else (
 some false) : Option (Bool)).bind fun x19 =>
 if x19 = true then (
 some a0) else (
 gd (0 ≤ x3) <|
 gd (0 ≤ x3.toNat ∧ x3.toNat ≤ a0.length) <|
 gd ((((a0.take x3.toNat).drop 0).length) * 8 ≤ 140737488355328 ∧ ((a0.take x3.toNat).drop 0).length ≤ 4611686018427387904) <|
 gd ((((a0.take x3.toNat).drop 0).length + 1) * 8 ≤ 140737488355328 ∧ ((a0.take x3.toNat).drop 0).length + 1 ≤ 4611686018427387904) <|
 gd (0 ≤ x3) <|
 gd (x3.toNat ≤ a0.length ∧ a0.length ≤ a0.length) <|
 gd ((((a0.take x3.toNat).drop 0 ++ [a1]).length + ((a0.take a0.length).drop x3.toNat).length) * 8 ≤ 140737488355328 ∧ ((a0.take x3.toNat).drop 0 ++ [a1]).length + ((a0.take a0.length).drop x3.toNat).length ≤ 4611686018427387904) <|
 some ((a0.take x3.toNat).drop 0 ++ [a1] ++ (a0.take a0.length).drop x3.toNat))))
theorem c_spec_l1Put__mv0 : ∀ {a0} {a1} {r}, F_spec_l1Put__mv0 a0 a1 = some r → PCalls Tryz.prog 169 [(.mv, .sl true 1 (a0.map row_i64)), (.sh, .int .i64 a1)] (Eo (.sl true 1 (r.map row_i64)) [.junk, .junk]) := by
 intro a0 a1 r hr
 apply pF 48 [] [] [] [.tmp 4] hr cl169 Tryz.func169
 intro Φ hΦ hF g
 unfold F_spec_l1Put__mv0 at hF
 iterate 2 (try simp [go_sem, g]; refine pw_wk ?_)
 repeat rw [sq]
 refine pJ hF (fun x3 => [(0, .v (.sl true 1 (a0.map row_i64))), (1, .v (.int .i64 a1)), (5, .v (.int .i64 x3))]) (fun x3 hF => ?_) fun _ hj1 hF => ?_
 ·repeat rw [sq]
  refine pJ hF (fun x19 => [(0, .v (.sl true 1 (a0.map row_i64))), (1, .v (.int .i64 a1)), (5, .v (.int .i64 x3)), (32, .v (.bool x19))]) (fun x19 hF => ?_) fun _ hj17 hF => ?_
  ·repeat rw [sq]
   refine pI hF (fun h22 hF => ?_) (fun h22 hF => ?_)
   ·cases hΦ _ (Rn_some hF)
    try simp [go_sem, g]
    refine pw_wk ?_
    try simp [go_sem, g]
   ·obtain ⟨g, hF⟩ := Rg g hF
    obtain ⟨g, hF⟩ := Rg g hF
    obtain ⟨g, hF⟩ := Rg g hF
    have w := g.1.2
    try simp [g.1.1] at w
    try have g := And.intro g w
    obtain ⟨g, hF⟩ := Rg g hF
    have w := g.1.2
    try simp [g.1.1] at w
    try have g := And.intro g w
    iterate 2 (try simp [go_sem, g]; refine pw_wk ?_)
    try simp [go_sem, g]
    refine pw_wkK [0, 5, 6] (by simp [go_sem, g]; rfl) ?_
    obtain ⟨g, hF⟩ := Rg g hF
    obtain ⟨g, hF⟩ := Rg g hF
    obtain ⟨g, hF⟩ := Rg g hF
    have w := g.1.2
    try simp [g.1.1] at w
    try have g := And.intro g w
    cases hΦ _ (Rn_some hF)
    try simp [go_sem, g]
    refine pw_wk ?_
    try simp [go_sem, g]
  ·try simp [go_sem, g]
   try intros
   refine pwg_F hF (fun h20 hF => ?_) fun h20 hF => ?_
   ·obtain ⟨x21, g, hF⟩ := Rx g hF
    try simp [go_sem, g, h20]
    exact pT (hj17 (x21 == a1)) (Rn_some hF)
   ·try simp [go_sem, g, h20]
    exact pT (hj17 false) (Rn_some hF)
 ·repeat rw [sq]
  rw [pw_block]
  obtain ⟨b15, hb16, hψ8⟩ := hF
  refine pL hb16 (fun s4 => [(0, .v (.sl true 1 (a0.map row_i64))), (1, .v (.int .i64 a1)), (5, .v (.int .i64 s4))]) (fun s4 _ _ ho6 hg7 hF => ?_)
  repeat rw [sq]
  refine pJ hF (fun x11 => [(0, .v (.sl true 1 (a0.map row_i64))), (1, .v (.int .i64 a1)), (5, .v (.int .i64 s4)), (18, .v (.bool x11))]) (fun x11 hF => ?_) fun _ hj9 hF => ?_
  ·repeat rw [sq]
   refine pI hF (fun h14 hF => ?_) (fun h14 hF => ?_)
   ·try simp [go_sem, g]
    refine pw_wk ?_
    repeat rw [sq]
    rw [pw_block]
    try simp [go_sem, g]
    exact pT (hg7 (i64.wrap (s4 + 1))) (Rn_some hF)
   ·try simp [go_sem, g]
    cases ho6 _ (Rn_some hF)
    first | exact pT (hj1 s4) hψ8 | exact pT (hj1 _) hψ8
  ·try simp [go_sem, g]
   try intros
   refine pwg_F hF (fun h12 hF => ?_) fun h12 hF => ?_
   ·obtain ⟨x13, g, hF⟩ := Rx g hF
    try simp [go_sem, g, h12]
    exact pT (hj9 (decide (x13 < a1))) (Rn_some hF)
   ·try simp [go_sem, g, h12]
    exact pT (hj9 false) (Rn_some hF)
def D134_1 : List DE := [d1 0 [3] 3, d2 1 [9] 3 9, d0 2 [0], d1 3 [3] 3, d2 4 [12] 3 12, d1 5 [3] 3, d2 6 [14] 3 14, d0 7 [13, 15], d0 8 [16], d3 9 [11, 17], d0 10 [10, 18], d0 11 [19]]
def D134_8 : List DE := [d0 0 [6], d0 1 [7], d0 2 [33, 34], d0 3 [35], d1 4 [3] 3, d2 5 [37] 3 37, d0 6 [36, 38]]
noncomputable def F_spec_l1Cur_vote__io0 (a0c0 : (List Int)) (a0c1 : Int) (a0c2 : Int) (a1 : Contest) : Option ((List Int) × ((List Int) × Int × Int)) :=
 (F_spec_l1Cur_pick__io0 a0c0 a0c1 a0c2 (i64.wrap ((i64.wrap (a1.Most - a1.Least)) + 1))).bind fun z1 =>
 if (a1.Kind == 2) = true then (
 gd (0 ≤ a1.Options ∧ a1.Options ≤ a1.Options ∧ 8 * a1.Options ≤ 140737488355328 ∧ a1.Options ≤ 4611686018427387904) <|
 (some (List.replicate a1.Options.toNat 0)).bind fun x3 =>
 ((wloop (σ := ((List Int) × Int × Int) × Int × (List Int)) (fun s29 =>
 if decide (0 < s29.2.1) = true then (
 (F_spec_l1Cur_pick__io0 s29.1.1 s29.1.2.1 s29.1.2.2 a1.Options).bind fun z35 =>
 ((wloop (σ := Int) (fun s39 =>
 (ix s29.2.2 s39).bind fun x44 =>
 if (x44 == a1.Points) = true then (
 gd (a1.Options ≠ 0) <|
 some (.go ((i64.wrap (s39 + 1)).tmod a1.Options))) else (
 some (.out s39))) z35.1 : Option (Int)).bind fun x38 =>
 (ix s29.2.2 x38).bind fun x48 =>
 some (.go ((z35.2.1, z35.2.2.1, z35.2.2.2), i64.wrap (s29.2.1 - 1), s29.2.2.set x38.toNat (i64.wrap (x48 + 1)))))) else (
 some (.out ((s29.1.1, s29.1.2.1, s29.1.2.2), s29.2.2)))) ((z1.2.1, z1.2.2.1, z1.2.2.2), i64.wrap (a1.Least + z1.1), x3) : Option ((((List Int) × Int × Int) × (List Int)))).bind fun x8 =>
 some (x8.2, (x8.1.1, x8.1.2.1, x8.1.2.2)))) else (
 if (a1.Kind == 4) = true then (
 ((wloop (σ := ((List Int) × Int × Int) × Int × (List Int)) (fun s62 =>
 if decide (0 < s62.2.1) = true then (
 (F_spec_l1Cur_pick__io0 s62.1.1 s62.1.2.1 s62.1.2.2 26).bind fun z68 =>
 gd ((s62.2.2.length + 1) * 8 ≤ 140737488355328 ∧ s62.2.2.length + 1 ≤ 4611686018427387904) <|
 some (.go ((z68.2.1, z68.2.2.1, z68.2.2.2), i64.wrap (s62.2.1 - 1), s62.2.2 ++ [i64.wrap (1 + z68.1)]))) else (
 some (.out ((s62.1.1, s62.1.2.1, s62.1.2.2), s62.2.2)))) ((z1.2.1, z1.2.2.1, z1.2.2.2), i64.wrap (a1.Least + z1.1), []) : Option ((((List Int) × Int × Int) × (List Int)))).bind fun x54 =>
 some (x54.2, (x54.1.1, x54.1.2.1, x54.1.2.2)))) else (
 ((wloop (σ := ((List Int) × Int × Int) × (List Int)) (fun s95 =>
 if decide ((s95.2.length : Int) < (i64.wrap (a1.Least + z1.1))) = true then (
 (F_spec_l1Cur_pick__io0 s95.1.1 s95.1.2.1 s95.1.2.2 a1.Options).bind fun z101 =>
 ((wloop (σ := Int) (fun s105 =>
 (F_spec_l1Has s95.2 s105).bind fun z110 =>
 if z110 = true then (
 gd (a1.Options ≠ 0) <|
 some (.go ((i64.wrap (s105 + 1)).tmod a1.Options))) else (
 some (.out s105))) z101.1 : Option (Int)).bind fun x104 =>
 if (a1.Kind == 3) = true then (
 gd ((s95.2.length + 1) * 8 ≤ 140737488355328 ∧ s95.2.length + 1 ≤ 4611686018427387904) <|
 some (.go ((z101.2.1, z101.2.2.1, z101.2.2.2), s95.2 ++ [x104]))) else (
 (F_spec_l1Put__mv0 s95.2 x104).bind fun z115 =>
 some (.go ((z101.2.1, z101.2.2.1, z101.2.2.2), z115))))) else (
 some (.out ((s95.1.1, s95.1.2.1, s95.1.2.2), s95.2)))) ((z1.2.1, z1.2.2.1, z1.2.2.2), []) : Option ((((List Int) × Int × Int) × (List Int)))).bind fun x73 =>
 some (x73.2, (x73.1.1, x73.1.2.1, x73.1.2.2)))))
theorem c_spec_l1Cur_vote__io0 : ∀ {a0c0} {a0c1} {a0c2} {a1} {r}, F_spec_l1Cur_vote__io0 a0c0 a0c1 a0c2 a1 = some r → PCalls Tryz.prog 134 [(.io, .bx [.sl false 1 (a0c0.map row_u8), .int .i64 a0c1, .int .u64 a0c2]), (.sh, .agg [.int .i64 a1.Kind, .int .i64 a1.Options, .int .i64 a1.Least, .int .i64 a1.Most, .int .i64 a1.Points])] (Eo (.sl true 1 (r.1.map row_i64)) [.bx [.sl false 1 (r.2.1.map row_u8), .int .i64 r.2.2.1, .int .u64 r.2.2.2], .junk]) := by
 intro a0c0 a0c1 a0c2 a1 r hr
 apply pF 94 [0] [] [] [.tmp 4] hr cl134 Tryz.func134
 intro Φ hΦ hF g
 unfold F_spec_l1Cur_vote__io0 at hF
 try simp [go_sem, g]
 refine pw_wk ?_
 repeat rw [sq]
 refine pw_draw D134_1 follows (by kernel_rfl) rfl ?_
 try simp only [go_sem, D134_1]
 try simp [go_sem, g]
 refine pC hF [.io, .sh] c_spec_l1Cur_pick__io0 (fun z1 hF => ?_)
 try simp [go_sem, g]
 refine pw_wkK [0, 3, 5] (by simp [go_sem, g]; rfl) ?_
 iterate 2 (try simp [go_sem, g]; refine pw_wk ?_)
 repeat rw [sq]
 rw [pw_block]
 try simp [go_sem, g]
 refine pw_wk ?_
 repeat rw [sq]
 refine pI hF (fun h2 hF => ?_) (fun h2 hF => ?_)
 ·obtain ⟨g, hF⟩ := Rg g hF
  obtain ⟨x3, e4, hF⟩ := Rn_bind hF
  have g5 : List.replicate a1.Options.toNat ([.int .i64 0] : List PV) = x3.map row_i64 := by injection e4 with e4; rw [← e4]; simp [go_sem]
  try simp [go_sem, g, g5]
  refine pw_wk ?_
  repeat rw [sq]
  refine pJ hF (fun x8 => [(0, .v (.bx [.sl false 1 (x8.1.1.map row_u8), .int .i64 x8.1.2.1, .int .u64 x8.1.2.2])), (6, .v (.sl true 1 (x8.2.map row_i64)))]) (fun x8 hF => ?_) fun _ hj6 hF => ?_
  ·try simp [go_sem, g]
   refine pw_wkK [0, 4] (by simp [go_sem, g]; rfl) ?_
   cases hΦ _ (Rn_some hF)
   try simp [go_sem, g]
  ·repeat rw [sq]
   rw [pw_block]
   obtain ⟨b49, hb50, hψ33⟩ := hF
   refine pL hb50 (fun s29 => [(0, .v (.bx [.sl false 1 (s29.1.1.map row_u8), .int .i64 s29.1.2.1, .int .u64 s29.1.2.2])), (3, .bl [.int .i64 a1.Kind, .int .i64 a1.Options, .int .i64 a1.Least, .int .i64 a1.Most, .int .i64 a1.Points]), (5, .v (.int .i64 s29.2.1)), (6, .v (.sl true 1 (s29.2.2.map row_i64)))]) (fun s29 _ _ ho31 hg32 hF => ?_)
   try simp [go_sem, g]
   refine pw_wkK [0, 3, 5, 6, 28] (by simp [go_sem, g]; rfl) ?_
   repeat rw [sq]
   refine pI hF (fun h34 hF => ?_) (fun h34 hF => ?_)
   ·try simp [go_sem, g]
    refine pw_wk ?_
    repeat rw [sq]
    rw [pw_block]
    try simp [go_sem, g]
    refine pC hF [.io, .sh] c_spec_l1Cur_pick__io0 (fun z35 hF => ?_)
    try simp [go_sem, g]
    refine pw_wk ?_
    repeat rw [sq]
    refine pJ hF (fun x38 => [(0, .v (.bx [.sl false 1 (z35.2.1.map row_u8), .int .i64 z35.2.2.1, .int .u64 z35.2.2.2])), (3, .bl [.int .i64 a1.Kind, .int .i64 a1.Options, .int .i64 a1.Least, .int .i64 a1.Most, .int .i64 a1.Points]), (5, .v (.int .i64 s29.2.1)), (6, .v (.sl true 1 (s29.2.2.map row_i64))), (7, .v (.int .i64 x38))]) (fun x38 hF => ?_) fun _ hj36 hF => ?_
    ·obtain ⟨x48, g, hF⟩ := Rx g hF
     try simp [go_sem, g]
     refine pw_wkK [0, 3, 5, 6] (by simp [go_sem, g]; rfl) ?_
     try simp [go_sem, g]
     exact pT (hg32 ((z35.2.1, z35.2.2.1, z35.2.2.2), i64.wrap (s29.2.1 - 1), s29.2.2.set x38.toNat (i64.wrap (x48 + 1)))) (Rn_some hF)
    ·repeat rw [sq]
     rw [pw_block]
     obtain ⟨b46, hb47, hψ43⟩ := hF
     refine pL hb47 (fun s39 => [(0, .v (.bx [.sl false 1 (z35.2.1.map row_u8), .int .i64 z35.2.2.1, .int .u64 z35.2.2.2])), (3, .bl [.int .i64 a1.Kind, .int .i64 a1.Options, .int .i64 a1.Least, .int .i64 a1.Most, .int .i64 a1.Points]), (5, .v (.int .i64 s29.2.1)), (6, .v (.sl true 1 (s29.2.2.map row_i64))), (7, .v (.int .i64 s39))]) (fun s39 _ _ ho41 hg42 hF => ?_)
     repeat rw [sq]
     refine pw_draw D134_8 follows (by kernel_rfl) rfl ?_
     try simp only [go_sem, D134_8]
     obtain ⟨x44, g, hF⟩ := Rx g hF
     try simp [go_sem, g]
     refine pw_wkK [0, 3, 5, 6, 7, 39] (by simp [go_sem, g]; rfl) ?_
     repeat rw [sq]
     refine pI hF (fun h45 hF => ?_) (fun h45 hF => ?_)
     ·try simp [go_sem, g]
      refine pw_wk ?_
      repeat rw [sq]
      rw [pw_block]
      obtain ⟨g, hF⟩ := Rz g hF
      try simp [go_sem, g]
      exact pT (hg42 ((i64.wrap (s39 + 1)).tmod a1.Options)) (Rn_some hF)
     ·try simp [go_sem, g]
      cases ho41 _ (Rn_some hF)
      first | exact pT (hj36 s39) hψ43 | exact pT (hj36 _) hψ43
   ·try simp [go_sem, g]
    cases ho31 _ (Rn_some hF)
    exact pT (hj6 ((s29.1.1, s29.1.2.1, s29.1.2.2), s29.2.2)) hψ33
 ·try simp [go_sem, g]
  refine pw_wk ?_
  repeat rw [sq]
  refine pI hF (fun h51 hF => ?_) (fun h51 hF => ?_)
  ·repeat rw [sq]
   refine pJ hF (fun x54 => [(0, .v (.bx [.sl false 1 (x54.1.1.map row_u8), .int .i64 x54.1.2.1, .int .u64 x54.1.2.2])), (6, .v (.sl true 1 (x54.2.map row_i64)))]) (fun x54 hF => ?_) fun _ hj52 hF => ?_
   ·cases hΦ _ (Rn_some hF)
    try simp [go_sem, g]
    refine pw_wk ?_
    try simp [go_sem, g]
   ·repeat rw [sq]
    rw [pw_block]
    obtain ⟨b69, hb70, hψ66⟩ := hF
    refine pL hb70 (fun s62 => [(0, .v (.bx [.sl false 1 (s62.1.1.map row_u8), .int .i64 s62.1.2.1, .int .u64 s62.1.2.2])), (5, .v (.int .i64 s62.2.1)), (6, .v (.sl true 1 (s62.2.2.map row_i64)))]) (fun s62 _ _ ho64 hg65 hF => ?_)
    try simp [go_sem, g]
    refine pw_wk ?_
    repeat rw [sq]
    refine pI hF (fun h67 hF => ?_) (fun h67 hF => ?_)
    ·try simp [go_sem, g]
     refine pw_wk ?_
     repeat rw [sq]
     rw [pw_block]
     try simp [go_sem, g]
     refine pC hF [.io, .sh] c_spec_l1Cur_pick__io0 (fun z68 hF => ?_)
     obtain ⟨g, hF⟩ := Rg g hF
     try simp [go_sem, g]
     refine pw_wkK [0, 5, 6] (by simp [go_sem, g]; rfl) ?_
     try simp [go_sem, g]
     exact pT (hg65 ((z68.2.1, z68.2.2.1, z68.2.2.2), i64.wrap (s62.2.1 - 1), s62.2.2 ++ [i64.wrap (1 + z68.1)])) (Rn_some hF)
    ·try simp [go_sem, g]
     cases ho64 _ (Rn_some hF)
     exact pT (hj52 ((s62.1.1, s62.1.2.1, s62.1.2.2), s62.2.2)) hψ66
  ·try simp [go_sem, g]
   refine pw_wk ?_
   repeat rw [sq]
   refine pJ hF (fun x73 => [(0, .v (.bx [.sl false 1 (x73.1.1.map row_u8), .int .i64 x73.1.2.1, .int .u64 x73.1.2.2])), (6, .v (.sl true 1 (x73.2.map row_i64)))]) (fun x73 hF => ?_) fun _ hj71 hF => ?_
   ·cases hΦ _ (Rn_some hF)
    try simp [go_sem, g]
    refine pw_wk ?_
    try simp [go_sem, g]
   ·repeat rw [sq]
    rw [pw_block]
    obtain ⟨b116, hb117, hψ99⟩ := hF
    refine pL hb117 (fun s95 => [(0, .v (.bx [.sl false 1 (s95.1.1.map row_u8), .int .i64 s95.1.2.1, .int .u64 s95.1.2.2])), (3, .bl [.int .i64 a1.Kind, .int .i64 a1.Options, .int .i64 a1.Least, .int .i64 a1.Most, .int .i64 a1.Points]), (5, .v (.int .i64 (i64.wrap (a1.Least + z1.1)))), (6, .v (.sl true 1 (s95.2.map row_i64)))]) (fun s95 _ _ ho97 hg98 hF => ?_)
    try simp [go_sem, g]
    try intros
    refine pw_wkK [0, 3, 5, 6, 70] (by simp [go_sem, g]; rfl) ?_
    repeat rw [sq]
    refine pI hF (fun h100 hF => ?_) (fun h100 hF => ?_)
    ·try simp [go_sem, g]
     refine pw_wk ?_
     repeat rw [sq]
     rw [pw_block]
     try simp [go_sem, g]
     refine pC hF [.io, .sh] c_spec_l1Cur_pick__io0 (fun z101 hF => ?_)
     try simp [go_sem, g]
     refine pw_wk ?_
     repeat rw [sq]
     refine pJ hF (fun x104 => [(0, .v (.bx [.sl false 1 (z101.2.1.map row_u8), .int .i64 z101.2.2.1, .int .u64 z101.2.2.2])), (3, .bl [.int .i64 a1.Kind, .int .i64 a1.Options, .int .i64 a1.Least, .int .i64 a1.Most, .int .i64 a1.Points]), (5, .v (.int .i64 (i64.wrap (a1.Least + z1.1)))), (6, .v (.sl true 1 (s95.2.map row_i64))), (8, .v (.int .i64 x104))]) (fun x104 hF => ?_) fun _ hj102 hF => ?_
     ·try simp [go_sem, g]
      refine pw_wk ?_
      repeat rw [sq]
      refine pI hF (fun h114 hF => ?_) (fun h114 hF => ?_)
      ·obtain ⟨g, hF⟩ := Rg g hF
       try simp [go_sem, g]
       exact pT (hg98 ((z101.2.1, z101.2.2.1, z101.2.2.2), s95.2 ++ [x104])) (Rn_some hF)
      ·try simp [go_sem, g]
       refine pC hF [.mv, .sh] c_spec_l1Put__mv0 (fun z115 hF => ?_)
       try simp [go_sem, g]
       exact pT (hg98 ((z101.2.1, z101.2.2.1, z101.2.2.2), z115)) (Rn_some hF)
     ·repeat rw [sq]
      rw [pw_block]
      obtain ⟨b112, hb113, hψ109⟩ := hF
      refine pL hb113 (fun s105 => [(0, .v (.bx [.sl false 1 (z101.2.1.map row_u8), .int .i64 z101.2.2.1, .int .u64 z101.2.2.2])), (3, .bl [.int .i64 a1.Kind, .int .i64 a1.Options, .int .i64 a1.Least, .int .i64 a1.Most, .int .i64 a1.Points]), (5, .v (.int .i64 (i64.wrap (a1.Least + z1.1)))), (6, .v (.sl true 1 (s95.2.map row_i64))), (8, .v (.int .i64 s105))]) (fun s105 _ _ ho107 hg108 hF => ?_)
      try simp [go_sem, g]
      refine pC hF [.sh, .sh] c_spec_l1Has (fun z110 hF => ?_)
      try simp [go_sem, g]
      refine pw_wk ?_
      repeat rw [sq]
      refine pI hF (fun h111 hF => ?_) (fun h111 hF => ?_)
      ·try simp [go_sem, g]
       refine pw_wk ?_
       repeat rw [sq]
       rw [pw_block]
       obtain ⟨g, hF⟩ := Rz g hF
       try simp [go_sem, g]
       exact pT (hg108 ((i64.wrap (s105 + 1)).tmod a1.Options)) (Rn_some hF)
      ·try simp [go_sem, g]
       cases ho107 _ (Rn_some hF)
       first | exact pT (hj102 s105) hψ109 | exact pT (hj102 _) hψ109
    ·try simp [go_sem, g]
     cases ho97 _ (Rn_some hF)
     exact pT (hj71 ((s95.1.1, s95.1.2.1, s95.1.2.2), s95.2)) hψ99
noncomputable def F_spec_l1Own (a0 : (List Int)) : Option ((List Int)) :=
 gd (a0.length * 8 ≤ 140737488355328 ∧ a0.length ≤ 4611686018427387904) <|
 some a0
theorem c_spec_l1Own : ∀ {a0} {r}, F_spec_l1Own a0 = some r → PCalls Tryz.prog 133 [(.sh, .sl false 1 (a0.map row_i64))] (Eo (.sl true 1 (r.map row_i64)) [.junk]) := by
 intro a0 r hr
 apply pF 6 [] [] [] [.tmp 2] hr cl133 Tryz.func133
 intro Φ hΦ hF g
 unfold F_spec_l1Own at hF
 obtain ⟨g, hF⟩ := Rg g hF
 cases hΦ _ (Rn_some hF)
 iterate 2 (try simp [go_sem, g]; refine pw_wk ?_)
 try simp [go_sem, g]
noncomputable def F_spec_l1Cur_anyVote__io0 (a0c0 : (List Int)) (a0c1 : Int) (a0c2 : Int) (a1 : Contest) : Option ((List Int) × ((List Int) × Int × Int)) :=
 (F_spec_vContest a1).bind fun z1 =>
 if (!z1) = true then (
 some ([0], (a0c0, a0c1, a0c2))) else (
 (F_spec_l1Cur_vote__io0 a0c0 a0c1 a0c2 a1).bind fun z3 =>
 (F_spec_l1Own z3.1).bind fun z4 =>
 (F_spec_l1Cur_pick__io0 z3.2.1 z3.2.2.1 z3.2.2.2 14).bind fun z5 =>
 ((if (z5.1 == 0) = true then (
 (F_spec_l1Cur_pick__io0 z5.2.1 z5.2.2.1 z5.2.2.2 9).bind fun z10 =>
 gd ((z4.length + 1) * 8 ≤ 140737488355328 ∧ z4.length + 1 ≤ 4611686018427387904) <|
 some ((z10.2.1, z10.2.2.1, z10.2.2.2), z4 ++ [i64.wrap (z10.1 - 1)])) else (
 if (z5.1 == 1) = true then (
 if decide (0 < (z4.length : Int)) = true then (
 (F_spec_l1Cur_pick__io0 z5.2.1 z5.2.2.1 z5.2.2.2 (z4.length : Int)).bind fun z13 =>
 (F_spec_l1Cur_among__io0_mv1 z13.2.1 z13.2.2.1 z13.2.2.2 [(-1), 0, 1, 5, 6, 8, 26, 27]).bind fun z14 =>
 (ix z4 z13.1).bind fun x15 =>
 some ((z14.2.1, z14.2.2.1, z14.2.2.2), z4.set z13.1.toNat z14.1)) else (
 some ((z5.2.1, z5.2.2.1, z5.2.2.2), z4))) else (
 if (z5.1 == 2) = true then (
 if decide (0 < (z4.length : Int)) = true then (
 gd (1 ≤ z4.length ∧ z4.length ≤ z4.length) <|
 some ((z5.2.1, z5.2.2.1, z5.2.2.2), (z4.take z4.length).drop 1)) else (
 some ((z5.2.1, z5.2.2.1, z5.2.2.2), z4))) else (
 some ((z5.2.1, z5.2.2.1, z5.2.2.2), z4)))) : Option ((((List Int) × Int × Int) × (List Int)))).bind fun x8 =>
 some (x8.2, (x8.1.1, x8.1.2.1, x8.1.2.2))))
theorem c_spec_l1Cur_anyVote__io0 : ∀ {a0c0} {a0c1} {a0c2} {a1} {r}, F_spec_l1Cur_anyVote__io0 a0c0 a0c1 a0c2 a1 = some r → PCalls Tryz.prog 83 [(.io, .bx [.sl false 1 (a0c0.map row_u8), .int .i64 a0c1, .int .u64 a0c2]), (.sh, .agg [.int .i64 a1.Kind, .int .i64 a1.Options, .int .i64 a1.Least, .int .i64 a1.Most, .int .i64 a1.Points])] (Eo (.sl false 1 (r.1.map row_i64)) [.bx [.sl false 1 (r.2.1.map row_u8), .int .i64 r.2.2.1, .int .u64 r.2.2.2], .junk]) := by
 intro a0c0 a0c1 a0c2 a1 r hr
 apply pF 46 [0] [4] [] [.tmp 4] hr cl83 Tryz.func83
 intro Φ hΦ hF g
 unfold F_spec_l1Cur_anyVote__io0 at hF
 try simp [go_sem, g]
 refine pw_wk ?_
 try simp [go_sem, g]
 refine pC hF [.sh] c_spec_vContest (fun z1 hF => ?_)
 try simp [go_sem, g]
 refine pw_wk ?_
 repeat rw [sq]
 refine pI hF (fun h2 hF => ?_) (fun h2 hF => ?_)
 ·cases hΦ _ (Rn_some hF)
  try simp [go_sem, g]
  refine pw_wk ?_
  try simp [go_sem, g]
 ·try simp [go_sem, g]
  refine pw_wk ?_
  try simp [go_sem, g]
  refine pC hF [.io, .sh] c_spec_l1Cur_vote__io0 (fun z3 hF => ?_)
  try simp [go_sem, g]
  refine pC hF [.sh] c_spec_l1Own (fun z4 hF => ?_)
  try simp [go_sem, g]
  refine pw_wkK [0, 5] (by simp [go_sem, g]; rfl) ?_
  try simp [go_sem, g]
  refine pC hF [.io, .sh] c_spec_l1Cur_pick__io0 (fun z5 hF => ?_)
  try simp [go_sem, g]
  refine pw_wk ?_
  repeat rw [sq]
  refine pJ hF (fun x8 => [(0, .v (.bx [.sl false 1 (x8.1.1.map row_u8), .int .i64 x8.1.2.1, .int .u64 x8.1.2.2])), (5, .v (.sl false 1 (x8.2.map row_i64)))]) (fun x8 hF => ?_) fun _ hj6 hF => ?_
  ·cases hΦ _ (Rn_some hF)
   try simp [go_sem, g]
   refine pw_wk ?_
   try simp [go_sem, g]
  ·repeat rw [sq]
   rw [pw_block]
   try simp [go_sem, g]
   refine pw_wk ?_
   repeat rw [sq]
   refine pI hF (fun h9 hF => ?_) (fun h9 hF => ?_)
   ·try simp [go_sem, g]
    refine pC hF [.io, .sh] c_spec_l1Cur_pick__io0 (fun z10 hF => ?_)
    obtain ⟨g, hF⟩ := Rg g hF
    try simp [go_sem, g]
    refine pw_frz 5 (by simp [go_sem, g]; rfl) (by simp [go_sem]) ?_
    exact pT (hj6 ((z10.2.1, z10.2.2.1, z10.2.2.2), z4 ++ [i64.wrap (z10.1 - 1)])) (Rn_some hF)
   ·try simp [go_sem, g]
    refine pw_wk ?_
    repeat rw [sq]
    refine pI hF (fun h11 hF => ?_) (fun h11 hF => ?_)
    ·try simp [go_sem, g]
     try intros
     refine pw_wk ?_
     repeat rw [sq]
     refine pI hF (fun h12 hF => ?_) (fun h12 hF => ?_)
     ·try simp [go_sem, g]
      try intros
      refine pC hF [.io, .sh] c_spec_l1Cur_pick__io0 (fun z13 hF => ?_)
      try simp [go_sem, g]
      refine pC hF [.io, .mv] c_spec_l1Cur_among__io0_mv1 (fun z14 hF => ?_)
      obtain ⟨x15, g, hF⟩ := Rx g hF
      try simp [go_sem, g]
      refine pw_frz 5 (by simp [go_sem, g]; rfl) (by simp [go_sem]) ?_
      exact pT (hj6 ((z14.2.1, z14.2.2.1, z14.2.2.2), z4.set z13.1.toNat z14.1)) (Rn_some hF)
     ·try simp [go_sem, g]
      refine pw_frz 5 (by simp [go_sem, g]; rfl) (by simp [go_sem]) ?_
      exact pT (hj6 ((z5.2.1, z5.2.2.1, z5.2.2.2), z4)) (Rn_some hF)
    ·try simp [go_sem, g]
     refine pw_wk ?_
     repeat rw [sq]
     refine pI hF (fun h16 hF => ?_) (fun h16 hF => ?_)
     ·try simp [go_sem, g]
      try intros
      refine pw_wkK [0, 5, 42] (by simp [go_sem, g]; rfl) ?_
      repeat rw [sq]
      refine pI hF (fun h17 hF => ?_) (fun h17 hF => ?_)
      ·obtain ⟨g, hF⟩ := Rg g hF
       try simp [go_sem, g]
       exact pT (hj6 ((z5.2.1, z5.2.2.1, z5.2.2.2), (z4.take z4.length).drop 1)) (Rn_some hF)
      ·try simp [go_sem, g]
       refine pw_frz 5 (by simp [go_sem, g]; rfl) (by simp [go_sem]) ?_
       exact pT (hj6 ((z5.2.1, z5.2.2.1, z5.2.2.2), z4)) (Rn_some hF)
     ·try simp [go_sem, g]
      refine pw_frz 5 (by simp [go_sem, g]; rfl) (by simp [go_sem]) ?_
      exact pT (hj6 ((z5.2.1, z5.2.2.1, z5.2.2.2), z4)) (Rn_some hF)
noncomputable def F_spec_bTop (a0 : Contest) : Option (Int) :=
 if (a0.Kind == 1) = true then (
 some 1) else (
 some a0.Points)
theorem c_spec_bTop : ∀ {a0} {r}, F_spec_bTop a0 = some r → PCalls Tryz.prog 95 [(.sh, .agg [.int .i64 a0.Kind, .int .i64 a0.Options, .int .i64 a0.Least, .int .i64 a0.Most, .int .i64 a0.Points])] (Eo (.int .i64 r) [.junk]) := by
 intro a0 r hr
 apply pF 8 [] [] [] [.tmp 2] hr cl95 Tryz.func95
 intro Φ hΦ hF g
 unfold F_spec_bTop at hF
 iterate 2 (try simp [go_sem, g]; refine pw_wk ?_)
 repeat rw [sq]
 refine pI hF (fun h1 hF => ?_) (fun h1 hF => ?_)
 ·cases hΦ _ (Rn_some hF)
  try simp [go_sem, g]
  refine pw_wk ?_
  try simp [go_sem, g]
 ·cases hΦ _ (Rn_some hF)
  iterate 2 (try simp [go_sem, g]; refine pw_wk ?_)
  try simp [go_sem, g]
def D34_3 : List DE := [d1 0 [1] 1, d2 1 [6] 1 6, d2 2 [1] 1 1, d1 7 [1] 1, d2 8 [13] 1 13, d1 9 [1] 1, d2 10 [15] 1 15, d0 11 [14, 16], d0 12 [17], d3 3 [8], d0 4 [9], d0 5 [10], d0 6 [7, 11], d0 13 [12, 18], d0 14 [19], d0 15 [20]]
noncomputable def F_spec_bCoins (a0 : Contest) : Option (Int) :=
 (F_spec_bRows a0).bind fun z1 =>
 if (!z1) = true then (
 some 2) else (
 (F_spec_bTop a0).bind fun z3 =>
 some (i64.wrap ((i64.wrap ((i64.wrap (a0.Options * (i64.wrap ((i64.wrap (2 * z3)) + 2)))) + (i64.wrap (2 * (i64.wrap (a0.Most - a0.Least)))))) + 1)))
theorem c_spec_bCoins : ∀ {a0} {r}, F_spec_bCoins a0 = some r → PCalls Tryz.prog 34 [(.sh, .agg [.int .i64 a0.Kind, .int .i64 a0.Options, .int .i64 a0.Least, .int .i64 a0.Most, .int .i64 a0.Points])] (Eo (.int .i64 r) [.junk]) := by
 intro a0 r hr
 apply pF 21 [] [] [] [.tmp 2] hr cl34 Tryz.func34
 intro Φ hΦ hF g
 unfold F_spec_bCoins at hF
 try simp [go_sem, g]
 refine pw_wk ?_
 try simp [go_sem, g]
 refine pC hF [.sh] c_spec_bRows (fun z1 hF => ?_)
 try simp [go_sem, g]
 refine pw_wk ?_
 repeat rw [sq]
 refine pI hF (fun h2 hF => ?_) (fun h2 hF => ?_)
 ·cases hΦ _ (Rn_some hF)
  try simp [go_sem, g]
  refine pw_wk ?_
  try simp [go_sem, g]
 ·try simp [go_sem, g]
  refine pw_wk ?_
  repeat rw [sq]
  refine pw_draw D34_3 follows (by kernel_rfl) rfl ?_
  try simp only [go_sem, D34_3]
  try simp [go_sem, g]
  refine pC hF [.sh] c_spec_bTop (fun z3 hF => ?_)
  try simp [go_sem, g]
  refine pw_wkK [2] (by simp [go_sem, g]; rfl) ?_
  cases hΦ _ (Rn_some hF)
  try simp [go_sem, g]
def D146_3 : List DE := [d0 0 [0], d0 3 [0], d1 6 [3] 3, d2 7 [14] 3 14, d3 1 [8], d0 2 [9], d3 4 [11], d0 5 [10, 12], d0 8 [13, 15], d0 9 [16]]
noncomputable def F_spec_l1Cur_expo__io0 (a0c0 : (List Int)) (a0c1 : Int) (a0c2 : Int) (a1 : Group) : Option (Int × ((List Int) × Int × Int)) :=
 if decide (a1.Q < 2) = true then (
 some (0, (a0c0, a0c1, a0c2))) else (
 (F_spec_l1Cur_pick__io0 a0c0 a0c1 a0c2 60000).bind fun z2 =>
 (F_spec_l1Cur_pick__io0 z2.2.1 z2.2.2.1 z2.2.2.2 60000).bind fun z3 =>
 gd (a1.Q ≠ 0) <|
 some ((i64.wrap ((i64.wrap (z2.1 * 60000)) + z3.1)).tmod a1.Q, (z3.2.1, z3.2.2.1, z3.2.2.2)))
theorem c_spec_l1Cur_expo__io0 : ∀ {a0c0} {a0c1} {a0c2} {a1} {r}, F_spec_l1Cur_expo__io0 a0c0 a0c1 a0c2 a1 = some r → PCalls Tryz.prog 146 [(.io, .bx [.sl false 1 (a0c0.map row_u8), .int .i64 a0c1, .int .u64 a0c2]), (.sh, .agg [.int .i64 a1.P, .int .i64 a1.Q, .int .i64 a1.G])] (Eo (.int .i64 r.1) [.bx [.sl false 1 (r.2.1.map row_u8), .int .i64 r.2.2.1, .int .u64 r.2.2.2], .junk]) := by
 intro a0c0 a0c1 a0c2 a1 r hr
 apply pF 17 [0] [] [] [.tmp 4] hr cl146 Tryz.func146
 intro Φ hΦ hF g
 unfold F_spec_l1Cur_expo__io0 at hF
 iterate 2 (try simp [go_sem, g]; refine pw_wk ?_)
 repeat rw [sq]
 refine pI hF (fun h1 hF => ?_) (fun h1 hF => ?_)
 ·cases hΦ _ (Rn_some hF)
  try simp [go_sem, g]
  refine pw_wk ?_
  try simp [go_sem, g]
 ·try simp [go_sem, g]
  refine pw_wk ?_
  repeat rw [sq]
  refine pw_draw D146_3 follows (by kernel_rfl) rfl ?_
  try simp only [go_sem, D146_3]
  try simp [go_sem, g]
  refine pC hF [.io, .sh] c_spec_l1Cur_pick__io0 (fun z2 hF => ?_)
  try simp [go_sem, g]
  refine pC hF [.io, .sh] c_spec_l1Cur_pick__io0 (fun z3 hF => ?_)
  obtain ⟨g, hF⟩ := Rz g hF
  try simp [go_sem, g]
  refine pw_wkK [0, 4] (by simp [go_sem, g]; rfl) ?_
  cases hΦ _ (Rn_some hF)
  try simp [go_sem, g]
def D135_3 : List DE := [d2 0 [3] 3 3, d1 1 [3] 3, d2 2 [14] 3 14, d1 3 [3] 3, d2 4 [16] 3 16, d0 6 [0], d2 7 [3] 3 3, d3 5 [15, 17], d3 8 [19, 20], d3 9 [13, 18, 21], d0 10 [22]]
noncomputable def F_spec_l1Cur_element__io0 (a0c0 : (List Int)) (a0c1 : Int) (a0c2 : Int) (a1 : Group) : Option (Int × ((List Int) × Int × Int)) :=
 ((if decide (a1.P < 3) = true then (
 some true) else (
 some (decide (a1.Q < 1))) : Option (Bool)).bind fun x3 =>
 if x3 = true then (
 some (1, (a0c0, a0c1, a0c2))) else (
 (F_spec_nMod a1.G a1.P).bind fun z6 =>
 (F_spec_l1Cur_expo__io0 a0c0 a0c1 a0c2 a1).bind fun z7 =>
 (F_spec_gExp a1 z6 z7.1).bind fun z8 =>
 some (z8, (z7.2.1, z7.2.2.1, z7.2.2.2))))
theorem c_spec_l1Cur_element__io0 : ∀ {a0c0} {a0c1} {a0c2} {a1} {r}, F_spec_l1Cur_element__io0 a0c0 a0c1 a0c2 a1 = some r → PCalls Tryz.prog 135 [(.io, .bx [.sl false 1 (a0c0.map row_u8), .int .i64 a0c1, .int .u64 a0c2]), (.sh, .agg [.int .i64 a1.P, .int .i64 a1.Q, .int .i64 a1.G])] (Eo (.int .i64 r.1) [.bx [.sl false 1 (r.2.1.map row_u8), .int .i64 r.2.2.1, .int .u64 r.2.2.2], .junk]) := by
 intro a0c0 a0c1 a0c2 a1 r hr
 apply pF 23 [0] [] [] [.tmp 4] hr cl135 Tryz.func135
 intro Φ hΦ hF g
 unfold F_spec_l1Cur_element__io0 at hF
 try simp [go_sem, g]
 refine pw_wk ?_
 repeat rw [sq]
 refine pJ hF (fun x3 => [(0, .v (.bx [.sl false 1 (a0c0.map row_u8), .int .i64 a0c1, .int .u64 a0c2])), (3, .bl [.int .i64 a1.P, .int .i64 a1.Q, .int .i64 a1.G]), (12, .v (.bool x3))]) (fun x3 hF => ?_) fun _ hj1 hF => ?_
 ·repeat rw [sq]
  refine pI hF (fun h5 hF => ?_) (fun h5 hF => ?_)
  ·cases hΦ _ (Rn_some hF)
   try simp [go_sem, g]
   refine pw_wk ?_
   try simp [go_sem, g]
  ·try simp [go_sem, g]
   refine pw_wk ?_
   repeat rw [sq]
   refine pw_draw D135_3 follows (by kernel_rfl) rfl ?_
   try simp only [go_sem, D135_3]
   try simp [go_sem, g]
   refine pC hF [.sh, .sh] c_spec_nMod (fun z6 hF => ?_)
   try simp [go_sem, g]
   refine pC hF [.io, .sh] c_spec_l1Cur_expo__io0 (fun z7 hF => ?_)
   try simp [go_sem, g]
   refine pC hF [.sh, .sh, .sh] c_spec_gExp (fun z8 hF => ?_)
   try simp [go_sem, g]
   refine pw_wkK [0, 4] (by simp [go_sem, g]; rfl) ?_
   cases hΦ _ (Rn_some hF)
   try simp [go_sem, g]
 ·try simp [go_sem, g]
  refine pwg_F hF (fun h4 hF => ?_) fun h4 hF => ?_
  ·try simp [go_sem, g, h4]
   exact pT (hj1 true) (Rn_some hF)
  ·try simp [go_sem, g, h4]
   exact pT (hj1 (decide (a1.Q < 1))) (Rn_some hF)
noncomputable def F_spec_l1Cur_anyElement__io0 (a0c0 : (List Int)) (a0c1 : Int) (a0c2 : Int) (a1 : Group) : Option (Int × ((List Int) × Int × Int)) :=
 (F_spec_l1Cur_one__io0 a0c0 a0c1 a0c2 20).bind fun z1 =>
 if z1.1 = true then (
 (F_spec_l1Cur_among__io0_mv1 z1.2.1 z1.2.2.1 z1.2.2.2 [0, 1, i64.wrap (a1.P - 1), a1.P, (-1), 5]).bind fun z3 =>
 some (z3.1, (z3.2.1, z3.2.2.1, z3.2.2.2))) else (
 (F_spec_l1Cur_element__io0 z1.2.1 z1.2.2.1 z1.2.2.2 a1).bind fun z4 =>
 some (z4.1, (z4.2.1, z4.2.2.1, z4.2.2.2)))
theorem c_spec_l1Cur_anyElement__io0 : ∀ {a0c0} {a0c1} {a0c2} {a1} {r}, F_spec_l1Cur_anyElement__io0 a0c0 a0c1 a0c2 a1 = some r → PCalls Tryz.prog 85 [(.io, .bx [.sl false 1 (a0c0.map row_u8), .int .i64 a0c1, .int .u64 a0c2]), (.sh, .agg [.int .i64 a1.P, .int .i64 a1.Q, .int .i64 a1.G])] (Eo (.int .i64 r.1) [.bx [.sl false 1 (r.2.1.map row_u8), .int .i64 r.2.2.1, .int .u64 r.2.2.2], .junk]) := by
 intro a0c0 a0c1 a0c2 a1 r hr
 apply pF 18 [0] [] [] [.tmp 4] hr cl85 Tryz.func85
 intro Φ hΦ hF g
 unfold F_spec_l1Cur_anyElement__io0 at hF
 try simp [go_sem, g]
 refine pw_wk ?_
 try simp [go_sem, g]
 refine pC hF [.io, .sh] c_spec_l1Cur_one__io0 (fun z1 hF => ?_)
 try simp [go_sem, g]
 refine pw_wk ?_
 repeat rw [sq]
 refine pI hF (fun h2 hF => ?_) (fun h2 hF => ?_)
 ·try simp [go_sem, g]
  refine pC hF [.io, .mv] c_spec_l1Cur_among__io0_mv1 (fun z3 hF => ?_)
  try simp [go_sem, g]
  refine pw_wkK [0, 4] (by simp [go_sem, g]; rfl) ?_
  cases hΦ _ (Rn_some hF)
  try simp [go_sem, g]
 ·try simp [go_sem, g]
  refine pw_wk ?_
  try simp [go_sem, g]
  refine pC hF [.io, .sh] c_spec_l1Cur_element__io0 (fun z4 hF => ?_)
  cases hΦ _ (Rn_some hF)
  try simp [go_sem, g]
  refine pw_wk ?_
  try simp [go_sem, g]
noncomputable def F_spec_l1Cur_coins__io0 (a0c0 : (List Int)) (a0c1 : Int) (a0c2 : Int) (a1 : Group) (a2 : Int) : Option ((List Int) × ((List Int) × Int × Int)) :=
 ((wloop (σ := ((List Int) × Int × Int) × Int × (List Int)) (fun s11 =>
 if decide (0 < s11.2.1) = true then (
 (F_spec_l1Cur_expo__io0 s11.1.1 s11.1.2.1 s11.1.2.2 a1).bind fun z17 =>
 gd ((s11.2.2.length + 1) * 8 ≤ 140737488355328 ∧ s11.2.2.length + 1 ≤ 4611686018427387904) <|
 some (.go ((z17.2.1, z17.2.2.1, z17.2.2.2), i64.wrap (s11.2.1 - 1), s11.2.2 ++ [z17.1]))) else (
 some (.out ((s11.1.1, s11.1.2.1, s11.1.2.2), s11.2.2)))) ((a0c0, a0c1, a0c2), a2, []) : Option ((((List Int) × Int × Int) × (List Int)))).bind fun x3 =>
 some (x3.2, (x3.1.1, x3.1.2.1, x3.1.2.2)))
theorem c_spec_l1Cur_coins__io0 : ∀ {a0c0} {a0c1} {a0c2} {a1} {a2} {r}, F_spec_l1Cur_coins__io0 a0c0 a0c1 a0c2 a1 a2 = some r → PCalls Tryz.prog 114 [(.io, .bx [.sl false 1 (a0c0.map row_u8), .int .i64 a0c1, .int .u64 a0c2]), (.sh, .agg [.int .i64 a1.P, .int .i64 a1.Q, .int .i64 a1.G]), (.sh, .int .i64 a2)] (Eo (.sl true 1 (r.1.map row_i64)) [.bx [.sl false 1 (r.2.1.map row_u8), .int .i64 r.2.2.1, .int .u64 r.2.2.2], .junk, .junk]) := by
 intro a0c0 a0c1 a0c2 a1 a2 r hr
 apply pF 19 [0] [] [] [.tmp 6] hr cl114 Tryz.func114
 intro Φ hΦ hF g
 unfold F_spec_l1Cur_coins__io0 at hF
 iterate 2 (try simp [go_sem, g]; refine pw_wk ?_)
 repeat rw [sq]
 refine pJ hF (fun x3 => [(0, .v (.bx [.sl false 1 (x3.1.1.map row_u8), .int .i64 x3.1.2.1, .int .u64 x3.1.2.2])), (7, .v (.sl true 1 (x3.2.map row_i64)))]) (fun x3 hF => ?_) fun _ hj1 hF => ?_
 ·cases hΦ _ (Rn_some hF)
  try simp [go_sem, g]
  refine pw_wk ?_
  try simp [go_sem, g]
 ·repeat rw [sq]
  rw [pw_block]
  obtain ⟨b18, hb19, hψ15⟩ := hF
  refine pL hb19 (fun s11 => [(0, .v (.bx [.sl false 1 (s11.1.1.map row_u8), .int .i64 s11.1.2.1, .int .u64 s11.1.2.2])), (2, .v (.int .i64 s11.2.1)), (4, .bl [.int .i64 a1.P, .int .i64 a1.Q, .int .i64 a1.G]), (7, .v (.sl true 1 (s11.2.2.map row_i64)))]) (fun s11 _ _ ho13 hg14 hF => ?_)
  try simp [go_sem, g]
  refine pw_wk ?_
  repeat rw [sq]
  refine pI hF (fun h16 hF => ?_) (fun h16 hF => ?_)
  ·try simp [go_sem, g]
   refine pw_wk ?_
   repeat rw [sq]
   rw [pw_block]
   try simp [go_sem, g]
   refine pC hF [.io, .sh] c_spec_l1Cur_expo__io0 (fun z17 hF => ?_)
   obtain ⟨g, hF⟩ := Rg g hF
   try simp [go_sem, g]
   refine pw_wkK [0, 2, 4, 7] (by simp [go_sem, g]; rfl) ?_
   try simp [go_sem, g]
   exact pT (hg14 ((z17.2.1, z17.2.2.1, z17.2.2.2), i64.wrap (s11.2.1 - 1), s11.2.2 ++ [z17.1])) (Rn_some hF)
  ·try simp [go_sem, g]
   cases ho13 _ (Rn_some hF)
   exact pT (hj1 ((s11.1.1, s11.1.2.1, s11.1.2.2), s11.2.2)) hψ15
def D49_10 : List DE := [d0 0 [7], d0 1 [0], d0 2 [2], d0 4 [0], d1 5 [4] 4, d2 6 [34] 4 34, d0 7 [35], d3 3 [30, 31], ⟨8, [33, 36], [], none, true, true, true⟩, d0 9 [29, 32], d0 10 [38, 37]]
noncomputable def F_spec_l1Cur_anyCoins__io0 (a0c0 : (List Int)) (a0c1 : Int) (a0c2 : Int) (a1 : Group) (a2 : Int) : Option ((List Int) × ((List Int) × Int × Int)) :=
 (F_spec_l1Cur_coins__io0 a0c0 a0c1 a0c2 a1 a2).bind fun z1 =>
 (F_spec_l1Cur_pick__io0 z1.2.1 z1.2.2.1 z1.2.2.2 30).bind fun z2 =>
 ((if (z2.1 == 0) = true then (
 gd ((z1.1.length + 1) * 8 ≤ 140737488355328 ∧ z1.1.length + 1 ≤ 4611686018427387904) <|
 some (.inr (z1.1 ++ [0], (z2.2.1, z2.2.2.1, z2.2.2.2)))) else (
 if (z2.1 == 1) = true then (
 if decide (0 < a2) = true then (
 gd (1 ≤ z1.1.length ∧ z1.1.length ≤ z1.1.length) <|
 some (.inr ((z1.1.take z1.1.length).drop 1, (z2.2.1, z2.2.2.1, z2.2.2.2)))) else (
 some (.inl ((z2.2.1, z2.2.2.1, z2.2.2.2), z1.1)))) else (
 if (z2.1 == 2) = true then (
 if decide (0 < a2) = true then (
 (F_spec_l1Cur_pick__io0 z2.2.1 z2.2.2.1 z2.2.2.2 a2).bind fun z11 =>
 (F_spec_l1Cur_among__io0_mv1 z11.2.1 z11.2.2.1 z11.2.2.2 [(-1), a1.Q]).bind fun z12 =>
 (ix z1.1 z11.1).bind fun x13 =>
 some (.inl ((z12.2.1, z12.2.2.1, z12.2.2.2), z1.1.set z11.1.toNat z12.1))) else (
 some (.inl ((z2.2.1, z2.2.2.1, z2.2.2.2), z1.1)))) else (
 some (.inl ((z2.2.1, z2.2.2.1, z2.2.2.2), z1.1))))) : Option ((((List Int) × Int × Int) × (List Int)) ⊕ ((List Int) × ((List Int) × Int × Int)))).bind (Sum.elim (fun x5 =>
 some (x5.2, (x5.1.1, x5.1.2.1, x5.1.2.2))) some))
theorem c_spec_l1Cur_anyCoins__io0 : ∀ {a0c0} {a0c1} {a0c2} {a1} {a2} {r}, F_spec_l1Cur_anyCoins__io0 a0c0 a0c1 a0c2 a1 a2 = some r → PCalls Tryz.prog 49 [(.io, .bx [.sl false 1 (a0c0.map row_u8), .int .i64 a0c1, .int .u64 a0c2]), (.sh, .agg [.int .i64 a1.P, .int .i64 a1.Q, .int .i64 a1.G]), (.sh, .int .i64 a2)] (Eo (.sl false 1 (r.1.map row_i64)) [.bx [.sl false 1 (r.2.1.map row_u8), .int .i64 r.2.2.1, .int .u64 r.2.2.2], .junk, .junk]) := by
 intro a0c0 a0c1 a0c2 a1 a2 r hr
 apply pF 40 [0] [6] [] [.tmp 6] hr cl49 Tryz.func49
 intro Φ hΦ hF g
 unfold F_spec_l1Cur_anyCoins__io0 at hF
 try simp [go_sem, g]
 refine pw_wk ?_
 try simp [go_sem, g]
 refine pC hF [.io, .sh, .sh] c_spec_l1Cur_coins__io0 (fun z1 hF => ?_)
 try simp [go_sem, g]
 refine pw_wk ?_
 try simp [go_sem, g]
 refine pC hF [.io, .sh] c_spec_l1Cur_pick__io0 (fun z2 hF => ?_)
 try simp [go_sem, g]
 refine pw_wk ?_
 repeat rw [sq]
 refine pJs hF (fun x5 => [(0, .v (.bx [.sl false 1 (x5.1.1.map row_u8), .int .i64 x5.1.2.1, .int .u64 x5.1.2.2])), (7, .v (.sl true 1 (x5.2.map row_i64)))]) (fun x5 hF => ?_) fun _ hj3 hr4 hF => ?_
 ·try simp [go_sem, g]
  refine pw_wkK [0, 6] (by simp [go_sem, g]; rfl) ?_
  cases hΦ _ (Rn_some hF)
  try simp [go_sem, g]
 ·repeat rw [sq]
  rw [pw_block]
  try simp [go_sem, g]
  refine pw_wkK [0, 2, 4, 7, 13, 14] (by simp [go_sem, g]; rfl) ?_
  repeat rw [sq]
  refine pI hF (fun h6 hF => ?_) (fun h6 hF => ?_)
  ·obtain ⟨g, hF⟩ := Rg g hF
   cases hΦ _ (hr4 _ (Rn_some hF))
   try simp [go_sem, g]
   refine pw_wk ?_
   try simp [go_sem, g]
  ·try simp [go_sem, g]
   refine pw_wk ?_
   repeat rw [sq]
   refine pI hF (fun h7 hF => ?_) (fun h7 hF => ?_)
   ·try simp [go_sem, g]
    refine pw_wk ?_
    repeat rw [sq]
    refine pI hF (fun h8 hF => ?_) (fun h8 hF => ?_)
    ·obtain ⟨g, hF⟩ := Rg g hF
     cases hΦ _ (hr4 _ (Rn_some hF))
     try simp [go_sem, g]
     refine pw_wk ?_
     try simp [go_sem, g]
    ·try simp [go_sem, g]
     exact pT (hj3 ((z2.2.1, z2.2.2.1, z2.2.2.2), z1.1)) (Rn_some hF)
   ·try simp [go_sem, g]
    refine pw_wk ?_
    repeat rw [sq]
    refine pI hF (fun h9 hF => ?_) (fun h9 hF => ?_)
    ·try simp [go_sem, g]
     refine pw_wk ?_
     repeat rw [sq]
     refine pI hF (fun h10 hF => ?_) (fun h10 hF => ?_)
     ·repeat rw [sq]
      refine pw_draw D49_10 follows (by kernel_rfl) rfl ?_
      try simp only [go_sem, D49_10]
      try simp [go_sem, g]
      refine pC hF [.io, .sh] c_spec_l1Cur_pick__io0 (fun z11 hF => ?_)
      try simp [go_sem, g]
      refine pC hF [.io, .mv] c_spec_l1Cur_among__io0_mv1 (fun z12 hF => ?_)
      obtain ⟨x13, g, hF⟩ := Rx g hF
      try simp [go_sem, g]
      exact pT (hj3 ((z12.2.1, z12.2.2.1, z12.2.2.2), z1.1.set z11.1.toNat z12.1)) (Rn_some hF)
     ·try simp [go_sem, g]
      exact pT (hj3 ((z2.2.1, z2.2.2.1, z2.2.2.2), z1.1)) (Rn_some hF)
    ·try simp [go_sem, g]
     exact pT (hj3 ((z2.2.1, z2.2.2.1, z2.2.2.2), z1.1)) (Rn_some hF)
def D26_16 : List DE := [d2 0 [8] 8 8, d0 1 [0], d2 2 [8] 8 8, d2 4 [9] 9 9, d0 5 [13], d0 6 [11], d0 7 [0], d2 8 [8] 8 8, d0 9 [12], d3 3 [48, 49], d3 10 [54, 55, 56], d2 11 [2, 47] 2 2, d0 12 [50], d2 13 [4, 51] 4 4, d0 14 [52], d0 15 [53], d0 16 [57]]
noncomputable def F_spec_l1Cur_sealing__io0 (a0c0 : (List Int)) (a0c1 : Int) (a0c2 : Int) : Option (Group × Int × Contest × Int × (List Int) × (List Int) × ((List Int) × Int × Int)) :=
 (F_spec_l1Cur_anyGroup__io0 a0c0 a0c1 a0c2).bind fun z1 =>
 (F_spec_l1Cur_one__io0 z1.2.1 z1.2.2.1 z1.2.2.2 2).bind fun z2 =>
 ((if z2.1 = true then (
 some (1000000007, 500000003, 4)) else (
 some (z1.1.P, z1.1.Q, z1.1.G)) : Option ((Int × Int × Int))).bind fun x5 =>
 (F_spec_l1Cur_anyContest__io0 z2.2.1 z2.2.2.1 z2.2.2.2).bind fun z7 =>
 ((wloop (σ := ((List Int) × Int × Int) × Int × Int × Int × Int × Int × Int) (fun s23 =>
 ((if decide (s23.2.2.2.2.2.2 < 6) = true then (
 (F_spec_bGood (Group.mk x5.1 x5.2.1 x5.2.2) (Contest.mk s23.2.1 s23.2.2.1 s23.2.2.2.1 s23.2.2.2.2.1 s23.2.2.2.2.2.1)).bind fun z32 =>
 some (!z32)) else (
 some false) : Option (Bool)).bind fun x30 =>
 if x30 = true then (
 (F_spec_l1Cur_contest__io0 s23.1.1 s23.1.2.1 s23.1.2.2).bind fun z34 =>
 some (.go ((z34.2.1, z34.2.2.1, z34.2.2.2), z34.1.Kind, z34.1.Options, z34.1.Least, z34.1.Most, z34.1.Points, i64.wrap (s23.2.2.2.2.2.2 + 1)))) else (
 some (.out ((s23.1.1, s23.1.2.1, s23.1.2.2), s23.2.1, s23.2.2.1, s23.2.2.2.1, s23.2.2.2.2.1, s23.2.2.2.2.2.1))))) ((z7.2.1, z7.2.2.1, z7.2.2.2), z7.1.Kind, z7.1.Options, z7.1.Least, z7.1.Most, z7.1.Points, 0) : Option ((((List Int) × Int × Int) × Int × Int × Int × Int × Int))).bind fun x10 =>
 (F_spec_l1Cur_anyVote__io0 x10.1.1 x10.1.2.1 x10.1.2.2 (Contest.mk x10.2.1 x10.2.2.1 x10.2.2.2.1 x10.2.2.2.2.1 x10.2.2.2.2.2)).bind fun z37 =>
 (F_spec_vContest (Contest.mk x10.2.1 x10.2.2.1 x10.2.2.2.1 x10.2.2.2.2.1 x10.2.2.2.2.2)).bind fun z38 =>
 ((if z38 = true then (
 (F_spec_bCoins (Contest.mk x10.2.1 x10.2.2.1 x10.2.2.2.1 x10.2.2.2.2.1 x10.2.2.2.2.2)).bind fun z43 =>
 some z43) else (
 some 1) : Option (Int)).bind fun x41 =>
 (F_spec_l1Cur_pick__io0 z37.2.1 z37.2.2.1 z37.2.2.2 100).bind fun z44 =>
 (F_spec_l1Cur_one__io0 z44.2.1 z44.2.2.1 z44.2.2.2 20).bind fun z45 =>
 ((if z45.1 = true then (
 (F_spec_l1Cur_among__io0_mv1 z45.2.1 z45.2.2.1 z45.2.2.2 [(-1), 999999, 1000000]).bind fun z50 =>
 some ((z50.2.1, z50.2.2.1, z50.2.2.2), z50.1)) else (
 some ((z45.2.1, z45.2.2.1, z45.2.2.2), z44.1)) : Option ((((List Int) × Int × Int) × Int))).bind fun x48 =>
 (F_spec_l1Cur_anyElement__io0 x48.1.1 x48.1.2.1 x48.1.2.2 (Group.mk x5.1 x5.2.1 x5.2.2)).bind fun z51 =>
 (F_spec_l1Cur_anyCoins__io0 z51.2.1 z51.2.2.1 z51.2.2.2 (Group.mk x5.1 x5.2.1 x5.2.2) x41).bind fun z52 =>
 some ((Group.mk x5.1 x5.2.1 x5.2.2), z51.1, (Contest.mk x10.2.1 x10.2.2.1 x10.2.2.2.1 x10.2.2.2.2.1 x10.2.2.2.2.2), x48.2, z37.1, z52.1, (z52.2.1, z52.2.2.1, z52.2.2.2))))))
theorem c_spec_l1Cur_sealing__io0 : ∀ {a0c0} {a0c1} {a0c2} {r}, F_spec_l1Cur_sealing__io0 a0c0 a0c1 a0c2 = some r → PCalls Tryz.prog 26 [(.io, .bx [.sl false 1 (a0c0.map row_u8), .int .i64 a0c1, .int .u64 a0c2])] (Eo (.tup [.agg [.int .i64 r.1.P, .int .i64 r.1.Q, .int .i64 r.1.G], .int .i64 r.2.1, .agg [.int .i64 r.2.2.1.Kind, .int .i64 r.2.2.1.Options, .int .i64 r.2.2.1.Least, .int .i64 r.2.2.1.Most, .int .i64 r.2.2.1.Points], .int .i64 r.2.2.2.1, .sl false 1 (r.2.2.2.2.1.map row_i64), .sl false 1 (r.2.2.2.2.2.1.map row_i64)]) [.bx [.sl false 1 (r.2.2.2.2.2.2.1.map row_u8), .int .i64 r.2.2.2.2.2.2.2.1, .int .u64 r.2.2.2.2.2.2.2.2]]) := by
 intro a0c0 a0c1 a0c2 r hr
 apply pF 58 [0] [] [] [.cell 2 25, .tmp 3, .cell 4 27, .tmp 5, .tmp 6, .tmp 7] hr cl26 Tryz.func26
 intro Φ hΦ hF g
 unfold F_spec_l1Cur_sealing__io0 at hF
 try simp [go_sem, g]
 refine pw_wk ?_
 try simp [go_sem, g]
 refine pC hF [.io] c_spec_l1Cur_anyGroup__io0 (fun z1 hF => ?_)
 try simp [go_sem, g]
 refine pw_wkK [0, 2, 4, 8] (by simp [go_sem, g]; rfl) ?_
 try simp [go_sem, g]
 refine pC hF [.io, .sh] c_spec_l1Cur_one__io0 (fun z2 hF => ?_)
 try simp [go_sem, g]
 refine pw_wk ?_
 repeat rw [sq]
 refine pJ hF (fun x5 => [(0, .v (.bx [.sl false 1 (z2.2.1.map row_u8), .int .i64 z2.2.2.1, .int .u64 z2.2.2.2])), (2, .bl [.int .i64 0, .int .i64 0, .int .i64 0]), (4, .bl [.int .i64 0, .int .i64 0, .int .i64 0, .int .i64 0, .int .i64 0]), (8, .bl [.int .i64 x5.1, .int .i64 x5.2.1, .int .i64 x5.2.2])]) (fun x5 hF => ?_) fun _ hj3 hF => ?_
 ·try simp [go_sem, g]
  refine pC hF [.io] c_spec_l1Cur_anyContest__io0 (fun z7 hF => ?_)
  iterate 2 (try simp [go_sem, g]; refine pw_wk ?_)
  repeat rw [sq]
  refine pJ hF (fun x10 => [(0, .v (.bx [.sl false 1 (x10.1.1.map row_u8), .int .i64 x10.1.2.1, .int .u64 x10.1.2.2])), (2, .bl [.int .i64 0, .int .i64 0, .int .i64 0]), (4, .bl [.int .i64 0, .int .i64 0, .int .i64 0, .int .i64 0, .int .i64 0]), (8, .bl [.int .i64 x5.1, .int .i64 x5.2.1, .int .i64 x5.2.2]), (9, .bl [.int .i64 x10.2.1, .int .i64 x10.2.2.1, .int .i64 x10.2.2.2.1, .int .i64 x10.2.2.2.2.1, .int .i64 x10.2.2.2.2.2])]) (fun x10 hF => ?_) fun _ hj8 hF => ?_
  ·try simp [go_sem, g]
   refine pC hF [.io, .sh] c_spec_l1Cur_anyVote__io0 (fun z37 hF => ?_)
   try simp [go_sem, g]
   refine pw_wkK [0, 2, 4, 8, 9, 11] (by simp [go_sem, g]; rfl) ?_
   try simp [go_sem, g]
   refine pw_wk ?_
   try simp [go_sem, g]
   refine pC hF [.sh] c_spec_vContest (fun z38 hF => ?_)
   try simp [go_sem, g]
   refine pw_wk ?_
   repeat rw [sq]
   refine pJ hF (fun x41 => [(0, .v (.bx [.sl false 1 (z37.2.1.map row_u8), .int .i64 z37.2.2.1, .int .u64 z37.2.2.2])), (2, .bl [.int .i64 0, .int .i64 0, .int .i64 0]), (4, .bl [.int .i64 0, .int .i64 0, .int .i64 0, .int .i64 0, .int .i64 0]), (8, .bl [.int .i64 x5.1, .int .i64 x5.2.1, .int .i64 x5.2.2]), (9, .bl [.int .i64 x10.2.1, .int .i64 x10.2.2.1, .int .i64 x10.2.2.2.1, .int .i64 x10.2.2.2.2.1, .int .i64 x10.2.2.2.2.2]), (11, .v (.sl false 1 (z37.1.map row_i64))), (12, .v (.int .i64 x41))]) (fun x41 hF => ?_) fun _ hj39 hF => ?_
   ·try simp [go_sem, g]
    refine pC hF [.io, .sh] c_spec_l1Cur_pick__io0 (fun z44 hF => ?_)
    try simp [go_sem, g]
    refine pw_wk ?_
    try simp [go_sem, g]
    refine pC hF [.io, .sh] c_spec_l1Cur_one__io0 (fun z45 hF => ?_)
    try simp [go_sem, g]
    refine pw_wk ?_
    repeat rw [sq]
    refine pJ hF (fun x48 => [(0, .v (.bx [.sl false 1 (x48.1.1.map row_u8), .int .i64 x48.1.2.1, .int .u64 x48.1.2.2])), (2, .bl [.int .i64 0, .int .i64 0, .int .i64 0]), (4, .bl [.int .i64 0, .int .i64 0, .int .i64 0, .int .i64 0, .int .i64 0]), (8, .bl [.int .i64 x5.1, .int .i64 x5.2.1, .int .i64 x5.2.2]), (9, .bl [.int .i64 x10.2.1, .int .i64 x10.2.2.1, .int .i64 x10.2.2.2.1, .int .i64 x10.2.2.2.2.1, .int .i64 x10.2.2.2.2.2]), (11, .v (.sl false 1 (z37.1.map row_i64))), (12, .v (.int .i64 x41)), (13, .v (.int .i64 x48.2))]) (fun x48 hF => ?_) fun _ hj46 hF => ?_
    ·repeat rw [sq]
     refine pw_draw D26_16 follows (by kernel_rfl) rfl ?_
     try simp only [go_sem, D26_16]
     try simp [go_sem, g]
     refine pC hF [.io, .sh] c_spec_l1Cur_anyElement__io0 (fun z51 hF => ?_)
     try simp [go_sem, g]
     refine pC hF [.io, .sh, .sh] c_spec_l1Cur_anyCoins__io0 (fun z52 hF => ?_)
     try simp [go_sem, g]
     refine pw_wkK [0, 2, 3, 4, 5, 6, 7] (by simp [go_sem, g]; rfl) ?_
     cases hΦ _ (Rn_some hF)
     try simp [go_sem, g]
    ·repeat rw [sq]
     refine pI hF (fun h49 hF => ?_) (fun h49 hF => ?_)
     ·try simp [go_sem, g]
      refine pC hF [.io, .mv] c_spec_l1Cur_among__io0_mv1 (fun z50 hF => ?_)
      try simp [go_sem, g]
      exact pT (hj46 ((z50.2.1, z50.2.2.1, z50.2.2.2), z50.1)) (Rn_some hF)
     ·try simp [go_sem, g]
      exact pT (hj46 ((z45.2.1, z45.2.2.1, z45.2.2.2), z44.1)) (Rn_some hF)
   ·repeat rw [sq]
    refine pI hF (fun h42 hF => ?_) (fun h42 hF => ?_)
    ·try simp [go_sem, g]
     refine pC hF [.sh] c_spec_bCoins (fun z43 hF => ?_)
     try simp [go_sem, g]
     exact pT (hj39 z43) (Rn_some hF)
    ·try simp [go_sem, g]
     exact pT (hj39 1) (Rn_some hF)
  ·repeat rw [sq]
   rw [pw_block]
   obtain ⟨b35, hb36, hψ27⟩ := hF
   refine pL hb36 (fun s23 => [(0, .v (.bx [.sl false 1 (s23.1.1.map row_u8), .int .i64 s23.1.2.1, .int .u64 s23.1.2.2])), (2, .bl [.int .i64 0, .int .i64 0, .int .i64 0]), (4, .bl [.int .i64 0, .int .i64 0, .int .i64 0, .int .i64 0, .int .i64 0]), (8, .bl [.int .i64 x5.1, .int .i64 x5.2.1, .int .i64 x5.2.2]), (9, .bl [.int .i64 s23.2.1, .int .i64 s23.2.2.1, .int .i64 s23.2.2.2.1, .int .i64 s23.2.2.2.2.1, .int .i64 s23.2.2.2.2.2.1]), (10, .v (.int .i64 s23.2.2.2.2.2.2))]) (fun s23 _ _ ho25 hg26 hF => ?_)
   repeat rw [sq]
   refine pJ hF (fun x30 => [(0, .v (.bx [.sl false 1 (s23.1.1.map row_u8), .int .i64 s23.1.2.1, .int .u64 s23.1.2.2])), (2, .bl [.int .i64 0, .int .i64 0, .int .i64 0]), (4, .bl [.int .i64 0, .int .i64 0, .int .i64 0, .int .i64 0, .int .i64 0]), (8, .bl [.int .i64 x5.1, .int .i64 x5.2.1, .int .i64 x5.2.2]), (9, .bl [.int .i64 s23.2.1, .int .i64 s23.2.2.1, .int .i64 s23.2.2.2.1, .int .i64 s23.2.2.2.2.1, .int .i64 s23.2.2.2.2.2.1]), (10, .v (.int .i64 s23.2.2.2.2.2.2)), (28, .v (.bool x30))]) (fun x30 hF => ?_) fun _ hj28 hF => ?_
   ·repeat rw [sq]
    refine pI hF (fun h33 hF => ?_) (fun h33 hF => ?_)
    ·try simp [go_sem, g]
     refine pw_wk ?_
     repeat rw [sq]
     rw [pw_block]
     try simp [go_sem, g]
     refine pC hF [.io] c_spec_l1Cur_contest__io0 (fun z34 hF => ?_)
     try simp [go_sem, g]
     refine pw_wkK [0, 2, 4, 8, 9, 10] (by simp [go_sem, g]; rfl) ?_
     try simp [go_sem, g]
     exact pT (hg26 ((z34.2.1, z34.2.2.1, z34.2.2.2), z34.1.Kind, z34.1.Options, z34.1.Least, z34.1.Most, z34.1.Points, i64.wrap (s23.2.2.2.2.2.2 + 1))) (Rn_some hF)
    ·try simp [go_sem, g]
     cases ho25 _ (Rn_some hF)
     exact pT (hj8 ((s23.1.1, s23.1.2.1, s23.1.2.2), s23.2.1, s23.2.2.1, s23.2.2.2.1, s23.2.2.2.2.1, s23.2.2.2.2.2.1)) hψ27
   ·try simp [go_sem, g]
    refine pwg_F hF (fun h31 hF => ?_) fun h31 hF => ?_
    ·try simp [go_sem, g, h31]
     refine pC hF [.sh, .sh] c_spec_bGood (fun z32 hF => ?_)
     try simp [go_sem, g, h31]
     exact pT (hj28 (!z32)) (Rn_some hF)
    ·try simp [go_sem, g, h31]
     exact pT (hj28 false) (Rn_some hF)
 ·repeat rw [sq]
  refine pI hF (fun h6 hF => ?_) (fun h6 hF => ?_)
  ·try simp [go_sem, g]
   exact pT (hj3 (1000000007, 500000003, 4)) (Rn_some hF)
  ·try simp [go_sem, g]
   exact pT (hj3 (z1.1.P, z1.1.Q, z1.1.G)) (Rn_some hF)
noncomputable def F_spec_DrawSealVote (a0 : (List Int)) : Option (Group × Int × Contest × Int × (List Int) × (List Int)) :=
 (F_spec_l1Cur_sealing__io0 a0 0 0).bind fun z1 =>
 some (z1.1, z1.2.1, z1.2.2.1, z1.2.2.2.1, z1.2.2.2.2.1, z1.2.2.2.2.2.1)
theorem c_spec_DrawSealVote : ∀ {a0} {r}, F_spec_DrawSealVote a0 = some r → PCalls Tryz.prog 6 [(.sh, .sl false 1 (a0.map row_u8))] (Eo (.tup [.agg [.int .i64 r.1.P, .int .i64 r.1.Q, .int .i64 r.1.G], .int .i64 r.2.1, .agg [.int .i64 r.2.2.1.Kind, .int .i64 r.2.2.1.Options, .int .i64 r.2.2.1.Least, .int .i64 r.2.2.1.Most, .int .i64 r.2.2.1.Points], .int .i64 r.2.2.2.1, .sl false 1 (r.2.2.2.2.1.map row_i64), .sl false 1 (r.2.2.2.2.2.map row_i64)]) [.junk]) := by
 intro a0 r hr
 apply pF 20 [] [] [11] [.cell 2 25, .tmp 3, .cell 4 27, .tmp 5, .tmp 6, .tmp 7] hr cl6 Tryz.func6
 intro Φ hΦ hF g
 unfold F_spec_DrawSealVote at hF
 try simp [go_sem, g]
 refine pw_wk ?_
 try simp [go_sem, g]
 refine pw_wkK [2, 4, 8] (by simp [go_sem, g]; rfl) ?_
 try simp [go_sem, g]
 refine pC hF [.io] c_spec_l1Cur_sealing__io0 (fun z1 hF => ?_)
 try simp [go_sem, g]
 refine pw_wkK [2, 3, 4, 5, 6, 7] (by simp [go_sem, g]; rfl) ?_
 cases hΦ _ (Rn_some hF)
 try simp [go_sem, g]
noncomputable def F_spec_l1All (a0 : (List Int)) (a1 : Int) (a2 : Int) : Option (Bool) :=
 ((rloop (σ := Unit) (fun i5 s4 =>
 (ix a0 i5).bind fun x11 =>
 (F_spec_l1In x11 a1 a2).bind fun z12 =>
 if (!z12) = true then (
 some (.out (.inr false))) else (
 some (.go ()))) (fun s4 => .inl ()) (a0.length) 0 () : Option (Unit ⊕ Bool)).bind (Sum.elim (fun x3 =>
 some true) some))
theorem c_spec_l1All : ∀ {a0} {a1} {a2} {r}, F_spec_l1All a0 a1 a2 = some r → PCalls Tryz.prog 88 [(.sh, .sl false 1 (a0.map row_i64)), (.sh, .int .i64 a1), (.sh, .int .i64 a2)] (Eo (.bool r) [.junk, .junk, .junk]) := by
 intro a0 a1 a2 r hr
 apply pF 21 [] [] [] [.tmp 6] hr cl88 Tryz.func88
 intro Φ hΦ hF g
 unfold F_spec_l1All at hF
 iterate 2 (try simp [go_sem, g]; try intros; refine pw_wk ?_)
 repeat rw [sq]
 refine pJs hF (fun x3 => []) (fun x3 hF => ?_) fun _ hj1 hr2 hF => ?_
 ·cases hΦ _ (Rn_some hF)
  try simp [go_sem, g]
  refine pw_wk ?_
  try simp [go_sem, g]
 ·repeat rw [sq]
  rw [pw_block]
  obtain ⟨b14, hb15, hψ8⟩ := hF
  refine pR hb15 (fun i5 s4 => [(1, .v (.int .i64 a1)), (2, .v (.int .i64 a2)), (9, .v (.sl false 1 (a0.map row_i64))), (10, .v (.int .i64 (a0.length : Int))), (11, .v (.int .i64 i5))]) (fun s4 _ hN16 => ?_) (fun i5 s4 _ _ hi9 hi10 ho6 hg7 hF => ?_)
  ·subst hN16
   try simp [go_sem]
   refine pw_wk ?_
   repeat rw [sq]
   refine pw_cond_f (by simp [go_sem]) ?_
   try simp [go_sem]
   exact pT (hj1 ()) hψ8 (by simp [go_sem])
  ·try simp [go_sem, g]
   refine pw_wk ?_
   repeat rw [sq]
   refine pw_cond_t (by simp [go_sem, g, hi9, hi10]) ?_
   try simp [go_sem, g]
   refine pw_wk ?_
   repeat rw [sq]
   rw [pw_block]
   obtain ⟨x11, g, hF⟩ := Rx g hF
   try simp [go_sem, g]
   refine pw_wk ?_
   try simp [go_sem, g]
   refine pC hF [.sh, .sh, .sh] c_spec_l1In (fun z12 hF => ?_)
   try simp [go_sem, g]
   refine pw_wkK [1, 2, 9, 10, 11, 19] (by simp [go_sem, g]; rfl) ?_
   repeat rw [sq]
   refine pI hF (fun h13 hF => ?_) (fun h13 hF => ?_)
   ·cases ho6 _ (Rn_some hF)
    cases hΦ _ (hr2 _ hψ8)
    try simp [go_sem, g]
    refine pw_wk ?_
    try simp [go_sem, g]
   ·try simp [go_sem, g]
    refine pw_wk ?_
    try simp [go_sem, g]
    exact pT (hg7 ()) (Rn_some hF) (by simp [go_sem, g, wr_i hi9 hi10 (by assumption)])
noncomputable def F_spec_gExps (a0 : Group) (a1 : (List Int)) : Option (Bool) :=
 (F_spec_l1All a1 0 (i64.wrap (a0.Q - 1))).bind fun z1 =>
 some z1
theorem c_spec_gExps : ∀ {a0} {a1} {r}, F_spec_gExps a0 a1 = some r → PCalls Tryz.prog 28 [(.sh, .agg [.int .i64 a0.P, .int .i64 a0.Q, .int .i64 a0.G]), (.sh, .sl false 1 (a1.map row_i64))] (Eo (.bool r) [.junk, .junk]) := by
 intro a0 a1 r hr
 apply pF 10 [] [] [] [.tmp 4] hr cl28 Tryz.func28
 intro Φ hΦ hF g
 unfold F_spec_gExps at hF
 try simp [go_sem, g]
 refine pw_wk ?_
 try simp [go_sem, g]
 refine pC hF [.sh, .sh, .sh] c_spec_l1All (fun z1 hF => ?_)
 cases hΦ _ (Rn_some hF)
 try simp [go_sem, g]
 refine pw_wk ?_
 try simp [go_sem, g]
noncomputable def F_spec_KeyOf (a0 : Group) (a1 : Int) : Option (Int × Bool) :=
 (((F_spec_l2Good a0).bind fun z4 =>
 if (!z4) = true then (
 some true) else (
 (F_spec_gExps a0 [a1]).bind fun z6 =>
 some (!z6)) : Option (Bool)).bind fun x3 =>
 if x3 = true then (
 some (0, false)) else (
 (F_spec_gExp a0 a0.G a1).bind fun z8 =>
 some (z8, true)))
theorem c_spec_KeyOf : ∀ {a0} {a1} {r}, F_spec_KeyOf a0 a1 = some r → PCalls Tryz.prog 7 [(.sh, .agg [.int .i64 a0.P, .int .i64 a0.Q, .int .i64 a0.G]), (.sh, .int .i64 a1)] (Eo (.tup [.int .i64 r.1, .bool r.2]) [.junk, .junk]) := by
 intro a0 a1 r hr
 apply pF 21 [] [] [] [.tmp 4, .tmp 5] hr cl7 Tryz.func7
 intro Φ hΦ hF g
 unfold F_spec_KeyOf at hF
 try simp [go_sem, g]
 refine pw_wk ?_
 repeat rw [sq]
 refine pJ hF (fun x3 => [(1, .v (.int .i64 a1)), (2, .bl [.int .i64 a0.P, .int .i64 a0.Q, .int .i64 a0.G]), (15, .v (.bool x3))]) (fun x3 hF => ?_) fun _ hj1 hF => ?_
 ·repeat rw [sq]
  refine pI hF (fun h7 hF => ?_) (fun h7 hF => ?_)
  ·cases hΦ _ (Rn_some hF)
   try simp [go_sem, g]
   refine pw_wk ?_
   try simp [go_sem, g]
  ·try simp [go_sem, g]
   refine pw_wk ?_
   try simp [go_sem, g]
   refine pC hF [.sh, .sh, .sh] c_spec_gExp (fun z8 hF => ?_)
   try simp [go_sem, g]
   refine pw_wkK [4, 5] (by simp [go_sem, g]; rfl) ?_
   cases hΦ _ (Rn_some hF)
   try simp [go_sem, g]
 ·try simp [go_sem, g]
  refine pC hF [.sh] c_spec_l2Good (fun z4 hF => ?_)
  try simp [go_sem, g]
  refine pwg_F hF (fun h5 hF => ?_) fun h5 hF => ?_
  ·try simp [go_sem, g, h5]
   exact pT (hj1 true) (Rn_some hF)
  ·try simp [go_sem, g, h5]
   refine pC hF [.sh, .sh] c_spec_gExps (fun z6 hF => ?_)
   try simp [go_sem, g, h5]
   exact pT (hj1 (!z6)) (Rn_some hF)
noncomputable def F_spec_gIs (a0 : Group) (a1 : (List Int)) : Option (Bool) :=
 ((rloop (σ := Unit) (fun i5 s4 =>
 (ix a1 i5).bind fun x11 =>
 (((F_spec_l1In x11 1 (i64.wrap (a0.P - 1))).bind fun z15 =>
 if (!z15) = true then (
 some true) else (
 (F_spec_nPower x11 a0.Q a0.P).bind fun z17 =>
 some (z17 != 1)) : Option (Bool)).bind fun x14 =>
 if x14 = true then (
 some (.out (.inr false))) else (
 some (.go ())))) (fun s4 => .inl ()) (a1.length) 0 () : Option (Unit ⊕ Bool)).bind (Sum.elim (fun x3 =>
 some true) some))
theorem c_spec_gIs : ∀ {a0} {a1} {r}, F_spec_gIs a0 a1 = some r → PCalls Tryz.prog 31 [(.sh, .agg [.int .i64 a0.P, .int .i64 a0.Q, .int .i64 a0.G]), (.sh, .sl false 1 (a1.map row_i64))] (Eo (.bool r) [.junk, .junk]) := by
 intro a0 a1 r hr
 apply pF 29 [] [] [] [.tmp 4] hr cl31 Tryz.func31
 intro Φ hΦ hF g
 unfold F_spec_gIs at hF
 iterate 2 (try simp [go_sem, g]; try intros; refine pw_wk ?_)
 repeat rw [sq]
 refine pJs hF (fun x3 => []) (fun x3 hF => ?_) fun _ hj1 hr2 hF => ?_
 ·cases hΦ _ (Rn_some hF)
  try simp [go_sem, g]
  refine pw_wk ?_
  try simp [go_sem, g]
 ·repeat rw [sq]
  rw [pw_block]
  obtain ⟨b19, hb20, hψ8⟩ := hF
  refine pR hb20 (fun i5 s4 => [(2, .bl [.int .i64 a0.P, .int .i64 a0.Q, .int .i64 a0.G]), (7, .v (.sl false 1 (a1.map row_i64))), (8, .v (.int .i64 (a1.length : Int))), (9, .v (.int .i64 i5))]) (fun s4 _ hN21 => ?_) (fun i5 s4 _ _ hi9 hi10 ho6 hg7 hF => ?_)
  ·subst hN21
   try simp [go_sem]
   refine pw_wk ?_
   repeat rw [sq]
   refine pw_cond_f (by simp [go_sem]) ?_
   try simp [go_sem]
   exact pT (hj1 ()) hψ8 (by simp [go_sem])
  ·try simp [go_sem, g]
   refine pw_wk ?_
   repeat rw [sq]
   refine pw_cond_t (by simp [go_sem, g, hi9, hi10]) ?_
   try simp [go_sem, g]
   refine pw_wk ?_
   repeat rw [sq]
   rw [pw_block]
   obtain ⟨x11, g, hF⟩ := Rx g hF
   try simp [go_sem, g]
   refine pw_wk ?_
   repeat rw [sq]
   refine pJ hF (fun x14 => [(2, .bl [.int .i64 a0.P, .int .i64 a0.Q, .int .i64 a0.G]), (7, .v (.sl false 1 (a1.map row_i64))), (8, .v (.int .i64 (a1.length : Int))), (9, .v (.int .i64 i5)), (27, .v (.bool x14))]) (fun x14 hF => ?_) fun _ hj12 hF => ?_
   ·repeat rw [sq]
    refine pI hF (fun h18 hF => ?_) (fun h18 hF => ?_)
    ·try simp [go_sem, g]
     refine pw_wkK [4] (by simp [go_sem, g]; rfl) ?_
     cases ho6 _ (Rn_some hF)
     cases hΦ _ (hr2 _ hψ8)
     try simp [go_sem, g]
    ·try simp [go_sem, g]
     refine pw_wk ?_
     try simp [go_sem, g]
     exact pT (hg7 ()) (Rn_some hF) (by simp [go_sem, g, wr_i hi9 hi10 (by assumption)])
   ·try simp [go_sem, g]
    refine pC hF [.sh, .sh, .sh] c_spec_l1In (fun z15 hF => ?_)
    try simp [go_sem, g]
    refine pwg_F hF (fun h16 hF => ?_) fun h16 hF => ?_
    ·try simp [go_sem, g, h16]
     exact pT (hj12 true) (Rn_some hF)
    ·try simp [go_sem, g, h16]
     refine pC hF [.sh, .sh, .sh] c_spec_nPower (fun z17 hF => ?_)
     try simp [go_sem, g, h16]
     exact pT (hj12 (z17 != 1)) (Rn_some hF)
noncomputable def F_spec_l1Rising (a0 : (List Int)) (a1 : Int) (a2 : Int) : Option (Bool) :=
 ((rloop (σ := Unit) (fun i5 s4 =>
 (ix a0 i5).bind fun x11 =>
 (((F_spec_l1In x11 a1 a2).bind fun z15 =>
 if (!z15) = true then (
 some true) else (
 if decide (0 < i5) = true then (
 (ix a0 (i64.wrap (i5 - 1))).bind fun x18 =>
 some (decide (x11 ≤ x18))) else (
 some false)) : Option (Bool)).bind fun x14 =>
 if x14 = true then (
 some (.out (.inr false))) else (
 some (.go ())))) (fun s4 => .inl ()) (a0.length) 0 () : Option (Unit ⊕ Bool)).bind (Sum.elim (fun x3 =>
 some true) some))
theorem c_spec_l1Rising : ∀ {a0} {a1} {a2} {r}, F_spec_l1Rising a0 a1 a2 = some r → PCalls Tryz.prog 92 [(.sh, .sl false 1 (a0.map row_i64)), (.sh, .int .i64 a1), (.sh, .int .i64 a2)] (Eo (.bool r) [.junk, .junk, .junk]) := by
 intro a0 a1 a2 r hr
 apply pF 35 [] [] [] [.tmp 6] hr cl92 Tryz.func92
 intro Φ hΦ hF g
 unfold F_spec_l1Rising at hF
 iterate 2 (try simp [go_sem, g]; try intros; refine pw_wk ?_)
 repeat rw [sq]
 refine pJs hF (fun x3 => []) (fun x3 hF => ?_) fun _ hj1 hr2 hF => ?_
 ·cases hΦ _ (Rn_some hF)
  try simp [go_sem, g]
  refine pw_wk ?_
  try simp [go_sem, g]
 ·repeat rw [sq]
  rw [pw_block]
  obtain ⟨b20, hb21, hψ8⟩ := hF
  refine pR hb21 (fun i5 s4 => [(0, .v (.sl false 1 (a0.map row_i64))), (1, .v (.int .i64 a1)), (2, .v (.int .i64 a2)), (9, .v (.sl false 1 (a0.map row_i64))), (10, .v (.int .i64 (a0.length : Int))), (11, .v (.int .i64 i5))]) (fun s4 _ hN22 => ?_) (fun i5 s4 _ _ hi9 hi10 ho6 hg7 hF => ?_)
  ·subst hN22
   try simp [go_sem]
   refine pw_wk ?_
   repeat rw [sq]
   refine pw_cond_f (by simp [go_sem]) ?_
   try simp [go_sem]
   exact pT (hj1 ()) hψ8 (by simp [go_sem])
  ·try simp [go_sem, g]
   refine pw_wk ?_
   repeat rw [sq]
   refine pw_cond_t (by simp [go_sem, g, hi9, hi10]) ?_
   try simp [go_sem, g]
   refine pw_wk ?_
   repeat rw [sq]
   rw [pw_block]
   obtain ⟨x11, g, hF⟩ := Rx g hF
   try simp [go_sem, g]
   refine pw_wkK [0, 1, 2, 7, 8, 9, 10, 11] (by simp [go_sem, g]; rfl) ?_
   repeat rw [sq]
   refine pJ hF (fun x14 => [(0, .v (.sl false 1 (a0.map row_i64))), (1, .v (.int .i64 a1)), (2, .v (.int .i64 a2)), (9, .v (.sl false 1 (a0.map row_i64))), (10, .v (.int .i64 (a0.length : Int))), (11, .v (.int .i64 i5)), (33, .v (.bool x14))]) (fun x14 hF => ?_) fun _ hj12 hF => ?_
   ·repeat rw [sq]
    refine pI hF (fun h19 hF => ?_) (fun h19 hF => ?_)
    ·cases ho6 _ (Rn_some hF)
     cases hΦ _ (hr2 _ hψ8)
     try simp [go_sem, g]
     refine pw_wk ?_
     try simp [go_sem, g]
    ·try simp [go_sem, g]
     refine pw_wk ?_
     try simp [go_sem, g]
     exact pT (hg7 ()) (Rn_some hF) (by simp [go_sem, g, wr_i hi9 hi10 (by assumption)])
   ·try simp [go_sem, g]
    refine pC hF [.sh, .sh, .sh] c_spec_l1In (fun z15 hF => ?_)
    try simp [go_sem, g]
    refine pwg_F hF (fun h16 hF => ?_) fun h16 hF => ?_
    ·try simp [go_sem, g, h16]
     exact pT (hj12 true) (Rn_some hF)
    ·try simp [go_sem, g, h16]
     refine pwg_F hF (fun h17 hF => ?_) fun h17 hF => ?_
     ·obtain ⟨x18, g, hF⟩ := Rx g hF
      try simp [go_sem, g, h17, h16]
      exact pT (hj12 (decide (x11 ≤ x18))) (Rn_some hF)
     ·try simp [go_sem, g, h17, h16]
      exact pT (hj12 false) (Rn_some hF)
noncomputable def F_spec_vPlain (a0 : (List Int)) : Option (Int) :=
 ((rloop (σ := Int) (fun i5 s4 =>
 (ix a0 i5).bind fun x11 =>
 some (.go (i64.wrap (s4 + x11)))) (fun s4 => s4) (a0.length) 0 0 : Option (Int)).bind fun x3 =>
 some x3)
theorem c_spec_vPlain : ∀ {a0} {r}, F_spec_vPlain a0 = some r → PCalls Tryz.prog 93 [(.sh, .sl false 1 (a0.map row_i64))] (Eo (.int .i64 r) [.junk]) := by
 intro a0 r hr
 apply pF 17 [] [] [] [.tmp 2] hr cl93 Tryz.func93
 intro Φ hΦ hF g
 unfold F_spec_vPlain at hF
 iterate 3 (try simp [go_sem, g]; try intros; refine pw_wk ?_)
 repeat rw [sq]
 refine pJ hF (fun x3 => [(3, .v (.int .i64 x3))]) (fun x3 hF => ?_) fun _ hj1 hF => ?_
 ·cases hΦ _ (Rn_some hF)
  try simp [go_sem, g]
  refine pw_wk ?_
  try simp [go_sem, g]
 ·repeat rw [sq]
  rw [pw_block]
  obtain ⟨b12, hb13, hψ8⟩ := hF
  refine pR hb13 (fun i5 s4 => [(3, .v (.int .i64 s4)), (6, .v (.sl false 1 (a0.map row_i64))), (7, .v (.int .i64 (a0.length : Int))), (8, .v (.int .i64 i5))]) (fun s4 _ hN14 => ?_) (fun i5 s4 _ _ hi9 hi10 ho6 hg7 hF => ?_)
  ·subst hN14
   try simp [go_sem]
   refine pw_wk ?_
   repeat rw [sq]
   refine pw_cond_f (by simp [go_sem]) ?_
   try simp [go_sem]
   exact pT (hj1 s4) hψ8 (by simp [go_sem])
  ·try simp [go_sem, g]
   refine pw_wk ?_
   repeat rw [sq]
   refine pw_cond_t (by simp [go_sem, g, hi9, hi10]) ?_
   try simp [go_sem, g]
   refine pw_wk ?_
   repeat rw [sq]
   rw [pw_block]
   obtain ⟨x11, g, hF⟩ := Rx g hF
   try simp [go_sem, g]
   refine pw_wk ?_
   try simp [go_sem, g]
   refine pw_wkK [3, 6, 7, 8] (by simp [go_sem, g]; rfl) ?_
   try simp [go_sem, g]
   exact pT (hg7 (i64.wrap (s4 + x11))) (Rn_some hF) (by simp [go_sem, g, wr_i hi9 hi10 (by assumption)])
noncomputable def F_spec_vDifferent (a0 : (List Int)) : Option (Bool) :=
 ((rloop (σ := Unit) (fun i5 s4 =>
 (ix a0 i5).bind fun x11 =>
 gd (0 ≤ i5) <|
 gd (0 ≤ i5.toNat ∧ i5.toNat ≤ a0.length) <|
 (F_spec_l1Has ((a0.take i5.toNat).drop 0) x11).bind fun z12 =>
 if z12 = true then (
 some (.out (.inr false))) else (
 some (.go ()))) (fun s4 => .inl ()) (a0.length) 0 () : Option (Unit ⊕ Bool)).bind (Sum.elim (fun x3 =>
 some true) some))
theorem c_spec_vDifferent : ∀ {a0} {r}, F_spec_vDifferent a0 = some r → PCalls Tryz.prog 94 [(.sh, .sl false 1 (a0.map row_i64))] (Eo (.bool r) [.junk]) := by
 intro a0 r hr
 apply pF 18 [] [] [] [.tmp 2] hr cl94 Tryz.func94
 intro Φ hΦ hF g
 unfold F_spec_vDifferent at hF
 iterate 2 (try simp [go_sem, g]; try intros; refine pw_wk ?_)
 repeat rw [sq]
 refine pJs hF (fun x3 => []) (fun x3 hF => ?_) fun _ hj1 hr2 hF => ?_
 ·cases hΦ _ (Rn_some hF)
  try simp [go_sem, g]
  refine pw_wk ?_
  try simp [go_sem, g]
 ·repeat rw [sq]
  rw [pw_block]
  obtain ⟨b14, hb15, hψ8⟩ := hF
  refine pR hb15 (fun i5 s4 => [(0, .v (.sl false 1 (a0.map row_i64))), (5, .v (.sl false 1 (a0.map row_i64))), (6, .v (.int .i64 (a0.length : Int))), (7, .v (.int .i64 i5))]) (fun s4 _ hN16 => ?_) (fun i5 s4 _ _ hi9 hi10 ho6 hg7 hF => ?_)
  ·subst hN16
   try simp [go_sem]
   refine pw_wk ?_
   repeat rw [sq]
   refine pw_cond_f (by simp [go_sem]) ?_
   try simp [go_sem]
   exact pT (hj1 ()) hψ8 (by simp [go_sem])
  ·try simp [go_sem, g]
   refine pw_wk ?_
   repeat rw [sq]
   refine pw_cond_t (by simp [go_sem, g, hi9, hi10]) ?_
   try simp [go_sem, g]
   refine pw_wk ?_
   repeat rw [sq]
   rw [pw_block]
   obtain ⟨x11, g, hF⟩ := Rx g hF
   try simp [go_sem, g]
   refine pw_wkK [0, 3, 4, 5, 6, 7] (by simp [go_sem, g]; rfl) ?_
   obtain ⟨g, hF⟩ := Rg g hF
   obtain ⟨g, hF⟩ := Rg g hF
   try simp [go_sem, g]
   refine pC hF [.sh, .sh] c_spec_l1Has (fun z12 hF => ?_)
   try simp [go_sem, g]
   refine pw_wk ?_
   repeat rw [sq]
   refine pI hF (fun h13 hF => ?_) (fun h13 hF => ?_)
   ·cases ho6 _ (Rn_some hF)
    cases hΦ _ (hr2 _ hψ8)
    try simp [go_sem, g]
    refine pw_wk ?_
    try simp [go_sem, g]
   ·try simp [go_sem, g]
    refine pw_wk ?_
    try simp [go_sem, g]
    exact pT (hg7 ()) (Rn_some hF) (by simp [go_sem, g, wr_i hi9 hi10 (by assumption)])
def D33_5 : List DE := [d0 0 [1], d0 1 [25], d1 2 [2] 2, d2 3 [27] 2 27, d0 4 [26, 28], d0 5 [29], d0 6 [1, 30], d1 7 [2, 30] 2, d2 8 [32, 30] 2 32, d3 9 [31, 33, 30], d0 10 [30, 34], d0 11 [35], d0 12 [1, 36], d1 14 [2, 36] 2, d2 15 [39, 36] 2 39, d1 16 [2, 36] 2, d2 17 [41, 36] 2 41, d3 13 [37, 36], d3 18 [38, 40, 42, 36], d0 19 [36, 43], d0 20 [44]]
noncomputable def F_spec_vVote (a0 : Contest) (a1 : (List Int)) : Option (Bool) :=
 if (a0.Kind == 1) = true then (
 (((F_spec_l1Rising a1 0 (i64.wrap (a0.Options - 1))).bind fun z5 =>
 if z5 = true then (
 (F_spec_l1In (a1.length : Int) a0.Least a0.Most).bind fun z7 =>
 some z7) else (
 some false) : Option (Bool)).bind fun x4 =>
 some x4)) else (
 if (a0.Kind == 2) = true then (
 ((if ((a1.length : Int) == a0.Options) = true then (
 (F_spec_l1All a1 0 a0.Points).bind fun z13 =>
 if z13 = true then (
 (F_spec_vPlain a1).bind fun z15 =>
 (F_spec_l1In z15 a0.Least a0.Most).bind fun z16 =>
 some z16) else (
 some false)) else (
 some false) : Option (Bool)).bind fun x11 =>
 some x11)) else (
 if (a0.Kind == 3) = true then (
 (((F_spec_l1All a1 0 (i64.wrap (a0.Options - 1))).bind fun z21 =>
 if z21 = true then (
 (F_spec_vDifferent a1).bind fun z23 =>
 if z23 = true then (
 (F_spec_l1In (a1.length : Int) a0.Least a0.Most).bind fun z25 =>
 some z25) else (
 some false)) else (
 some false) : Option (Bool)).bind fun x20 =>
 some x20)) else (
 (((F_spec_l1All a1 1 26).bind fun z29 =>
 if z29 = true then (
 (F_spec_l1In (a1.length : Int) a0.Least a0.Most).bind fun z31 =>
 some z31) else (
 some false) : Option (Bool)).bind fun x28 =>
 some x28))))
theorem c_spec_vVote : ∀ {a0} {a1} {r}, F_spec_vVote a0 a1 = some r → PCalls Tryz.prog 33 [(.sh, .agg [.int .i64 a0.Kind, .int .i64 a0.Options, .int .i64 a0.Least, .int .i64 a0.Most, .int .i64 a0.Points]), (.sh, .sl false 1 (a1.map row_i64))] (Eo (.bool r) [.junk, .junk]) := by
 intro a0 a1 r hr
 apply pF 76 [] [] [] [.tmp 4] hr cl33 Tryz.func33
 intro Φ hΦ hF g
 unfold F_spec_vVote at hF
 iterate 2 (try simp [go_sem, g]; refine pw_wk ?_)
 repeat rw [sq]
 rw [pw_block]
 try simp [go_sem, g]
 refine pw_wk ?_
 repeat rw [sq]
 refine pI hF (fun h1 hF => ?_) (fun h1 hF => ?_)
 ·repeat rw [sq]
  refine pJ hF (fun x4 => [(4, .v (.bool x4))]) (fun x4 hF => ?_) fun _ hj2 hF => ?_
  ·cases hΦ _ (Rn_some hF)
   try simp [go_sem, g]
  ·try simp [go_sem, g]
   refine pC hF [.sh, .sh, .sh] c_spec_l1Rising (fun z5 hF => ?_)
   try simp [go_sem, g]
   refine pwg_F hF (fun h6 hF => ?_) fun h6 hF => ?_
   ·try simp [go_sem, g, h6]
    try intros
    refine pC hF [.sh, .sh, .sh] c_spec_l1In (fun z7 hF => ?_)
    try simp [go_sem, g, h6]
    exact pT (hj2 z7) (Rn_some hF)
   ·try simp [go_sem, g, h6]
    exact pT (hj2 false) (Rn_some hF)
 ·try simp [go_sem, g]
  refine pw_wk ?_
  repeat rw [sq]
  refine pI hF (fun h8 hF => ?_) (fun h8 hF => ?_)
  ·repeat rw [sq]
   refine pJ hF (fun x11 => [(4, .v (.bool x11))]) (fun x11 hF => ?_) fun _ hj9 hF => ?_
   ·cases hΦ _ (Rn_some hF)
    try simp [go_sem, g]
   ·repeat rw [sq]
    refine pw_draw D33_5 follows (by kernel_rfl) rfl ?_
    try simp only [go_sem, D33_5]
    try simp [go_sem, g]
    try intros
    refine pwgD_F hF (fun h12 hF => ?_) fun h12 hF => ?_
    ·try simp [go_sem, g, h12]
     refine pC hF [.sh, .sh, .sh] c_spec_l1All (fun z13 hF => ?_)
     try simp [go_sem, g, h12]
     refine pwgD_F hF (fun h14 hF => ?_) fun h14 hF => ?_
     ·try simp [go_sem, g, h14]
      refine pC hF [.sh] c_spec_vPlain (fun z15 hF => ?_)
      try simp [go_sem, g, h14]
      refine pC hF [.sh, .sh, .sh] c_spec_l1In (fun z16 hF => ?_)
      try simp [go_sem, g, h14]
      exact pT (hj9 z16) (Rn_some hF)
     ·try simp [go_sem, g, h14]
      exact pT (hj9 false) (Rn_some hF)
    ·try simp [go_sem, g, h12]
     exact pT (hj9 false) (Rn_some hF)
  ·try simp [go_sem, g]
   refine pw_wkK [1, 2, 45] (by simp [go_sem, g]; rfl) ?_
   repeat rw [sq]
   refine pI hF (fun h17 hF => ?_) (fun h17 hF => ?_)
   ·repeat rw [sq]
    refine pJ hF (fun x20 => [(4, .v (.bool x20))]) (fun x20 hF => ?_) fun _ hj18 hF => ?_
    ·cases hΦ _ (Rn_some hF)
     try simp [go_sem, g]
    ·try simp [go_sem, g]
     refine pC hF [.sh, .sh, .sh] c_spec_l1All (fun z21 hF => ?_)
     try simp [go_sem, g]
     refine pwg_F hF (fun h22 hF => ?_) fun h22 hF => ?_
     ·try simp [go_sem, g, h22]
      refine pC hF [.sh] c_spec_vDifferent (fun z23 hF => ?_)
      try simp [go_sem, g, h22]
      refine pwg_F hF (fun h24 hF => ?_) fun h24 hF => ?_
      ·try simp [go_sem, g, h24]
       try intros
       refine pC hF [.sh, .sh, .sh] c_spec_l1In (fun z25 hF => ?_)
       try simp [go_sem, g, h24]
       exact pT (hj18 z25) (Rn_some hF)
      ·try simp [go_sem, g, h24]
       exact pT (hj18 false) (Rn_some hF)
     ·try simp [go_sem, g, h22]
      exact pT (hj18 false) (Rn_some hF)
   ·try simp [go_sem, g]
    refine pw_wk ?_
    repeat rw [sq]
    refine pJ hF (fun x28 => [(4, .v (.bool x28))]) (fun x28 hF => ?_) fun _ hj26 hF => ?_
    ·cases hΦ _ (Rn_some hF)
     try simp [go_sem, g]
    ·try simp [go_sem, g]
     refine pC hF [.sh, .sh, .sh] c_spec_l1All (fun z29 hF => ?_)
     try simp [go_sem, g]
     refine pwg_F hF (fun h30 hF => ?_) fun h30 hF => ?_
     ·try simp [go_sem, g, h30]
      try intros
      refine pC hF [.sh, .sh, .sh] c_spec_l1In (fun z31 hF => ?_)
      try simp [go_sem, g, h30]
      exact pT (hj26 z31) (Rn_some hF)
     ·try simp [go_sem, g, h30]
      exact pT (hj26 false) (Rn_some hF)
def D137_3 : List DE := [d0 0 [0], d0 1 [10], d0 3 [0], d0 4 [13], d0 5 [14], d0 6 [15], d0 7 [16], d3 2 [11], ⟨8, [17], [], none, true, true, false⟩, d0 9 [12, 18], d0 10 [19]]
def D137_3x1 : List DE := [d0 0 [0], d0 1 [10], d0 3 [0], d0 4 [13], d0 5 [14], d0 6 [15], d0 7 [16], ⟨8, [17], [], none, true, true, false⟩, d3 2 [11], d0 9 [12, 18], d0 10 [19]]
noncomputable def F_spec_l1Num_r : Nat → Int → Option (ByteArray)
 | 0, _ => none
 | n_ + 1, a0 =>
 if decide (a0 < 10) = true then (
 some (bytesOf [u8.wrap (i64.wrap (48 + a0))])) else (
 (F_spec_l1Num_r n_ (i64.wrap (a0.tdiv 10))).bind fun z2 =>
 gd (z2.size + (bytesOf [u8.wrap (i64.wrap (48 + (a0.tmod 10)))]).size ≤ 9223372036854775807) <|
 some (z2 ++ (bytesOf [u8.wrap (i64.wrap (48 + (a0.tmod 10)))])))
noncomputable def F_spec_l1Num (a0 : Int) : Option (ByteArray) := frec fun n_ => F_spec_l1Num_r n_ a0
theorem c_spec_l1Num_r : ∀ {n_ : Nat} {a0 : Int} {r : ByteArray} (hr : F_spec_l1Num_r n_ a0 = some r), PCalls Tryz.prog 137 [(.sh, .int .i64 a0)] (Eo (.str r) [.junk]) := by
 intro n_
 induction n_ with
 | zero => intro a0 r hr; cases hr
 | succ n_ ih =>
  intro a0 r hr
  apply pF 20 [] [] [1000000] [.tmp 2] hr cl137 Tryz.func137
  intro Φ hΦ hF g
  simp only [F_spec_l1Num_r] at hF
  iterate 2 (try simp [go_sem, g]; refine pw_wk ?_)
  repeat rw [sq]
  refine pI hF (fun h1 hF => ?_) (fun h1 hF => ?_)
  ·cases hΦ _ (Rn_some hF)
   try simp [go_sem, g]
   refine pw_wk ?_
   try simp [go_sem, g]
  ·try simp [go_sem, g]
   refine pw_wk ?_
   repeat rw [sq]
   refine pw_draw2 2 8 D137_3 D137_3x1 follows (by decide) (by kernel_rfl) (by kernel_rfl) rfl rfl ?_ ?_
   ·try simp only [go_sem, D137_3]
    have g := Ld g 10
    try simp [go_sem, g]
    refine pC hF [.sh] ih (fun z2 hF => ?_)
    obtain ⟨g, hF⟩ := Rsa g hF
    try simp [go_sem, g]
    refine pw_wkK [2] (by simp [go_sem, g]; rfl) ?_
    cases hΦ _ (Rn_some hF)
    try simp [go_sem, g]
   ·try simp only [go_sem, D137_3x1]
    have g := Ld g 10
    try simp [go_sem, g]
    refine pC hF [.sh] ih (fun z2 hF => ?_)
    obtain ⟨g, hF⟩ := Rsa g hF
    try simp [go_sem, g]
    refine pw_wkK [2] (by simp [go_sem, g]; rfl) ?_
    cases hΦ _ (Rn_some hF)
    try simp [go_sem, g]
theorem c_spec_l1Num {a0 : Int} {r : ByteArray} (hr : F_spec_l1Num a0 = some r) : PCalls Tryz.prog 137 [(.sh, .int .i64 a0)] (Eo (.str r) [.junk]) := by
 obtain ⟨n_, hn⟩ := frec_some hr
 exact c_spec_l1Num_r hn
noncomputable def F_spec_bLabel (a0 : Int) : Option (ByteArray) :=
 (F_spec_l1Num a0).bind fun z1 =>
 gd ((⟨#[98, 97, 108, 108, 111, 116, 32]⟩ : ByteArray).size + z1.size ≤ 9223372036854775807) <|
 some ((⟨#[98, 97, 108, 108, 111, 116, 32]⟩ : ByteArray) ++ z1)
theorem c_spec_bLabel : ∀ {a0} {r}, F_spec_bLabel a0 = some r → PCalls Tryz.prog 96 [(.sh, .int .i64 a0)] (Eo (.str r) [.junk]) := by
 intro a0 r hr
 apply pF 6 [] [] [] [.tmp 2] hr cl96 Tryz.func96
 intro Φ hΦ hF g
 unfold F_spec_bLabel at hF
 try simp [go_sem, g]
 refine pw_wk ?_
 try simp [go_sem, g]
 refine pC hF [.sh] c_spec_l1Num (fun z1 hF => ?_)
 obtain ⟨g, hF⟩ := Rsa g hF
 cases hΦ _ (Rn_some hF)
 try simp [go_sem, g]
 refine pw_wk ?_
 try simp [go_sem, g]
noncomputable def F_spec_gMul (a0 : Group) (a1 : (List Int)) : Option (Int) :=
 ((rloop (σ := Int) (fun i5 s4 =>
 (ix a1 i5).bind fun x11 =>
 gd (a0.P ≠ 0) <|
 some (.go ((i64.wrap (s4 * x11)).tmod a0.P))) (fun s4 => s4) (a1.length) 0 1 : Option (Int)).bind fun x3 =>
 some x3)
theorem c_spec_gMul : ∀ {a0} {a1} {r}, F_spec_gMul a0 a1 = some r → PCalls Tryz.prog 111 [(.sh, .agg [.int .i64 a0.P, .int .i64 a0.Q, .int .i64 a0.G]), (.sh, .sl false 1 (a1.map row_i64))] (Eo (.int .i64 r) [.junk, .junk]) := by
 intro a0 a1 r hr
 apply pF 22 [] [] [] [.tmp 4] hr cl111 Tryz.func111
 intro Φ hΦ hF g
 unfold F_spec_gMul at hF
 iterate 3 (try simp [go_sem, g]; try intros; refine pw_wk ?_)
 repeat rw [sq]
 refine pJ hF (fun x3 => [(5, .v (.int .i64 x3))]) (fun x3 hF => ?_) fun _ hj1 hF => ?_
 ·cases hΦ _ (Rn_some hF)
  try simp [go_sem, g]
  refine pw_wk ?_
  try simp [go_sem, g]
 ·repeat rw [sq]
  rw [pw_block]
  obtain ⟨b12, hb13, hψ8⟩ := hF
  refine pR hb13 (fun i5 s4 => [(2, .bl [.int .i64 a0.P, .int .i64 a0.Q, .int .i64 a0.G]), (5, .v (.int .i64 s4)), (8, .v (.sl false 1 (a1.map row_i64))), (9, .v (.int .i64 (a1.length : Int))), (10, .v (.int .i64 i5))]) (fun s4 _ hN14 => ?_) (fun i5 s4 _ _ hi9 hi10 ho6 hg7 hF => ?_)
  ·subst hN14
   try simp [go_sem]
   refine pw_wk ?_
   repeat rw [sq]
   refine pw_cond_f (by simp [go_sem]) ?_
   try simp [go_sem]
   exact pT (hj1 s4) hψ8 (by simp [go_sem])
  ·try simp [go_sem, g]
   refine pw_wk ?_
   repeat rw [sq]
   refine pw_cond_t (by simp [go_sem, g, hi9, hi10]) ?_
   try simp [go_sem, g]
   refine pw_wk ?_
   repeat rw [sq]
   rw [pw_block]
   obtain ⟨x11, g, hF⟩ := Rx g hF
   try simp [go_sem, g]
   refine pw_wkK [2, 5, 7, 8, 9, 10] (by simp [go_sem, g]; rfl) ?_
   obtain ⟨g, hF⟩ := Rz g hF
   try simp [go_sem, g]
   refine pw_wk ?_
   try simp [go_sem, g]
   exact pT (hg7 ((i64.wrap (s4 * x11)).tmod a0.P)) (Rn_some hF) (by simp [go_sem, g, wr_i hi9 hi10 (by assumption)])
def D138_1 : List DE := [d2 0 [4] 4 4, d1 1 [4] 4, d2 2 [10] 4 10, d0 3 [3], d2 5 [4] 4 4, d0 6 [2], d2 7 [4] 4 4, d0 8 [1], d0 9 [3], d3 4 [9, 11, 12], d3 10 [16, 17, 18], d0 11 [15, 19], ⟨12, [14, 20], [], none, true, true, true⟩, d0 13 [13, 21], d2 14 [8, 22] 8 8]
noncomputable def F_spec_eEnc (a0 : Group) (a1 : Int) (a2 : Int) (a3 : Int) : Option (Cipher) :=
 (F_spec_gExp a0 a0.G a3).bind fun z1 =>
 (F_spec_gExp a0 a1 a3).bind fun z2 =>
 (F_spec_gMul a0 [a2, z2]).bind fun z3 =>
 some (Cipher.mk z1 z3)
theorem c_spec_eEnc : ∀ {a0} {a1} {a2} {a3} {r}, F_spec_eEnc a0 a1 a2 a3 = some r → PCalls Tryz.prog 138 [(.sh, .agg [.int .i64 a0.P, .int .i64 a0.Q, .int .i64 a0.G]), (.sh, .int .i64 a1), (.sh, .int .i64 a2), (.sh, .int .i64 a3)] (Eo (.agg [.int .i64 r.A, .int .i64 r.B]) [.junk, .junk, .junk, .junk]) := by
 intro a0 a1 a2 a3 r hr
 apply pF 23 [] [] [] [.cell 8 42] hr cl138 Tryz.func138
 intro Φ hΦ hF g
 unfold F_spec_eEnc at hF
 try simp [go_sem, g]
 refine pw_wk ?_
 repeat rw [sq]
 refine pw_draw D138_1 follows (by kernel_rfl) rfl ?_
 try simp only [go_sem, D138_1]
 try simp [go_sem, g]
 refine pC hF [.sh, .sh, .sh] c_spec_gExp (fun z1 hF => ?_)
 try simp [go_sem, g]
 refine pC hF [.sh, .sh, .sh] c_spec_gExp (fun z2 hF => ?_)
 try simp [go_sem, g]
 refine pC hF [.sh, .sh] c_spec_gMul (fun z3 hF => ?_)
 try simp [go_sem, g]
 refine pw_wkK [8] (by simp [go_sem, g]; rfl) ?_
 cases hΦ _ (Rn_some hF)
 try simp [go_sem, g]
def D97_1 : List DE := [d2 0 [4] 4 4, d0 1 [1], d2 2 [4] 4 4, d1 3 [4] 4, d2 4 [12] 4 12, d0 5 [2], d0 7 [3], d3 6 [11, 13, 14], d3 8 [9, 10, 15, 16], d2 9 [8, 17] 8 8]
noncomputable def F_spec_bExp (a0 : Group) (a1 : Int) (a2 : Int) (a3 : Int) : Option (Cipher) :=
 (F_spec_gExp a0 a0.G a2).bind fun z1 =>
 (F_spec_eEnc a0 a1 z1 a3).bind fun z2 =>
 some z2
theorem c_spec_bExp : ∀ {a0} {a1} {a2} {a3} {r}, F_spec_bExp a0 a1 a2 a3 = some r → PCalls Tryz.prog 97 [(.sh, .agg [.int .i64 a0.P, .int .i64 a0.Q, .int .i64 a0.G]), (.sh, .int .i64 a1), (.sh, .int .i64 a2), (.sh, .int .i64 a3)] (Eo (.agg [.int .i64 r.A, .int .i64 r.B]) [.junk, .junk, .junk, .junk]) := by
 intro a0 a1 a2 a3 r hr
 apply pF 18 [] [] [] [.cell 8 42] hr cl97 Tryz.func97
 intro Φ hΦ hF g
 unfold F_spec_bExp at hF
 try simp [go_sem, g]
 refine pw_wk ?_
 repeat rw [sq]
 refine pw_draw D97_1 follows (by kernel_rfl) rfl ?_
 try simp only [go_sem, D97_1]
 try simp [go_sem, g]
 refine pC hF [.sh, .sh, .sh] c_spec_gExp (fun z1 hF => ?_)
 try simp [go_sem, g]
 refine pC hF [.sh, .sh, .sh, .sh] c_spec_eEnc (fun z2 hF => ?_)
 try simp [go_sem, g]
 refine pw_wkK [8] (by simp [go_sem, g]; rfl) ?_
 cases hΦ _ (Rn_some hF)
 try simp [go_sem, g]
def D156_5 : List DE := [d0 0 [7], d2 1 [3] 3 3, d0 2 [9], d0 3 [2], d0 4 [8], d0 5 [20, 21], d0 6 [22], d1 9 [3] 3, d2 10 [26] 3 26, d3 7 [18, 19, 23], d0 8 [17, 24], d0 11 [25, 27], d0 12 [28]]
noncomputable def F_spec_gProd (a0 : Group) (a1 : (List Int)) (a2 : (List Int)) : Option (Int) :=
 ((rloop (σ := Int) (fun i5 s4 =>
 (ix a1 i5).bind fun x11 =>
 (ix a2 i5).bind fun x12 =>
 (F_spec_gExp a0 x11 x12).bind fun z13 =>
 gd (a0.P ≠ 0) <|
 some (.go ((i64.wrap (s4 * z13)).tmod a0.P))) (fun s4 => s4) (a1.length) 0 1 : Option (Int)).bind fun x3 =>
 some x3)
theorem c_spec_gProd : ∀ {a0} {a1} {a2} {r}, F_spec_gProd a0 a1 a2 = some r → PCalls Tryz.prog 156 [(.sh, .agg [.int .i64 a0.P, .int .i64 a0.Q, .int .i64 a0.G]), (.sh, .sl false 1 (a1.map row_i64)), (.sh, .sl false 1 (a2.map row_i64))] (Eo (.int .i64 r) [.junk, .junk, .junk]) := by
 intro a0 a1 a2 r hr
 apply pF 31 [] [] [] [.tmp 6] hr cl156 Tryz.func156
 intro Φ hΦ hF g
 unfold F_spec_gProd at hF
 iterate 3 (try simp [go_sem, g]; try intros; refine pw_wk ?_)
 repeat rw [sq]
 refine pJ hF (fun x3 => [(7, .v (.int .i64 x3))]) (fun x3 hF => ?_) fun _ hj1 hF => ?_
 ·cases hΦ _ (Rn_some hF)
  try simp [go_sem, g]
  refine pw_wk ?_
  try simp [go_sem, g]
 ·repeat rw [sq]
  rw [pw_block]
  obtain ⟨b14, hb15, hψ8⟩ := hF
  refine pR hb15 (fun i5 s4 => [(2, .v (.sl false 1 (a2.map row_i64))), (3, .bl [.int .i64 a0.P, .int .i64 a0.Q, .int .i64 a0.G]), (7, .v (.int .i64 s4)), (10, .v (.sl false 1 (a1.map row_i64))), (11, .v (.int .i64 (a1.length : Int))), (12, .v (.int .i64 i5))]) (fun s4 _ hN16 => ?_) (fun i5 s4 _ _ hi9 hi10 ho6 hg7 hF => ?_)
  ·subst hN16
   try simp [go_sem]
   refine pw_wk ?_
   repeat rw [sq]
   refine pw_cond_f (by simp [go_sem]) ?_
   try simp [go_sem]
   exact pT (hj1 s4) hψ8 (by simp [go_sem])
  ·try simp [go_sem, g]
   refine pw_wk ?_
   repeat rw [sq]
   refine pw_cond_t (by simp [go_sem, g, hi9, hi10]) ?_
   try simp [go_sem, g]
   refine pw_wk ?_
   repeat rw [sq]
   rw [pw_block]
   obtain ⟨x11, g, hF⟩ := Rx g hF
   try simp [go_sem, g]
   refine pw_wkK [2, 3, 7, 8, 9, 10, 11, 12] (by simp [go_sem, g]; rfl) ?_
   repeat rw [sq]
   refine pw_draw D156_5 follows (by kernel_rfl) rfl ?_
   try simp only [go_sem, D156_5]
   obtain ⟨x12, g, hF⟩ := Rx g hF
   try simp [go_sem, g]
   refine pC hF [.sh, .sh, .sh] c_spec_gExp (fun z13 hF => ?_)
   obtain ⟨g, hF⟩ := Rz g hF
   try simp [go_sem, g]
   refine pw_wkK [2, 3, 7, 10, 11, 12] (by simp [go_sem, g]; rfl) ?_
   try simp [go_sem, g]
   exact pT (hg7 ((i64.wrap (s4 * z13)).tmod a0.P)) (Rn_some hF) (by simp [go_sem, g, wr_i hi9 hi10 (by assumption)])
noncomputable def F_spec_sImages (a0 : Group) (a1 : (List (List Int))) (a2 : (List Int)) : Option ((List Int)) :=
 ((rloop (σ := (List Int)) (fun i5 s4 =>
 (ix a1 i5).bind fun x11 =>
 (F_spec_gProd a0 x11 a2).bind fun z12 =>
 gd ((s4.length + 1) * 8 ≤ 140737488355328 ∧ s4.length + 1 ≤ 4611686018427387904) <|
 some (.go (s4 ++ [z12]))) (fun s4 => s4) (a1.length) 0 [] : Option ((List Int))).bind fun x3 =>
 some x3)
theorem c_spec_sImages : ∀ {a0} {a1} {a2} {r}, F_spec_sImages a0 a1 a2 = some r → PCalls Tryz.prog 139 [(.sh, .agg [.int .i64 a0.P, .int .i64 a0.Q, .int .i64 a0.G]), (.sh, .sl false 1 (a1.map row_zi64)), (.sh, .sl false 1 (a2.map row_i64))] (Eo (.sl true 1 (r.map row_i64)) [.junk, .junk, .junk]) := by
 intro a0 a1 a2 r hr
 apply pF 25 [] [] [] [.tmp 6] hr cl139 Tryz.func139
 intro Φ hΦ hF g
 unfold F_spec_sImages at hF
 iterate 3 (try simp [go_sem, g]; try intros; refine pw_wk ?_)
 repeat rw [sq]
 refine pJ hF (fun x3 => [(7, .v (.sl true 1 (x3.map row_i64)))]) (fun x3 hF => ?_) fun _ hj1 hF => ?_
 ·cases hΦ _ (Rn_some hF)
  try simp [go_sem, g]
  refine pw_wk ?_
  try simp [go_sem, g]
 ·repeat rw [sq]
  rw [pw_block]
  obtain ⟨b13, hb14, hψ8⟩ := hF
  refine pR hb14 (fun i5 s4 => [(2, .v (.sl false 1 (a2.map row_i64))), (3, .bl [.int .i64 a0.P, .int .i64 a0.Q, .int .i64 a0.G]), (7, .v (.sl true 1 (s4.map row_i64))), (10, .v (.sl false 1 (a1.map row_zi64))), (11, .v (.int .i64 (a1.length : Int))), (12, .v (.int .i64 i5))]) (fun s4 _ hN15 => ?_) (fun i5 s4 _ _ hi9 hi10 ho6 hg7 hF => ?_)
  ·subst hN15
   try simp [go_sem]
   refine pw_wk ?_
   repeat rw [sq]
   refine pw_cond_f (by simp [go_sem]) ?_
   try simp [go_sem]
   exact pT (hj1 s4) hψ8 (by simp [go_sem])
  ·try simp [go_sem, g]
   refine pw_wk ?_
   repeat rw [sq]
   refine pw_cond_t (by simp [go_sem, g, hi9, hi10]) ?_
   try simp [go_sem, g]
   refine pw_wk ?_
   repeat rw [sq]
   rw [pw_block]
   obtain ⟨x11, g, hF⟩ := Rx g hF
   try simp [go_sem, g]
   refine pw_wkK [2, 3, 7, 9, 10, 11, 12] (by simp [go_sem, g]; rfl) ?_
   try simp [go_sem, g]
   refine pC hF [.sh, .sh, .sh] c_spec_gProd (fun z12 hF => ?_)
   obtain ⟨g, hF⟩ := Rg g hF
   try simp [go_sem, g]
   refine pw_wk ?_
   try simp [go_sem, g]
   exact pT (hg7 (s4 ++ [z12])) (Rn_some hF) (by simp [go_sem, g, wr_i hi9 hi10 (by assumption)])
noncomputable def F_spec_sStatement (a0 : (List (List Int))) (a1 : (List Int)) (a2 : (List Int)) : Option ((List Int)) :=
 ((rloop (σ := (List Int)) (fun i5 s4 =>
 (ix a0 i5).bind fun x11 =>
 gd ((s4.length + x11.length) * 8 ≤ 140737488355328 ∧ s4.length + x11.length ≤ 4611686018427387904) <|
 some (.go (s4 ++ x11))) (fun s4 => s4) (a0.length) 0 [] : Option ((List Int))).bind fun x3 =>
 gd ((x3.length + a1.length) * 8 ≤ 140737488355328 ∧ x3.length + a1.length ≤ 4611686018427387904) <|
 gd (((x3 ++ a1).length + a2.length) * 8 ≤ 140737488355328 ∧ (x3 ++ a1).length + a2.length ≤ 4611686018427387904) <|
 some (x3 ++ a1 ++ a2))
theorem c_spec_sStatement : ∀ {a0} {a1} {a2} {r}, F_spec_sStatement a0 a1 a2 = some r → PCalls Tryz.prog 141 [(.sh, .sl false 1 (a0.map row_zi64)), (.sh, .sl false 1 (a1.map row_i64)), (.sh, .sl false 1 (a2.map row_i64))] (Eo (.sl true 1 (r.map row_i64)) [.junk, .junk, .junk]) := by
 intro a0 a1 a2 r hr
 apply pF 25 [] [] [] [.tmp 6] hr cl141 Tryz.func141
 intro Φ hΦ hF g
 unfold F_spec_sStatement at hF
 iterate 3 (try simp [go_sem, g]; try intros; refine pw_wk ?_)
 repeat rw [sq]
 refine pJ hF (fun x3 => [(1, .v (.sl false 1 (a1.map row_i64))), (2, .v (.sl false 1 (a2.map row_i64))), (7, .v (.sl true 1 (x3.map row_i64)))]) (fun x3 hF => ?_) fun _ hj1 hF => ?_
 ·obtain ⟨g, hF⟩ := Rg g hF
  obtain ⟨g, hF⟩ := Rg g hF
  try simp [go_sem, g]
  refine pw_wkK [6] (by simp [go_sem, g]; rfl) ?_
  cases hΦ _ (Rn_some hF)
  try simp [go_sem, g]
 ·repeat rw [sq]
  rw [pw_block]
  obtain ⟨b12, hb13, hψ8⟩ := hF
  refine pR hb13 (fun i5 s4 => [(1, .v (.sl false 1 (a1.map row_i64))), (2, .v (.sl false 1 (a2.map row_i64))), (7, .v (.sl true 1 (s4.map row_i64))), (10, .v (.sl false 1 (a0.map row_zi64))), (11, .v (.int .i64 (a0.length : Int))), (12, .v (.int .i64 i5))]) (fun s4 _ hN14 => ?_) (fun i5 s4 _ _ hi9 hi10 ho6 hg7 hF => ?_)
  ·subst hN14
   try simp [go_sem]
   refine pw_wk ?_
   repeat rw [sq]
   refine pw_cond_f (by simp [go_sem]) ?_
   try simp [go_sem]
   exact pT (hj1 s4) hψ8 (by simp [go_sem])
  ·try simp [go_sem, g]
   refine pw_wk ?_
   repeat rw [sq]
   refine pw_cond_t (by simp [go_sem, g, hi9, hi10]) ?_
   try simp [go_sem, g]
   refine pw_wk ?_
   repeat rw [sq]
   rw [pw_block]
   obtain ⟨x11, g, hF⟩ := Rx g hF
   obtain ⟨g, hF⟩ := Rg g hF
   try simp [go_sem, g]
   refine pw_wk ?_
   try simp [go_sem, g]
   refine pw_wkK [1, 2, 7, 10, 11, 12] (by simp [go_sem, g]; rfl) ?_
   try simp [go_sem, g]
   exact pT (hg7 (s4 ++ x11)) (Rn_some hF) (by simp [go_sem, g, wr_i hi9 hi10 (by assumption)])
noncomputable def F_spec_l3With (a0 : ByteArray) (a1 : (List Int)) : Option ((List Int)) :=
 ((wloop (σ := (List Int) × Int) (fun s4 =>
 if decide (s4.2 < (a0.size : Int)) = true then (
 (ixs a0 s4.2).bind fun x10 =>
 gd ((s4.1.length + 1) * 8 ≤ 140737488355328 ∧ s4.1.length + 1 ≤ 4611686018427387904) <|
 some (.go (s4.1 ++ [i64.wrap x10], i64.wrap (s4.2 + 1)))) else (
 some (.out s4.1))) ([(a0.size : Int)], 0) : Option ((List Int))).bind fun x3 =>
 gd ((x3.length + a1.length) * 8 ≤ 140737488355328 ∧ x3.length + a1.length ≤ 4611686018427387904) <|
 some (x3 ++ a1))
theorem c_spec_l3With : ∀ {a0} {a1} {r}, F_spec_l3With a0 a1 = some r → PCalls Tryz.prog 182 [(.sh, .str a0), (.sh, .sl false 1 (a1.map row_i64))] (Eo (.sl true 1 (r.map row_i64)) [.junk, .junk]) := by
 intro a0 a1 r hr
 apply pF 26 [] [] [] [.tmp 4] hr cl182 Tryz.func182
 intro Φ hΦ hF g
 unfold F_spec_l3With at hF
 iterate 3 (try simp [go_sem, g]; refine pw_wk ?_)
 repeat rw [sq]
 refine pJ hF (fun x3 => [(1, .v (.sl false 1 (a1.map row_i64))), (5, .v (.sl true 1 (x3.map row_i64)))]) (fun x3 hF => ?_) fun _ hj1 hF => ?_
 ·obtain ⟨g, hF⟩ := Rg g hF
  try simp [go_sem, g]
  refine pw_wkK [4] (by simp [go_sem, g]; rfl) ?_
  cases hΦ _ (Rn_some hF)
  try simp [go_sem, g]
 ·repeat rw [sq]
  rw [pw_block]
  obtain ⟨b11, hb12, hψ8⟩ := hF
  refine pL hb12 (fun s4 => [(0, .v (.str a0)), (1, .v (.sl false 1 (a1.map row_i64))), (5, .v (.sl true 1 (s4.1.map row_i64))), (6, .v (.int .i64 s4.2))]) (fun s4 _ _ ho6 hg7 hF => ?_)
  try simp [go_sem, g]
  refine pw_wkK [0, 1, 5, 6, 13] (by simp [go_sem, g]; rfl) ?_
  repeat rw [sq]
  refine pI hF (fun h9 hF => ?_) (fun h9 hF => ?_)
  ·try simp [go_sem, g]
   refine pw_wk ?_
   repeat rw [sq]
   rw [pw_block]
   obtain ⟨x10, g, hF⟩ := Rxs g hF
   obtain ⟨g, hF⟩ := Rg g hF
   try simp [go_sem, g]
   refine pw_wk ?_
   try simp [go_sem, g]
   exact pT (hg7 (s4.1 ++ [i64.wrap x10], i64.wrap (s4.2 + 1))) (Rn_some hF)
  ·try simp [go_sem, g]
   cases ho6 _ (Rn_some hF)
   exact pT (hj1 s4.1) hψ8
noncomputable def F_spec_l3State_absorb__io0 (a0c0 : Int) (a0c1 : Int) (a1 : Int) : Option ((Int × Int)) :=
 (some [a1.tmod 2147483648, i64.wrap (a1.tdiv 2147483648)]).bind fun x1 =>
 wloop (σ := (Int × Int) × Int) (fun s10 =>
 if decide (s10.2 < (x1.length : Int)) = true then (
 (ix x1 s10.2).bind fun x16 =>
 some (.go (((i64.wrap ((i64.wrap ((i64.wrap (48271 * s10.1.1)) + x16)) + 1)).tmod 2147483647, (i64.wrap ((i64.wrap ((i64.wrap (69621 * s10.1.2)) + x16)) + 1)).tmod 2147483647), i64.wrap (s10.2 + 1)))) else (
 some (.out (s10.1.1, s10.1.2)))) ((a0c0, a0c1), 0)
theorem c_spec_l3State_absorb__io0 : ∀ {a0c0} {a0c1} {a1} {r}, F_spec_l3State_absorb__io0 a0c0 a0c1 a1 = some r → PCalls Tryz.prog 189 [(.io, .bx [.int .i64 a0c0, .int .i64 a0c1]), (.sh, .int .i64 a1)] (Eo (.junk) [.bx [.int .i64 r.1, .int .i64 r.2], .junk]) := by
 intro a0c0 a0c1 a1 r hr
 apply pF 41 [0] [] [] [] hr cl189 Tryz.func189
 intro Φ hΦ hF g
 unfold F_spec_l3State_absorb__io0 at hF
 have g := Ld g 2147483648
 obtain ⟨x1, e2, hF⟩ := Rn_bind hF
 have g := And.intro g (show [[.int .i64 (a1.tmod 2147483648)], [.int .i64 (i64.wrap (a1.tdiv 2147483648))]] = x1.map row_i64 by injection e2 with e2; rw [← e2]; simp [go_sem])
 try simp [go_sem, g]
 try intros
 refine pw_wk ?_
 repeat rw [sq]
 rw [pw_block]
 obtain ⟨b17, hb18, hψ14⟩ := hF
 refine pL hb18 (fun s10 => [(0, .v (.bx [.int .i64 s10.1.1, .int .i64 s10.1.2])), (10, .v (.sl true 1 (x1.map row_i64))), (11, .v (.int .i64 (x1.length : Int))), (12, .v (.int .i64 s10.2))]) (fun s10 _ _ ho12 hg13 hF => ?_)
 try simp [go_sem, g]
 refine pw_wk ?_
 repeat rw [sq]
 refine pI hF (fun h15 hF => ?_) (fun h15 hF => ?_)
 ·try simp [go_sem, g]
  refine pw_wk ?_
  repeat rw [sq]
  rw [pw_block]
  obtain ⟨x16, g, hF⟩ := Rx g hF
  try simp [go_sem, g]
  refine pw_wkK [0, 5, 10, 11, 12] (by simp [go_sem, g]; rfl) ?_
  have g := Ld g 2147483647
  try simp [go_sem, g]
  refine pw_wkK [0, 5, 10, 11, 12] (by simp [go_sem, g]; rfl) ?_
  try simp [go_sem, g]
  refine pw_wkK [0, 10, 11, 12] (by simp [go_sem, g]; rfl) ?_
  try simp [go_sem, g]
  exact pT (hg13 (((i64.wrap ((i64.wrap ((i64.wrap (48271 * s10.1.1)) + x16)) + 1)).tmod 2147483647, (i64.wrap ((i64.wrap ((i64.wrap (69621 * s10.1.2)) + x16)) + 1)).tmod 2147483647), i64.wrap (s10.2 + 1))) (Rn_some hF)
 ·cases ho12 _ (Rn_some hF)
  cases hΦ _ hψ14
  try simp [go_sem, g]
def D181_8 : List DE := [d0 0 [3], d0 1 [22], d0 2 [23], d0 3 [24], d0 4 [25], d0 5 [3], d0 6 [27], d0 7 [28], d0 8 [29], d0 9 [26, 30], d0 10 [31]]
noncomputable def F_spec_hInts (a0 : (List Int)) : Option (Int) :=
 (F_spec_l3State_absorb__io0 1 2 (a0.length : Int)).bind fun z1 =>
 ((rloop (σ := (Int × Int)) (fun i15 s14 =>
 (ix a0 i15).bind fun x21 =>
 (F_spec_l3State_absorb__io0 s14.1 s14.2 x21).bind fun z22 =>
 some (.go (z22.1, z22.2))) (fun s14 => (s14.1, s14.2)) (a0.length) 0 (z1.1, z1.2) : Option ((Int × Int))).bind fun x4 =>
 some (i64.wrap ((i64.wrap (x4.1 * 2147483648)) + x4.2)))
theorem c_spec_hInts : ∀ {a0} {r}, F_spec_hInts a0 = some r → PCalls Tryz.prog 181 [(.sh, .sl false 1 (a0.map row_i64))] (Eo (.int .i64 r) [.junk]) := by
 intro a0 r hr
 apply pF 32 [] [] [7] [.tmp 2] hr cl181 Tryz.func181
 intro Φ hΦ hF g
 unfold F_spec_hInts at hF
 iterate 2 (try simp [go_sem, g]; try intros; refine pw_wk ?_)
 try simp [go_sem, g]
 try intros
 refine pC hF [.io, .sh] c_spec_l3State_absorb__io0 (fun z1 hF => ?_)
 try simp [go_sem, g]
 try intros
 refine pw_wk ?_
 try simp [go_sem, g]
 try intros
 refine pw_wkK [3, 12, 13, 14] (by simp [go_sem, g]; rfl) ?_
 repeat rw [sq]
 refine pJ hF (fun x4 => [(3, .v (.bx [.int .i64 x4.1, .int .i64 x4.2]))]) (fun x4 hF => ?_) fun _ hj2 hF => ?_
 ·repeat rw [sq]
  refine pw_draw D181_8 follows (by kernel_rfl) rfl ?_
  try simp only [go_sem, D181_8]
  try simp [go_sem, g]
  refine pw_wkK [2] (by simp [go_sem, g]; rfl) ?_
  cases hΦ _ (Rn_some hF)
  try simp [go_sem, g]
 ·repeat rw [sq]
  rw [pw_block]
  obtain ⟨b23, hb24, hψ18⟩ := hF
  refine pR hb24 (fun i15 s14 => [(3, .v (.bx [.int .i64 s14.1, .int .i64 s14.2])), (12, .v (.sl false 1 (a0.map row_i64))), (13, .v (.int .i64 (a0.length : Int))), (14, .v (.int .i64 i15))]) (fun s14 _ hN25 => ?_) (fun i15 s14 _ _ hi19 hi20 ho16 hg17 hF => ?_)
  ·subst hN25
   try simp [go_sem]
   refine pw_wk ?_
   repeat rw [sq]
   refine pw_cond_f (by simp [go_sem]) ?_
   try simp [go_sem]
   exact pT (hj2 (s14.1, s14.2)) hψ18 (by simp [go_sem])
  ·try simp [go_sem, g]
   refine pw_wk ?_
   repeat rw [sq]
   refine pw_cond_t (by simp [go_sem, g, hi19, hi20]) ?_
   try simp [go_sem, g]
   refine pw_wk ?_
   repeat rw [sq]
   rw [pw_block]
   obtain ⟨x21, g, hF⟩ := Rx g hF
   try simp [go_sem, g]
   refine pw_wk ?_
   try simp [go_sem, g]
   refine pC hF [.io, .sh] c_spec_l3State_absorb__io0 (fun z22 hF => ?_)
   try simp [go_sem, g]
   refine pw_wk ?_
   try simp [go_sem, g]
   exact pT (hg17 (z22.1, z22.2)) (Rn_some hF) (by simp [go_sem, g, wr_i hi19 hi20 (by assumption)])
noncomputable def F_spec_hLabelled (a0 : ByteArray) (a1 : (List Int)) : Option (Int) :=
 (F_spec_l3With a0 a1).bind fun z1 =>
 (F_spec_hInts z1).bind fun z2 =>
 some z2
theorem c_spec_hLabelled : ∀ {a0} {a1} {r}, F_spec_hLabelled a0 a1 = some r → PCalls Tryz.prog 170 [(.sh, .str a0), (.sh, .sl false 1 (a1.map row_i64))] (Eo (.int .i64 r) [.junk, .junk]) := by
 intro a0 a1 r hr
 apply pF 9 [] [] [] [.tmp 4] hr cl170 Tryz.func170
 intro Φ hΦ hF g
 unfold F_spec_hLabelled at hF
 try simp [go_sem, g]
 refine pw_wk ?_
 try simp [go_sem, g]
 refine pC hF [.sh, .sh] c_spec_l3With (fun z1 hF => ?_)
 try simp [go_sem, g]
 refine pC hF [.sh] c_spec_hInts (fun z2 hF => ?_)
 cases hΦ _ (Rn_some hF)
 try simp [go_sem, g]
 refine pw_wk ?_
 try simp [go_sem, g]
def D140_1 : List DE := [d0 0 [1], d1 1 [3] 3, d2 2 [8] 3 8, d1 3 [3] 3, d2 4 [10] 3 10, d1 5 [3] 3, d2 6 [12] 3 12, d0 7 [9, 11, 13], d0 8 [2], d1 11 [3] 3, d2 12 [18] 3 18, ⟨9, [14, 15], [], none, true, false, false⟩, d3 10 [7, 16], d0 13 [17, 19], d0 14 [20]]
noncomputable def F_spec_hChallenge (a0 : Group) (a1 : ByteArray) (a2 : (List Int)) : Option (Int) :=
 gd (([a0.P, a0.Q, a0.G].length + a2.length) * 8 ≤ 140737488355328 ∧ [a0.P, a0.Q, a0.G].length + a2.length ≤ 4611686018427387904) <|
 (F_spec_hLabelled a1 ([a0.P, a0.Q, a0.G] ++ a2)).bind fun z1 =>
 gd (a0.Q ≠ 0) <|
 some (z1.tmod a0.Q)
theorem c_spec_hChallenge : ∀ {a0} {a1} {a2} {r}, F_spec_hChallenge a0 a1 a2 = some r → PCalls Tryz.prog 140 [(.sh, .agg [.int .i64 a0.P, .int .i64 a0.Q, .int .i64 a0.G]), (.sh, .str a1), (.sh, .sl false 1 (a2.map row_i64))] (Eo (.int .i64 r) [.junk, .junk, .junk]) := by
 intro a0 a1 a2 r hr
 apply pF 21 [] [] [] [.tmp 6] hr cl140 Tryz.func140
 intro Φ hΦ hF g
 unfold F_spec_hChallenge at hF
 try simp [go_sem, g]
 refine pw_wk ?_
 repeat rw [sq]
 refine pw_draw D140_1 follows (by kernel_rfl) rfl ?_
 try simp only [go_sem, D140_1]
 obtain ⟨g, hF⟩ := Rg g hF
 try simp [go_sem, g]
 refine pC hF [.sh, .sh] c_spec_hLabelled (fun z1 hF => ?_)
 obtain ⟨g, hF⟩ := Rz g hF
 try simp [go_sem, g]
 refine pw_wkK [6] (by simp [go_sem, g]; rfl) ?_
 cases hΦ _ (Rn_some hF)
 try simp [go_sem, g]
def D98_2 : List DE := [d2 0 [5] 5 5, d0 1 [1], d0 2 [2], d2 3 [5] 5 5, d0 4 [2], d0 5 [3], d1 7 [11] 11, d2 8 [27] 11 27, d3 6 [23, 24, 25], d3 9 [22, 26, 28], d3 10 [20, 21, 29], d0 11 [30]]
def D98_7 : List DE := [d1 0 [11] 11, d2 1 [41] 11 41, d0 2 [4], d0 3 [13], d0 4 [43, 44], d0 5 [45], d0 6 [12], d0 7 [14], d0 8 [47, 48], d0 9 [46, 49], d1 10 [5] 5, d2 11 [51] 5 51, d0 12 [50, 52], d0 13 [53], ⟨14, [42, 54], [], none, true, false, false⟩, d1 15 [11] 11, d2 16 [56, 55] 11 56]
noncomputable def F_spec_sProve (a0 : Group) (a1 : ByteArray) (a2 : (List (List Int))) (a3 : (List Int)) (a4 : (List Int)) : Option (Proof) :=
 (F_spec_sImages a0 a2 a4).bind fun z1 =>
 (F_spec_sImages a0 a2 a3).bind fun z2 =>
 (F_spec_sStatement a2 z2 z1).bind fun z3 =>
 (F_spec_hChallenge a0 a1 z3).bind fun z4 =>
 ((rloop (σ := (List Int) × (List Int) × (List Int)) (fun i18 s17 =>
 (ix a3 i18).bind fun x24 =>
 (ix a4 i18).bind fun x25 =>
 gd (a0.Q ≠ 0) <|
 gd ((s17.2.2.length + 1) * 8 ≤ 140737488355328 ∧ s17.2.2.length + 1 ≤ 4611686018427387904) <|
 some (.go (s17.1, s17.2.1, s17.2.2 ++ [(i64.wrap (x25 + (i64.wrap (z4 * x24)))).tmod a0.Q]))) (fun s17 => (s17.1, s17.2.1, s17.2.2)) (a3.length) 0 (z1, [z4], []) : Option (((List Int) × (List Int) × (List Int)))).bind fun x7 =>
 some (Proof.mk x7.1 x7.2.1 x7.2.2))
theorem c_spec_sProve : ∀ {a0} {a1} {a2} {a3} {a4} {r}, F_spec_sProve a0 a1 a2 a3 a4 = some r → PCalls Tryz.prog 98 [(.sh, .agg [.int .i64 a0.P, .int .i64 a0.Q, .int .i64 a0.G]), (.sh, .str a1), (.sh, .sl false 1 (a2.map row_zi64)), (.sh, .sl false 1 (a3.map row_i64)), (.sh, .sl false 1 (a4.map row_i64))] (Eo (.agg [.sl true 1 (r.Commits.map row_i64), .sl true 1 (r.Challenges.map row_i64), .sl true 1 (r.Responses.map row_i64)]) [.junk, .junk, .junk, .junk, .junk]) := by
 intro a0 a1 a2 a3 a4 r hr
 apply pF 59 [] [] [] [.cell 10 36] hr cl98 Tryz.func98
 intro Φ hΦ hF g
 unfold F_spec_sProve at hF
 try simp [go_sem, g]
 refine pw_wk ?_
 try simp [go_sem, g]
 refine pC hF [.sh, .sh, .sh] c_spec_sImages (fun z1 hF => ?_)
 try simp [go_sem, g]
 refine pw_wk ?_
 repeat rw [sq]
 refine pw_draw D98_2 follows (by kernel_rfl) rfl ?_
 try simp only [go_sem, D98_2]
 try simp [go_sem, g]
 refine pC hF [.sh, .sh, .sh] c_spec_sImages (fun z2 hF => ?_)
 try simp [go_sem, g]
 refine pC hF [.sh, .sh, .sh] c_spec_sStatement (fun z3 hF => ?_)
 try simp [go_sem, g]
 refine pC hF [.sh, .sh, .sh] c_spec_hChallenge (fun z4 hF => ?_)
 try simp [go_sem, g]
 refine pw_wkK [3, 4, 5, 10, 11, 12] (by simp [go_sem, g]; rfl) ?_
 iterate 2 (try simp [go_sem, g]; try intros; refine pw_wk ?_)
 repeat rw [sq]
 refine pJ hF (fun x7 => [(10, .bl [.sl true 1 [], .sl true 1 [], .sl true 1 []]), (11, .bl [.sl true 1 (x7.1.map row_i64), .sl true 1 (x7.2.1.map row_i64), .sl true 1 (x7.2.2.map row_i64)])]) (fun x7 hF => ?_) fun _ hj5 hF => ?_
 ·cases hΦ _ (Rn_some hF)
  try simp [go_sem, g]
  refine pw_wk ?_
  try simp [go_sem, g]
 ·repeat rw [sq]
  rw [pw_block]
  obtain ⟨b26, hb27, hψ21⟩ := hF
  refine pR hb27 (fun i18 s17 => [(4, .v (.sl false 1 (a4.map row_i64))), (5, .bl [.int .i64 a0.P, .int .i64 a0.Q, .int .i64 a0.G]), (10, .bl [.sl true 1 [], .sl true 1 [], .sl true 1 []]), (11, .bl [.sl true 1 (s17.1.map row_i64), .sl true 1 (s17.2.1.map row_i64), .sl true 1 (s17.2.2.map row_i64)]), (12, .v (.int .i64 z4)), (34, .v (.sl false 1 (a3.map row_i64))), (35, .v (.int .i64 (a3.length : Int))), (36, .v (.int .i64 i18))]) (fun s17 _ hN28 => ?_) (fun i18 s17 _ _ hi22 hi23 ho19 hg20 hF => ?_)
  ·subst hN28
   try simp [go_sem]
   refine pw_wk ?_
   repeat rw [sq]
   refine pw_cond_f (by simp [go_sem]) ?_
   try simp [go_sem]
   exact pT (hj5 (s17.1, s17.2.1, s17.2.2)) hψ21 (by simp [go_sem])
  ·try simp [go_sem, g]
   refine pw_wk ?_
   repeat rw [sq]
   refine pw_cond_t (by simp [go_sem, g, hi22, hi23]) ?_
   try simp [go_sem, g]
   refine pw_wk ?_
   repeat rw [sq]
   rw [pw_block]
   obtain ⟨x24, g, hF⟩ := Rx g hF
   try simp [go_sem, g]
   refine pw_wkK [4, 5, 10, 11, 12, 13, 14, 34, 35, 36] (by simp [go_sem, g]; rfl) ?_
   repeat rw [sq]
   refine pw_draw D98_7 follows (by kernel_rfl) rfl ?_
   try simp only [go_sem, D98_7]
   obtain ⟨x25, g, hF⟩ := Rx g hF
   obtain ⟨g, hF⟩ := Rz g hF
   obtain ⟨g, hF⟩ := Rg g hF
   try simp [go_sem, g]
   refine pw_wkK [4, 5, 10, 11, 12, 34, 35, 36] (by simp [go_sem, g]; rfl) ?_
   try simp [go_sem, g]
   exact pT (hg20 (s17.1, s17.2.1, s17.2.2 ++ [(i64.wrap (x25 + (i64.wrap (z4 * x24)))).tmod a0.Q])) (Rn_some hF) (by simp [go_sem, g, wr_i hi22 hi23 (by assumption)])
noncomputable def F_spec_vExps (a0 : Contest) (a1 : (List Int)) : Option ((List Int)) :=
 if (a0.Kind == 1) = true then (
 (F_spec_vMarks a0 a1).bind fun z2 =>
 some z2) else (
 if (a0.Kind == 2) = true then (
 (F_spec_l1Own a1).bind fun z4 =>
 some z4) else (
 (F_spec_vCode a0 a1).bind fun z5 =>
 some [z5]))
theorem c_spec_vExps : ∀ {a0} {a1} {r}, F_spec_vExps a0 a1 = some r → PCalls Tryz.prog 99 [(.sh, .agg [.int .i64 a0.Kind, .int .i64 a0.Options, .int .i64 a0.Least, .int .i64 a0.Most, .int .i64 a0.Points]), (.sh, .sl false 1 (a1.map row_i64))] (Eo (.sl true 1 (r.map row_i64)) [.junk, .junk]) := by
 intro a0 a1 r hr
 apply pF 20 [] [] [] [.tmp 4] hr cl99 Tryz.func99
 intro Φ hΦ hF g
 unfold F_spec_vExps at hF
 iterate 2 (try simp [go_sem, g]; refine pw_wk ?_)
 repeat rw [sq]
 rw [pw_block]
 try simp [go_sem, g]
 refine pw_wk ?_
 repeat rw [sq]
 refine pI hF (fun h1 hF => ?_) (fun h1 hF => ?_)
 ·try simp [go_sem, g]
  refine pC hF [.sh, .sh] c_spec_vMarks (fun z2 hF => ?_)
  try simp [go_sem, g]
  refine pw_wkK [4] (by simp [go_sem, g]; rfl) ?_
  cases hΦ _ (Rn_some hF)
  try simp [go_sem, g]
 ·try simp [go_sem, g]
  refine pw_wk ?_
  repeat rw [sq]
  refine pI hF (fun h3 hF => ?_) (fun h3 hF => ?_)
  ·try simp [go_sem, g]
   refine pC hF [.sh] c_spec_l1Own (fun z4 hF => ?_)
   try simp [go_sem, g]
   refine pw_wkK [4] (by simp [go_sem, g]; rfl) ?_
   cases hΦ _ (Rn_some hF)
   try simp [go_sem, g]
  ·try simp [go_sem, g]
   refine pw_wk ?_
   try simp [go_sem, g]
   refine pC hF [.sh, .sh] c_spec_vCode (fun z5 hF => ?_)
   try simp [go_sem, g]
   refine pw_wkK [4] (by simp [go_sem, g]; rfl) ?_
   cases hΦ _ (Rn_some hF)
   try simp [go_sem, g]
def D101_5 : List DE := [d0 0 [11], d1 1 [5] 5, d2 2 [20] 5 20, d1 3 [7] 7, d2 4 [22] 7 22, d0 5 [1], d2 6 [5] 5 5, d1 7 [7] 7, d2 8 [26] 7 26, d2 9 [5] 5 5, d1 10 [5] 5, d2 11 [29] 5 29, d0 12 [12], d0 13 [31], d3 14 [28, 30, 32], d0 15 [27, 33], ⟨16, [25, 34], [], none, true, true, true⟩, d0 17 [21, 23, 24, 35], d0 18 [36], ⟨19, [19, 37], [], none, true, false, false⟩, d0 20 [38]]
noncomputable def F_spec_bStatements (a0 : Group) (a1 : Int) (a2 : Cipher) (a3 : Int) (a4 : Int) : Option ((List EqualLog)) :=
 ((wloop (σ := (List EqualLog) × Int) (fun s4 =>
 if decide (s4.2 ≤ a4) = true then (
 (F_spec_gExp a0 a0.G (i64.wrap (0 - s4.2))).bind fun z10 =>
 (F_spec_gMul a0 [a2.B, z10]).bind fun z11 =>
 gd ((s4.1.length + 1) * 32 ≤ 140737488355328 ∧ s4.1.length + 1 ≤ 4611686018427387904) <|
 some (.go (s4.1 ++ [(EqualLog.mk a0.G a2.A a1 z11)], i64.wrap (s4.2 + 1)))) else (
 some (.out s4.1))) ([], a3) : Option ((List EqualLog))).bind fun x3 =>
 some x3)
theorem c_spec_bStatements : ∀ {a0} {a1} {a2} {a3} {a4} {r}, F_spec_bStatements a0 a1 a2 a3 a4 = some r → PCalls Tryz.prog 101 [(.sh, .agg [.int .i64 a0.P, .int .i64 a0.Q, .int .i64 a0.G]), (.sh, .int .i64 a1), (.sh, .agg [.int .i64 a2.A, .int .i64 a2.B]), (.sh, .int .i64 a3), (.sh, .int .i64 a4)] (Eo (.sl true 4 (r.map row_EqualLog)) [.junk, .junk, .junk, .junk, .junk]) := by
 intro a0 a1 a2 a3 a4 r hr
 apply pF 40 [] [] [] [.tmp 10] hr cl101 Tryz.func101
 intro Φ hΦ hF g
 unfold F_spec_bStatements at hF
 iterate 3 (try simp [go_sem, g]; refine pw_wk ?_)
 repeat rw [sq]
 refine pJ hF (fun x3 => [(11, .v (.sl true 4 (x3.map row_EqualLog)))]) (fun x3 hF => ?_) fun _ hj1 hF => ?_
 ·cases hΦ _ (Rn_some hF)
  try simp [go_sem, g]
  refine pw_wk ?_
  try simp [go_sem, g]
 ·repeat rw [sq]
  rw [pw_block]
  obtain ⟨b12, hb13, hψ8⟩ := hF
  refine pL hb13 (fun s4 => [(1, .v (.int .i64 a1)), (4, .v (.int .i64 a4)), (5, .bl [.int .i64 a0.P, .int .i64 a0.Q, .int .i64 a0.G]), (7, .bl [.int .i64 a2.A, .int .i64 a2.B]), (11, .v (.sl true 4 (s4.1.map row_EqualLog))), (12, .v (.int .i64 s4.2))]) (fun s4 _ _ ho6 hg7 hF => ?_)
  try simp [go_sem, g]
  refine pw_wk ?_
  repeat rw [sq]
  refine pI hF (fun h9 hF => ?_) (fun h9 hF => ?_)
  ·try simp [go_sem, g]
   refine pw_wk ?_
   repeat rw [sq]
   rw [pw_block]
   repeat rw [sq]
   refine pw_draw D101_5 follows (by kernel_rfl) rfl ?_
   try simp only [go_sem, D101_5]
   try simp [go_sem, g]
   refine pC hF [.sh, .sh, .sh] c_spec_gExp (fun z10 hF => ?_)
   try simp [go_sem, g]
   refine pC hF [.sh, .sh] c_spec_gMul (fun z11 hF => ?_)
   obtain ⟨g, hF⟩ := Rg g hF
   try simp [go_sem, g]
   refine pw_wkK [1, 4, 5, 7, 11, 12] (by simp [go_sem, g]; rfl) ?_
   try simp [go_sem, g]
   exact pT (hg7 (s4.1 ++ [(EqualLog.mk a0.G a2.A a1 z11)], i64.wrap (s4.2 + 1))) (Rn_some hF)
  ·try simp [go_sem, g]
   cases ho6 _ (Rn_some hF)
   exact pT (hj1 s4.1) hψ8
def D142_7 : List DE := [d2 0 [4] 4 4, d0 1 [1], d0 2 [9], d0 3 [3], d0 4 [32, 33], d3 5 [30, 31, 34], d0 6 [35]]
noncomputable def F_spec_sJoint (a0 : Group) (a1 : ByteArray) (a2 : (List EqualLog)) (a3 : (List Int)) : Option (Int) :=
 ((rloop (σ := (List Int)) (fun i5 s4 =>
 (ix a2 i5).bind fun x11 =>
 gd ((s4.length + 4) * 8 ≤ 140737488355328 ∧ s4.length + 4 ≤ 4611686018427387904) <|
 some (.go (s4 ++ [x11.G1, x11.Y1, x11.G2, x11.Y2]))) (fun s4 => s4) (a2.length) 0 [] : Option ((List Int))).bind fun x3 =>
 gd ((x3.length + a3.length) * 8 ≤ 140737488355328 ∧ x3.length + a3.length ≤ 4611686018427387904) <|
 (F_spec_hChallenge a0 a1 (x3 ++ a3)).bind fun z16 =>
 some z16)
theorem c_spec_sJoint : ∀ {a0} {a1} {a2} {a3} {r}, F_spec_sJoint a0 a1 a2 a3 = some r → PCalls Tryz.prog 142 [(.sh, .agg [.int .i64 a0.P, .int .i64 a0.Q, .int .i64 a0.G]), (.sh, .str a1), (.sh, .sl false 4 (a2.map row_EqualLog)), (.sh, .sl false 1 (a3.map row_i64))] (Eo (.int .i64 r) [.junk, .junk, .junk, .junk]) := by
 intro a0 a1 a2 a3 r hr
 apply pF 36 [] [] [] [.tmp 8] hr cl142 Tryz.func142
 intro Φ hΦ hF g
 unfold F_spec_sJoint at hF
 iterate 3 (try simp [go_sem, g]; try intros; refine pw_wk ?_)
 repeat rw [sq]
 refine pJ hF (fun x3 => [(1, .v (.str a1)), (3, .v (.sl false 1 (a3.map row_i64))), (4, .bl [.int .i64 a0.P, .int .i64 a0.Q, .int .i64 a0.G]), (9, .v (.sl true 1 (x3.map row_i64)))]) (fun x3 hF => ?_) fun _ hj1 hF => ?_
 ·repeat rw [sq]
  refine pw_draw D142_7 follows (by kernel_rfl) rfl ?_
  try simp only [go_sem, D142_7]
  obtain ⟨g, hF⟩ := Rg g hF
  try simp [go_sem, g]
  refine pC hF [.sh, .sh, .sh] c_spec_hChallenge (fun z16 hF => ?_)
  try simp [go_sem, g]
  refine pw_wkK [8] (by simp [go_sem, g]; rfl) ?_
  cases hΦ _ (Rn_some hF)
  try simp [go_sem, g]
 ·repeat rw [sq]
  rw [pw_block]
  obtain ⟨b12, hb13, hψ8⟩ := hF
  refine pR hb13 (fun i5 s4 => [(1, .v (.str a1)), (3, .v (.sl false 1 (a3.map row_i64))), (4, .bl [.int .i64 a0.P, .int .i64 a0.Q, .int .i64 a0.G]), (9, .v (.sl true 1 (s4.map row_i64))), (12, .v (.sl false 4 (a2.map row_EqualLog))), (13, .v (.int .i64 (a2.length : Int))), (14, .v (.int .i64 i5))]) (fun s4 _ hN14 => ?_) (fun i5 s4 _ _ hi9 hi10 ho6 hg7 hF => ?_)
  ·subst hN14
   try simp [go_sem]
   refine pw_wk ?_
   repeat rw [sq]
   refine pw_cond_f (by simp [go_sem]) ?_
   try simp [go_sem]
   exact pT (hj1 s4) hψ8 (by simp [go_sem])
  ·try simp [go_sem, g]
   refine pw_wk ?_
   repeat rw [sq]
   refine pw_cond_t (by simp [go_sem, g, hi9, hi10]) ?_
   try simp [go_sem, g]
   refine pw_wk ?_
   repeat rw [sq]
   rw [pw_block]
   obtain ⟨x11, g, hF⟩ := Rx g hF
   try simp [go_sem, g]
   refine pw_wkK [1, 3, 4, 9, 11, 12, 13, 14] (by simp [go_sem, g]; rfl) ?_
   obtain ⟨g, hF⟩ := Rg g hF
   try simp [go_sem, g]
   refine pw_wkK [1, 3, 4, 9, 12, 13, 14] (by simp [go_sem, g]; rfl) ?_
   try simp [go_sem, g]
   exact pT (hg7 (s4 ++ [x11.G1, x11.Y1, x11.G2, x11.Y2])) (Rn_some hF) (by simp [go_sem, g, wr_i hi9 hi10 (by assumption)])
def D100_11 : List DE := [d0 0 [5], d0 1 [62], d0 2 [63], d0 3 [5], d0 4 [65], d0 5 [66], d0 6 [64], d0 7 [67]]
def D100_13 : List DE := [d1 0 [13] 13, d2 1 [70] 13 70, d2 2 [6] 6 6, d2 3 [6] 6 6, d1 4 [17] 17, d2 5 [74] 17 74, d0 6 [19], d2 8 [6] 6 6, d1 9 [17] 17, d2 10 [79] 17 79, d0 11 [18], d0 12 [81], d2 16 [6] 6 6, d2 17 [6] 6 6, d1 18 [17] 17, d2 19 [88] 17 88, d0 20 [19], d2 22 [6] 6 6, d1 23 [17] 17, d2 24 [93] 17 93, d0 25 [18], d0 26 [95], d3 7 [73, 75, 76], d3 13 [78, 80, 82], d0 14 [77, 83], ⟨15, [72, 84], [], none, true, true, true⟩, d3 21 [87, 89, 90], d3 27 [92, 94, 96], d0 28 [91, 97], ⟨29, [86, 98], [], none, true, true, true⟩, d0 30 [85, 99], ⟨31, [71, 100], [], none, true, false, false⟩, d1 32 [13] 13, d2 33 [102, 101] 13 102]
def D100_18 : List DE := [d2 0 [6] 6 6, d0 1 [1], d0 2 [2], d1 3 [13] 13, d2 4 [125] 13 125, d0 6 [15], d1 8 [6] 6, d2 9 [130] 6 130, d3 5 [122, 123, 124, 126], d0 7 [127, 128], d3 10 [129, 131], d0 11 [132]]
def D100_20 : List DE := [d1 0 [13] 13, d2 1 [138] 13 138, d0 2 [3], d0 3 [14], d0 4 [20], d0 5 [4], d0 6 [142, 143], d0 7 [141, 144], d1 8 [6] 6, d2 9 [146] 6 146, d0 10 [145, 147], d0 11 [139, 140], d0 12 [149, 148]]
def D100_8 : List DE := [d1 0 [13] 13, d2 1 [37] 13 37, d2 2 [6] 6 6, d1 3 [17] 17, d2 4 [40] 17 40, d0 5 [14], d2 7 [6] 6 6, d1 8 [17] 17, d2 9 [45] 17 45, d0 10 [14], d3 6 [39, 41, 42], d3 11 [44, 46, 47], d0 12 [43, 48], ⟨13, [38, 49], [], none, true, false, false⟩, d1 14 [13] 13, d2 15 [51, 50] 13 51]
noncomputable def F_spec_sOneOf (a0 : Group) (a1 : ByteArray) (a2 : (List EqualLog)) (a3 : Int) (a4 : Int) (a5 : (List Int)) : Option (Proof) :=
 (ix a5 (i64.wrap ((a5.length : Int) - 1))).bind fun x1 =>
 ((rloop (σ := (List Int) × (List Int) × (List Int) × (List Int) × Int) (fun i28 s27 =>
 (((ix a2 i28).bind fun x37 =>
 if (i28 == a3) = true then (
 (F_spec_gExp a0 x37.G1 x1).bind fun z39 =>
 (F_spec_gExp a0 x37.G2 x1).bind fun z40 =>
 gd ((s27.2.1.length + 2) * 8 ≤ 140737488355328 ∧ s27.2.1.length + 2 ≤ 4611686018427387904) <|
 gd ((s27.2.2.1.length + 1) * 8 ≤ 140737488355328 ∧ s27.2.2.1.length + 1 ≤ 4611686018427387904) <|
 gd ((s27.2.2.2.1.length + 1) * 8 ≤ 140737488355328 ∧ s27.2.2.2.1.length + 1 ≤ 4611686018427387904) <|
 some (s27.1, s27.2.1 ++ [z39, z40], s27.2.2.1 ++ [0], s27.2.2.2.1 ++ [0], s27.2.2.2.2)) else (
 (ix s27.1 0).bind fun x41 =>
 (ix s27.1 1).bind fun x42 =>
 gd (2 ≤ s27.1.length ∧ s27.1.length ≤ s27.1.length) <|
 (F_spec_gExp a0 x37.G1 x42).bind fun z43 =>
 (F_spec_gExp a0 x37.Y1 (i64.wrap (0 - x41))).bind fun z44 =>
 (F_spec_gMul a0 [z43, z44]).bind fun z45 =>
 (F_spec_gExp a0 x37.G2 x42).bind fun z46 =>
 (F_spec_gExp a0 x37.Y2 (i64.wrap (0 - x41))).bind fun z47 =>
 (F_spec_gMul a0 [z46, z47]).bind fun z48 =>
 gd ((s27.2.1.length + 2) * 8 ≤ 140737488355328 ∧ s27.2.1.length + 2 ≤ 4611686018427387904) <|
 gd ((s27.2.2.1.length + 1) * 8 ≤ 140737488355328 ∧ s27.2.2.1.length + 1 ≤ 4611686018427387904) <|
 gd ((s27.2.2.2.1.length + 1) * 8 ≤ 140737488355328 ∧ s27.2.2.2.1.length + 1 ≤ 4611686018427387904) <|
 gd (a0.Q ≠ 0) <|
 some ((s27.1.take s27.1.length).drop 2, s27.2.1 ++ [z45, z48], s27.2.2.1 ++ [x41], s27.2.2.2.1 ++ [x42], (i64.wrap (s27.2.2.2.2 + x41)).tmod a0.Q)) : Option (((List Int) × (List Int) × (List Int) × (List Int) × Int))).bind fun x36 =>
 some (.go (x36.1, x36.2.1, x36.2.2.1, x36.2.2.2.1, x36.2.2.2.2)))) (fun s27 => (s27.2.1, s27.2.2.1, s27.2.2.2.1, s27.2.2.2.2)) (a2.length) 0 (a5, [], [], [], 0) : Option (((List Int) × (List Int) × (List Int) × Int))).bind fun x4 =>
 (F_spec_sJoint a0 a1 a2 x4.1).bind fun z53 =>
 (F_spec_nMod (i64.wrap (z53 - x4.2.2.2)) a0.Q).bind fun z54 =>
 (ix x4.2.1 a3).bind fun x55 =>
 gd (a0.Q ≠ 0) <|
 (ix x4.2.2.1 a3).bind fun x56 =>
 some (Proof.mk x4.1 (x4.2.1.set a3.toNat z54) (x4.2.2.1.set a3.toNat ((i64.wrap (x1 + (i64.wrap (z54 * a4)))).tmod a0.Q))))
theorem c_spec_sOneOf : ∀ {a0} {a1} {a2} {a3} {a4} {a5} {r}, F_spec_sOneOf a0 a1 a2 a3 a4 a5 = some r → PCalls Tryz.prog 100 [(.sh, .agg [.int .i64 a0.P, .int .i64 a0.Q, .int .i64 a0.G]), (.sh, .str a1), (.sh, .sl false 4 (a2.map row_EqualLog)), (.sh, .int .i64 a3), (.sh, .int .i64 a4), (.sh, .sl false 1 (a5.map row_i64))] (Eo (.agg [.sl true 1 (r.Commits.map row_i64), .sl true 1 (r.Challenges.map row_i64), .sl true 1 (r.Responses.map row_i64)]) [.junk, .junk, .junk, .junk, .junk, .junk]) := by
 intro a0 a1 a2 a3 a4 a5 r hr
 apply pF 151 [] [] [] [.cell 12 36] hr cl100 Tryz.func100
 intro Φ hΦ hF g
 unfold F_spec_sOneOf at hF
 obtain ⟨x1, g, hF⟩ := Rx g hF
 iterate 2 (try simp [go_sem, g]; try intros; refine pw_wk ?_)
 try simp [go_sem, g]
 try intros
 refine pw_wkK [1, 2, 3, 4, 5, 6, 12, 13, 14] (by simp [go_sem, g]; rfl) ?_
 iterate 2 (try simp [go_sem, g]; try intros; refine pw_wk ?_)
 repeat rw [sq]
 refine pJ hF (fun x4 => [(1, .v (.str a1)), (2, .v (.sl false 4 (a2.map row_EqualLog))), (3, .v (.int .i64 a3)), (4, .v (.int .i64 a4)), (6, .bl [.int .i64 a0.P, .int .i64 a0.Q, .int .i64 a0.G]), (12, .bl [.sl true 1 [], .sl true 1 [], .sl true 1 []]), (13, .bl [.sl true 1 (x4.1.map row_i64), .sl true 1 (x4.2.1.map row_i64), .sl true 1 (x4.2.2.1.map row_i64)]), (14, .v (.int .i64 x1)), (15, .v (.int .i64 x4.2.2.2))]) (fun x4 hF => ?_) fun _ hj2 hF => ?_
 ·repeat rw [sq]
  refine pw_draw D100_18 follows (by kernel_rfl) rfl ?_
  try simp only [go_sem, D100_18]
  try simp [go_sem, g]
  refine pC hF [.sh, .sh, .sh, .sh] c_spec_sJoint (fun z53 hF => ?_)
  try simp [go_sem, g]
  refine pC hF [.sh, .sh] c_spec_nMod (fun z54 hF => ?_)
  try simp [go_sem, g]
  refine pw_wkK [3, 4, 6, 12, 13, 14, 20] (by simp [go_sem, g]; rfl) ?_
  obtain ⟨x55, g, hF⟩ := Rx g hF
  try simp [go_sem, g]
  refine pw_wk ?_
  repeat rw [sq]
  refine pw_draw D100_20 follows (by kernel_rfl) rfl ?_
  try simp only [go_sem, D100_20]
  obtain ⟨g, hF⟩ := Rz g hF
  obtain ⟨x56, g, hF⟩ := Rx g hF
  try simp [go_sem, g]
  refine pw_wkK [12, 13] (by simp [go_sem, g]; rfl) ?_
  cases hΦ _ (Rn_some hF)
  try simp [go_sem, g]
  refine pw_wk ?_
  try simp [go_sem, g]
 ·repeat rw [sq]
  rw [pw_block]
  obtain ⟨b49, hb50, hψ31⟩ := hF
  refine pR hb50 (fun i28 s27 => [(1, .v (.str a1)), (2, .v (.sl false 4 (a2.map row_EqualLog))), (3, .v (.int .i64 a3)), (4, .v (.int .i64 a4)), (5, .v (.sl false 1 (s27.1.map row_i64))), (6, .bl [.int .i64 a0.P, .int .i64 a0.Q, .int .i64 a0.G]), (12, .bl [.sl true 1 [], .sl true 1 [], .sl true 1 []]), (13, .bl [.sl true 1 (s27.2.1.map row_i64), .sl true 1 (s27.2.2.1.map row_i64), .sl true 1 (s27.2.2.2.1.map row_i64)]), (14, .v (.int .i64 x1)), (15, .v (.int .i64 s27.2.2.2.2)), (27, .v (.sl false 4 (a2.map row_EqualLog))), (28, .v (.int .i64 (a2.length : Int))), (29, .v (.int .i64 i28))]) (fun s27 _ hN51 => ?_) (fun i28 s27 _ _ hi32 hi33 ho29 hg30 hF => ?_)
  ·subst hN51
   try simp [go_sem]
   refine pw_wk ?_
   repeat rw [sq]
   refine pw_cond_f (by simp [go_sem]) ?_
   try simp [go_sem]
   exact pT (hj2 (s27.2.1, s27.2.2.1, s27.2.2.2.1, s27.2.2.2.2)) hψ31 (by simp [go_sem])
  ·try simp [go_sem, g]
   refine pw_wk ?_
   repeat rw [sq]
   refine pw_cond_t (by simp [go_sem, g, hi32, hi33]) ?_
   try simp [go_sem, g]
   refine pw_wk ?_
   repeat rw [sq]
   refine pJ hF (fun x36 => [(1, .v (.str a1)), (2, .v (.sl false 4 (a2.map row_EqualLog))), (3, .v (.int .i64 a3)), (4, .v (.int .i64 a4)), (5, .v (.sl false 1 (x36.1.map row_i64))), (6, .bl [.int .i64 a0.P, .int .i64 a0.Q, .int .i64 a0.G]), (12, .bl [.sl true 1 [], .sl true 1 [], .sl true 1 []]), (13, .bl [.sl true 1 (x36.2.1.map row_i64), .sl true 1 (x36.2.2.1.map row_i64), .sl true 1 (x36.2.2.2.1.map row_i64)]), (14, .v (.int .i64 x1)), (15, .v (.int .i64 x36.2.2.2.2)), (27, .v (.sl false 4 (a2.map row_EqualLog))), (28, .v (.int .i64 (a2.length : Int))), (29, .v (.int .i64 i28))]) (fun x36 hF => ?_) fun _ hj34 hF => ?_
   ·try simp [go_sem, g]
    exact pT (hg30 (x36.1, x36.2.1, x36.2.2.1, x36.2.2.2.1, x36.2.2.2.2)) (Rn_some hF) (by simp [go_sem, g, wr_i hi32 hi33 (by assumption)])
   ·repeat rw [sq]
    rw [pw_block]
    obtain ⟨x37, g, hF⟩ := Rx g hF
    try simp [go_sem, g]
    refine pw_wkK [1, 2, 3, 4, 5, 6, 12, 13, 14, 15, 16, 17, 27, 28, 29] (by simp [go_sem, g]; rfl) ?_
    try simp [go_sem, g]
    refine pw_wk ?_
    repeat rw [sq]
    refine pI hF (fun h38 hF => ?_) (fun h38 hF => ?_)
    ·repeat rw [sq]
     refine pw_draw D100_8 follows (by kernel_rfl) rfl ?_
     try simp only [go_sem, D100_8]
     try simp [go_sem, g]
     refine pC hF [.sh, .sh, .sh] c_spec_gExp (fun z39 hF => ?_)
     try simp [go_sem, g]
     refine pC hF [.sh, .sh, .sh] c_spec_gExp (fun z40 hF => ?_)
     obtain ⟨g, hF⟩ := Rg g hF
     try simp [go_sem, g]
     refine pw_wkK [1, 2, 3, 4, 5, 6, 12, 13, 14, 15, 27, 28, 29] (by simp [go_sem, g]; rfl) ?_
     obtain ⟨g, hF⟩ := Rg g hF
     obtain ⟨g, hF⟩ := Rg g hF
     try simp [go_sem, g]
     refine pw_wk ?_
     try simp [go_sem, g]
     refine pw_wkK [1, 2, 3, 4, 5, 6, 12, 13, 14, 15, 27, 28, 29] (by simp [go_sem, g]; rfl) ?_
     try simp [go_sem, g]
     exact pT (hj34 (s27.1, s27.2.1 ++ [z39, z40], s27.2.2.1 ++ [0], s27.2.2.2.1 ++ [0], s27.2.2.2.2)) (Rn_some hF)
    ·try simp [go_sem, g]
     refine pw_wk ?_
     repeat rw [sq]
     refine pw_draw D100_11 follows (by kernel_rfl) rfl ?_
     try simp only [go_sem, D100_11]
     obtain ⟨x41, g, hF⟩ := Rxn g 0 hF
     obtain ⟨x42, g, hF⟩ := Rxn g 1 hF
     try simp [go_sem, g]
     refine pw_wkK [1, 2, 3, 4, 5, 6, 12, 13, 14, 15, 17, 18, 19, 27, 28, 29] (by simp [go_sem, g]; rfl) ?_
     obtain ⟨g, hF⟩ := Rg g hF
     try simp [go_sem, g]
     refine pw_wk ?_
     repeat rw [sq]
     refine pw_draw D100_13 follows (by kernel_rfl) rfl ?_
     try simp only [go_sem, D100_13]
     try simp [go_sem, g]
     refine pC hF [.sh, .sh, .sh] c_spec_gExp (fun z43 hF => ?_)
     try simp [go_sem, g]
     refine pC hF [.sh, .sh, .sh] c_spec_gExp (fun z44 hF => ?_)
     try simp [go_sem, g]
     refine pC hF [.sh, .sh] c_spec_gMul (fun z45 hF => ?_)
     try simp [go_sem, g]
     refine pC hF [.sh, .sh, .sh] c_spec_gExp (fun z46 hF => ?_)
     try simp [go_sem, g]
     refine pC hF [.sh, .sh, .sh] c_spec_gExp (fun z47 hF => ?_)
     try simp [go_sem, g]
     refine pC hF [.sh, .sh] c_spec_gMul (fun z48 hF => ?_)
     obtain ⟨g, hF⟩ := Rg g hF
     try simp [go_sem, g]
     refine pw_wkK [1, 2, 3, 4, 5, 6, 12, 13, 14, 15, 18, 19, 27, 28, 29] (by simp [go_sem, g]; rfl) ?_
     obtain ⟨g, hF⟩ := Rg g hF
     obtain ⟨g, hF⟩ := Rg g hF
     try simp [go_sem, g]
     refine pw_wk ?_
     try simp [go_sem, g]
     refine pw_wkK [1, 2, 3, 4, 5, 6, 12, 13, 14, 15, 18, 27, 28, 29] (by simp [go_sem, g]; rfl) ?_
     obtain ⟨g, hF⟩ := Rz g hF
     try simp [go_sem, g]
     exact pT (hj34 ((s27.1.take s27.1.length).drop 2, s27.2.1 ++ [z45, z48], s27.2.2.1 ++ [x41], s27.2.2.2.1 ++ [x42], (i64.wrap (s27.2.2.2.2 + x41)).tmod a0.Q)) (Rn_some hF)
def D102_5 : List DE := [d2 0 [2] 2 2, d1 1 [5] 5, d2 2 [16] 5 16, d1 3 [7] 7, d2 4 [18] 7 18, d0 5 [17, 19], d2 7 [2] 2 2, d1 8 [5] 5, d2 9 [23] 5 23, d1 10 [7] 7, d2 11 [25] 7 25, d0 12 [24, 26], ⟨6, [15, 20], [], none, true, true, true⟩, ⟨13, [22, 27], [], none, true, true, true⟩, d0 14 [21, 28], d2 15 [5, 29] 5 5]
noncomputable def F_spec_eMul (a0 : Group) (a1 : (List Cipher)) : Option (Cipher) :=
 ((rloop (σ := Int × Int) (fun i15 s14 =>
 (ix a1 i15).bind fun x21 =>
 (F_spec_gMul a0 [s14.1, x21.A]).bind fun z22 =>
 (F_spec_gMul a0 [s14.2, x21.B]).bind fun z23 =>
 some (.go (z22, z23))) (fun s14 => (s14.1, s14.2)) (a1.length) 0 (1, 1) : Option ((Int × Int))).bind fun x3 =>
 some (Cipher.mk x3.1 x3.2))
theorem c_spec_eMul : ∀ {a0} {a1} {r}, F_spec_eMul a0 a1 = some r → PCalls Tryz.prog 102 [(.sh, .agg [.int .i64 a0.P, .int .i64 a0.Q, .int .i64 a0.G]), (.sh, .sl false 2 (a1.map row_Cipher))] (Eo (.agg [.int .i64 r.A, .int .i64 r.B]) [.junk, .junk]) := by
 intro a0 a1 r hr
 apply pF 32 [] [] [] [.cell 4 42] hr cl102 Tryz.func102
 intro Φ hΦ hF g
 unfold F_spec_eMul at hF
 iterate 3 (try simp [go_sem, g]; try intros; refine pw_wk ?_)
 repeat rw [sq]
 refine pJ hF (fun x3 => [(4, .bl [.int .i64 0, .int .i64 0]), (5, .bl [.int .i64 x3.1, .int .i64 x3.2])]) (fun x3 hF => ?_) fun _ hj1 hF => ?_
 ·try simp [go_sem, g]
  refine pw_wkK [4] (by simp [go_sem, g]; rfl) ?_
  cases hΦ _ (Rn_some hF)
  try simp [go_sem, g]
 ·repeat rw [sq]
  rw [pw_block]
  obtain ⟨b24, hb25, hψ18⟩ := hF
  refine pR hb25 (fun i15 s14 => [(2, .bl [.int .i64 a0.P, .int .i64 a0.Q, .int .i64 a0.G]), (4, .bl [.int .i64 0, .int .i64 0]), (5, .bl [.int .i64 s14.1, .int .i64 s14.2]), (9, .v (.sl false 2 (a1.map row_Cipher))), (10, .v (.int .i64 (a1.length : Int))), (11, .v (.int .i64 i15))]) (fun s14 _ hN26 => ?_) (fun i15 s14 _ _ hi19 hi20 ho16 hg17 hF => ?_)
  ·subst hN26
   try simp [go_sem]
   refine pw_wk ?_
   repeat rw [sq]
   refine pw_cond_f (by simp [go_sem]) ?_
   try simp [go_sem]
   exact pT (hj1 (s14.1, s14.2)) hψ18 (by simp [go_sem])
  ·try simp [go_sem, g]
   refine pw_wk ?_
   repeat rw [sq]
   refine pw_cond_t (by simp [go_sem, g, hi19, hi20]) ?_
   try simp [go_sem, g]
   refine pw_wk ?_
   repeat rw [sq]
   rw [pw_block]
   obtain ⟨x21, g, hF⟩ := Rx g hF
   try simp [go_sem, g]
   refine pw_wkK [2, 4, 5, 7, 9, 10, 11] (by simp [go_sem, g]; rfl) ?_
   repeat rw [sq]
   refine pw_draw D102_5 follows (by kernel_rfl) rfl ?_
   try simp only [go_sem, D102_5]
   try simp [go_sem, g]
   refine pC hF [.sh, .sh] c_spec_gMul (fun z22 hF => ?_)
   try simp [go_sem, g]
   refine pC hF [.sh, .sh] c_spec_gMul (fun z23 hF => ?_)
   try simp [go_sem, g]
   refine pw_wkK [2, 4, 5, 9, 10, 11] (by simp [go_sem, g]; rfl) ?_
   try simp [go_sem, g]
   exact pT (hg17 (z22, z23)) (Rn_some hF) (by simp [go_sem, g, wr_i hi19 hi20 (by assumption)])
def D35_12 : List DE := [d2 0 [6] 6 6, d0 1 [1], d0 2 [19], d0 3 [5], d0 4 [72], d0 5 [73], d0 7 [], d3 6 [69, 70, 71, 74], d2 8 [20, 75] 20 20]
def D35_14 : List DE := [d1 0 [13] 13, d2 1 [82] 13 82, d2 2 [6] 6 6, d0 3 [14], d2 4 [6] 6 6, d0 5 [1], d2 6 [20] 20 20, d0 7 [15], d0 9 [19], d0 10 [5], d0 11 [92], d0 12 [93], d0 13 [5], d0 14 [15], d0 15 [96], d0 16 [97], d0 17 [95, 98], ⟨8, [86, 87, 88, 89], [], none, false, true, false⟩, d3 18 [84, 85, 90, 91, 94, 99], d0 19 [100], ⟨20, [83, 101], [], none, true, false, false⟩, d1 21 [13] 13, d2 22 [103, 102] 13 103]
def D35_16 : List DE := [d0 0 [17], d0 1 [5], d0 2 [108], d0 3 [109], d0 4 [107, 110], d1 5 [6] 6, d2 6 [112] 6 112, d0 7 [111, 113], d0 8 [114]]
def D35_19 : List DE := [d2 0 [6] 6 6, d0 1 [14], d2 2 [6] 6 6, d0 3 [1], d2 4 [6] 6 6, d1 5 [13] 13, d2 6 [126] 13 126, d1 8 [8] 8, d2 9 [129] 8 129, d1 10 [8] 8, d2 11 [131] 8 131, d0 13 [16], d1 14 [8] 8, d2 15 [135] 8 135, d0 16 [134, 136], d0 17 [17], d0 18 [5], d3 7 [125, 127], d3 12 [123, 124, 128, 130, 132], d3 19 [121, 122, 133, 137, 138, 139], d1 20 [13] 13, d2 21 [141, 140] 13 141]
def D35_4 : List DE := [d1 0 [13] 13, d2 1 [28] 13 28, d2 2 [6] 6 6, d0 3 [1], d2 4 [8] 8 8, d0 5 [4], d0 7 [5], d0 8 [35], d0 9 [36], ⟨6, [32, 33], [], none, false, true, false⟩, d3 10 [30, 31, 34, 37], d0 11 [38], ⟨12, [29, 39], [], none, true, false, false⟩, d1 13 [13] 13, d2 14 [41, 40] 13 41]
def D35_5 : List DE := [d1 0 [13] 13, d2 1 [42] 13 42, d2 2 [6] 6 6, d0 3 [14], d1 4 [6] 6, d2 5 [46] 6 46, d0 6 [47], d0 8 [5], d0 9 [50], d0 10 [5], d0 11 [52], ⟨7, [48], [], none, true, true, false⟩, ⟨12, [44, 45, 49, 51, 53], [], none, true, true, true⟩, d0 13 [54], ⟨14, [43, 55], [], none, true, false, false⟩, d1 15 [13] 13, d2 16 [57, 56] 13 57]
noncomputable def F_spec_bSeal (a0 : Group) (a1 : Int) (a2 : Contest) (a3 : Int) (a4 : (List Int)) (a5 : (List Int)) : Option (Sealed) :=
 (F_spec_bLabel a3).bind fun z1 =>
 (F_spec_bRows a2).bind fun z2 =>
 if (!z2) = true then (
 (ix a5 0).bind fun x4 =>
 (F_spec_vCode a2 a4).bind fun z5 =>
 (F_spec_bExp a0 a1 z5 x4).bind fun z6 =>
 gd (1 * 16 ≤ 140737488355328 ∧ 1 ≤ 4611686018427387904) <|
 gd (0 ≤ 1 ∧ 1 ≤ a5.length) <|
 gd (1 ≤ 2 ∧ 2 ≤ a5.length) <|
 (F_spec_sProve a0 z1 [[a0.G]] ((a5.take 1).drop 0) ((a5.take 2).drop 1)).bind fun z7 =>
 gd (1 * 72 ≤ 140737488355328 ∧ 1 ≤ 4611686018427387904) <|
 some (Sealed.mk a3 [z6] [z7] (Proof.mk [] [] []))) else (
 (F_spec_bTop a2).bind fun z8 =>
 (F_spec_vExps a2 a4).bind fun z9 =>
 ((rloop (σ := (List Int) × Int × (List Cipher) × (List Proof) × (List Int) × (List Int) × (List Int) × Int × Int) (fun i38 s37 =>
 (ix z9 i38).bind fun x44 =>
 (ix s37.1 0).bind fun x45 =>
 (F_spec_bExp a0 a1 x44 x45).bind fun z46 =>
 gd ((s37.2.2.1.length + 1) * 16 ≤ 140737488355328 ∧ s37.2.2.1.length + 1 ≤ 4611686018427387904) <|
 gd (0 ≤ (i64.wrap ((i64.wrap (2 * z8)) + 2))) <|
 gd (1 ≤ (i64.wrap ((i64.wrap (2 * z8)) + 2)).toNat ∧ (i64.wrap ((i64.wrap (2 * z8)) + 2)).toNat ≤ s37.1.length) <|
 (F_spec_bStatements a0 a1 z46 0 z8).bind fun z47 =>
 (F_spec_sOneOf a0 z1 z47 x44 x45 ((s37.1.take ((i64.wrap ((i64.wrap (2 * z8)) + 2)).toNat)).drop 1)).bind fun z48 =>
 gd ((s37.2.2.2.1.length + 1) * 72 ≤ 140737488355328 ∧ s37.2.2.2.1.length + 1 ≤ 4611686018427387904) <|
 gd (a0.Q ≠ 0) <|
 gd (0 ≤ (i64.wrap ((i64.wrap (2 * z8)) + 2))) <|
 gd ((i64.wrap ((i64.wrap (2 * z8)) + 2)).toNat ≤ s37.1.length ∧ s37.1.length ≤ s37.1.length) <|
 some (.go ((s37.1.take s37.1.length).drop ((i64.wrap ((i64.wrap (2 * z8)) + 2)).toNat), s37.2.1, s37.2.2.1 ++ [z46], s37.2.2.2.1 ++ [z48], s37.2.2.2.2.1, s37.2.2.2.2.2.1, s37.2.2.2.2.2.2.1, i64.wrap (s37.2.2.2.2.2.2.2.1 + x44), (i64.wrap (s37.2.2.2.2.2.2.2.2 + x45)).tmod a0.Q))) (fun s37 => (s37.1, s37.2.1, s37.2.2.1, s37.2.2.2.1, s37.2.2.2.2.1, s37.2.2.2.2.2.1, s37.2.2.2.2.2.2.1, s37.2.2.2.2.2.2.2.1, s37.2.2.2.2.2.2.2.2)) (z9.length) 0 (a5, a3, [], [], [], [], [], 0, 0) : Option (((List Int) × Int × (List Cipher) × (List Proof) × (List Int) × (List Int) × (List Int) × Int × Int))).bind fun x12 =>
 (F_spec_eMul a0 x12.2.2.1).bind fun z53 =>
 (F_spec_bStatements a0 a1 z53 a2.Least a2.Most).bind fun z54 =>
 (F_spec_sOneOf a0 z1 z54 (i64.wrap (x12.2.2.2.2.2.2.2.1 - a2.Least)) x12.2.2.2.2.2.2.2.2 x12.1).bind fun z55 =>
 some (Sealed.mk x12.2.1 x12.2.2.1 x12.2.2.2.1 z55)))
theorem c_spec_bSeal : ∀ {a0} {a1} {a2} {a3} {a4} {a5} {r}, F_spec_bSeal a0 a1 a2 a3 a4 a5 = some r → PCalls Tryz.prog 35 [(.sh, .agg [.int .i64 a0.P, .int .i64 a0.Q, .int .i64 a0.G]), (.sh, .int .i64 a1), (.sh, .agg [.int .i64 a2.Kind, .int .i64 a2.Options, .int .i64 a2.Least, .int .i64 a2.Most, .int .i64 a2.Points]), (.sh, .int .i64 a3), (.sh, .sl false 1 (a4.map row_i64)), (.sh, .sl false 1 (a5.map row_i64))] (Eo (.agg [.int .i64 r.Voter, .sl true 2 (r.Ciphers.map row_Cipher), .sl true 3 (r.Proofs.map row_Proof_ooo), .sl true 1 (r.Sum.Commits.map row_i64), .sl true 1 (r.Sum.Challenges.map row_i64), .sl true 1 (r.Sum.Responses.map row_i64)]) [.junk, .junk, .junk, .junk, .junk, .junk]) := by
 intro a0 a1 a2 a3 a4 a5 r hr
 apply pF 143 [] [] [] [.cell 12 38] hr cl35 Tryz.func35
 intro Φ hΦ hF g
 unfold F_spec_bSeal at hF
 iterate 2 (try simp [go_sem, g]; refine pw_wk ?_)
 try simp [go_sem, g]
 refine pC hF [.sh] c_spec_bLabel (fun z1 hF => ?_)
 try simp [go_sem, g]
 refine pw_wkK [1, 4, 5, 6, 8, 12, 13, 14] (by simp [go_sem, g]; rfl) ?_
 try simp [go_sem, g]
 refine pC hF [.sh] c_spec_bRows (fun z2 hF => ?_)
 try simp [go_sem, g]
 refine pw_wk ?_
 repeat rw [sq]
 refine pI hF (fun h3 hF => ?_) (fun h3 hF => ?_)
 ·repeat rw [sq]
  refine pw_draw D35_4 follows (by kernel_rfl) rfl ?_
  try simp only [go_sem, D35_4]
  obtain ⟨x4, g, hF⟩ := Rxn g 0 hF
  try simp [go_sem, g]
  refine pCD hF c_spec_vCode (fun z5 hF => ?_)
  try simp [go_sem, g]
  refine pC hF [.sh, .sh, .sh, .sh] c_spec_bExp (fun z6 hF => ?_)
  obtain ⟨g, hF⟩ := Rg g hF
  try simp [go_sem, g]
  refine pw_wkK [5, 6, 12, 13, 14] (by simp [go_sem, g]; rfl) ?_
  repeat rw [sq]
  refine pw_draw D35_5 follows (by kernel_rfl) rfl ?_
  try simp only [go_sem, D35_5]
  obtain ⟨g, hF⟩ := Rg g hF
  obtain ⟨g, hF⟩ := Rg g hF
  try simp [go_sem, g]
  refine pC hF [.sh, .sh, .sh, .sh, .sh] c_spec_sProve (fun z7 hF => ?_)
  obtain ⟨g, hF⟩ := Rg g hF
  try simp [go_sem, g]
  refine pw_wkK [12, 13] (by simp [go_sem, g]; rfl) ?_
  cases hΦ _ (Rn_some hF)
  try simp [go_sem, g]
  refine pw_wk ?_
  try simp [go_sem, g]
 ·try simp [go_sem, g]
  refine pw_wk ?_
  try simp [go_sem, g]
  refine pC hF [.sh] c_spec_bTop (fun z8 hF => ?_)
  iterate 2 (try simp [go_sem, g]; refine pw_wk ?_)
  try simp [go_sem, g]
  refine pC hF [.sh, .sh] c_spec_vExps (fun z9 hF => ?_)
  try simp [go_sem, g]
  try intros
  refine pw_wkK [1, 5, 6, 8, 12, 13, 14, 15, 16, 17, 63, 64, 65] (by simp [go_sem, g]; rfl) ?_
  repeat rw [sq]
  refine pJ hF (fun x12 => [(1, .v (.int .i64 a1)), (5, .v (.sl false 1 (x12.1.map row_i64))), (6, .bl [.int .i64 a0.P, .int .i64 a0.Q, .int .i64 a0.G]), (8, .bl [.int .i64 a2.Kind, .int .i64 a2.Options, .int .i64 a2.Least, .int .i64 a2.Most, .int .i64 a2.Points]), (12, .bl [.int .i64 0, .sl true 2 [], .sl true 3 [], .sl true 1 [], .sl true 1 [], .sl true 1 []]), (13, .bl [.int .i64 x12.2.1, .sl true 2 (x12.2.2.1.map row_Cipher), .sl true 3 (x12.2.2.2.1.map row_Proof_ooo), .sl true 1 (x12.2.2.2.2.1.map row_i64), .sl true 1 (x12.2.2.2.2.2.1.map row_i64), .sl true 1 (x12.2.2.2.2.2.2.1.map row_i64)]), (14, .v (.str z1)), (16, .v (.int .i64 x12.2.2.2.2.2.2.2.1)), (17, .v (.int .i64 x12.2.2.2.2.2.2.2.2))]) (fun x12 hF => ?_) fun _ hj10 hF => ?_
  ·repeat rw [sq]
   refine pw_draw D35_19 follows (by kernel_rfl) rfl ?_
   try simp only [go_sem, D35_19]
   try simp [go_sem, g]
   refine pC hF [.sh, .sh] c_spec_eMul (fun z53 hF => ?_)
   try simp [go_sem, g]
   refine pC hF [.sh, .sh, .sh, .sh, .sh] c_spec_bStatements (fun z54 hF => ?_)
   try simp [go_sem, g]
   refine pC hF [.sh, .sh, .sh, .sh, .sh, .sh] c_spec_sOneOf (fun z55 hF => ?_)
   try simp [go_sem, g]
   refine pw_wkK [12, 13] (by simp [go_sem, g]; rfl) ?_
   cases hΦ _ (Rn_some hF)
   try simp [go_sem, g]
   refine pw_wk ?_
   try simp [go_sem, g]
  ·repeat rw [sq]
   rw [pw_block]
   obtain ⟨b49, hb50, hψ41⟩ := hF
   refine pR hb50 (fun i38 s37 => [(1, .v (.int .i64 a1)), (5, .v (.sl false 1 (s37.1.map row_i64))), (6, .bl [.int .i64 a0.P, .int .i64 a0.Q, .int .i64 a0.G]), (8, .bl [.int .i64 a2.Kind, .int .i64 a2.Options, .int .i64 a2.Least, .int .i64 a2.Most, .int .i64 a2.Points]), (12, .bl [.int .i64 0, .sl true 2 [], .sl true 3 [], .sl true 1 [], .sl true 1 [], .sl true 1 []]), (13, .bl [.int .i64 s37.2.1, .sl true 2 (s37.2.2.1.map row_Cipher), .sl true 3 (s37.2.2.2.1.map row_Proof_ooo), .sl true 1 (s37.2.2.2.2.1.map row_i64), .sl true 1 (s37.2.2.2.2.2.1.map row_i64), .sl true 1 (s37.2.2.2.2.2.2.1.map row_i64)]), (14, .v (.str z1)), (15, .v (.int .i64 z8)), (16, .v (.int .i64 s37.2.2.2.2.2.2.2.1)), (17, .v (.int .i64 s37.2.2.2.2.2.2.2.2)), (63, .v (.sl true 1 (z9.map row_i64))), (64, .v (.int .i64 (z9.length : Int))), (65, .v (.int .i64 i38))]) (fun s37 _ hN51 => ?_) (fun i38 s37 _ _ hi42 hi43 ho39 hg40 hF => ?_)
   ·subst hN51
    try simp [go_sem]
    refine pw_wk ?_
    repeat rw [sq]
    refine pw_cond_f (by simp [go_sem]) ?_
    try simp [go_sem]
    exact pT (hj10 (s37.1, s37.2.1, s37.2.2.1, s37.2.2.2.1, s37.2.2.2.2.1, s37.2.2.2.2.2.1, s37.2.2.2.2.2.2.1, s37.2.2.2.2.2.2.2.1, s37.2.2.2.2.2.2.2.2)) hψ41 (by simp [go_sem])
   ·try simp [go_sem, g]
    refine pw_wk ?_
    repeat rw [sq]
    refine pw_cond_t (by simp [go_sem, g, hi42, hi43]) ?_
    try simp [go_sem, g]
    refine pw_wk ?_
    repeat rw [sq]
    rw [pw_block]
    obtain ⟨x44, g, hF⟩ := Rx g hF
    try simp [go_sem, g]
    refine pw_wk ?_
    repeat rw [sq]
    refine pw_draw D35_12 follows (by kernel_rfl) rfl ?_
    try simp only [go_sem, D35_12]
    obtain ⟨x45, g, hF⟩ := Rxn g 0 hF
    try simp [go_sem, g]
    refine pC hF [.sh, .sh, .sh, .sh] c_spec_bExp (fun z46 hF => ?_)
    try simp [go_sem, g]
    refine pw_wkK [1, 5, 6, 8, 12, 13, 14, 15, 16, 17, 19, 20, 63, 64, 65] (by simp [go_sem, g]; rfl) ?_
    obtain ⟨g, hF⟩ := Rg g hF
    try simp [go_sem, g]
    refine pw_wk ?_
    repeat rw [sq]
    refine pw_draw D35_14 follows (by kernel_rfl) rfl ?_
    try simp only [go_sem, D35_14]
    obtain ⟨g, hF⟩ := Rg g hF
    obtain ⟨g, hF⟩ := Rg g hF
    try simp [go_sem, g]
    refine pCD hF c_spec_bStatements (fun z47 hF => ?_)
    try simp [go_sem, g]
    refine pC hF [.sh, .sh, .sh, .sh, .sh, .sh] c_spec_sOneOf (fun z48 hF => ?_)
    obtain ⟨g, hF⟩ := Rg g hF
    try simp [go_sem, g]
    refine pw_wkK [1, 5, 6, 8, 12, 13, 14, 15, 16, 17, 19, 63, 64, 65] (by simp [go_sem, g]; rfl) ?_
    try simp [go_sem, g]
    refine pw_wk ?_
    repeat rw [sq]
    refine pw_draw D35_16 follows (by kernel_rfl) rfl ?_
    try simp only [go_sem, D35_16]
    obtain ⟨g, hF⟩ := Rz g hF
    try simp [go_sem, g]
    refine pw_wkK [1, 5, 6, 8, 12, 13, 14, 15, 16, 17, 63, 64, 65] (by simp [go_sem, g]; rfl) ?_
    obtain ⟨g, hF⟩ := Rg g hF
    obtain ⟨g, hF⟩ := Rg g hF
    try simp [go_sem, g]
    refine pw_wk ?_
    try simp [go_sem, g]
    exact pT (hg40 ((s37.1.take s37.1.length).drop ((i64.wrap ((i64.wrap (2 * z8)) + 2)).toNat), s37.2.1, s37.2.2.1 ++ [z46], s37.2.2.2.1 ++ [z48], s37.2.2.2.2.1, s37.2.2.2.2.2.1, s37.2.2.2.2.2.2.1, i64.wrap (s37.2.2.2.2.2.2.2.1 + x44), (i64.wrap (s37.2.2.2.2.2.2.2.2 + x45)).tmod a0.Q)) (Rn_some hF) (by simp [go_sem, g, wr_i hi42 hi43 (by assumption)])
noncomputable def F_spec_SealVote (a0 : Group) (a1 : Int) (a2 : Contest) (a3 : Int) (a4 : (List Int)) (a5 : (List Int)) : Option (Sealed × Bool) :=
 (((F_spec_bGood a0 a2).bind fun z4 =>
 if (!z4) = true then (
 some true) else (
 (F_spec_gIs a0 [a1]).bind fun z6 =>
 if (!z6) = true then (
 some true) else (
 (F_spec_l1In a3 0 999999).bind fun z8 =>
 if (!z8) = true then (
 some true) else (
 (F_spec_vVote a2 a4).bind fun z10 =>
 if (!z10) = true then (
 some true) else (
 (F_spec_bCoins a2).bind fun z12 =>
 if ((a5.length : Int) != z12) = true then (
 some true) else (
 (F_spec_gExps a0 a5).bind fun z14 =>
 some (!z14)))))) : Option (Bool)).bind fun x3 =>
 if x3 = true then (
 some ((Sealed.mk 0 [] [] (Proof.mk [] [] [])), false)) else (
 (F_spec_bSeal a0 a1 a2 a3 a4 a5).bind fun z16 =>
 some (z16, true)))
theorem c_spec_SealVote : ∀ {a0} {a1} {a2} {a3} {a4} {a5} {r}, F_spec_SealVote a0 a1 a2 a3 a4 a5 = some r → PCalls Tryz.prog 8 [(.sh, .agg [.int .i64 a0.P, .int .i64 a0.Q, .int .i64 a0.G]), (.sh, .int .i64 a1), (.sh, .agg [.int .i64 a2.Kind, .int .i64 a2.Options, .int .i64 a2.Least, .int .i64 a2.Most, .int .i64 a2.Points]), (.sh, .int .i64 a3), (.sh, .sl false 1 (a4.map row_i64)), (.sh, .sl false 1 (a5.map row_i64))] (Eo (.tup [.agg [.int .i64 r.1.Voter, .sl true 2 (r.1.Ciphers.map row_Cipher), .sl true 3 (r.1.Proofs.map row_Proof_ooo), .sl true 1 (r.1.Sum.Commits.map row_i64), .sl true 1 (r.1.Sum.Challenges.map row_i64), .sl true 1 (r.1.Sum.Responses.map row_i64)], .bool r.2]) [.junk, .junk, .junk, .junk, .junk, .junk]) := by
 intro a0 a1 a2 a3 a4 a5 r hr
 apply pF 57 [] [] [] [.cell 12 38, .tmp 13] hr cl8 Tryz.func8
 intro Φ hΦ hF g
 unfold F_spec_SealVote at hF
 try simp [go_sem, g]
 refine pw_wk ?_
 repeat rw [sq]
 refine pJ hF (fun x3 => [(1, .v (.int .i64 a1)), (3, .v (.int .i64 a3)), (4, .v (.sl false 1 (a4.map row_i64))), (5, .v (.sl false 1 (a5.map row_i64))), (6, .bl [.int .i64 a0.P, .int .i64 a0.Q, .int .i64 a0.G]), (8, .bl [.int .i64 a2.Kind, .int .i64 a2.Options, .int .i64 a2.Least, .int .i64 a2.Most, .int .i64 a2.Points]), (12, .bl [.int .i64 0, .sl true 2 [], .sl true 3 [], .sl true 1 [], .sl true 1 [], .sl true 1 []]), (48, .v (.bool x3))]) (fun x3 hF => ?_) fun _ hj1 hF => ?_
 ·repeat rw [sq]
  refine pI hF (fun h15 hF => ?_) (fun h15 hF => ?_)
  ·cases hΦ _ (Rn_some hF)
   try simp [go_sem, g]
   refine pw_wk ?_
   try simp [go_sem, g]
  ·try simp [go_sem, g]
   refine pw_wk ?_
   try simp [go_sem, g]
   refine pC hF [.sh, .sh, .sh, .sh, .sh, .sh] c_spec_bSeal (fun z16 hF => ?_)
   try simp [go_sem, g]
   refine pw_wkK [12, 13] (by simp [go_sem, g]; rfl) ?_
   cases hΦ _ (Rn_some hF)
   try simp [go_sem, g]
 ·try simp [go_sem, g]
  refine pC hF [.sh, .sh] c_spec_bGood (fun z4 hF => ?_)
  try simp [go_sem, g]
  refine pwg_F hF (fun h5 hF => ?_) fun h5 hF => ?_
  ·try simp [go_sem, g, h5]
   exact pT (hj1 true) (Rn_some hF)
  ·try simp [go_sem, g, h5]
   refine pC hF [.sh, .sh] c_spec_gIs (fun z6 hF => ?_)
   try simp [go_sem, g, h5]
   refine pwg_F hF (fun h7 hF => ?_) fun h7 hF => ?_
   ·try simp [go_sem, g, h7]
    exact pT (hj1 true) (Rn_some hF)
   ·try simp [go_sem, g, h7]
    refine pC hF [.sh, .sh, .sh] c_spec_l1In (fun z8 hF => ?_)
    try simp [go_sem, g, h7]
    refine pwg_F hF (fun h9 hF => ?_) fun h9 hF => ?_
    ·try simp [go_sem, g, h9]
     exact pT (hj1 true) (Rn_some hF)
    ·try simp [go_sem, g, h9]
     refine pC hF [.sh, .sh] c_spec_vVote (fun z10 hF => ?_)
     try simp [go_sem, g, h9]
     refine pwg_F hF (fun h11 hF => ?_) fun h11 hF => ?_
     ·try simp [go_sem, g, h11]
      exact pT (hj1 true) (Rn_some hF)
     ·try simp [go_sem, g, h11]
      try intros
      refine pC hF [.sh] c_spec_bCoins (fun z12 hF => ?_)
      try simp [go_sem, g, h11]
      refine pwg_F hF (fun h13 hF => ?_) fun h13 hF => ?_
      ·try simp [go_sem, g, h13]
       exact pT (hj1 true) (Rn_some hF)
      ·try simp [go_sem, g, h13]
       refine pC hF [.sh, .sh] c_spec_gExps (fun z14 hF => ?_)
       try simp [go_sem, g, h13]
       exact pT (hj1 (!z14)) (Rn_some hF)
noncomputable def F_impl_within (a0 : Int) (a1 : Int) (a2 : Int) : Option (Bool) :=
 ((if decide (a1 ≤ a0) = true then (
 some (decide (a0 ≤ a2))) else (
 some false) : Option (Bool)).bind fun x3 =>
 some x3)
theorem c_impl_within : ∀ {a0} {a1} {a2} {r}, F_impl_within a0 a1 a2 = some r → PCalls Tryz.prog 53 [(.sh, .int .i64 a0), (.sh, .int .i64 a1), (.sh, .int .i64 a2)] (Eo (.bool r) [.junk, .junk, .junk]) := by
 intro a0 a1 a2 r hr
 apply pF 15 [] [] [] [.tmp 6] hr cl53 Tryz.func53
 intro Φ hΦ hF g
 unfold F_impl_within at hF
 try simp [go_sem, g]
 refine pw_wk ?_
 repeat rw [sq]
 refine pJ hF (fun x3 => [(6, .v (.bool x3))]) (fun x3 hF => ?_) fun _ hj1 hF => ?_
 ·cases hΦ _ (Rn_some hF)
  try simp [go_sem, g]
 ·try simp [go_sem, g]
  refine pwg_F hF (fun h4 hF => ?_) fun h4 hF => ?_
  ·try simp [go_sem, g, h4]
   exact pT (hj1 (decide (a0 ≤ a2))) (Rn_some hF)
  ·try simp [go_sem, g, h4]
   exact pT (hj1 false) (Rn_some hF)
noncomputable def F_impl_isModulus (a0 : Int) : Option (Bool) :=
 (F_impl_within a0 2 2000000000).bind fun z1 =>
 some z1
theorem c_impl_isModulus : ∀ {a0} {r}, F_impl_isModulus a0 = some r → PCalls Tryz.prog 158 [(.sh, .int .i64 a0)] (Eo (.bool r) [.junk]) := by
 intro a0 r hr
 apply pF 5 [] [] [] [.tmp 2] hr cl158 Tryz.func158
 intro Φ hΦ hF g
 unfold F_impl_isModulus at hF
 try simp [go_sem, g]
 refine pw_wk ?_
 try simp [go_sem, g]
 refine pC hF [.sh, .sh, .sh] c_impl_within (fun z1 hF => ?_)
 cases hΦ _ (Rn_some hF)
 try simp [go_sem, g]
 refine pw_wk ?_
 try simp [go_sem, g]
noncomputable def F_impl_isPrime (a0 : Int) : Option (Bool) :=
 (((F_impl_isModulus a0).bind fun z4 =>
 if (!z4) = true then (
 some true) else (
 if ((a0.tmod 2) == 0) = true then (
 some (a0 != 2)) else (
 some false)) : Option (Bool)).bind fun x3 =>
 if x3 = true then (
 some false) else (
 ((wloop (σ := Int) (fun s11 =>
 if decide ((i64.wrap (s11 * s11)) ≤ a0) = true then (
 gd (s11 ≠ 0) <|
 if ((a0.tmod s11) == 0) = true then (
 some (.out (.inr false))) else (
 some (.go (i64.wrap (s11 + 2))))) else (
 some (.out (.inl ())))) 3 : Option (Unit ⊕ Bool)).bind (Sum.elim (fun x10 =>
 some true) some))))
theorem c_impl_isPrime : ∀ {a0} {r}, F_impl_isPrime a0 = some r → PCalls Tryz.prog 123 [(.sh, .int .i64 a0)] (Eo (.bool r) [.junk]) := by
 intro a0 r hr
 apply pF 27 [] [] [] [.tmp 2] hr cl123 Tryz.func123
 intro Φ hΦ hF g
 unfold F_impl_isPrime at hF
 try simp [go_sem, g]
 refine pw_wk ?_
 repeat rw [sq]
 refine pJ hF (fun x3 => [(0, .v (.int .i64 a0)), (15, .v (.bool x3))]) (fun x3 hF => ?_) fun _ hj1 hF => ?_
 ·repeat rw [sq]
  refine pI hF (fun h7 hF => ?_) (fun h7 hF => ?_)
  ·cases hΦ _ (Rn_some hF)
   try simp [go_sem, g]
   refine pw_wk ?_
   try simp [go_sem, g]
  ·iterate 2 (try simp [go_sem, g]; refine pw_wk ?_)
   repeat rw [sq]
   refine pJs hF (fun x10 => []) (fun x10 hF => ?_) fun _ hj8 hr9 hF => ?_
   ·cases hΦ _ (Rn_some hF)
    try simp [go_sem, g]
    refine pw_wk ?_
    try simp [go_sem, g]
   ·repeat rw [sq]
    rw [pw_block]
    obtain ⟨b18, hb19, hψ15⟩ := hF
    refine pL hb19 (fun s11 => [(0, .v (.int .i64 a0)), (3, .v (.int .i64 s11))]) (fun s11 _ _ ho13 hg14 hF => ?_)
    try simp [go_sem, g]
    refine pw_wk ?_
    repeat rw [sq]
    refine pI hF (fun h16 hF => ?_) (fun h16 hF => ?_)
    ·try simp [go_sem, g]
     refine pw_wk ?_
     repeat rw [sq]
     rw [pw_block]
     obtain ⟨g, hF⟩ := Rz g hF
     try simp [go_sem, g]
     refine pw_wkK [0, 3, 26] (by simp [go_sem, g]; rfl) ?_
     repeat rw [sq]
     refine pI hF (fun h17 hF => ?_) (fun h17 hF => ?_)
     ·cases ho13 _ (Rn_some hF)
      cases hΦ _ (hr9 _ hψ15)
      try simp [go_sem, g]
      refine pw_wk ?_
      try simp [go_sem, g]
     ·try simp [go_sem, g]
      refine pw_wk ?_
      try simp [go_sem, g]
      exact pT (hg14 (i64.wrap (s11 + 2))) (Rn_some hF)
    ·try simp [go_sem, g]
     cases ho13 _ (Rn_some hF)
     exact pT (hj8 ()) hψ15
 ·try simp [go_sem, g]
  refine pC hF [.sh] c_impl_isModulus (fun z4 hF => ?_)
  try simp [go_sem, g]
  refine pwg_F hF (fun h5 hF => ?_) fun h5 hF => ?_
  ·try simp [go_sem, g, h5]
   exact pT (hj1 true) (Rn_some hF)
  ·have g := Ld g 2
   try simp [go_sem, g, h5]
   refine pwg_F hF (fun h6 hF => ?_) fun h6 hF => ?_
   ·try simp [go_sem, g, h6, h5]
    exact pT (hj1 (a0 != 2)) (Rn_some hF)
   ·try simp [go_sem, g, h6, h5]
    exact pT (hj1 false) (Rn_some hF)
noncomputable def F_impl_power (a0 : Int) (a1 : Int) (a2 : Int) : Option (Int) :=
 gd (a2 ≠ 0) <|
 ((wloop (σ := Int × Int × Int) (fun s4 =>
 if decide (0 < s4.2.1) = true then (
 ((if ((i64.wrap ((BitVec.ofInt i64.bits s4.2.1 &&& BitVec.ofInt i64.bits 1).toNat)) == 1) = true then (
 gd (a2 ≠ 0) <|
 some ((i64.wrap (s4.2.2 * s4.1)).tmod a2)) else (
 some s4.2.2) : Option (Int)).bind fun x12 =>
 gd (a2 ≠ 0) <|
 some (.go ((i64.wrap (s4.1 * s4.1)).tmod a2, s4.2.1.fdiv 2, x12)))) else (
 some (.out s4.2.2))) (a0, a1, (1 : Int).tmod a2) : Option (Int)).bind fun x3 =>
 some x3)
theorem c_impl_power : ∀ {a0} {a1} {a2} {r}, F_impl_power a0 a1 a2 = some r → PCalls Tryz.prog 124 [(.sh, .int .i64 a0), (.sh, .int .i64 a1), (.sh, .int .i64 a2)] (Eo (.int .i64 r) [.junk, .junk, .junk]) := by
 intro a0 a1 a2 r hr
 apply pF 28 [] [] [] [.tmp 6] hr cl124 Tryz.func124
 intro Φ hΦ hF g
 unfold F_impl_power at hF
 obtain ⟨g, hF⟩ := Rz g hF
 iterate 2 (try simp [go_sem, g]; refine pw_wk ?_)
 repeat rw [sq]
 refine pJ hF (fun x3 => [(7, .v (.int .i64 x3))]) (fun x3 hF => ?_) fun _ hj1 hF => ?_
 ·cases hΦ _ (Rn_some hF)
  try simp [go_sem, g]
  refine pw_wk ?_
  try simp [go_sem, g]
 ·repeat rw [sq]
  rw [pw_block]
  obtain ⟨b14, hb15, hψ8⟩ := hF
  refine pL hb15 (fun s4 => [(0, .v (.int .i64 s4.1)), (1, .v (.int .i64 s4.2.1)), (2, .v (.int .i64 a2)), (7, .v (.int .i64 s4.2.2))]) (fun s4 _ _ ho6 hg7 hF => ?_)
  try simp [go_sem, g]
  refine pw_wk ?_
  repeat rw [sq]
  refine pI hF (fun h9 hF => ?_) (fun h9 hF => ?_)
  ·try simp [go_sem, g]
   refine pw_wk ?_
   repeat rw [sq]
   rw [pw_block]
   try simp [go_sem, g]
   refine pw_wk ?_
   repeat rw [sq]
   refine pJ hF (fun x12 => [(0, .v (.int .i64 s4.1)), (1, .v (.int .i64 s4.2.1)), (2, .v (.int .i64 a2)), (7, .v (.int .i64 x12))]) (fun x12 hF => ?_) fun _ hj10 hF => ?_
   ·obtain ⟨g, hF⟩ := Rz g hF
    try simp [go_sem, g]
    refine pw_wkK [0, 1, 2, 7] (by simp [go_sem, g]; rfl) ?_
    have g := Ls g 1
    try simp [go_sem, g]
    exact pT (hg7 ((i64.wrap (s4.1 * s4.1)).tmod a2, s4.2.1.fdiv 2, x12)) (Rn_some hF)
   ·repeat rw [sq]
    refine pI hF (fun h13 hF => ?_) (fun h13 hF => ?_)
    ·obtain ⟨g, hF⟩ := Rz g hF
     try simp [go_sem, g]
     exact pT (hj10 ((i64.wrap (s4.2.2 * s4.1)).tmod a2)) (Rn_some hF)
    ·try simp [go_sem, g]
     exact pT (hj10 s4.2.2) (Rn_some hF)
  ·try simp [go_sem, g]
   cases ho6 _ (Rn_some hF)
   exact pT (hj1 s4.2.2) hψ8
noncomputable def F_impl_IsValidGroup (a0 : Group) : Option (Bool) :=
 (((F_impl_within a0.P 3 2000000000).bind fun z4 =>
 if z4 = true then (
 (F_impl_within a0.Q 2 (i64.wrap (a0.P - 1))).bind fun z6 =>
 if z6 = true then (
 gd (a0.Q ≠ 0) <|
 if (((i64.wrap (a0.P - 1)).tmod a0.Q) == 0) = true then (
 (F_impl_within a0.G 2 (i64.wrap (a0.P - 1))).bind fun z9 =>
 if z9 = true then (
 (F_impl_isPrime a0.P).bind fun z11 =>
 if z11 = true then (
 (F_impl_isPrime a0.Q).bind fun z13 =>
 if z13 = true then (
 (F_impl_power a0.G a0.Q a0.P).bind fun z15 =>
 some (z15 == 1)) else (
 some false)) else (
 some false)) else (
 some false)) else (
 some false)) else (
 some false)) else (
 some false) : Option (Bool)).bind fun x3 =>
 some x3)
theorem c_impl_IsValidGroup : ∀ {a0} {r}, F_impl_IsValidGroup a0 = some r → PCalls Tryz.prog 62 [(.sh, .agg [.int .i64 a0.P, .int .i64 a0.Q, .int .i64 a0.G])] (Eo (.bool r) [.junk]) := by
 intro a0 r hr
 apply pF 51 [] [] [] [.tmp 2] hr cl62 Tryz.func62
 intro Φ hΦ hF g
 unfold F_impl_IsValidGroup at hF
 try simp [go_sem, g]
 refine pw_wk ?_
 repeat rw [sq]
 refine pJ hF (fun x3 => [(2, .v (.bool x3))]) (fun x3 hF => ?_) fun _ hj1 hF => ?_
 ·cases hΦ _ (Rn_some hF)
  try simp [go_sem, g]
 ·try simp [go_sem, g]
  refine pC hF [.sh, .sh, .sh] c_impl_within (fun z4 hF => ?_)
  try simp [go_sem, g]
  refine pwg_F hF (fun h5 hF => ?_) fun h5 hF => ?_
  ·try simp [go_sem, g, h5]
   refine pC hF [.sh, .sh, .sh] c_impl_within (fun z6 hF => ?_)
   try simp [go_sem, g, h5]
   refine pwg_F hF (fun h7 hF => ?_) fun h7 hF => ?_
   ·obtain ⟨g, hF⟩ := Rz g hF
    try simp [go_sem, g, h7]
    refine pwg_F hF (fun h8 hF => ?_) fun h8 hF => ?_
    ·try simp [go_sem, g, h8]
     refine pC hF [.sh, .sh, .sh] c_impl_within (fun z9 hF => ?_)
     try simp [go_sem, g, h8]
     refine pwg_F hF (fun h10 hF => ?_) fun h10 hF => ?_
     ·try simp [go_sem, g, h10]
      refine pC hF [.sh] c_impl_isPrime (fun z11 hF => ?_)
      try simp [go_sem, g, h10]
      refine pwg_F hF (fun h12 hF => ?_) fun h12 hF => ?_
      ·try simp [go_sem, g, h12]
       refine pC hF [.sh] c_impl_isPrime (fun z13 hF => ?_)
       try simp [go_sem, g, h12]
       refine pwg_F hF (fun h14 hF => ?_) fun h14 hF => ?_
       ·try simp [go_sem, g, h14]
        refine pC hF [.sh, .sh, .sh] c_impl_power (fun z15 hF => ?_)
        try simp [go_sem, g, h14]
        exact pT (hj1 (z15 == 1)) (Rn_some hF)
       ·try simp [go_sem, g, h14]
        exact pT (hj1 false) (Rn_some hF)
      ·try simp [go_sem, g, h12]
       exact pT (hj1 false) (Rn_some hF)
     ·try simp [go_sem, g, h10]
      exact pT (hj1 false) (Rn_some hF)
    ·try simp [go_sem, g, h8]
     exact pT (hj1 false) (Rn_some hF)
   ·try simp [go_sem, g, h7]
    exact pT (hj1 false) (Rn_some hF)
  ·try simp [go_sem, g, h5]
   exact pT (hj1 false) (Rn_some hF)
noncomputable def F_impl_IsValidContest (a0 : Contest) : Option (Bool) :=
 ((if decide (a0.Least < 0) = true then (
 some true) else (
 some (decide (a0.Most < a0.Least))) : Option (Bool)).bind fun x3 =>
 if x3 = true then (
 some false) else (
 ((if (a0.Kind == 1) = true then (
 some (a0.Kind == 1)) else (
 some (a0.Kind == 3)) : Option (Bool)).bind fun x8 =>
 if x8 = true then (
 (((F_impl_within a0.Options 1 8).bind fun z14 =>
 if z14 = true then (
 if decide (a0.Most ≤ a0.Options) = true then (
 some (a0.Points == 0)) else (
 some false)) else (
 some false) : Option (Bool)).bind fun x13 =>
 some x13)) else (
 if (a0.Kind == 2) = true then (
 (((F_impl_within a0.Options 1 8).bind fun z21 =>
 if z21 = true then (
 (F_impl_within a0.Points 1 5).bind fun z23 =>
 if z23 = true then (
 some (decide (a0.Most ≤ (i64.wrap (a0.Options * a0.Points))))) else (
 some false)) else (
 some false) : Option (Bool)).bind fun x20 =>
 some x20)) else (
 if (a0.Kind == 4) = true then (
 ((if (a0.Options == 0) = true then (
 if decide (a0.Most ≤ 5) = true then (
 some (a0.Points == 0)) else (
 some false)) else (
 some false) : Option (Bool)).bind fun x28 =>
 some x28)) else (
 some false))))))
theorem c_impl_IsValidContest : ∀ {a0} {r}, F_impl_IsValidContest a0 = some r → PCalls Tryz.prog 103 [(.sh, .agg [.int .i64 a0.Kind, .int .i64 a0.Options, .int .i64 a0.Least, .int .i64 a0.Most, .int .i64 a0.Points])] (Eo (.bool r) [.junk]) := by
 intro a0 r hr
 apply pF 68 [] [] [] [.tmp 2] hr cl103 Tryz.func103
 intro Φ hΦ hF g
 unfold F_impl_IsValidContest at hF
 try simp [go_sem, g]
 refine pw_wk ?_
 repeat rw [sq]
 refine pJ hF (fun x3 => [(1, .bl [.int .i64 a0.Kind, .int .i64 a0.Options, .int .i64 a0.Least, .int .i64 a0.Most, .int .i64 a0.Points]), (12, .v (.bool x3))]) (fun x3 hF => ?_) fun _ hj1 hF => ?_
 ·repeat rw [sq]
  refine pI hF (fun h5 hF => ?_) (fun h5 hF => ?_)
  ·cases hΦ _ (Rn_some hF)
   try simp [go_sem, g]
   refine pw_wk ?_
   try simp [go_sem, g]
  ·iterate 2 (try simp [go_sem, g]; refine pw_wk ?_)
   repeat rw [sq]
   rw [pw_block]
   try simp [go_sem, g]
   refine pw_wk ?_
   repeat rw [sq]
   refine pJ hF (fun x8 => [(1, .bl [.int .i64 a0.Kind, .int .i64 a0.Options, .int .i64 a0.Least, .int .i64 a0.Most, .int .i64 a0.Points]), (14, .v (.int .i64 a0.Kind)), (15, .v (.bool x8))]) (fun x8 hF => ?_) fun _ hj6 hF => ?_
   ·repeat rw [sq]
    refine pI hF (fun h10 hF => ?_) (fun h10 hF => ?_)
    ·repeat rw [sq]
     refine pJ hF (fun x13 => [(2, .v (.bool x13))]) (fun x13 hF => ?_) fun _ hj11 hF => ?_
     ·cases hΦ _ (Rn_some hF)
      try simp [go_sem, g]
     ·try simp [go_sem, g]
      refine pC hF [.sh, .sh, .sh] c_impl_within (fun z14 hF => ?_)
      try simp [go_sem, g]
      refine pwg_F hF (fun h15 hF => ?_) fun h15 hF => ?_
      ·try simp [go_sem, g, h15]
       refine pwg_F hF (fun h16 hF => ?_) fun h16 hF => ?_
       ·try simp [go_sem, g, h16]
        exact pT (hj11 (a0.Points == 0)) (Rn_some hF)
       ·try simp [go_sem, g, h16]
        exact pT (hj11 false) (Rn_some hF)
      ·try simp [go_sem, g, h15]
       exact pT (hj11 false) (Rn_some hF)
    ·try simp [go_sem, g]
     refine pw_wk ?_
     repeat rw [sq]
     refine pI hF (fun h17 hF => ?_) (fun h17 hF => ?_)
     ·repeat rw [sq]
      refine pJ hF (fun x20 => [(2, .v (.bool x20))]) (fun x20 hF => ?_) fun _ hj18 hF => ?_
      ·cases hΦ _ (Rn_some hF)
       try simp [go_sem, g]
      ·try simp [go_sem, g]
       refine pC hF [.sh, .sh, .sh] c_impl_within (fun z21 hF => ?_)
       try simp [go_sem, g]
       refine pwg_F hF (fun h22 hF => ?_) fun h22 hF => ?_
       ·try simp [go_sem, g, h22]
        refine pC hF [.sh, .sh, .sh] c_impl_within (fun z23 hF => ?_)
        try simp [go_sem, g, h22]
        refine pwg_F hF (fun h24 hF => ?_) fun h24 hF => ?_
        ·try simp [go_sem, g, h24]
         exact pT (hj18 (decide (a0.Most ≤ (i64.wrap (a0.Options * a0.Points))))) (Rn_some hF)
        ·try simp [go_sem, g, h24]
         exact pT (hj18 false) (Rn_some hF)
       ·try simp [go_sem, g, h22]
        exact pT (hj18 false) (Rn_some hF)
     ·try simp [go_sem, g]
      refine pw_wkK [1, 53] (by simp [go_sem, g]; rfl) ?_
      repeat rw [sq]
      refine pI hF (fun h25 hF => ?_) (fun h25 hF => ?_)
      ·repeat rw [sq]
       refine pJ hF (fun x28 => [(2, .v (.bool x28))]) (fun x28 hF => ?_) fun _ hj26 hF => ?_
       ·cases hΦ _ (Rn_some hF)
        try simp [go_sem, g]
       ·try simp [go_sem, g]
        refine pwg_F hF (fun h29 hF => ?_) fun h29 hF => ?_
        ·try simp [go_sem, g, h29]
         refine pwg_F hF (fun h30 hF => ?_) fun h30 hF => ?_
         ·try simp [go_sem, g, h30]
          exact pT (hj26 (a0.Points == 0)) (Rn_some hF)
         ·try simp [go_sem, g, h30]
          exact pT (hj26 false) (Rn_some hF)
        ·try simp [go_sem, g, h29]
         exact pT (hj26 false) (Rn_some hF)
      ·cases hΦ _ (Rn_some hF)
       iterate 2 (try simp [go_sem, g]; refine pw_wk ?_)
       try simp [go_sem, g]
   ·repeat rw [sq]
    refine pI hF (fun h9 hF => ?_) (fun h9 hF => ?_)
    ·try simp [go_sem, g]
     exact pT (hj6 (a0.Kind == 1)) (Rn_some hF)
    ·try simp [go_sem, g]
     exact pT (hj6 (a0.Kind == 3)) (Rn_some hF)
 ·try simp [go_sem, g]
  refine pwg_F hF (fun h4 hF => ?_) fun h4 hF => ?_
  ·try simp [go_sem, g, h4]
   exact pT (hj1 true) (Rn_some hF)
  ·try simp [go_sem, g, h4]
   exact pT (hj1 (decide (a0.Most < a0.Least))) (Rn_some hF)
noncomputable def F_impl_Contest_base (a0 : Contest) : Option (Int) :=
 if (a0.Kind == 2) = true then (
 some (i64.wrap (a0.Points + 1))) else (
 if (a0.Kind == 3) = true then (
 some (i64.wrap (a0.Options + 1))) else (
 if (a0.Kind == 4) = true then (
 some 27) else (
 some 2)))
theorem c_impl_Contest_base : ∀ {a0} {r}, F_impl_Contest_base a0 = some r → PCalls Tryz.prog 144 [(.sh, .agg [.int .i64 a0.Kind, .int .i64 a0.Options, .int .i64 a0.Least, .int .i64 a0.Most, .int .i64 a0.Points])] (Eo (.int .i64 r) [.junk]) := by
 intro a0 r hr
 apply pF 17 [] [] [] [.tmp 2] hr cl144 Tryz.func144
 intro Φ hΦ hF g
 unfold F_impl_Contest_base at hF
 iterate 2 (try simp [go_sem, g]; refine pw_wk ?_)
 repeat rw [sq]
 rw [pw_block]
 try simp [go_sem, g]
 refine pw_wk ?_
 repeat rw [sq]
 refine pI hF (fun h1 hF => ?_) (fun h1 hF => ?_)
 ·try simp [go_sem, g]
  refine pw_wkK [2] (by simp [go_sem, g]; rfl) ?_
  cases hΦ _ (Rn_some hF)
  try simp [go_sem, g]
 ·try simp [go_sem, g]
  refine pw_wk ?_
  repeat rw [sq]
  refine pI hF (fun h2 hF => ?_) (fun h2 hF => ?_)
  ·try simp [go_sem, g]
   refine pw_wkK [2] (by simp [go_sem, g]; rfl) ?_
   cases hΦ _ (Rn_some hF)
   try simp [go_sem, g]
  ·try simp [go_sem, g]
   refine pw_wkK [15] (by simp [go_sem, g]; rfl) ?_
   repeat rw [sq]
   refine pI hF (fun h3 hF => ?_) (fun h3 hF => ?_)
   ·cases hΦ _ (Rn_some hF)
    try simp [go_sem, g]
    refine pw_wk ?_
    try simp [go_sem, g]
   ·cases hΦ _ (Rn_some hF)
    iterate 2 (try simp [go_sem, g]; refine pw_wk ?_)
    try simp [go_sem, g]
noncomputable def F_impl_codeOf (a0 : (List Int)) (a1 : Int) : Option (Int) :=
 ((wloop (σ := Int × Int) (fun s4 =>
 if decide (0 ≤ s4.2) = true then (
 (ix a0 s4.2).bind fun x10 =>
 some (.go (i64.wrap ((i64.wrap (s4.1 * a1)) + x10), i64.wrap (s4.2 - 1)))) else (
 some (.out s4.1))) (0, i64.wrap ((a0.length : Int) - 1)) : Option (Int)).bind fun x3 =>
 some x3)
theorem c_impl_codeOf : ∀ {a0} {a1} {r}, F_impl_codeOf a0 a1 = some r → PCalls Tryz.prog 143 [(.sh, .sl false 1 (a0.map row_i64)), (.sh, .int .i64 a1)] (Eo (.int .i64 r) [.junk, .junk]) := by
 intro a0 a1 r hr
 apply pF 23 [] [] [] [.tmp 4] hr cl143 Tryz.func143
 intro Φ hΦ hF g
 unfold F_impl_codeOf at hF
 iterate 3 (try simp [go_sem, g]; try intros; refine pw_wk ?_)
 repeat rw [sq]
 refine pJ hF (fun x3 => [(5, .v (.int .i64 x3))]) (fun x3 hF => ?_) fun _ hj1 hF => ?_
 ·cases hΦ _ (Rn_some hF)
  try simp [go_sem, g]
  refine pw_wk ?_
  try simp [go_sem, g]
 ·repeat rw [sq]
  rw [pw_block]
  obtain ⟨b11, hb12, hψ8⟩ := hF
  refine pL hb12 (fun s4 => [(0, .v (.sl false 1 (a0.map row_i64))), (1, .v (.int .i64 a1)), (5, .v (.int .i64 s4.1)), (6, .v (.int .i64 s4.2))]) (fun s4 _ _ ho6 hg7 hF => ?_)
  try simp [go_sem, g]
  refine pw_wk ?_
  repeat rw [sq]
  refine pI hF (fun h9 hF => ?_) (fun h9 hF => ?_)
  ·try simp [go_sem, g]
   refine pw_wk ?_
   repeat rw [sq]
   rw [pw_block]
   obtain ⟨x10, g, hF⟩ := Rx g hF
   try simp [go_sem, g]
   refine pw_wkK [0, 1, 5, 6] (by simp [go_sem, g]; rfl) ?_
   try simp [go_sem, g]
   exact pT (hg7 (i64.wrap ((i64.wrap (s4.1 * a1)) + x10), i64.wrap (s4.2 - 1))) (Rn_some hF)
  ·try simp [go_sem, g]
   cases ho6 _ (Rn_some hF)
   exact pT (hj1 s4.1) hψ8
noncomputable def F_impl_Contest_greatest (a0 : Contest) : Option (Int) :=
 ((if (a0.Kind == 1) = true then (
 wloop (σ := (List Int) × Int) (fun s5 =>
 if decide (s5.2 < a0.Options) = true then (
 ((if decide ((i64.wrap (a0.Options - a0.Most)) ≤ s5.2) = true then (
 some 1) else (
 some 0) : Option (Int)).bind fun x13 =>
 gd ((s5.1.length + 1) * 8 ≤ 140737488355328 ∧ s5.1.length + 1 ≤ 4611686018427387904) <|
 some (.go (s5.1 ++ [x13], i64.wrap (s5.2 + 1))))) else (
 some (.out s5.1))) ([], 0)) else (
 if (a0.Kind == 2) = true then (
 gd (0 ≤ a0.Options ∧ a0.Options ≤ a0.Options ∧ 8 * a0.Options ≤ 140737488355328 ∧ a0.Options ≤ 4611686018427387904) <|
 (some (List.replicate a0.Options.toNat 0)).bind fun x18 =>
 wloop (σ := (List Int) × Int × Int) (fun s29 =>
 if decide (0 ≤ s29.2.2) = true then (
 (ix s29.1 s29.2.2).bind fun x35 =>
 (ix (s29.1.set s29.2.2.toNat (if a0.Points < s29.2.1 then a0.Points else s29.2.1)) s29.2.2).bind fun x36 =>
 some (.go (s29.1.set s29.2.2.toNat (if a0.Points < s29.2.1 then a0.Points else s29.2.1), i64.wrap (s29.2.1 - x36), i64.wrap (s29.2.2 - 1)))) else (
 some (.out s29.1))) (x18, a0.Most, i64.wrap (a0.Options - 1))) else (
 if (a0.Kind == 3) = true then (
 wloop (σ := (List Int) × Int) (fun s40 =>
 if decide (s40.2 < a0.Most) = true then (
 gd ((s40.1.length + 1) * 8 ≤ 140737488355328 ∧ s40.1.length + 1 ≤ 4611686018427387904) <|
 some (.go (s40.1 ++ [i64.wrap ((i64.wrap ((i64.wrap (a0.Options - a0.Most)) + 1)) + s40.2)], i64.wrap (s40.2 + 1)))) else (
 some (.out s40.1))) ([], 0)) else (
 wloop (σ := (List Int) × Int) (fun s48 =>
 if decide (s48.2 < a0.Most) = true then (
 gd ((s48.1.length + 1) * 8 ≤ 140737488355328 ∧ s48.1.length + 1 ≤ 4611686018427387904) <|
 some (.go (s48.1 ++ [26], i64.wrap (s48.2 + 1)))) else (
 some (.out s48.1))) ([], 0)))) : Option ((List Int))).bind fun x3 =>
 (F_impl_Contest_base a0).bind fun z56 =>
 (F_impl_codeOf x3 z56).bind fun z57 =>
 some z57)
end Go.Pm
