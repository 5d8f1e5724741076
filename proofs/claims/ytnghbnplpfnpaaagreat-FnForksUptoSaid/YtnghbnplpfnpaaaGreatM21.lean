/-
  Plain functions and their walks. Written by wip/tools/lift.py.
-/
import Derived.Test.YtnghbnplpfnpaaaGreatPS
namespace Go.Pm
open Go.Am IntKind
open Go.Proofs
set_option maxRecDepth 100000
attribute [local irreducible] pw pwx pw1 pwg qv qz qf
attribute [-simp] List.map_set
set_option linter.unusedSimpArgs false
set_option linter.unusedVariables false
structure Group where
 P : Int
 Q : Int
 G : Int
structure Proof where
 Commits : (List Int)
 Challenges : (List Int)
 Responses : (List Int)
structure Head where
 Author : Int
 Size : Int
 Root : Int
 Sign : Proof
structure l1Cur where
 code : (List Int)
 at_ : Int
 seed : Int
structure l3State where
 s : Int
 t : Int
structure ForkEvidence where
 First : Head
 Second : Head
def row_u8 (x : Int) : List PV := [.int .u8 x]
@[go_sem] theorem row_u8_eq {x : Int} : row_u8 x = [.int .u8 x] := (rfl)
@[go_sem] theorem row_u8_drop {l : List Int} : List.map (List.map drop ∘ row_u8) l = l.map row_u8 := by refine List.map_congr_left fun x _ => ?_; simp [go_sem]
@[go_sem] theorem row_u8_drop' {l : List Int} : List.map (List.map drop) (l.map row_u8) = l.map row_u8 := by rw [List.map_map]; exact row_u8_drop
@[go_sem] theorem row_u8_set {l : List Int} {i : Nat} {a : Int} : (l.map row_u8).set i [.int .u8 a] = (l.set i a).map row_u8 := by rw [List.map_set]; rfl
def row_i64 (x : Int) : List PV := [.int .i64 x]
@[go_sem] theorem row_i64_eq {x : Int} : row_i64 x = [.int .i64 x] := (rfl)
@[go_sem] theorem row_i64_drop {l : List Int} : List.map (List.map drop ∘ row_i64) l = l.map row_i64 := by refine List.map_congr_left fun x _ => ?_; simp [go_sem]
@[go_sem] theorem row_i64_drop' {l : List Int} : List.map (List.map drop) (l.map row_i64) = l.map row_i64 := by rw [List.map_map]; exact row_i64_drop
@[go_sem] theorem row_i64_set {l : List Int} {i : Nat} {a : Int} : (l.map row_i64).set i [.int .i64 a] = (l.set i a).map row_i64 := by rw [List.map_set]; rfl
def row_zi64 (x : (List Int)) : List PV := [.sl false 1 (x.map row_i64)]
@[go_sem] theorem row_zi64_eq {x : (List Int)} : row_zi64 x = [.sl false 1 (x.map row_i64)] := (rfl)
@[go_sem] theorem row_zi64_drop {l : List (List Int)} : List.map (List.map drop ∘ row_zi64) l = l.map row_zi64 := by refine List.map_congr_left fun x _ => ?_; simp [go_sem]
@[go_sem] theorem row_zi64_drop' {l : List (List Int)} : List.map (List.map drop) (l.map row_zi64) = l.map row_zi64 := by rw [List.map_map]; exact row_zi64_drop
@[go_sem] theorem row_zi64_set {l : List (List Int)} {i : Nat} {a : (List Int)} : (l.map row_zi64).set i [.sl false 1 (a.map row_i64)] = (l.set i a).map row_zi64 := by rw [List.map_set]; rfl
def row_Head (x : Head) : List PV := [.int .i64 x.Author, .int .i64 x.Size, .int .i64 x.Root, .sl false 1 (x.Sign.Commits.map row_i64), .sl false 1 (x.Sign.Challenges.map row_i64), .sl false 1 (x.Sign.Responses.map row_i64)]
@[go_sem] theorem row_Head_eq {x : Head} : row_Head x = [.int .i64 x.Author, .int .i64 x.Size, .int .i64 x.Root, .sl false 1 (x.Sign.Commits.map row_i64), .sl false 1 (x.Sign.Challenges.map row_i64), .sl false 1 (x.Sign.Responses.map row_i64)] := (rfl)
@[go_sem] theorem row_Head_drop {l : List Head} : List.map (List.map drop ∘ row_Head) l = l.map row_Head := by refine List.map_congr_left fun x _ => ?_; simp [go_sem]
@[go_sem] theorem row_Head_drop' {l : List Head} : List.map (List.map drop) (l.map row_Head) = l.map row_Head := by rw [List.map_map]; exact row_Head_drop
@[go_sem] theorem row_Head_setl {l : List Head} {i : Nat} {Author : Int} {Size : Int} {Root : Int} {SignCommits : (List Int)} {SignChallenges : (List Int)} {SignResponses : (List Int)} : (l.map row_Head).set i [.int .i64 Author, .int .i64 Size, .int .i64 Root, .sl false 1 (SignCommits.map row_i64), .sl false 1 (SignChallenges.map row_i64), .sl false 1 (SignResponses.map row_i64)] = (l.set i (Head.mk Author Size Root (Proof.mk SignCommits SignChallenges SignResponses))).map row_Head := by rw [List.map_set]; rfl
@[go_sem] theorem row_Head_set {l : List Head} {i : Nat} {Author : Int} {Size : Int} {Root : Int} {Sign : Proof} : (l.map row_Head).set i [.int .i64 Author, .int .i64 Size, .int .i64 Root, .sl false 1 (Sign.Commits.map row_i64), .sl false 1 (Sign.Challenges.map row_i64), .sl false 1 (Sign.Responses.map row_i64)] = (l.set i (Head.mk Author Size Root Sign)).map row_Head := by rw [List.map_set]; rfl
def row_Head_ooo (x : Head) : List PV := [.int .i64 x.Author, .int .i64 x.Size, .int .i64 x.Root, .sl true 1 (x.Sign.Commits.map row_i64), .sl true 1 (x.Sign.Challenges.map row_i64), .sl true 1 (x.Sign.Responses.map row_i64)]
@[go_sem] theorem row_Head_ooo_eq {x : Head} : row_Head_ooo x = [.int .i64 x.Author, .int .i64 x.Size, .int .i64 x.Root, .sl true 1 (x.Sign.Commits.map row_i64), .sl true 1 (x.Sign.Challenges.map row_i64), .sl true 1 (x.Sign.Responses.map row_i64)] := (rfl)
@[go_sem] theorem row_Head_ooo_drop {l : List Head} : List.map (List.map drop ∘ row_Head_ooo) l = l.map row_Head := by refine List.map_congr_left fun x _ => ?_; simp [go_sem]
@[go_sem] theorem row_Head_ooo_drop' {l : List Head} : List.map (List.map drop) (l.map row_Head_ooo) = l.map row_Head := by rw [List.map_map]; exact row_Head_ooo_drop
@[go_sem] theorem row_Head_ooo_setl {l : List Head} {i : Nat} {Author : Int} {Size : Int} {Root : Int} {SignCommits : (List Int)} {SignChallenges : (List Int)} {SignResponses : (List Int)} : (l.map row_Head_ooo).set i [.int .i64 Author, .int .i64 Size, .int .i64 Root, .sl true 1 (SignCommits.map row_i64), .sl true 1 (SignChallenges.map row_i64), .sl true 1 (SignResponses.map row_i64)] = (l.set i (Head.mk Author Size Root (Proof.mk SignCommits SignChallenges SignResponses))).map row_Head_ooo := by rw [List.map_set]; rfl
@[go_sem] theorem row_Head_ooo_set {l : List Head} {i : Nat} {Author : Int} {Size : Int} {Root : Int} {Sign : Proof} : (l.map row_Head_ooo).set i [.int .i64 Author, .int .i64 Size, .int .i64 Root, .sl true 1 (Sign.Commits.map row_i64), .sl true 1 (Sign.Challenges.map row_i64), .sl true 1 (Sign.Responses.map row_i64)] = (l.set i (Head.mk Author Size Root Sign)).map row_Head_ooo := by rw [List.map_set]; rfl
noncomputable def F_laws_big (a0 : (List Int)) (a1 : (List Int)) : Option (Bool) :=
 ((if decide (1048576 < (a0.length : Int)) = true then (
 some true) else (
 some (decide ((i64.wrap (1048576 - (a0.length : Int))) < (a1.length : Int)))) : Option (Bool)).bind fun x3 =>
 some x3)
theorem c_laws_big : ∀ {a0} {a1} {r}, F_laws_big a0 a1 = some r → PCalls Tryz.prog 5 [(.sh, .sl false 1 (a0.map row_u8)), (.sh, .sl false 1 (a1.map row_u8))] (Eo (.bool r) [.junk, .junk]) := by
 intro a0 a1 r hr
 apply pF 16 [] [] [] [.tmp 4] hr cl5 Tryz.func5
 intro Φ hΦ hF g
 unfold F_laws_big at hF
 try simp [go_sem, g]
 refine pw_wk ?_
 repeat rw [sq]
 refine pJ hF (fun x3 => [(4, .v (.bool x3))]) (fun x3 hF => ?_) fun _ hj1 hF => ?_
 ·cases hΦ _ (Rn_some hF)
  try simp [go_sem, g]
 ·try simp [go_sem, g]
  try intros
  refine pwg_F hF (fun h4 hF => ?_) fun h4 hF => ?_
  ·try simp [go_sem, g, h4]
   exact pT (hj1 true) (Rn_some hF)
  ·try simp [go_sem, g, h4]
   try intros
   exact pT (hj1 (decide ((i64.wrap (1048576 - (a0.length : Int))) < (a1.length : Int)))) (Rn_some hF)
def D73_2 : List DE := [d0 0 [0], d0 1 [4], d0 2 [5], d0 3 [6], d0 4 [0], d0 5 [8], d0 6 [9], d0 7 [10], d0 8 [11], d0 9 [7, 12]]
def D73_3 : List DE := [d0 0 [0], d0 1 [14], d0 2 [15], d0 3 [16], d0 4 [0], d0 5 [18], d0 6 [19], d0 7 [20], d0 8 [17, 21], d0 9 [22], d0 10 [23], d0 11 [24]]
def D73_6 : List DE := [d0 0 [0], d0 1 [44], d0 2 [45], d0 3 [46], d0 4 [0], d0 5 [48], d0 6 [49], d0 7 [50], d0 8 [51], d0 9 [47, 52]]
noncomputable def F_spec_l1Cur_next__io0 (a0c0 : (List Int)) (a0c1 : Int) (a0c2 : Int) : Option (Int × ((List Int) × Int × Int)) :=
 ((if decide (a0c1 < (a0c0.length : Int)) = true then (
 (ix a0c0 a0c1).bind fun x5 =>
 some (i64.wrap x5)) else (
 some 0) : Option (Int)).bind fun x3 =>
 if decide ((i64.wrap (a0c1 + 1)) ≤ (a0c0.length : Int)) = true then (
 some (x3, (a0c0, i64.wrap (a0c1 + 1), u64.wrap ((u64.wrap ((u64.wrap (a0c2 * 6364136223846793005)) + (u64.wrap x3))) + 1442695040888963407)))) else (
 some (i64.wrap (u64.wrap ((BitVec.ofInt u64.bits ((u64.wrap ((u64.wrap ((u64.wrap (a0c2 * 6364136223846793005)) + (u64.wrap x3))) + 1442695040888963407)).fdiv 1099511627776) &&& BitVec.ofInt u64.bits 255).toNat)), (a0c0, i64.wrap (a0c1 + 1), u64.wrap ((u64.wrap ((u64.wrap (a0c2 * 6364136223846793005)) + (u64.wrap x3))) + 1442695040888963407)))))
theorem c_spec_l1Cur_next__io0 : ∀ {a0c0} {a0c1} {a0c2} {r}, F_spec_l1Cur_next__io0 a0c0 a0c1 a0c2 = some r → PCalls Tryz.prog 73 [(.io, .bx [.sl false 1 (a0c0.map row_u8), .int .i64 a0c1, .int .u64 a0c2])] (Eo (.int .i64 r.1) [.bx [.sl false 1 (r.2.1.map row_u8), .int .i64 r.2.2.1, .int .u64 r.2.2.2]]) := by
 intro a0c0 a0c1 a0c2 r hr
 apply pF 62 [0] [] [] [.tmp 2] hr cl73 Tryz.func73
 intro Φ hΦ hF g
 unfold F_spec_l1Cur_next__io0 at hF
 iterate 2 (try simp [go_sem, g]; refine pw_wk ?_)
 repeat rw [sq]
 refine pw_draw D73_2 follows (by kernel_rfl) rfl ?_
 try simp only [go_sem, D73_2]
 try simp [go_sem, g]
 try intros
 refine pw_wkK [0, 3, 13] (by simp [go_sem, g]; rfl) ?_
 repeat rw [sq]
 refine pJ hF (fun x3 => [(0, .v (.bx [.sl false 1 (a0c0.map row_u8), .int .i64 a0c1, .int .u64 a0c2])), (3, .v (.int .i64 x3))]) (fun x3 hF => ?_) fun _ hj1 hF => ?_
 ·try simp [go_sem, g]
  refine pw_wk ?_
  try simp [go_sem, g]
  refine pw_wkK [0, 3] (by simp [go_sem, g]; rfl) ?_
  repeat rw [sq]
  refine pw_draw D73_6 follows (by kernel_rfl) rfl ?_
  try simp only [go_sem, D73_6]
  try simp [go_sem, g]
  try intros
  refine pw_wkK [0, 3, 53] (by simp [go_sem, g]; rfl) ?_
  repeat rw [sq]
  refine pI hF (fun h6 hF => ?_) (fun h6 hF => ?_)
  ·cases hΦ _ (Rn_some hF)
   try simp [go_sem, g]
   refine pw_wk ?_
   try simp [go_sem, g]
  ·have g := Ls g 40
   cases hΦ _ (Rn_some hF)
   iterate 2 (try simp [go_sem, g]; refine pw_wk ?_)
   try simp [go_sem, g]
 ·repeat rw [sq]
  refine pI hF (fun h4 hF => ?_) (fun h4 hF => ?_)
  ·repeat rw [sq]
   refine pw_draw D73_3 follows (by kernel_rfl) rfl ?_
   try simp only [go_sem, D73_3]
   obtain ⟨x5, g, hF⟩ := Rx g hF
   try simp [go_sem, g]
   exact pT (hj1 (i64.wrap x5)) (Rn_some hF)
  ·try simp [go_sem, g]
   exact pT (hj1 0) (Rn_some hF)
noncomputable def F_spec_l1Cur_pick__io0 (a0c0 : (List Int)) (a0c1 : Int) (a0c2 : Int) (a1 : Int) : Option (Int × ((List Int) × Int × Int)) :=
 if decide (a1 ≤ 1) = true then (
 some (0, (a0c0, a0c1, a0c2))) else (
 (F_spec_l1Cur_next__io0 a0c0 a0c1 a0c2).bind fun z2 =>
 ((if decide (200 < a1) = true then (
 (F_spec_l1Cur_next__io0 z2.2.1 z2.2.2.1 z2.2.2.2).bind fun z7 =>
 some ((z7.2.1, z7.2.2.1, z7.2.2.2), i64.wrap ((i64.wrap (z2.1 * 256)) + z7.1))) else (
 some ((z2.2.1, z2.2.2.1, z2.2.2.2), z2.1)) : Option ((((List Int) × Int × Int) × Int))).bind fun x5 =>
 gd (a1 ≠ 0) <|
 some (x5.2.tmod a1, (x5.1.1, x5.1.2.1, x5.1.2.2))))
theorem c_spec_l1Cur_pick__io0 : ∀ {a0c0} {a0c1} {a0c2} {a1} {r}, F_spec_l1Cur_pick__io0 a0c0 a0c1 a0c2 a1 = some r → PCalls Tryz.prog 37 [(.io, .bx [.sl false 1 (a0c0.map row_u8), .int .i64 a0c1, .int .u64 a0c2]), (.sh, .int .i64 a1)] (Eo (.int .i64 r.1) [.bx [.sl false 1 (r.2.1.map row_u8), .int .i64 r.2.2.1, .int .u64 r.2.2.2], .junk]) := by
 intro a0c0 a0c1 a0c2 a1 r hr
 apply pF 20 [0] [] [] [.tmp 4] hr cl37 Tryz.func37
 intro Φ hΦ hF g
 unfold F_spec_l1Cur_pick__io0 at hF
 iterate 2 (try simp [go_sem, g]; refine pw_wk ?_)
 repeat rw [sq]
 refine pI hF (fun h1 hF => ?_) (fun h1 hF => ?_)
 ·cases hΦ _ (Rn_some hF)
  try simp [go_sem, g]
  refine pw_wk ?_
  try simp [go_sem, g]
 ·try simp [go_sem, g]
  refine pw_wk ?_
  try simp [go_sem, g]
  refine pC hF [.io] c_spec_l1Cur_next__io0 (fun z2 hF => ?_)
  iterate 2 (try simp [go_sem, g]; refine pw_wk ?_)
  repeat rw [sq]
  refine pJ hF (fun x5 => [(0, .v (.bx [.sl false 1 (x5.1.1.map row_u8), .int .i64 x5.1.2.1, .int .u64 x5.1.2.2])), (1, .v (.int .i64 a1)), (5, .v (.int .i64 x5.2))]) (fun x5 hF => ?_) fun _ hj3 hF => ?_
  ·obtain ⟨g, hF⟩ := Rz g hF
   try simp [go_sem, g]
   refine pw_wkK [0, 4] (by simp [go_sem, g]; rfl) ?_
   cases hΦ _ (Rn_some hF)
   try simp [go_sem, g]
  ·repeat rw [sq]
   refine pI hF (fun h6 hF => ?_) (fun h6 hF => ?_)
   ·try simp [go_sem, g]
    refine pC hF [.io] c_spec_l1Cur_next__io0 (fun z7 hF => ?_)
    try simp [go_sem, g]
    exact pT (hj3 ((z7.2.1, z7.2.2.1, z7.2.2.2), i64.wrap ((i64.wrap (z2.1 * 256)) + z7.1))) (Rn_some hF)
   ·try simp [go_sem, g]
    exact pT (hj3 ((z2.2.1, z2.2.2.1, z2.2.2.2), z2.1)) (Rn_some hF)
noncomputable def F_spec_l1Cur_among__io0 (a0c0 : (List Int)) (a0c1 : Int) (a0c2 : Int) (a1 : (List Int)) : Option (Int × ((List Int) × Int × Int)) :=
 (F_spec_l1Cur_pick__io0 a0c0 a0c1 a0c2 (a1.length : Int)).bind fun z1 =>
 (ix a1 z1.1).bind fun x2 =>
 some (x2, (z1.2.1, z1.2.2.1, z1.2.2.2))
theorem c_spec_l1Cur_among__io0 : ∀ {a0c0} {a0c1} {a0c2} {a1} {r}, F_spec_l1Cur_among__io0 a0c0 a0c1 a0c2 a1 = some r → PCalls Tryz.prog 48 [(.io, .bx [.sl false 1 (a0c0.map row_u8), .int .i64 a0c1, .int .u64 a0c2]), (.sh, .sl false 1 (a1.map row_i64))] (Eo (.int .i64 r.1) [.bx [.sl false 1 (r.2.1.map row_u8), .int .i64 r.2.2.1, .int .u64 r.2.2.2], .junk]) := by
 intro a0c0 a0c1 a0c2 a1 r hr
 apply pF 12 [0] [] [] [.tmp 4] hr cl48 Tryz.func48
 intro Φ hΦ hF g
 unfold F_spec_l1Cur_among__io0 at hF
 try simp [go_sem, g]
 try intros
 refine pw_wk ?_
 try simp [go_sem, g]
 try intros
 refine pC hF [.io, .sh] c_spec_l1Cur_pick__io0 (fun z1 hF => ?_)
 obtain ⟨x2, g, hF⟩ := Rx g hF
 cases hΦ _ (Rn_some hF)
 try simp [go_sem, g]
 refine pw_wk ?_
 try simp [go_sem, g]
noncomputable def F_spec_l1Cur_among__io0_mv1 (a0c0 : (List Int)) (a0c1 : Int) (a0c2 : Int) (a1 : (List Int)) : Option (Int × ((List Int) × Int × Int)) :=
 (F_spec_l1Cur_pick__io0 a0c0 a0c1 a0c2 (a1.length : Int)).bind fun z1 =>
 (ix a1 z1.1).bind fun x2 =>
 some (x2, (z1.2.1, z1.2.2.1, z1.2.2.2))
theorem c_spec_l1Cur_among__io0_mv1 : ∀ {a0c0} {a0c1} {a0c2} {a1} {r}, F_spec_l1Cur_among__io0_mv1 a0c0 a0c1 a0c2 a1 = some r → PCalls Tryz.prog 48 [(.io, .bx [.sl false 1 (a0c0.map row_u8), .int .i64 a0c1, .int .u64 a0c2]), (.mv, .sl true 1 (a1.map row_i64))] (Eo (.int .i64 r.1) [.bx [.sl false 1 (r.2.1.map row_u8), .int .i64 r.2.2.1, .int .u64 r.2.2.2], .junk]) := by
 intro a0c0 a0c1 a0c2 a1 r hr
 apply pF 12 [0] [] [] [.tmp 4] hr cl48 Tryz.func48
 intro Φ hΦ hF g
 unfold F_spec_l1Cur_among__io0_mv1 at hF
 try simp [go_sem, g]
 try intros
 refine pw_wk ?_
 try simp [go_sem, g]
 try intros
 refine pC hF [.io, .sh] c_spec_l1Cur_pick__io0 (fun z1 hF => ?_)
 obtain ⟨x2, g, hF⟩ := Rx g hF
 cases hΦ _ (Rn_some hF)
 try simp [go_sem, g]
 refine pw_wk ?_
 try simp [go_sem, g]
noncomputable def F_spec_l1In (a0 : Int) (a1 : Int) (a2 : Int) : Option (Bool) :=
 ((if decide (a1 ≤ a0) = true then (
 some (decide (a0 ≤ a2))) else (
 some false) : Option (Bool)).bind fun x3 =>
 some x3)
theorem c_spec_l1In : ∀ {a0} {a1} {a2} {r}, F_spec_l1In a0 a1 a2 = some r → PCalls Tryz.prog 50 [(.sh, .int .i64 a0), (.sh, .int .i64 a1), (.sh, .int .i64 a2)] (Eo (.bool r) [.junk, .junk, .junk]) := by
 intro a0 a1 a2 r hr
 apply pF 15 [] [] [] [.tmp 6] hr cl50 Tryz.func50
 intro Φ hΦ hF g
 unfold F_spec_l1In at hF
 try simp [go_sem, g]
 refine pw_wk ?_
 repeat rw [sq]
 refine pJ hF (fun x3 => [(6, .v (.bool x3))]) (fun x3 hF => ?_) fun _ hj1 hF => ?_
 ·cases hΦ _ (Rn_some hF)
  try simp [go_sem, g]
 ·try simp [go_sem, g]
  refine pwg_F hF (fun h4 hF => ?_) fun h4 hF => ?_
  ·try simp [go_sem, g, h4]
   exact pT (hj1 (decide (a0 ≤ a2))) (Rn_some hF)
  ·try simp [go_sem, g, h4]
   exact pT (hj1 false) (Rn_some hF)
noncomputable def F_spec_nPrime (a0 : Int) : Option (Bool) :=
 if decide (a0 < 2) = true then (
 some false) else (
 ((wloop (σ := Int) (fun s5 =>
 if decide ((i64.wrap (s5 * s5)) ≤ a0) = true then (
 gd (s5 ≠ 0) <|
 if ((a0.tmod s5) == 0) = true then (
 some (.out (.inr false))) else (
 some (.go (i64.wrap (s5 + 1))))) else (
 some (.out (.inl ())))) 2 : Option (Unit ⊕ Bool)).bind (Sum.elim (fun x4 =>
 some true) some)))
theorem c_spec_nPrime : ∀ {a0} {r}, F_spec_nPrime a0 = some r → PCalls Tryz.prog 85 [(.sh, .int .i64 a0)] (Eo (.bool r) [.junk]) := by
 intro a0 r hr
 apply pF 17 [] [] [] [.tmp 2] hr cl85 Tryz.func85
 intro Φ hΦ hF g
 unfold F_spec_nPrime at hF
 iterate 2 (try simp [go_sem, g]; refine pw_wk ?_)
 repeat rw [sq]
 refine pI hF (fun h1 hF => ?_) (fun h1 hF => ?_)
 ·cases hΦ _ (Rn_some hF)
  try simp [go_sem, g]
  refine pw_wk ?_
  try simp [go_sem, g]
 ·iterate 2 (try simp [go_sem, g]; refine pw_wk ?_)
  repeat rw [sq]
  refine pJs hF (fun x4 => []) (fun x4 hF => ?_) fun _ hj2 hr3 hF => ?_
  ·cases hΦ _ (Rn_some hF)
   try simp [go_sem, g]
   refine pw_wk ?_
   try simp [go_sem, g]
  ·repeat rw [sq]
   rw [pw_block]
   obtain ⟨b12, hb13, hψ9⟩ := hF
   refine pL hb13 (fun s5 => [(0, .v (.int .i64 a0)), (3, .v (.int .i64 s5))]) (fun s5 _ _ ho7 hg8 hF => ?_)
   try simp [go_sem, g]
   refine pw_wk ?_
   repeat rw [sq]
   refine pI hF (fun h10 hF => ?_) (fun h10 hF => ?_)
   ·try simp [go_sem, g]
    refine pw_wk ?_
    repeat rw [sq]
    rw [pw_block]
    obtain ⟨g, hF⟩ := Rz g hF
    try simp [go_sem, g]
    refine pw_wkK [0, 3, 16] (by simp [go_sem, g]; rfl) ?_
    repeat rw [sq]
    refine pI hF (fun h11 hF => ?_) (fun h11 hF => ?_)
    ·cases ho7 _ (Rn_some hF)
     cases hΦ _ (hr3 _ hψ9)
     try simp [go_sem, g]
     refine pw_wk ?_
     try simp [go_sem, g]
    ·try simp [go_sem, g]
     refine pw_wk ?_
     try simp [go_sem, g]
     exact pT (hg8 (i64.wrap (s5 + 1))) (Rn_some hF)
   ·try simp [go_sem, g]
    cases ho7 _ (Rn_some hF)
    exact pT (hj2 ()) hψ9
noncomputable def F_spec_nPower (a0 : Int) (a1 : Int) (a2 : Int) : Option (Int) :=
 gd (a2 ≠ 0) <|
 ((wloop (σ := Int × Int × Int) (fun s4 =>
 if decide (0 < s4.2.1) = true then (
 ((if ((s4.2.1.tmod 2) == 1) = true then (
 gd (a2 ≠ 0) <|
 some ((i64.wrap (s4.2.2 * s4.1)).tmod a2)) else (
 some s4.2.2) : Option (Int)).bind fun x12 =>
 gd (a2 ≠ 0) <|
 some (.go ((i64.wrap (s4.1 * s4.1)).tmod a2, i64.wrap (s4.2.1.tdiv 2), x12)))) else (
 some (.out s4.2.2))) (a0, a1, (1 : Int).tmod a2) : Option (Int)).bind fun x3 =>
 some x3)
theorem c_spec_nPower : ∀ {a0} {a1} {a2} {r}, F_spec_nPower a0 a1 a2 = some r → PCalls Tryz.prog 84 [(.sh, .int .i64 a0), (.sh, .int .i64 a1), (.sh, .int .i64 a2)] (Eo (.int .i64 r) [.junk, .junk, .junk]) := by
 intro a0 a1 a2 r hr
 apply pF 28 [] [] [] [.tmp 6] hr cl84 Tryz.func84
 intro Φ hΦ hF g
 unfold F_spec_nPower at hF
 obtain ⟨g, hF⟩ := Rz g hF
 iterate 2 (try simp [go_sem, g]; refine pw_wk ?_)
 repeat rw [sq]
 refine pJ hF (fun x3 => [(7, .v (.int .i64 x3))]) (fun x3 hF => ?_) fun _ hj1 hF => ?_
 ·cases hΦ _ (Rn_some hF)
  try simp [go_sem, g]
  refine pw_wk ?_
  try simp [go_sem, g]
 ·repeat rw [sq]
  rw [pw_block]
  obtain ⟨b14, hb15, hψ8⟩ := hF
  refine pL hb15 (fun s4 => [(0, .v (.int .i64 s4.1)), (1, .v (.int .i64 s4.2.1)), (2, .v (.int .i64 a2)), (7, .v (.int .i64 s4.2.2))]) (fun s4 _ _ ho6 hg7 hF => ?_)
  try simp [go_sem, g]
  refine pw_wk ?_
  repeat rw [sq]
  refine pI hF (fun h9 hF => ?_) (fun h9 hF => ?_)
  ·try simp [go_sem, g]
   refine pw_wk ?_
   repeat rw [sq]
   rw [pw_block]
   have g := Ld g 2
   try simp [go_sem, g]
   refine pw_wk ?_
   repeat rw [sq]
   refine pJ hF (fun x12 => [(0, .v (.int .i64 s4.1)), (1, .v (.int .i64 s4.2.1)), (2, .v (.int .i64 a2)), (7, .v (.int .i64 x12))]) (fun x12 hF => ?_) fun _ hj10 hF => ?_
   ·obtain ⟨g, hF⟩ := Rz g hF
    try simp [go_sem, g]
    refine pw_wkK [0, 1, 2, 7] (by simp [go_sem, g]; rfl) ?_
    try simp [go_sem, g]
    exact pT (hg7 ((i64.wrap (s4.1 * s4.1)).tmod a2, i64.wrap (s4.2.1.tdiv 2), x12)) (Rn_some hF)
   ·repeat rw [sq]
    refine pI hF (fun h13 hF => ?_) (fun h13 hF => ?_)
    ·obtain ⟨g, hF⟩ := Rz g hF
     try simp [go_sem, g]
     exact pT (hj10 ((i64.wrap (s4.2.2 * s4.1)).tmod a2)) (Rn_some hF)
    ·try simp [go_sem, g]
     exact pT (hj10 s4.2.2) (Rn_some hF)
  ·try simp [go_sem, g]
   cases ho6 _ (Rn_some hF)
   exact pT (hj1 s4.2.2) hψ8
noncomputable def F_spec_MakeGroup (a0 : Int) : Option (Group × Bool) :=
 (((F_spec_l1In a0 2 1000000).bind fun z4 =>
 if (!z4) = true then (
 some true) else (
 (F_spec_nPrime a0).bind fun z6 =>
 some (!z6)) : Option (Bool)).bind fun x3 =>
 if x3 = true then (
 some ((Group.mk 0 0 0), false)) else (
 ((wloop (σ := Int) (fun s11 =>
 if decide (s11 ≤ 2000000000) = true then (
 (F_spec_nPrime s11).bind fun z17 =>
 if (!z17) = true then (
 some (.go (i64.wrap (s11 + a0)))) else (
 ((wloop (σ := Int) (fun s22 =>
 gd (a0 ≠ 0) <|
 (F_spec_nPower s22 (i64.wrap ((i64.wrap (s11 - 1)).tdiv a0)) s11).bind fun z27 =>
 if (z27 == 1) = true then (
 some (.go (i64.wrap (s22 + 1)))) else (
 some (.out s22))) 2 : Option (Int)).bind fun x21 =>
 gd (a0 ≠ 0) <|
 (F_spec_nPower x21 (i64.wrap ((i64.wrap (s11 - 1)).tdiv a0)) s11).bind fun z31 =>
 some (.out (.inr ((Group.mk s11 a0 z31), true)))))) else (
 some (.out (.inl ())))) (i64.wrap (a0 + 1)) : Option (Unit ⊕ (Group × Bool))).bind (Sum.elim (fun x10 =>
 some ((Group.mk 0 0 0), false)) some))))
theorem c_spec_MakeGroup : ∀ {a0} {r}, F_spec_MakeGroup a0 = some r → PCalls Tryz.prog 109 [(.sh, .int .i64 a0)] (Eo (.tup [.agg [.int .i64 r.1.P, .int .i64 r.1.Q, .int .i64 r.1.G], .bool r.2]) [.junk]) := by
 intro a0 r hr
 apply pF 46 [] [] [] [.cell 2 25, .tmp 3] hr cl109 Tryz.func109
 intro Φ hΦ hF g
 unfold F_spec_MakeGroup at hF
 try simp [go_sem, g]
 refine pw_wk ?_
 repeat rw [sq]
 refine pJ hF (fun x3 => [(0, .v (.int .i64 a0)), (2, .bl [.int .i64 0, .int .i64 0, .int .i64 0]), (13, .v (.bool x3))]) (fun x3 hF => ?_) fun _ hj1 hF => ?_
 ·repeat rw [sq]
  refine pI hF (fun h7 hF => ?_) (fun h7 hF => ?_)
  ·cases hΦ _ (Rn_some hF)
   try simp [go_sem, g]
   refine pw_wk ?_
   try simp [go_sem, g]
  ·iterate 2 (try simp [go_sem, g]; refine pw_wk ?_)
   repeat rw [sq]
   refine pJs hF (fun x10 => [(2, .bl [.int .i64 0, .int .i64 0, .int .i64 0])]) (fun x10 hF => ?_) fun _ hj8 hr9 hF => ?_
   ·cases hΦ _ (Rn_some hF)
    try simp [go_sem, g]
    refine pw_wk ?_
    try simp [go_sem, g]
   ·repeat rw [sq]
    rw [pw_block]
    obtain ⟨b32, hb33, hψ15⟩ := hF
    refine pL hb33 (fun s11 => [(0, .v (.int .i64 a0)), (2, .bl [.int .i64 0, .int .i64 0, .int .i64 0]), (4, .v (.int .i64 s11))]) (fun s11 _ _ ho13 hg14 hF => ?_)
    try simp [go_sem, g]
    refine pw_wk ?_
    repeat rw [sq]
    refine pI hF (fun h16 hF => ?_) (fun h16 hF => ?_)
    ·try simp [go_sem, g]
     refine pw_wk ?_
     repeat rw [sq]
     rw [pw_block]
     try simp [go_sem, g]
     refine pC hF [.sh] c_spec_nPrime (fun z17 hF => ?_)
     try simp [go_sem, g]
     refine pw_wkK [0, 2, 4, 24] (by simp [go_sem, g]; rfl) ?_
     repeat rw [sq]
     refine pI hF (fun h18 hF => ?_) (fun h18 hF => ?_)
     ·try simp [go_sem, g]
      refine pw_wk ?_
      try simp [go_sem, g]
      exact pT (hg14 (i64.wrap (s11 + a0))) (Rn_some hF)
     ·iterate 2 (try simp [go_sem, g]; refine pw_wk ?_)
      repeat rw [sq]
      refine pJ hF (fun x21 => [(0, .v (.int .i64 a0)), (2, .bl [.int .i64 0, .int .i64 0, .int .i64 0]), (4, .v (.int .i64 s11)), (5, .v (.int .i64 x21))]) (fun x21 hF => ?_) fun _ hj19 hF => ?_
      ·obtain ⟨g, hF⟩ := Rz g hF
       try simp [go_sem, g]
       refine pC hF [.sh, .sh, .sh] c_spec_nPower (fun z31 hF => ?_)
       try simp [go_sem, g]
       refine pw_wkK [2, 3] (by simp [go_sem, g]; rfl) ?_
       cases ho13 _ (Rn_some hF)
       cases hΦ _ (hr9 _ hψ15)
       try simp [go_sem, g]
      ·repeat rw [sq]
       rw [pw_block]
       obtain ⟨b29, hb30, hψ26⟩ := hF
       refine pL hb30 (fun s22 => [(0, .v (.int .i64 a0)), (2, .bl [.int .i64 0, .int .i64 0, .int .i64 0]), (4, .v (.int .i64 s11)), (5, .v (.int .i64 s22))]) (fun s22 _ _ ho24 hg25 hF => ?_)
       obtain ⟨g, hF⟩ := Rz g hF
       try simp [go_sem, g]
       refine pC hF [.sh, .sh, .sh] c_spec_nPower (fun z27 hF => ?_)
       try simp [go_sem, g]
       refine pw_wk ?_
       repeat rw [sq]
       refine pI hF (fun h28 hF => ?_) (fun h28 hF => ?_)
       ·try simp [go_sem, g]
        refine pw_wk ?_
        repeat rw [sq]
        rw [pw_block]
        try simp [go_sem, g]
        exact pT (hg25 (i64.wrap (s22 + 1))) (Rn_some hF)
       ·try simp [go_sem, g]
        cases ho24 _ (Rn_some hF)
        first | exact pT (hj19 s22) hψ26 | exact pT (hj19 _) hψ26
    ·try simp [go_sem, g]
     cases ho13 _ (Rn_some hF)
     exact pT (hj8 ()) hψ15
 ·try simp [go_sem, g]
  refine pC hF [.sh, .sh, .sh] c_spec_l1In (fun z4 hF => ?_)
  try simp [go_sem, g]
  refine pwg_F hF (fun h5 hF => ?_) fun h5 hF => ?_
  ·try simp [go_sem, g, h5]
   exact pT (hj1 true) (Rn_some hF)
  ·try simp [go_sem, g, h5]
   refine pC hF [.sh] c_spec_nPrime (fun z6 hF => ?_)
   try simp [go_sem, g, h5]
   exact pT (hj1 (!z6)) (Rn_some hF)
noncomputable def F_spec_l1Cur_tiny__io0 (a0c0 : (List Int)) (a0c1 : Int) (a0c2 : Int) : Option (Group × ((List Int) × Int × Int)) :=
 (F_spec_l1Cur_among__io0_mv1 a0c0 a0c1 a0c2 [3, 5, 5, 7, 11, 11, 13, 23]).bind fun z1 =>
 (F_spec_MakeGroup z1.1).bind fun z2 =>
 some (z2.1, (z1.2.1, z1.2.2.1, z1.2.2.2))
theorem c_spec_l1Cur_tiny__io0 : ∀ {a0c0} {a0c1} {a0c2} {r}, F_spec_l1Cur_tiny__io0 a0c0 a0c1 a0c2 = some r → PCalls Tryz.prog 110 [(.io, .bx [.sl false 1 (a0c0.map row_u8), .int .i64 a0c1, .int .u64 a0c2])] (Eo (.agg [.int .i64 r.1.P, .int .i64 r.1.Q, .int .i64 r.1.G]) [.bx [.sl false 1 (r.2.1.map row_u8), .int .i64 r.2.2.1, .int .u64 r.2.2.2]]) := by
 intro a0c0 a0c1 a0c2 r hr
 apply pF 13 [0] [] [] [.cell 2 25] hr cl110 Tryz.func110
 intro Φ hΦ hF g
 unfold F_spec_l1Cur_tiny__io0 at hF
 try simp [go_sem, g]
 refine pw_wk ?_
 try simp [go_sem, g]
 refine pC hF [.io, .mv] c_spec_l1Cur_among__io0_mv1 (fun z1 hF => ?_)
 try simp [go_sem, g]
 refine pC hF [.sh] c_spec_MakeGroup (fun z2 hF => ?_)
 try simp [go_sem, g]
 refine pw_wkK [0, 2, 3] (by simp [go_sem, g]; rfl) ?_
 cases hΦ _ (Rn_some hF)
 try simp [go_sem, g]
 refine pw_wk ?_
 try simp [go_sem, g]
noncomputable def F_spec_nMod (a0 : Int) (a1 : Int) : Option (Int) :=
 gd (a1 ≠ 0) <|
 gd (a1 ≠ 0) <|
 some ((i64.wrap ((a0.tmod a1) + a1)).tmod a1)
theorem c_spec_nMod : ∀ {a0} {a1} {r}, F_spec_nMod a0 a1 = some r → PCalls Tryz.prog 112 [(.sh, .int .i64 a0), (.sh, .int .i64 a1)] (Eo (.int .i64 r) [.junk, .junk]) := by
 intro a0 a1 r hr
 apply pF 12 [] [] [] [.tmp 4] hr cl112 Tryz.func112
 intro Φ hΦ hF g
 unfold F_spec_nMod at hF
 obtain ⟨g, hF⟩ := Rz g hF
 obtain ⟨g, hF⟩ := Rz g hF
 cases hΦ _ (Rn_some hF)
 iterate 2 (try simp [go_sem, g]; refine pw_wk ?_)
 try simp [go_sem, g]
def D87_1 : List DE := [d0 0 [1], d0 1 [2], d1 2 [3] 3, d2 3 [9] 3 9, d1 5 [3] 3, d2 6 [12] 3 12, d3 4 [8, 10], d3 7 [7, 11, 13], d0 8 [14]]
noncomputable def F_spec_gExp (a0 : Group) (a1 : Int) (a2 : Int) : Option (Int) :=
 (F_spec_nMod a2 a0.Q).bind fun z1 =>
 (F_spec_nPower a1 z1 a0.P).bind fun z2 =>
 some z2
theorem c_spec_gExp : ∀ {a0} {a1} {a2} {r}, F_spec_gExp a0 a1 a2 = some r → PCalls Tryz.prog 87 [(.sh, .agg [.int .i64 a0.P, .int .i64 a0.Q, .int .i64 a0.G]), (.sh, .int .i64 a1), (.sh, .int .i64 a2)] (Eo (.int .i64 r) [.junk, .junk, .junk]) := by
 intro a0 a1 a2 r hr
 apply pF 15 [] [] [] [.tmp 6] hr cl87 Tryz.func87
 intro Φ hΦ hF g
 unfold F_spec_gExp at hF
 try simp [go_sem, g]
 refine pw_wk ?_
 repeat rw [sq]
 refine pw_draw D87_1 follows (by kernel_rfl) rfl ?_
 try simp only [go_sem, D87_1]
 try simp [go_sem, g]
 refine pC hF [.sh, .sh] c_spec_nMod (fun z1 hF => ?_)
 try simp [go_sem, g]
 refine pC hF [.sh, .sh, .sh] c_spec_nPower (fun z2 hF => ?_)
 try simp [go_sem, g]
 refine pw_wkK [6] (by simp [go_sem, g]; rfl) ?_
 cases hΦ _ (Rn_some hF)
 try simp [go_sem, g]
def D83_8 : List DE := [d2 0 [5] 5 5, d1 1 [5] 5, d2 2 [24] 5 24, d0 3 [0], d1 4 [5] 5, d2 5 [27] 5 27, d0 6 [28], d3 7 [26, 29], d0 8 [30], d3 9 [23, 25, 31], d1 10 [5] 5, d2 11 [33, 32] 5 33]
noncomputable def F_spec_l1Cur_group__io0 (a0c0 : (List Int)) (a0c1 : Int) (a0c2 : Int) : Option (Group × ((List Int) × Int × Int)) :=
 (F_spec_l1Cur_pick__io0 a0c0 a0c1 a0c2 6).bind fun z1 =>
 if (z1.1 == 0) = true then (
 some ((Group.mk 1000000007 500000003 4), (z1.2.1, z1.2.2.1, z1.2.2.2))) else (
 if (z1.1 == 1) = true then (
 (F_spec_l1Cur_among__io0_mv1 z1.2.1 z1.2.2.1 z1.2.2.2 [101, 1009, 1019, 65537, 999983]).bind fun z4 =>
 (F_spec_MakeGroup z4.1).bind fun z5 =>
 some (z5.1, (z4.2.1, z4.2.2.1, z4.2.2.2))) else (
 (F_spec_l1Cur_tiny__io0 z1.2.1 z1.2.2.1 z1.2.2.2).bind fun z6 =>
 (F_spec_l1Cur_pick__io0 z6.2.1 z6.2.2.1 z6.2.2.2 (i64.wrap (z6.1.Q - 1))).bind fun z7 =>
 (F_spec_gExp z6.1 z6.1.G (i64.wrap (1 + z7.1))).bind fun z8 =>
 some ((Group.mk z6.1.P z6.1.Q z8), (z7.2.1, z7.2.2.1, z7.2.2.2))))
theorem c_spec_l1Cur_group__io0 : ∀ {a0c0} {a0c1} {a0c2} {r}, F_spec_l1Cur_group__io0 a0c0 a0c1 a0c2 = some r → PCalls Tryz.prog 83 [(.io, .bx [.sl false 1 (a0c0.map row_u8), .int .i64 a0c1, .int .u64 a0c2])] (Eo (.agg [.int .i64 r.1.P, .int .i64 r.1.Q, .int .i64 r.1.G]) [.bx [.sl false 1 (r.2.1.map row_u8), .int .i64 r.2.2.1, .int .u64 r.2.2.2]]) := by
 intro a0c0 a0c1 a0c2 r hr
 apply pF 35 [0] [] [] [.cell 2 25] hr cl83 Tryz.func83
 intro Φ hΦ hF g
 unfold F_spec_l1Cur_group__io0 at hF
 try simp [go_sem, g]
 refine pw_wk ?_
 try simp [go_sem, g]
 refine pC hF [.io, .sh] c_spec_l1Cur_pick__io0 (fun z1 hF => ?_)
 try simp [go_sem, g]
 refine pw_wk ?_
 repeat rw [sq]
 rw [pw_block]
 try simp [go_sem, g]
 refine pw_wk ?_
 repeat rw [sq]
 refine pI hF (fun h2 hF => ?_) (fun h2 hF => ?_)
 ·cases hΦ _ (Rn_some hF)
  try simp [go_sem, g]
  refine pw_wk ?_
  try simp [go_sem, g]
 ·try simp [go_sem, g]
  refine pw_wk ?_
  repeat rw [sq]
  refine pI hF (fun h3 hF => ?_) (fun h3 hF => ?_)
  ·try simp [go_sem, g]
   refine pC hF [.io, .mv] c_spec_l1Cur_among__io0_mv1 (fun z4 hF => ?_)
   try simp [go_sem, g]
   refine pC hF [.sh] c_spec_MakeGroup (fun z5 hF => ?_)
   try simp [go_sem, g]
   refine pw_wkK [0, 2, 3] (by simp [go_sem, g]; rfl) ?_
   cases hΦ _ (Rn_some hF)
   try simp [go_sem, g]
   refine pw_wk ?_
   try simp [go_sem, g]
  ·try simp [go_sem, g]
   refine pw_wk ?_
   try simp [go_sem, g]
   refine pC hF [.io] c_spec_l1Cur_tiny__io0 (fun z6 hF => ?_)
   try simp [go_sem, g]
   refine pw_wkK [0, 2, 5] (by simp [go_sem, g]; rfl) ?_
   repeat rw [sq]
   refine pw_draw D83_8 follows (by kernel_rfl) rfl ?_
   try simp only [go_sem, D83_8]
   try simp [go_sem, g]
   refine pC hF [.io, .sh] c_spec_l1Cur_pick__io0 (fun z7 hF => ?_)
   try simp [go_sem, g]
   refine pC hF [.sh, .sh, .sh] c_spec_gExp (fun z8 hF => ?_)
   try simp [go_sem, g]
   refine pw_wkK [0, 2, 5] (by simp [go_sem, g]; rfl) ?_
   cases hΦ _ (Rn_some hF)
   try simp [go_sem, g]
   refine pw_wk ?_
   try simp [go_sem, g]
noncomputable def F_spec_l1Cur_anyGroup__io0 (a0c0 : (List Int)) (a0c1 : Int) (a0c2 : Int) : Option (Group × ((List Int) × Int × Int)) :=
 (F_spec_l1Cur_group__io0 a0c0 a0c1 a0c2).bind fun z1 =>
 (F_spec_l1Cur_pick__io0 z1.2.1 z1.2.2.1 z1.2.2.2 24).bind fun z2 =>
 ((if (z2.1 == 0) = true then (
 (F_spec_l1Cur_among__io0_mv1 z2.2.1 z2.2.2.1 z2.2.2.2 [0, i64.wrap (z1.1.P + 2), 4, (-7)]).bind fun z7 =>
 some ((z7.2.1, z7.2.2.1, z7.2.2.2), z7.1, z1.1.Q, z1.1.G)) else (
 if (z2.1 == 1) = true then (
 (F_spec_l1Cur_among__io0_mv1 z2.2.1 z2.2.2.1 z2.2.2.2 [0, 1, i64.wrap (z1.1.Q + 1), i64.wrap (z1.1.P - 1)]).bind fun z9 =>
 some ((z9.2.1, z9.2.2.1, z9.2.2.2), z1.1.P, z9.1, z1.1.G)) else (
 if (z2.1 == 2) = true then (
 (F_spec_l1Cur_among__io0_mv1 z2.2.1 z2.2.2.1 z2.2.2.2 [0, 1, i64.wrap (z1.1.P - 1), z1.1.P, i64.wrap (z1.1.G + 1)]).bind fun z11 =>
 some ((z11.2.1, z11.2.2.1, z11.2.2.2), z1.1.P, z1.1.Q, z11.1)) else (
 some ((z2.2.1, z2.2.2.1, z2.2.2.2), z1.1.P, z1.1.Q, z1.1.G)))) : Option ((((List Int) × Int × Int) × Int × Int × Int))).bind fun x5 =>
 some ((Group.mk x5.2.1 x5.2.2.1 x5.2.2.2), (x5.1.1, x5.1.2.1, x5.1.2.2)))
theorem c_spec_l1Cur_anyGroup__io0 : ∀ {a0c0} {a0c1} {a0c2} {r}, F_spec_l1Cur_anyGroup__io0 a0c0 a0c1 a0c2 = some r → PCalls Tryz.prog 54 [(.io, .bx [.sl false 1 (a0c0.map row_u8), .int .i64 a0c1, .int .u64 a0c2])] (Eo (.agg [.int .i64 r.1.P, .int .i64 r.1.Q, .int .i64 r.1.G]) [.bx [.sl false 1 (r.2.1.map row_u8), .int .i64 r.2.2.1, .int .u64 r.2.2.2]]) := by
 intro a0c0 a0c1 a0c2 r hr
 apply pF 44 [0] [] [] [.cell 2 25] hr cl54 Tryz.func54
 intro Φ hΦ hF g
 unfold F_spec_l1Cur_anyGroup__io0 at hF
 try simp [go_sem, g]
 refine pw_wk ?_
 try simp [go_sem, g]
 refine pC hF [.io] c_spec_l1Cur_group__io0 (fun z1 hF => ?_)
 try simp [go_sem, g]
 refine pw_wk ?_
 try simp [go_sem, g]
 refine pC hF [.io, .sh] c_spec_l1Cur_pick__io0 (fun z2 hF => ?_)
 try simp [go_sem, g]
 refine pw_wk ?_
 repeat rw [sq]
 refine pJ hF (fun x5 => [(0, .v (.bx [.sl false 1 (x5.1.1.map row_u8), .int .i64 x5.1.2.1, .int .u64 x5.1.2.2])), (2, .bl [.int .i64 0, .int .i64 0, .int .i64 0]), (3, .bl [.int .i64 x5.2.1, .int .i64 x5.2.2.1, .int .i64 x5.2.2.2])]) (fun x5 hF => ?_) fun _ hj3 hF => ?_
 ·cases hΦ _ (Rn_some hF)
  try simp [go_sem, g]
  refine pw_wk ?_
  try simp [go_sem, g]
 ·repeat rw [sq]
  rw [pw_block]
  try simp [go_sem, g]
  refine pw_wk ?_
  repeat rw [sq]
  refine pI hF (fun h6 hF => ?_) (fun h6 hF => ?_)
  ·try simp [go_sem, g]
   refine pC hF [.io, .mv] c_spec_l1Cur_among__io0_mv1 (fun z7 hF => ?_)
   try simp [go_sem, g]
   exact pT (hj3 ((z7.2.1, z7.2.2.1, z7.2.2.2), z7.1, z1.1.Q, z1.1.G)) (Rn_some hF)
  ·try simp [go_sem, g]
   refine pw_wkK [0, 2, 3, 7, 17] (by simp [go_sem, g]; rfl) ?_
   repeat rw [sq]
   refine pI hF (fun h8 hF => ?_) (fun h8 hF => ?_)
   ·try simp [go_sem, g]
    refine pC hF [.io, .mv] c_spec_l1Cur_among__io0_mv1 (fun z9 hF => ?_)
    try simp [go_sem, g]
    exact pT (hj3 ((z9.2.1, z9.2.2.1, z9.2.2.2), z1.1.P, z9.1, z1.1.G)) (Rn_some hF)
   ·try simp [go_sem, g]
    refine pw_wk ?_
    repeat rw [sq]
    refine pI hF (fun h10 hF => ?_) (fun h10 hF => ?_)
    ·try simp [go_sem, g]
     refine pC hF [.io, .mv] c_spec_l1Cur_among__io0_mv1 (fun z11 hF => ?_)
     try simp [go_sem, g]
     exact pT (hj3 ((z11.2.1, z11.2.2.1, z11.2.2.2), z1.1.P, z1.1.Q, z11.1)) (Rn_some hF)
    ·try simp [go_sem, g]
     exact pT (hj3 ((z2.2.1, z2.2.2.1, z2.2.2.2), z1.1.P, z1.1.Q, z1.1.G)) (Rn_some hF)
noncomputable def F_spec_l2Good (a0 : Group) : Option (Bool) :=
 (((F_spec_l1In a0.P 3 2000000000).bind fun z4 =>
 if z4 = true then (
 (F_spec_l1In a0.Q 2 (i64.wrap (a0.P - 1))).bind fun z6 =>
 if z6 = true then (
 gd (a0.Q ≠ 0) <|
 if (((i64.wrap (a0.P - 1)).tmod a0.Q) == 0) = true then (
 (F_spec_l1In a0.G 2 (i64.wrap (a0.P - 1))).bind fun z9 =>
 if z9 = true then (
 (F_spec_nPower a0.G a0.Q a0.P).bind fun z11 =>
 if (z11 == 1) = true then (
 (F_spec_nPrime a0.Q).bind fun z13 =>
 if z13 = true then (
 (F_spec_nPrime a0.P).bind fun z15 =>
 some z15) else (
 some false)) else (
 some false)) else (
 some false)) else (
 some false)) else (
 some false)) else (
 some false) : Option (Bool)).bind fun x3 =>
 some x3)
theorem c_spec_l2Good : ∀ {a0} {r}, F_spec_l2Good a0 = some r → PCalls Tryz.prog 55 [(.sh, .agg [.int .i64 a0.P, .int .i64 a0.Q, .int .i64 a0.G])] (Eo (.bool r) [.junk]) := by
 intro a0 r hr
 apply pF 51 [] [] [] [.tmp 2] hr cl55 Tryz.func55
 intro Φ hΦ hF g
 unfold F_spec_l2Good at hF
 try simp [go_sem, g]
 refine pw_wk ?_
 repeat rw [sq]
 refine pJ hF (fun x3 => [(2, .v (.bool x3))]) (fun x3 hF => ?_) fun _ hj1 hF => ?_
 ·cases hΦ _ (Rn_some hF)
  try simp [go_sem, g]
 ·try simp [go_sem, g]
  refine pC hF [.sh, .sh, .sh] c_spec_l1In (fun z4 hF => ?_)
  try simp [go_sem, g]
  refine pwg_F hF (fun h5 hF => ?_) fun h5 hF => ?_
  ·try simp [go_sem, g, h5]
   refine pC hF [.sh, .sh, .sh] c_spec_l1In (fun z6 hF => ?_)
   try simp [go_sem, g, h5]
   refine pwg_F hF (fun h7 hF => ?_) fun h7 hF => ?_
   ·obtain ⟨g, hF⟩ := Rz g hF
    try simp [go_sem, g, h7]
    refine pwg_F hF (fun h8 hF => ?_) fun h8 hF => ?_
    ·try simp [go_sem, g, h8]
     refine pC hF [.sh, .sh, .sh] c_spec_l1In (fun z9 hF => ?_)
     try simp [go_sem, g, h8]
     refine pwg_F hF (fun h10 hF => ?_) fun h10 hF => ?_
     ·try simp [go_sem, g, h10]
      refine pC hF [.sh, .sh, .sh] c_spec_nPower (fun z11 hF => ?_)
      try simp [go_sem, g, h10]
      refine pwg_F hF (fun h12 hF => ?_) fun h12 hF => ?_
      ·try simp [go_sem, g, h12]
       refine pC hF [.sh] c_spec_nPrime (fun z13 hF => ?_)
       try simp [go_sem, g, h12]
       refine pwg_F hF (fun h14 hF => ?_) fun h14 hF => ?_
       ·try simp [go_sem, g, h14]
        refine pC hF [.sh] c_spec_nPrime (fun z15 hF => ?_)
        try simp [go_sem, g, h14]
        exact pT (hj1 z15) (Rn_some hF)
       ·try simp [go_sem, g, h14]
        exact pT (hj1 false) (Rn_some hF)
      ·try simp [go_sem, g, h12]
       exact pT (hj1 false) (Rn_some hF)
     ·try simp [go_sem, g, h10]
      exact pT (hj1 false) (Rn_some hF)
    ·try simp [go_sem, g, h8]
     exact pT (hj1 false) (Rn_some hF)
   ·try simp [go_sem, g, h7]
    exact pT (hj1 false) (Rn_some hF)
  ·try simp [go_sem, g, h5]
   exact pT (hj1 false) (Rn_some hF)
def D111_3 : List DE := [d0 0 [0], d0 3 [0], d1 6 [3] 3, d2 7 [14] 3 14, d3 1 [8], d0 2 [9], d3 4 [11], d0 5 [10, 12], d0 8 [13, 15], d0 9 [16]]
noncomputable def F_spec_l1Cur_expo__io0 (a0c0 : (List Int)) (a0c1 : Int) (a0c2 : Int) (a1 : Group) : Option (Int × ((List Int) × Int × Int)) :=
 if decide (a1.Q < 2) = true then (
 some (0, (a0c0, a0c1, a0c2))) else (
 (F_spec_l1Cur_pick__io0 a0c0 a0c1 a0c2 60000).bind fun z2 =>
 (F_spec_l1Cur_pick__io0 z2.2.1 z2.2.2.1 z2.2.2.2 60000).bind fun z3 =>
 gd (a1.Q ≠ 0) <|
 some ((i64.wrap ((i64.wrap (z2.1 * 60000)) + z3.1)).tmod a1.Q, (z3.2.1, z3.2.2.1, z3.2.2.2)))
theorem c_spec_l1Cur_expo__io0 : ∀ {a0c0} {a0c1} {a0c2} {a1} {r}, F_spec_l1Cur_expo__io0 a0c0 a0c1 a0c2 a1 = some r → PCalls Tryz.prog 111 [(.io, .bx [.sl false 1 (a0c0.map row_u8), .int .i64 a0c1, .int .u64 a0c2]), (.sh, .agg [.int .i64 a1.P, .int .i64 a1.Q, .int .i64 a1.G])] (Eo (.int .i64 r.1) [.bx [.sl false 1 (r.2.1.map row_u8), .int .i64 r.2.2.1, .int .u64 r.2.2.2], .junk]) := by
 intro a0c0 a0c1 a0c2 a1 r hr
 apply pF 17 [0] [] [] [.tmp 4] hr cl111 Tryz.func111
 intro Φ hΦ hF g
 unfold F_spec_l1Cur_expo__io0 at hF
 iterate 2 (try simp [go_sem, g]; refine pw_wk ?_)
 repeat rw [sq]
 refine pI hF (fun h1 hF => ?_) (fun h1 hF => ?_)
 ·cases hΦ _ (Rn_some hF)
  try simp [go_sem, g]
  refine pw_wk ?_
  try simp [go_sem, g]
 ·try simp [go_sem, g]
  refine pw_wk ?_
  repeat rw [sq]
  refine pw_draw D111_3 follows (by kernel_rfl) rfl ?_
  try simp only [go_sem, D111_3]
  try simp [go_sem, g]
  refine pC hF [.io, .sh] c_spec_l1Cur_pick__io0 (fun z2 hF => ?_)
  try simp [go_sem, g]
  refine pC hF [.io, .sh] c_spec_l1Cur_pick__io0 (fun z3 hF => ?_)
  obtain ⟨g, hF⟩ := Rz g hF
  try simp [go_sem, g]
  refine pw_wkK [0, 4] (by simp [go_sem, g]; rfl) ?_
  cases hΦ _ (Rn_some hF)
  try simp [go_sem, g]
noncomputable def F_spec_l1Cur_coins__io0 (a0c0 : (List Int)) (a0c1 : Int) (a0c2 : Int) (a1 : Group) (a2 : Int) : Option ((List Int) × ((List Int) × Int × Int)) :=
 ((wloop (σ := ((List Int) × Int × Int) × Int × (List Int)) (fun s11 =>
 if decide (0 < s11.2.1) = true then (
 (F_spec_l1Cur_expo__io0 s11.1.1 s11.1.2.1 s11.1.2.2 a1).bind fun z17 =>
 gd ((s11.2.2.length + 1) * 8 ≤ 140737488355328 ∧ s11.2.2.length + 1 ≤ 4611686018427387904) <|
 some (.go ((z17.2.1, z17.2.2.1, z17.2.2.2), i64.wrap (s11.2.1 - 1), s11.2.2 ++ [z17.1]))) else (
 some (.out ((s11.1.1, s11.1.2.1, s11.1.2.2), s11.2.2)))) ((a0c0, a0c1, a0c2), a2, []) : Option ((((List Int) × Int × Int) × (List Int)))).bind fun x3 =>
 some (x3.2, (x3.1.1, x3.1.2.1, x3.1.2.2)))
theorem c_spec_l1Cur_coins__io0 : ∀ {a0c0} {a0c1} {a0c2} {a1} {a2} {r}, F_spec_l1Cur_coins__io0 a0c0 a0c1 a0c2 a1 a2 = some r → PCalls Tryz.prog 86 [(.io, .bx [.sl false 1 (a0c0.map row_u8), .int .i64 a0c1, .int .u64 a0c2]), (.sh, .agg [.int .i64 a1.P, .int .i64 a1.Q, .int .i64 a1.G]), (.sh, .int .i64 a2)] (Eo (.sl true 1 (r.1.map row_i64)) [.bx [.sl false 1 (r.2.1.map row_u8), .int .i64 r.2.2.1, .int .u64 r.2.2.2], .junk, .junk]) := by
 intro a0c0 a0c1 a0c2 a1 a2 r hr
 apply pF 19 [0] [] [] [.tmp 6] hr cl86 Tryz.func86
 intro Φ hΦ hF g
 unfold F_spec_l1Cur_coins__io0 at hF
 iterate 2 (try simp [go_sem, g]; refine pw_wk ?_)
 repeat rw [sq]
 refine pJ hF (fun x3 => [(0, .v (.bx [.sl false 1 (x3.1.1.map row_u8), .int .i64 x3.1.2.1, .int .u64 x3.1.2.2])), (7, .v (.sl true 1 (x3.2.map row_i64)))]) (fun x3 hF => ?_) fun _ hj1 hF => ?_
 ·cases hΦ _ (Rn_some hF)
  try simp [go_sem, g]
  refine pw_wk ?_
  try simp [go_sem, g]
 ·repeat rw [sq]
  rw [pw_block]
  obtain ⟨b18, hb19, hψ15⟩ := hF
  refine pL hb19 (fun s11 => [(0, .v (.bx [.sl false 1 (s11.1.1.map row_u8), .int .i64 s11.1.2.1, .int .u64 s11.1.2.2])), (2, .v (.int .i64 s11.2.1)), (4, .bl [.int .i64 a1.P, .int .i64 a1.Q, .int .i64 a1.G]), (7, .v (.sl true 1 (s11.2.2.map row_i64)))]) (fun s11 _ _ ho13 hg14 hF => ?_)
  try simp [go_sem, g]
  refine pw_wk ?_
  repeat rw [sq]
  refine pI hF (fun h16 hF => ?_) (fun h16 hF => ?_)
  ·try simp [go_sem, g]
   refine pw_wk ?_
   repeat rw [sq]
   rw [pw_block]
   try simp [go_sem, g]
   refine pC hF [.io, .sh] c_spec_l1Cur_expo__io0 (fun z17 hF => ?_)
   obtain ⟨g, hF⟩ := Rg g hF
   try simp [go_sem, g]
   refine pw_wkK [0, 2, 4, 7] (by simp [go_sem, g]; rfl) ?_
   try simp [go_sem, g]
   exact pT (hg14 ((z17.2.1, z17.2.2.1, z17.2.2.2), i64.wrap (s11.2.1 - 1), s11.2.2 ++ [z17.1])) (Rn_some hF)
  ·try simp [go_sem, g]
   cases ho13 _ (Rn_some hF)
   exact pT (hj1 ((s11.1.1, s11.1.2.1, s11.1.2.2), s11.2.2)) hψ15
noncomputable def F_spec_l1All (a0 : (List Int)) (a1 : Int) (a2 : Int) : Option (Bool) :=
 ((rloop (σ := Unit) (fun i5 s4 =>
 (ix a0 i5).bind fun x11 =>
 (F_spec_l1In x11 a1 a2).bind fun z12 =>
 if (!z12) = true then (
 some (.out (.inr false))) else (
 some (.go ()))) (fun s4 => .inl ()) (a0.length) 0 () : Option (Unit ⊕ Bool)).bind (Sum.elim (fun x3 =>
 some true) some))
theorem c_spec_l1All : ∀ {a0} {a1} {a2} {r}, F_spec_l1All a0 a1 a2 = some r → PCalls Tryz.prog 82 [(.sh, .sl false 1 (a0.map row_i64)), (.sh, .int .i64 a1), (.sh, .int .i64 a2)] (Eo (.bool r) [.junk, .junk, .junk]) := by
 intro a0 a1 a2 r hr
 apply pF 21 [] [] [] [.tmp 6] hr cl82 Tryz.func82
 intro Φ hΦ hF g
 unfold F_spec_l1All at hF
 iterate 2 (try simp [go_sem, g]; try intros; refine pw_wk ?_)
 repeat rw [sq]
 refine pJs hF (fun x3 => []) (fun x3 hF => ?_) fun _ hj1 hr2 hF => ?_
 ·cases hΦ _ (Rn_some hF)
  try simp [go_sem, g]
  refine pw_wk ?_
  try simp [go_sem, g]
 ·repeat rw [sq]
  rw [pw_block]
  obtain ⟨b14, hb15, hψ8⟩ := hF
  refine pR hb15 (fun i5 s4 => [(1, .v (.int .i64 a1)), (2, .v (.int .i64 a2)), (9, .v (.sl false 1 (a0.map row_i64))), (10, .v (.int .i64 (a0.length : Int))), (11, .v (.int .i64 i5))]) (fun s4 _ hN16 => ?_) (fun i5 s4 _ _ hi9 hi10 ho6 hg7 hF => ?_)
  ·subst hN16
   try simp [go_sem]
   refine pw_wk ?_
   repeat rw [sq]
   refine pw_cond_f (by simp [go_sem]) ?_
   try simp [go_sem]
   exact pT (hj1 ()) hψ8 (by simp [go_sem])
  ·try simp [go_sem, g]
   refine pw_wk ?_
   repeat rw [sq]
   refine pw_cond_t (by simp [go_sem, g, hi9, hi10]) ?_
   try simp [go_sem, g]
   refine pw_wk ?_
   repeat rw [sq]
   rw [pw_block]
   obtain ⟨x11, g, hF⟩ := Rx g hF
   try simp [go_sem, g]
   refine pw_wk ?_
   try simp [go_sem, g]
   refine pC hF [.sh, .sh, .sh] c_spec_l1In (fun z12 hF => ?_)
   try simp [go_sem, g]
   refine pw_wkK [1, 2, 9, 10, 11, 19] (by simp [go_sem, g]; rfl) ?_
   repeat rw [sq]
   refine pI hF (fun h13 hF => ?_) (fun h13 hF => ?_)
   ·cases ho6 _ (Rn_some hF)
    cases hΦ _ (hr2 _ hψ8)
    try simp [go_sem, g]
    refine pw_wk ?_
    try simp [go_sem, g]
   ·try simp [go_sem, g]
    refine pw_wk ?_
    try simp [go_sem, g]
    exact pT (hg7 ()) (Rn_some hF) (by simp [go_sem, g, wr_i hi9 hi10 (by assumption)])
noncomputable def F_spec_gExps (a0 : Group) (a1 : (List Int)) : Option (Bool) :=
 (F_spec_l1All a1 0 (i64.wrap (a0.Q - 1))).bind fun z1 =>
 some z1
theorem c_spec_gExps : ∀ {a0} {a1} {r}, F_spec_gExps a0 a1 = some r → PCalls Tryz.prog 113 [(.sh, .agg [.int .i64 a0.P, .int .i64 a0.Q, .int .i64 a0.G]), (.sh, .sl false 1 (a1.map row_i64))] (Eo (.bool r) [.junk, .junk]) := by
 intro a0 a1 r hr
 apply pF 10 [] [] [] [.tmp 4] hr cl113 Tryz.func113
 intro Φ hΦ hF g
 unfold F_spec_gExps at hF
 try simp [go_sem, g]
 refine pw_wk ?_
 try simp [go_sem, g]
 refine pC hF [.sh, .sh, .sh] c_spec_l1All (fun z1 hF => ?_)
 cases hΦ _ (Rn_some hF)
 try simp [go_sem, g]
 refine pw_wk ?_
 try simp [go_sem, g]
noncomputable def F_spec_l3Digest (a0 : Int) : Option (Bool) :=
 (F_spec_l1In a0 0 4611686018427387903).bind fun z1 =>
 some z1
theorem c_spec_l3Digest : ∀ {a0} {r}, F_spec_l3Digest a0 = some r → PCalls Tryz.prog 96 [(.sh, .int .i64 a0)] (Eo (.bool r) [.junk]) := by
 intro a0 r hr
 apply pF 5 [] [] [] [.tmp 2] hr cl96 Tryz.func96
 intro Φ hΦ hF g
 unfold F_spec_l3Digest at hF
 try simp [go_sem, g]
 refine pw_wk ?_
 try simp [go_sem, g]
 refine pC hF [.sh, .sh, .sh] c_spec_l1In (fun z1 hF => ?_)
 cases hΦ _ (Rn_some hF)
 try simp [go_sem, g]
 refine pw_wk ?_
 try simp [go_sem, g]
noncomputable def F_spec_oHead (a0 : Head) : Option (Bool) :=
 (((F_spec_l1In a0.Author 0 39).bind fun z4 =>
 if z4 = true then (
 (F_spec_l1In a0.Size 0 64).bind fun z6 =>
 if z6 = true then (
 (F_spec_l3Digest a0.Root).bind fun z8 =>
 some z8) else (
 some false)) else (
 some false) : Option (Bool)).bind fun x3 =>
 some x3)
theorem c_spec_oHead : ∀ {a0} {r}, F_spec_oHead a0 = some r → PCalls Tryz.prog 65 [(.sh, .agg [.int .i64 a0.Author, .int .i64 a0.Size, .int .i64 a0.Root, .sl false 1 (a0.Sign.Commits.map row_i64), .sl false 1 (a0.Sign.Challenges.map row_i64), .sl false 1 (a0.Sign.Responses.map row_i64)])] (Eo (.bool r) [.junk]) := by
 intro a0 r hr
 apply pF 16 [] [] [] [.tmp 2] hr cl65 Tryz.func65
 intro Φ hΦ hF g
 unfold F_spec_oHead at hF
 try simp [go_sem, g]
 refine pw_wk ?_
 repeat rw [sq]
 refine pJ hF (fun x3 => [(2, .v (.bool x3))]) (fun x3 hF => ?_) fun _ hj1 hF => ?_
 ·cases hΦ _ (Rn_some hF)
  try simp [go_sem, g]
 ·try simp [go_sem, g]
  refine pC hF [.sh, .sh, .sh] c_spec_l1In (fun z4 hF => ?_)
  try simp [go_sem, g]
  refine pwg_F hF (fun h5 hF => ?_) fun h5 hF => ?_
  ·try simp [go_sem, g, h5]
   refine pC hF [.sh, .sh, .sh] c_spec_l1In (fun z6 hF => ?_)
   try simp [go_sem, g, h5]
   refine pwg_F hF (fun h7 hF => ?_) fun h7 hF => ?_
   ·try simp [go_sem, g, h7]
    refine pC hF [.sh] c_spec_l3Digest (fun z8 hF => ?_)
    try simp [go_sem, g, h7]
    exact pT (hj1 z8) (Rn_some hF)
   ·try simp [go_sem, g, h7]
    exact pT (hj1 false) (Rn_some hF)
  ·try simp [go_sem, g, h5]
   exact pT (hj1 false) (Rn_some hF)
noncomputable def F_spec_l3With (a0 : ByteArray) (a1 : (List Int)) : Option ((List Int)) :=
 ((wloop (σ := (List Int) × Int) (fun s4 =>
 if decide (s4.2 < (a0.size : Int)) = true then (
 (ixs a0 s4.2).bind fun x10 =>
 gd ((s4.1.length + 1) * 8 ≤ 140737488355328 ∧ s4.1.length + 1 ≤ 4611686018427387904) <|
 some (.go (s4.1 ++ [i64.wrap x10], i64.wrap (s4.2 + 1)))) else (
 some (.out s4.1))) ([(a0.size : Int)], 0) : Option ((List Int))).bind fun x3 =>
 gd ((x3.length + a1.length) * 8 ≤ 140737488355328 ∧ x3.length + a1.length ≤ 4611686018427387904) <|
 some (x3 ++ a1))
theorem c_spec_l3With : ∀ {a0} {a1} {r}, F_spec_l3With a0 a1 = some r → PCalls Tryz.prog 148 [(.sh, .str a0), (.sh, .sl false 1 (a1.map row_i64))] (Eo (.sl true 1 (r.map row_i64)) [.junk, .junk]) := by
 intro a0 a1 r hr
 apply pF 26 [] [] [] [.tmp 4] hr cl148 Tryz.func148
 intro Φ hΦ hF g
 unfold F_spec_l3With at hF
 iterate 3 (try simp [go_sem, g]; refine pw_wk ?_)
 repeat rw [sq]
 refine pJ hF (fun x3 => [(1, .v (.sl false 1 (a1.map row_i64))), (5, .v (.sl true 1 (x3.map row_i64)))]) (fun x3 hF => ?_) fun _ hj1 hF => ?_
 ·obtain ⟨g, hF⟩ := Rg g hF
  try simp [go_sem, g]
  refine pw_wkK [4] (by simp [go_sem, g]; rfl) ?_
  cases hΦ _ (Rn_some hF)
  try simp [go_sem, g]
 ·repeat rw [sq]
  rw [pw_block]
  obtain ⟨b11, hb12, hψ8⟩ := hF
  refine pL hb12 (fun s4 => [(0, .v (.str a0)), (1, .v (.sl false 1 (a1.map row_i64))), (5, .v (.sl true 1 (s4.1.map row_i64))), (6, .v (.int .i64 s4.2))]) (fun s4 _ _ ho6 hg7 hF => ?_)
  try simp [go_sem, g]
  refine pw_wkK [0, 1, 5, 6, 13] (by simp [go_sem, g]; rfl) ?_
  repeat rw [sq]
  refine pI hF (fun h9 hF => ?_) (fun h9 hF => ?_)
  ·try simp [go_sem, g]
   refine pw_wk ?_
   repeat rw [sq]
   rw [pw_block]
   obtain ⟨x10, g, hF⟩ := Rxs g hF
   obtain ⟨g, hF⟩ := Rg g hF
   try simp [go_sem, g]
   refine pw_wk ?_
   try simp [go_sem, g]
   exact pT (hg7 (s4.1 ++ [i64.wrap x10], i64.wrap (s4.2 + 1))) (Rn_some hF)
  ·try simp [go_sem, g]
   cases ho6 _ (Rn_some hF)
   exact pT (hj1 s4.1) hψ8
noncomputable def F_spec_l3State_absorb__io0 (a0c0 : Int) (a0c1 : Int) (a1 : Int) : Option ((Int × Int)) :=
 (some [a1.tmod 2147483648, i64.wrap (a1.tdiv 2147483648)]).bind fun x1 =>
 wloop (σ := (Int × Int) × Int) (fun s10 =>
 if decide (s10.2 < (x1.length : Int)) = true then (
 (ix x1 s10.2).bind fun x16 =>
 some (.go (((i64.wrap ((i64.wrap ((i64.wrap (48271 * s10.1.1)) + x16)) + 1)).tmod 2147483647, (i64.wrap ((i64.wrap ((i64.wrap (69621 * s10.1.2)) + x16)) + 1)).tmod 2147483647), i64.wrap (s10.2 + 1)))) else (
 some (.out (s10.1.1, s10.1.2)))) ((a0c0, a0c1), 0)
theorem c_spec_l3State_absorb__io0 : ∀ {a0c0} {a0c1} {a1} {r}, F_spec_l3State_absorb__io0 a0c0 a0c1 a1 = some r → PCalls Tryz.prog 149 [(.io, .bx [.int .i64 a0c0, .int .i64 a0c1]), (.sh, .int .i64 a1)] (Eo (.junk) [.bx [.int .i64 r.1, .int .i64 r.2], .junk]) := by
 intro a0c0 a0c1 a1 r hr
 apply pF 41 [0] [] [] [] hr cl149 Tryz.func149
 intro Φ hΦ hF g
 unfold F_spec_l3State_absorb__io0 at hF
 have g := Ld g 2147483648
 obtain ⟨x1, e2, hF⟩ := Rn_bind hF
 have g := And.intro g (show [[.int .i64 (a1.tmod 2147483648)], [.int .i64 (i64.wrap (a1.tdiv 2147483648))]] = x1.map row_i64 by injection e2 with e2; rw [← e2]; simp [go_sem])
 try simp [go_sem, g]
 try intros
 refine pw_wk ?_
 repeat rw [sq]
 rw [pw_block]
 obtain ⟨b17, hb18, hψ14⟩ := hF
 refine pL hb18 (fun s10 => [(0, .v (.bx [.int .i64 s10.1.1, .int .i64 s10.1.2])), (10, .v (.sl true 1 (x1.map row_i64))), (11, .v (.int .i64 (x1.length : Int))), (12, .v (.int .i64 s10.2))]) (fun s10 _ _ ho12 hg13 hF => ?_)
 try simp [go_sem, g]
 refine pw_wk ?_
 repeat rw [sq]
 refine pI hF (fun h15 hF => ?_) (fun h15 hF => ?_)
 ·try simp [go_sem, g]
  refine pw_wk ?_
  repeat rw [sq]
  rw [pw_block]
  obtain ⟨x16, g, hF⟩ := Rx g hF
  try simp [go_sem, g]
  refine pw_wkK [0, 5, 10, 11, 12] (by simp [go_sem, g]; rfl) ?_
  have g := Ld g 2147483647
  try simp [go_sem, g]
  refine pw_wkK [0, 5, 10, 11, 12] (by simp [go_sem, g]; rfl) ?_
  try simp [go_sem, g]
  refine pw_wkK [0, 10, 11, 12] (by simp [go_sem, g]; rfl) ?_
  try simp [go_sem, g]
  exact pT (hg13 (((i64.wrap ((i64.wrap ((i64.wrap (48271 * s10.1.1)) + x16)) + 1)).tmod 2147483647, (i64.wrap ((i64.wrap ((i64.wrap (69621 * s10.1.2)) + x16)) + 1)).tmod 2147483647), i64.wrap (s10.2 + 1))) (Rn_some hF)
 ·cases ho12 _ (Rn_some hF)
  cases hΦ _ hψ14
  try simp [go_sem, g]
def D130_8 : List DE := [d0 0 [3], d0 1 [22], d0 2 [23], d0 3 [24], d0 4 [25], d0 5 [3], d0 6 [27], d0 7 [28], d0 8 [29], d0 9 [26, 30], d0 10 [31]]
noncomputable def F_spec_hInts (a0 : (List Int)) : Option (Int) :=
 (F_spec_l3State_absorb__io0 1 2 (a0.length : Int)).bind fun z1 =>
 ((rloop (σ := (Int × Int)) (fun i15 s14 =>
 (ix a0 i15).bind fun x21 =>
 (F_spec_l3State_absorb__io0 s14.1 s14.2 x21).bind fun z22 =>
 some (.go (z22.1, z22.2))) (fun s14 => (s14.1, s14.2)) (a0.length) 0 (z1.1, z1.2) : Option ((Int × Int))).bind fun x4 =>
 some (i64.wrap ((i64.wrap (x4.1 * 2147483648)) + x4.2)))
theorem c_spec_hInts : ∀ {a0} {r}, F_spec_hInts a0 = some r → PCalls Tryz.prog 130 [(.sh, .sl false 1 (a0.map row_i64))] (Eo (.int .i64 r) [.junk]) := by
 intro a0 r hr
 apply pF 32 [] [] [7] [.tmp 2] hr cl130 Tryz.func130
 intro Φ hΦ hF g
 unfold F_spec_hInts at hF
 iterate 2 (try simp [go_sem, g]; try intros; refine pw_wk ?_)
 try simp [go_sem, g]
 try intros
 refine pC hF [.io, .sh] c_spec_l3State_absorb__io0 (fun z1 hF => ?_)
 try simp [go_sem, g]
 try intros
 refine pw_wk ?_
 try simp [go_sem, g]
 try intros
 refine pw_wkK [3, 12, 13, 14] (by simp [go_sem, g]; rfl) ?_
 repeat rw [sq]
 refine pJ hF (fun x4 => [(3, .v (.bx [.int .i64 x4.1, .int .i64 x4.2]))]) (fun x4 hF => ?_) fun _ hj2 hF => ?_
 ·repeat rw [sq]
  refine pw_draw D130_8 follows (by kernel_rfl) rfl ?_
  try simp only [go_sem, D130_8]
  try simp [go_sem, g]
  refine pw_wkK [2] (by simp [go_sem, g]; rfl) ?_
  cases hΦ _ (Rn_some hF)
  try simp [go_sem, g]
 ·repeat rw [sq]
  rw [pw_block]
  obtain ⟨b23, hb24, hψ18⟩ := hF
  refine pR hb24 (fun i15 s14 => [(3, .v (.bx [.int .i64 s14.1, .int .i64 s14.2])), (12, .v (.sl false 1 (a0.map row_i64))), (13, .v (.int .i64 (a0.length : Int))), (14, .v (.int .i64 i15))]) (fun s14 _ hN25 => ?_) (fun i15 s14 _ _ hi19 hi20 ho16 hg17 hF => ?_)
  ·subst hN25
   try simp [go_sem]
   refine pw_wk ?_
   repeat rw [sq]
   refine pw_cond_f (by simp [go_sem]) ?_
   try simp [go_sem]
   exact pT (hj2 (s14.1, s14.2)) hψ18 (by simp [go_sem])
  ·try simp [go_sem, g]
   refine pw_wk ?_
   repeat rw [sq]
   refine pw_cond_t (by simp [go_sem, g, hi19, hi20]) ?_
   try simp [go_sem, g]
   refine pw_wk ?_
   repeat rw [sq]
   rw [pw_block]
   obtain ⟨x21, g, hF⟩ := Rx g hF
   try simp [go_sem, g]
   refine pw_wk ?_
   try simp [go_sem, g]
   refine pC hF [.io, .sh] c_spec_l3State_absorb__io0 (fun z22 hF => ?_)
   try simp [go_sem, g]
   refine pw_wk ?_
   try simp [go_sem, g]
   exact pT (hg17 (z22.1, z22.2)) (Rn_some hF) (by simp [go_sem, g, wr_i hi19 hi20 (by assumption)])
noncomputable def F_spec_hLabelled (a0 : ByteArray) (a1 : (List Int)) : Option (Int) :=
 (F_spec_l3With a0 a1).bind fun z1 =>
 (F_spec_hInts z1).bind fun z2 =>
 some z2
theorem c_spec_hLabelled : ∀ {a0} {a1} {r}, F_spec_hLabelled a0 a1 = some r → PCalls Tryz.prog 129 [(.sh, .str a0), (.sh, .sl false 1 (a1.map row_i64))] (Eo (.int .i64 r) [.junk, .junk]) := by
 intro a0 a1 r hr
 apply pF 9 [] [] [] [.tmp 4] hr cl129 Tryz.func129
 intro Φ hΦ hF g
 unfold F_spec_hLabelled at hF
 try simp [go_sem, g]
 refine pw_wk ?_
 try simp [go_sem, g]
 refine pC hF [.sh, .sh] c_spec_l3With (fun z1 hF => ?_)
 try simp [go_sem, g]
 refine pC hF [.sh] c_spec_hInts (fun z2 hF => ?_)
 cases hΦ _ (Rn_some hF)
 try simp [go_sem, g]
 refine pw_wk ?_
 try simp [go_sem, g]
noncomputable def F_spec_DigestText (a0 : Int) : Option (ByteArray × Bool) :=
 (F_spec_l3Digest a0).bind fun z1 =>
 if (!z1) = true then (
 some ((⟨#[]⟩ : ByteArray), false)) else (
 gd (0 ≤ 16 ∧ 16 ≤ 16 ∧ 1 * 16 ≤ 140737488355328 ∧ 16 ≤ 4611686018427387904) <|
 (some (List.replicate 16 0)).bind fun x3 =>
 ((wloop (σ := Int × (List Int) × Int) (fun s17 =>
 if decide (0 ≤ s17.2.2) = true then (
 (ixs (⟨#[48, 49, 50, 51, 52, 53, 54, 55, 56, 57, 97, 98, 99, 100, 101, 102]⟩ : ByteArray) (s17.1.tmod 16)).bind fun x23 =>
 (ix s17.2.1 s17.2.2).bind fun x24 =>
 some (.go (i64.wrap (s17.1.tdiv 16), s17.2.1.set s17.2.2.toNat x23, i64.wrap (s17.2.2 - 1)))) else (
 some (.out s17.2.1))) (a0, x3, 15) : Option ((List Int))).bind fun x8 =>
 some ((bytesOf x8), true)))
theorem c_spec_DigestText : ∀ {a0} {r}, F_spec_DigestText a0 = some r → PCalls Tryz.prog 147 [(.sh, .int .i64 a0)] (Eo (.tup [.str r.1, .bool r.2]) [.junk]) := by
 intro a0 r hr
 apply pF 24 [] [] [1000000] [.tmp 2, .tmp 3] hr cl147 Tryz.func147
 intro Φ hΦ hF g
 unfold F_spec_DigestText at hF
 try simp [go_sem, g]
 refine pw_wk ?_
 try simp [go_sem, g]
 refine pC hF [.sh] c_spec_l3Digest (fun z1 hF => ?_)
 try simp [go_sem, g]
 refine pw_wk ?_
 repeat rw [sq]
 refine pI hF (fun h2 hF => ?_) (fun h2 hF => ?_)
 ·cases hΦ _ (Rn_some hF)
  try simp [go_sem, g]
  refine pw_wk ?_
  try simp [go_sem, g]
 ·obtain ⟨g, hF⟩ := Rg g hF
  obtain ⟨x3, e4, hF⟩ := Rn_bind hF
  have g5 : List.replicate 16 ([.int .u8 0] : List PV) = x3.map row_u8 := by injection e4 with e4; rw [← e4]; simp [go_sem]
  have g5b := g5
  try simp at g5b
  iterate 3 (try simp [go_sem, g, g5, g5b]; refine pw_wk ?_)
  repeat rw [sq]
  refine pJ hF (fun x8 => [(4, .v (.sl true 1 (x8.map row_u8)))]) (fun x8 hF => ?_) fun _ hj6 hF => ?_
  ·try simp [go_sem, g]
   refine pw_wkK [2, 3] (by simp [go_sem, g]; rfl) ?_
   cases hΦ _ (Rn_some hF)
   try simp [go_sem, g]
  ·repeat rw [sq]
   rw [pw_block]
   obtain ⟨b25, hb26, hψ21⟩ := hF
   refine pL hb26 (fun s17 => [(0, .v (.int .i64 s17.1)), (4, .v (.sl true 1 (s17.2.1.map row_u8))), (5, .v (.int .i64 s17.2.2))]) (fun s17 _ _ ho19 hg20 hF => ?_)
   try simp [go_sem, g]
   refine pw_wkK [0, 4, 5, 11] (by simp [go_sem, g]; rfl) ?_
   repeat rw [sq]
   refine pI hF (fun h22 hF => ?_) (fun h22 hF => ?_)
   ·try simp [go_sem, g]
    refine pw_wk ?_
    repeat rw [sq]
    rw [pw_block]
    have g := Ld g 16
    obtain ⟨x23, g, hF⟩ := Rxs g hF
    obtain ⟨x24, g, hF⟩ := Rx g hF
    try simp [go_sem, g]
    refine pw_wk ?_
    try simp [go_sem, g]
    refine pw_wkK [0, 4, 5] (by simp [go_sem, g]; rfl) ?_
    try simp [go_sem, g]
    exact pT (hg20 (i64.wrap (s17.1.tdiv 16), s17.2.1.set s17.2.2.toNat x23, i64.wrap (s17.2.2 - 1))) (Rn_some hF)
   ·try simp [go_sem, g]
    cases ho19 _ (Rn_some hF)
    exact pT (hj6 s17.2.1) hψ21
noncomputable def F_spec_oText (a0 : Int) : Option (ByteArray) :=
 (F_spec_DigestText a0).bind fun z1 =>
 some z1.1
theorem c_spec_oText : ∀ {a0} {r}, F_spec_oText a0 = some r → PCalls Tryz.prog 128 [(.sh, .int .i64 a0)] (Eo (.str r) [.junk]) := by
 intro a0 r hr
 apply pF 11 [] [] [] [.tmp 2] hr cl128 Tryz.func128
 intro Φ hΦ hF g
 unfold F_spec_oText at hF
 try simp [go_sem, g]
 refine pw_wk ?_
 try simp [go_sem, g]
 refine pC hF [.sh] c_spec_DigestText (fun z1 hF => ?_)
 try simp [go_sem, g]
 refine pw_wk ?_
 try simp [go_sem, g]
 refine pw_wkK [2] (by simp [go_sem, g]; rfl) ?_
 cases hΦ _ (Rn_some hF)
 try simp [go_sem, g]
noncomputable def F_spec_oHeadLabel (a0 : Head) : Option (ByteArray) :=
 (F_spec_hLabelled (⟨#[104, 101, 97, 100]⟩ : ByteArray) [a0.Author, a0.Size, a0.Root]).bind fun z1 =>
 (F_spec_oText z1).bind fun z2 =>
 gd ((⟨#[104, 101, 97, 100, 32]⟩ : ByteArray).size + z2.size ≤ 9223372036854775807) <|
 some ((⟨#[104, 101, 97, 100, 32]⟩ : ByteArray) ++ z2)
theorem c_spec_oHeadLabel : ∀ {a0} {r}, F_spec_oHeadLabel a0 = some r → PCalls Tryz.prog 115 [(.sh, .agg [.int .i64 a0.Author, .int .i64 a0.Size, .int .i64 a0.Root, .sl false 1 (a0.Sign.Commits.map row_i64), .sl false 1 (a0.Sign.Challenges.map row_i64), .sl false 1 (a0.Sign.Responses.map row_i64)])] (Eo (.str r) [.junk]) := by
 intro a0 r hr
 apply pF 13 [] [] [] [.tmp 2] hr cl115 Tryz.func115
 intro Φ hΦ hF g
 unfold F_spec_oHeadLabel at hF
 try simp [go_sem, g]
 refine pw_wk ?_
 try simp [go_sem, g]
 refine pC hF [.sh, .sh] c_spec_hLabelled (fun z1 hF => ?_)
 try simp [go_sem, g]
 refine pC hF [.sh] c_spec_oText (fun z2 hF => ?_)
 obtain ⟨g, hF⟩ := Rsa g hF
 try simp [go_sem, g]
 refine pw_wkK [2] (by simp [go_sem, g]; rfl) ?_
 cases hΦ _ (Rn_some hF)
 try simp [go_sem, g]
def D150_5 : List DE := [d0 0 [7], d2 1 [3] 3 3, d0 2 [9], d0 3 [2], d0 4 [8], d0 5 [20, 21], d0 6 [22], d1 9 [3] 3, d2 10 [26] 3 26, d3 7 [18, 19, 23], d0 8 [17, 24], d0 11 [25, 27], d0 12 [28]]
noncomputable def F_spec_gProd (a0 : Group) (a1 : (List Int)) (a2 : (List Int)) : Option (Int) :=
 ((rloop (σ := Int) (fun i5 s4 =>
 (ix a1 i5).bind fun x11 =>
 (ix a2 i5).bind fun x12 =>
 (F_spec_gExp a0 x11 x12).bind fun z13 =>
 gd (a0.P ≠ 0) <|
 some (.go ((i64.wrap (s4 * z13)).tmod a0.P))) (fun s4 => s4) (a1.length) 0 1 : Option (Int)).bind fun x3 =>
 some x3)
theorem c_spec_gProd : ∀ {a0} {a1} {a2} {r}, F_spec_gProd a0 a1 a2 = some r → PCalls Tryz.prog 150 [(.sh, .agg [.int .i64 a0.P, .int .i64 a0.Q, .int .i64 a0.G]), (.sh, .sl false 1 (a1.map row_i64)), (.sh, .sl false 1 (a2.map row_i64))] (Eo (.int .i64 r) [.junk, .junk, .junk]) := by
 intro a0 a1 a2 r hr
 apply pF 31 [] [] [] [.tmp 6] hr cl150 Tryz.func150
 intro Φ hΦ hF g
 unfold F_spec_gProd at hF
 iterate 3 (try simp [go_sem, g]; try intros; refine pw_wk ?_)
 repeat rw [sq]
 refine pJ hF (fun x3 => [(7, .v (.int .i64 x3))]) (fun x3 hF => ?_) fun _ hj1 hF => ?_
 ·cases hΦ _ (Rn_some hF)
  try simp [go_sem, g]
  refine pw_wk ?_
  try simp [go_sem, g]
 ·repeat rw [sq]
  rw [pw_block]
  obtain ⟨b14, hb15, hψ8⟩ := hF
  refine pR hb15 (fun i5 s4 => [(2, .v (.sl false 1 (a2.map row_i64))), (3, .bl [.int .i64 a0.P, .int .i64 a0.Q, .int .i64 a0.G]), (7, .v (.int .i64 s4)), (10, .v (.sl false 1 (a1.map row_i64))), (11, .v (.int .i64 (a1.length : Int))), (12, .v (.int .i64 i5))]) (fun s4 _ hN16 => ?_) (fun i5 s4 _ _ hi9 hi10 ho6 hg7 hF => ?_)
  ·subst hN16
   try simp [go_sem]
   refine pw_wk ?_
   repeat rw [sq]
   refine pw_cond_f (by simp [go_sem]) ?_
   try simp [go_sem]
   exact pT (hj1 s4) hψ8 (by simp [go_sem])
  ·try simp [go_sem, g]
   refine pw_wk ?_
   repeat rw [sq]
   refine pw_cond_t (by simp [go_sem, g, hi9, hi10]) ?_
   try simp [go_sem, g]
   refine pw_wk ?_
   repeat rw [sq]
   rw [pw_block]
   obtain ⟨x11, g, hF⟩ := Rx g hF
   try simp [go_sem, g]
   refine pw_wkK [2, 3, 7, 8, 9, 10, 11, 12] (by simp [go_sem, g]; rfl) ?_
   repeat rw [sq]
   refine pw_draw D150_5 follows (by kernel_rfl) rfl ?_
   try simp only [go_sem, D150_5]
   obtain ⟨x12, g, hF⟩ := Rx g hF
   try simp [go_sem, g]
   refine pC hF [.sh, .sh, .sh] c_spec_gExp (fun z13 hF => ?_)
   obtain ⟨g, hF⟩ := Rz g hF
   try simp [go_sem, g]
   refine pw_wkK [2, 3, 7, 10, 11, 12] (by simp [go_sem, g]; rfl) ?_
   try simp [go_sem, g]
   exact pT (hg7 ((i64.wrap (s4 * z13)).tmod a0.P)) (Rn_some hF) (by simp [go_sem, g, wr_i hi9 hi10 (by assumption)])
noncomputable def F_spec_sImages (a0 : Group) (a1 : (List (List Int))) (a2 : (List Int)) : Option ((List Int)) :=
 ((rloop (σ := (List Int)) (fun i5 s4 =>
 (ix a1 i5).bind fun x11 =>
 (F_spec_gProd a0 x11 a2).bind fun z12 =>
 gd ((s4.length + 1) * 8 ≤ 140737488355328 ∧ s4.length + 1 ≤ 4611686018427387904) <|
 some (.go (s4 ++ [z12]))) (fun s4 => s4) (a1.length) 0 [] : Option ((List Int))).bind fun x3 =>
 some x3)
theorem c_spec_sImages : ∀ {a0} {a1} {a2} {r}, F_spec_sImages a0 a1 a2 = some r → PCalls Tryz.prog 144 [(.sh, .agg [.int .i64 a0.P, .int .i64 a0.Q, .int .i64 a0.G]), (.sh, .sl false 1 (a1.map row_zi64)), (.sh, .sl false 1 (a2.map row_i64))] (Eo (.sl true 1 (r.map row_i64)) [.junk, .junk, .junk]) := by
 intro a0 a1 a2 r hr
 apply pF 25 [] [] [] [.tmp 6] hr cl144 Tryz.func144
 intro Φ hΦ hF g
 unfold F_spec_sImages at hF
 iterate 3 (try simp [go_sem, g]; try intros; refine pw_wk ?_)
 repeat rw [sq]
 refine pJ hF (fun x3 => [(7, .v (.sl true 1 (x3.map row_i64)))]) (fun x3 hF => ?_) fun _ hj1 hF => ?_
 ·cases hΦ _ (Rn_some hF)
  try simp [go_sem, g]
  refine pw_wk ?_
  try simp [go_sem, g]
 ·repeat rw [sq]
  rw [pw_block]
  obtain ⟨b13, hb14, hψ8⟩ := hF
  refine pR hb14 (fun i5 s4 => [(2, .v (.sl false 1 (a2.map row_i64))), (3, .bl [.int .i64 a0.P, .int .i64 a0.Q, .int .i64 a0.G]), (7, .v (.sl true 1 (s4.map row_i64))), (10, .v (.sl false 1 (a1.map row_zi64))), (11, .v (.int .i64 (a1.length : Int))), (12, .v (.int .i64 i5))]) (fun s4 _ hN15 => ?_) (fun i5 s4 _ _ hi9 hi10 ho6 hg7 hF => ?_)
  ·subst hN15
   try simp [go_sem]
   refine pw_wk ?_
   repeat rw [sq]
   refine pw_cond_f (by simp [go_sem]) ?_
   try simp [go_sem]
   exact pT (hj1 s4) hψ8 (by simp [go_sem])
  ·try simp [go_sem, g]
   refine pw_wk ?_
   repeat rw [sq]
   refine pw_cond_t (by simp [go_sem, g, hi9, hi10]) ?_
   try simp [go_sem, g]
   refine pw_wk ?_
   repeat rw [sq]
   rw [pw_block]
   obtain ⟨x11, g, hF⟩ := Rx g hF
   try simp [go_sem, g]
   refine pw_wkK [2, 3, 7, 9, 10, 11, 12] (by simp [go_sem, g]; rfl) ?_
   try simp [go_sem, g]
   refine pC hF [.sh, .sh, .sh] c_spec_gProd (fun z12 hF => ?_)
   obtain ⟨g, hF⟩ := Rg g hF
   try simp [go_sem, g]
   refine pw_wk ?_
   try simp [go_sem, g]
   exact pT (hg7 (s4 ++ [z12])) (Rn_some hF) (by simp [go_sem, g, wr_i hi9 hi10 (by assumption)])
noncomputable def F_spec_sStatement (a0 : (List (List Int))) (a1 : (List Int)) (a2 : (List Int)) : Option ((List Int)) :=
 ((rloop (σ := (List Int)) (fun i5 s4 =>
 (ix a0 i5).bind fun x11 =>
 gd ((s4.length + x11.length) * 8 ≤ 140737488355328 ∧ s4.length + x11.length ≤ 4611686018427387904) <|
 some (.go (s4 ++ x11))) (fun s4 => s4) (a0.length) 0 [] : Option ((List Int))).bind fun x3 =>
 gd ((x3.length + a1.length) * 8 ≤ 140737488355328 ∧ x3.length + a1.length ≤ 4611686018427387904) <|
 gd (((x3 ++ a1).length + a2.length) * 8 ≤ 140737488355328 ∧ (x3 ++ a1).length + a2.length ≤ 4611686018427387904) <|
 some (x3 ++ a1 ++ a2))
theorem c_spec_sStatement : ∀ {a0} {a1} {a2} {r}, F_spec_sStatement a0 a1 a2 = some r → PCalls Tryz.prog 146 [(.sh, .sl false 1 (a0.map row_zi64)), (.sh, .sl false 1 (a1.map row_i64)), (.sh, .sl false 1 (a2.map row_i64))] (Eo (.sl true 1 (r.map row_i64)) [.junk, .junk, .junk]) := by
 intro a0 a1 a2 r hr
 apply pF 25 [] [] [] [.tmp 6] hr cl146 Tryz.func146
 intro Φ hΦ hF g
 unfold F_spec_sStatement at hF
 iterate 3 (try simp [go_sem, g]; try intros; refine pw_wk ?_)
 repeat rw [sq]
 refine pJ hF (fun x3 => [(1, .v (.sl false 1 (a1.map row_i64))), (2, .v (.sl false 1 (a2.map row_i64))), (7, .v (.sl true 1 (x3.map row_i64)))]) (fun x3 hF => ?_) fun _ hj1 hF => ?_
 ·obtain ⟨g, hF⟩ := Rg g hF
  obtain ⟨g, hF⟩ := Rg g hF
  try simp [go_sem, g]
  refine pw_wkK [6] (by simp [go_sem, g]; rfl) ?_
  cases hΦ _ (Rn_some hF)
  try simp [go_sem, g]
 ·repeat rw [sq]
  rw [pw_block]
  obtain ⟨b12, hb13, hψ8⟩ := hF
  refine pR hb13 (fun i5 s4 => [(1, .v (.sl false 1 (a1.map row_i64))), (2, .v (.sl false 1 (a2.map row_i64))), (7, .v (.sl true 1 (s4.map row_i64))), (10, .v (.sl false 1 (a0.map row_zi64))), (11, .v (.int .i64 (a0.length : Int))), (12, .v (.int .i64 i5))]) (fun s4 _ hN14 => ?_) (fun i5 s4 _ _ hi9 hi10 ho6 hg7 hF => ?_)
  ·subst hN14
   try simp [go_sem]
   refine pw_wk ?_
   repeat rw [sq]
   refine pw_cond_f (by simp [go_sem]) ?_
   try simp [go_sem]
   exact pT (hj1 s4) hψ8 (by simp [go_sem])
  ·try simp [go_sem, g]
   refine pw_wk ?_
   repeat rw [sq]
   refine pw_cond_t (by simp [go_sem, g, hi9, hi10]) ?_
   try simp [go_sem, g]
   refine pw_wk ?_
   repeat rw [sq]
   rw [pw_block]
   obtain ⟨x11, g, hF⟩ := Rx g hF
   obtain ⟨g, hF⟩ := Rg g hF
   try simp [go_sem, g]
   refine pw_wk ?_
   try simp [go_sem, g]
   refine pw_wkK [1, 2, 7, 10, 11, 12] (by simp [go_sem, g]; rfl) ?_
   try simp [go_sem, g]
   exact pT (hg7 (s4 ++ x11)) (Rn_some hF) (by simp [go_sem, g, wr_i hi9 hi10 (by assumption)])
def D145_1 : List DE := [d0 0 [1], d1 1 [3] 3, d2 2 [8] 3 8, d1 3 [3] 3, d2 4 [10] 3 10, d1 5 [3] 3, d2 6 [12] 3 12, d0 7 [9, 11, 13], d0 8 [2], d1 11 [3] 3, d2 12 [18] 3 18, ⟨9, [14, 15], [], none, true, false, false⟩, d3 10 [7, 16], d0 13 [17, 19], d0 14 [20]]
noncomputable def F_spec_hChallenge (a0 : Group) (a1 : ByteArray) (a2 : (List Int)) : Option (Int) :=
 gd (([a0.P, a0.Q, a0.G].length + a2.length) * 8 ≤ 140737488355328 ∧ [a0.P, a0.Q, a0.G].length + a2.length ≤ 4611686018427387904) <|
 (F_spec_hLabelled a1 ([a0.P, a0.Q, a0.G] ++ a2)).bind fun z1 =>
 gd (a0.Q ≠ 0) <|
 some (z1.tmod a0.Q)
theorem c_spec_hChallenge : ∀ {a0} {a1} {a2} {r}, F_spec_hChallenge a0 a1 a2 = some r → PCalls Tryz.prog 145 [(.sh, .agg [.int .i64 a0.P, .int .i64 a0.Q, .int .i64 a0.G]), (.sh, .str a1), (.sh, .sl false 1 (a2.map row_i64))] (Eo (.int .i64 r) [.junk, .junk, .junk]) := by
 intro a0 a1 a2 r hr
 apply pF 21 [] [] [] [.tmp 6] hr cl145 Tryz.func145
 intro Φ hΦ hF g
 unfold F_spec_hChallenge at hF
 try simp [go_sem, g]
 refine pw_wk ?_
 repeat rw [sq]
 refine pw_draw D145_1 follows (by kernel_rfl) rfl ?_
 try simp only [go_sem, D145_1]
 obtain ⟨g, hF⟩ := Rg g hF
 try simp [go_sem, g]
 refine pC hF [.sh, .sh] c_spec_hLabelled (fun z1 hF => ?_)
 obtain ⟨g, hF⟩ := Rz g hF
 try simp [go_sem, g]
 refine pw_wkK [6] (by simp [go_sem, g]; rfl) ?_
 cases hΦ _ (Rn_some hF)
 try simp [go_sem, g]
def D127_2 : List DE := [d2 0 [5] 5 5, d0 1 [1], d0 2 [2], d2 3 [5] 5 5, d0 4 [2], d0 5 [3], d1 7 [11] 11, d2 8 [27] 11 27, d3 6 [23, 24, 25], d3 9 [22, 26, 28], d3 10 [20, 21, 29], d0 11 [30]]
def D127_7 : List DE := [d1 0 [11] 11, d2 1 [41] 11 41, d0 2 [4], d0 3 [13], d0 4 [43, 44], d0 5 [45], d0 6 [12], d0 7 [14], d0 8 [47, 48], d0 9 [46, 49], d1 10 [5] 5, d2 11 [51] 5 51, d0 12 [50, 52], d0 13 [53], ⟨14, [42, 54], [], none, true, false, false⟩, d1 15 [11] 11, d2 16 [56, 55] 11 56]
noncomputable def F_spec_sProve (a0 : Group) (a1 : ByteArray) (a2 : (List (List Int))) (a3 : (List Int)) (a4 : (List Int)) : Option (Proof) :=
 (F_spec_sImages a0 a2 a4).bind fun z1 =>
 (F_spec_sImages a0 a2 a3).bind fun z2 =>
 (F_spec_sStatement a2 z2 z1).bind fun z3 =>
 (F_spec_hChallenge a0 a1 z3).bind fun z4 =>
 ((rloop (σ := (List Int) × (List Int) × (List Int)) (fun i18 s17 =>
 (ix a3 i18).bind fun x24 =>
 (ix a4 i18).bind fun x25 =>
 gd (a0.Q ≠ 0) <|
 gd ((s17.2.2.length + 1) * 8 ≤ 140737488355328 ∧ s17.2.2.length + 1 ≤ 4611686018427387904) <|
 some (.go (s17.1, s17.2.1, s17.2.2 ++ [(i64.wrap (x25 + (i64.wrap (z4 * x24)))).tmod a0.Q]))) (fun s17 => (s17.1, s17.2.1, s17.2.2)) (a3.length) 0 (z1, [z4], []) : Option (((List Int) × (List Int) × (List Int)))).bind fun x7 =>
 some (Proof.mk x7.1 x7.2.1 x7.2.2))
theorem c_spec_sProve : ∀ {a0} {a1} {a2} {a3} {a4} {r}, F_spec_sProve a0 a1 a2 a3 a4 = some r → PCalls Tryz.prog 127 [(.sh, .agg [.int .i64 a0.P, .int .i64 a0.Q, .int .i64 a0.G]), (.sh, .str a1), (.sh, .sl false 1 (a2.map row_zi64)), (.sh, .sl false 1 (a3.map row_i64)), (.sh, .sl false 1 (a4.map row_i64))] (Eo (.agg [.sl true 1 (r.Commits.map row_i64), .sl true 1 (r.Challenges.map row_i64), .sl true 1 (r.Responses.map row_i64)]) [.junk, .junk, .junk, .junk, .junk]) := by
 intro a0 a1 a2 a3 a4 r hr
 apply pF 59 [] [] [] [.cell 10 31] hr cl127 Tryz.func127
 intro Φ hΦ hF g
 unfold F_spec_sProve at hF
 try simp [go_sem, g]
 refine pw_wk ?_
 try simp [go_sem, g]
 refine pC hF [.sh, .sh, .sh] c_spec_sImages (fun z1 hF => ?_)
 try simp [go_sem, g]
 refine pw_wk ?_
 repeat rw [sq]
 refine pw_draw D127_2 follows (by kernel_rfl) rfl ?_
 try simp only [go_sem, D127_2]
 try simp [go_sem, g]
 refine pC hF [.sh, .sh, .sh] c_spec_sImages (fun z2 hF => ?_)
 try simp [go_sem, g]
 refine pC hF [.sh, .sh, .sh] c_spec_sStatement (fun z3 hF => ?_)
 try simp [go_sem, g]
 refine pC hF [.sh, .sh, .sh] c_spec_hChallenge (fun z4 hF => ?_)
 try simp [go_sem, g]
 refine pw_wkK [3, 4, 5, 10, 11, 12] (by simp [go_sem, g]; rfl) ?_
 iterate 2 (try simp [go_sem, g]; try intros; refine pw_wk ?_)
 repeat rw [sq]
 refine pJ hF (fun x7 => [(10, .bl [.sl true 1 [], .sl true 1 [], .sl true 1 []]), (11, .bl [.sl true 1 (x7.1.map row_i64), .sl true 1 (x7.2.1.map row_i64), .sl true 1 (x7.2.2.map row_i64)])]) (fun x7 hF => ?_) fun _ hj5 hF => ?_
 ·cases hΦ _ (Rn_some hF)
  try simp [go_sem, g]
  refine pw_wk ?_
  try simp [go_sem, g]
 ·repeat rw [sq]
  rw [pw_block]
  obtain ⟨b26, hb27, hψ21⟩ := hF
  refine pR hb27 (fun i18 s17 => [(4, .v (.sl false 1 (a4.map row_i64))), (5, .bl [.int .i64 a0.P, .int .i64 a0.Q, .int .i64 a0.G]), (10, .bl [.sl true 1 [], .sl true 1 [], .sl true 1 []]), (11, .bl [.sl true 1 (s17.1.map row_i64), .sl true 1 (s17.2.1.map row_i64), .sl true 1 (s17.2.2.map row_i64)]), (12, .v (.int .i64 z4)), (34, .v (.sl false 1 (a3.map row_i64))), (35, .v (.int .i64 (a3.length : Int))), (36, .v (.int .i64 i18))]) (fun s17 _ hN28 => ?_) (fun i18 s17 _ _ hi22 hi23 ho19 hg20 hF => ?_)
  ·subst hN28
   try simp [go_sem]
   refine pw_wk ?_
   repeat rw [sq]
   refine pw_cond_f (by simp [go_sem]) ?_
   try simp [go_sem]
   exact pT (hj5 (s17.1, s17.2.1, s17.2.2)) hψ21 (by simp [go_sem])
  ·try simp [go_sem, g]
   refine pw_wk ?_
   repeat rw [sq]
   refine pw_cond_t (by simp [go_sem, g, hi22, hi23]) ?_
   try simp [go_sem, g]
   refine pw_wk ?_
   repeat rw [sq]
   rw [pw_block]
   obtain ⟨x24, g, hF⟩ := Rx g hF
   try simp [go_sem, g]
   refine pw_wkK [4, 5, 10, 11, 12, 13, 14, 34, 35, 36] (by simp [go_sem, g]; rfl) ?_
   repeat rw [sq]
   refine pw_draw D127_7 follows (by kernel_rfl) rfl ?_
   try simp only [go_sem, D127_7]
   obtain ⟨x25, g, hF⟩ := Rx g hF
   obtain ⟨g, hF⟩ := Rz g hF
   obtain ⟨g, hF⟩ := Rg g hF
   try simp [go_sem, g]
   refine pw_wkK [4, 5, 10, 11, 12, 34, 35, 36] (by simp [go_sem, g]; rfl) ?_
   try simp [go_sem, g]
   exact pT (hg20 (s17.1, s17.2.1, s17.2.2 ++ [(i64.wrap (x25 + (i64.wrap (z4 * x24)))).tmod a0.Q])) (Rn_some hF) (by simp [go_sem, g, wr_i hi22 hi23 (by assumption)])
noncomputable def F_spec_oSign (a0 : Group) (a1 : ByteArray) (a2 : Int) (a3 : Int) : Option (Proof) :=
 (F_spec_sProve a0 a1 [[a0.G]] [a2] [a3]).bind fun z1 =>
 some z1
theorem c_spec_oSign : ∀ {a0} {a1} {a2} {a3} {r}, F_spec_oSign a0 a1 a2 a3 = some r → PCalls Tryz.prog 114 [(.sh, .agg [.int .i64 a0.P, .int .i64 a0.Q, .int .i64 a0.G]), (.sh, .str a1), (.sh, .int .i64 a2), (.sh, .int .i64 a3)] (Eo (.agg [.sl true 1 (r.Commits.map row_i64), .sl true 1 (r.Challenges.map row_i64), .sl true 1 (r.Responses.map row_i64)]) [.junk, .junk, .junk, .junk]) := by
 intro a0 a1 a2 a3 r hr
 apply pF 20 [] [] [] [.cell 8 31] hr cl114 Tryz.func114
 intro Φ hΦ hF g
 unfold F_spec_oSign at hF
 try simp [go_sem, g]
 refine pw_wk ?_
 try simp [go_sem, g]
 refine pC hF [.sh, .sh, .sh, .sh, .sh] c_spec_sProve (fun z1 hF => ?_)
 try simp [go_sem, g]
 refine pw_wkK [8] (by simp [go_sem, g]; rfl) ?_
 cases hΦ _ (Rn_some hF)
 try simp [go_sem, g]
def D88_4 : List DE := [d2 0 [6] 6 6, d2 1 [14] 14 14, d0 3 [1], d0 4 [5], d3 2 [37], d3 5 [36, 38, 39, 40], d1 6 [14] 14, d2 7 [42, 41] 14 42]
noncomputable def F_spec_SignHead (a0 : Group) (a1 : Int) (a2 : Int) (a3 : Int) (a4 : Int) (a5 : Int) : Option (Head × Bool) :=
 (((F_spec_l2Good a0).bind fun z4 =>
 if (!z4) = true then (
 some true) else (
 (F_spec_gExps a0 [a1, a5]).bind fun z6 =>
 if (!z6) = true then (
 some true) else (
 (F_spec_oHead (Head.mk a2 a3 a4 (Proof.mk [] [] []))).bind fun z8 =>
 some (!z8))) : Option (Bool)).bind fun x3 =>
 if x3 = true then (
 some ((Head.mk 0 0 0 (Proof.mk [] [] [])), false)) else (
 (F_spec_oHeadLabel (Head.mk a2 a3 a4 (Proof.mk [] [] []))).bind fun z10 =>
 (F_spec_oSign a0 z10 a1 a5).bind fun z11 =>
 some ((Head.mk a2 a3 a4 z11), true)))
theorem c_spec_SignHead : ∀ {a0} {a1} {a2} {a3} {a4} {a5} {r}, F_spec_SignHead a0 a1 a2 a3 a4 a5 = some r → PCalls Tryz.prog 88 [(.sh, .agg [.int .i64 a0.P, .int .i64 a0.Q, .int .i64 a0.G]), (.sh, .int .i64 a1), (.sh, .int .i64 a2), (.sh, .int .i64 a3), (.sh, .int .i64 a4), (.sh, .int .i64 a5)] (Eo (.tup [.agg [.int .i64 r.1.Author, .int .i64 r.1.Size, .int .i64 r.1.Root, .sl true 1 (r.1.Sign.Commits.map row_i64), .sl true 1 (r.1.Sign.Challenges.map row_i64), .sl true 1 (r.1.Sign.Responses.map row_i64)], .bool r.2]) [.junk, .junk, .junk, .junk, .junk, .junk]) := by
 intro a0 a1 a2 a3 a4 a5 r hr
 apply pF 44 [] [] [] [.cell 12 33, .tmp 13] hr cl88 Tryz.func88
 intro Φ hΦ hF g
 unfold F_spec_SignHead at hF
 iterate 2 (try simp [go_sem, g]; refine pw_wk ?_)
 repeat rw [sq]
 refine pJ hF (fun x3 => [(1, .v (.int .i64 a1)), (5, .v (.int .i64 a5)), (6, .bl [.int .i64 a0.P, .int .i64 a0.Q, .int .i64 a0.G]), (12, .bl [.int .i64 0, .int .i64 0, .int .i64 0, .sl true 1 [], .sl true 1 [], .sl true 1 []]), (14, .bl [.int .i64 a2, .int .i64 a3, .int .i64 a4, .sl true 1 [], .sl true 1 [], .sl true 1 []]), (34, .v (.bool x3))]) (fun x3 hF => ?_) fun _ hj1 hF => ?_
 ·repeat rw [sq]
  refine pI hF (fun h9 hF => ?_) (fun h9 hF => ?_)
  ·try simp [go_sem, g]
   refine pw_wkK [12, 13] (by simp [go_sem, g]; rfl) ?_
   cases hΦ _ (Rn_some hF)
   try simp [go_sem, g]
  ·try simp [go_sem, g]
   refine pw_wk ?_
   repeat rw [sq]
   refine pw_draw D88_4 follows (by kernel_rfl) rfl ?_
   try simp only [go_sem, D88_4]
   try simp [go_sem, g]
   refine pC hF [.sh] c_spec_oHeadLabel (fun z10 hF => ?_)
   try simp [go_sem, g]
   refine pC hF [.sh, .sh, .sh, .sh] c_spec_oSign (fun z11 hF => ?_)
   try simp [go_sem, g]
   refine pw_wkK [12, 14] (by simp [go_sem, g]; rfl) ?_
   cases hΦ _ (Rn_some hF)
   try simp [go_sem, g]
   refine pw_wk ?_
   try simp [go_sem, g]
 ·try simp [go_sem, g]
  refine pC hF [.sh] c_spec_l2Good (fun z4 hF => ?_)
  try simp [go_sem, g]
  refine pwg_F hF (fun h5 hF => ?_) fun h5 hF => ?_
  ·try simp [go_sem, g, h5]
   exact pT (hj1 true) (Rn_some hF)
  ·try simp [go_sem, g, h5]
   refine pC hF [.sh, .sh] c_spec_gExps (fun z6 hF => ?_)
   try simp [go_sem, g, h5]
   refine pwg_F hF (fun h7 hF => ?_) fun h7 hF => ?_
   ·try simp [go_sem, g, h7]
    exact pT (hj1 true) (Rn_some hF)
   ·try simp [go_sem, g, h7]
    refine pC hF [.sh] c_spec_oHead (fun z8 hF => ?_)
    try simp [go_sem, g, h7]
    exact pT (hj1 (!z8)) (Rn_some hF)
noncomputable def F_spec_l1Cur_one__io0 (a0c0 : (List Int)) (a0c1 : Int) (a0c2 : Int) (a1 : Int) : Option (Bool × ((List Int) × Int × Int)) :=
 (F_spec_l1Cur_pick__io0 a0c0 a0c1 a0c2 a1).bind fun z1 =>
 some ((z1.1 == 0), (z1.2.1, z1.2.2.1, z1.2.2.2))
theorem c_spec_l1Cur_one__io0 : ∀ {a0c0} {a0c1} {a0c2} {a1} {r}, F_spec_l1Cur_one__io0 a0c0 a0c1 a0c2 a1 = some r → PCalls Tryz.prog 89 [(.io, .bx [.sl false 1 (a0c0.map row_u8), .int .i64 a0c1, .int .u64 a0c2]), (.sh, .int .i64 a1)] (Eo (.bool r.1) [.bx [.sl false 1 (r.2.1.map row_u8), .int .i64 r.2.2.1, .int .u64 r.2.2.2], .junk]) := by
 intro a0c0 a0c1 a0c2 a1 r hr
 apply pF 9 [0] [] [] [.tmp 4] hr cl89 Tryz.func89
 intro Φ hΦ hF g
 unfold F_spec_l1Cur_one__io0 at hF
 try simp [go_sem, g]
 refine pw_wk ?_
 try simp [go_sem, g]
 refine pC hF [.io, .sh] c_spec_l1Cur_pick__io0 (fun z1 hF => ?_)
 cases hΦ _ (Rn_some hF)
 try simp [go_sem, g]
 refine pw_wk ?_
 try simp [go_sem, g]
noncomputable def F_spec_l1Cur_digest__io0 (a0c0 : (List Int)) (a0c1 : Int) (a0c2 : Int) : Option (Int × ((List Int) × Int × Int)) :=
 (F_spec_l1Cur_pick__io0 a0c0 a0c1 a0c2 16).bind fun z1 =>
 if (z1.1 == 0) = true then (
 (F_spec_l1Cur_among__io0_mv1 z1.2.1 z1.2.2.1 z1.2.2.2 [(-1), 4611686018427387903, 4611686018427387904, 2147483648, 2147483647, 2147483647]).bind fun z3 =>
 some (z3.1, (z3.2.1, z3.2.2.1, z3.2.2.2))) else (
 ((if (z1.1 == 1) = true then (
 some (z1.1 == 1)) else (
 if (z1.1 == 2) = true then (
 some (z1.1 == 2)) else (
 some (z1.1 == 3))) : Option (Bool)).bind fun x6 =>
 if x6 = true then (
 (F_spec_l1Cur_pick__io0 z1.2.1 z1.2.2.1 z1.2.2.2 60000).bind fun z10 =>
 (F_spec_hInts [z10.1]).bind fun z11 =>
 some (z11, (z10.2.1, z10.2.2.1, z10.2.2.2))) else (
 (F_spec_l1Cur_pick__io0 z1.2.1 z1.2.2.1 z1.2.2.2 200).bind fun z12 =>
 some (z12.1, (z12.2.1, z12.2.2.1, z12.2.2.2)))))
theorem c_spec_l1Cur_digest__io0 : ∀ {a0c0} {a0c1} {a0c2} {r}, F_spec_l1Cur_digest__io0 a0c0 a0c1 a0c2 = some r → PCalls Tryz.prog 116 [(.io, .bx [.sl false 1 (a0c0.map row_u8), .int .i64 a0c1, .int .u64 a0c2])] (Eo (.int .i64 r.1) [.bx [.sl false 1 (r.2.1.map row_u8), .int .i64 r.2.2.1, .int .u64 r.2.2.2]]) := by
 intro a0c0 a0c1 a0c2 r hr
 apply pF 20 [0] [] [] [.tmp 2] hr cl116 Tryz.func116
 intro Φ hΦ hF g
 unfold F_spec_l1Cur_digest__io0 at hF
 try simp [go_sem, g]
 refine pw_wk ?_
 try simp [go_sem, g]
 refine pC hF [.io, .sh] c_spec_l1Cur_pick__io0 (fun z1 hF => ?_)
 try simp [go_sem, g]
 refine pw_wk ?_
 repeat rw [sq]
 rw [pw_block]
 try simp [go_sem, g]
 refine pw_wk ?_
 repeat rw [sq]
 refine pI hF (fun h2 hF => ?_) (fun h2 hF => ?_)
 ·try simp [go_sem, g]
  refine pC hF [.io, .mv] c_spec_l1Cur_among__io0_mv1 (fun z3 hF => ?_)
  cases hΦ _ (Rn_some hF)
  try simp [go_sem, g]
  refine pw_wk ?_
  try simp [go_sem, g]
 ·try simp [go_sem, g]
  refine pw_wk ?_
  repeat rw [sq]
  refine pJ hF (fun x6 => [(0, .v (.bx [.sl false 1 (z1.2.1.map row_u8), .int .i64 z1.2.2.1, .int .u64 z1.2.2.2])), (10, .v (.bool x6))]) (fun x6 hF => ?_) fun _ hj4 hF => ?_
  ·repeat rw [sq]
   refine pI hF (fun h9 hF => ?_) (fun h9 hF => ?_)
   ·try simp [go_sem, g]
    refine pC hF [.io, .sh] c_spec_l1Cur_pick__io0 (fun z10 hF => ?_)
    try simp [go_sem, g]
    refine pC hF [.sh] c_spec_hInts (fun z11 hF => ?_)
    try simp [go_sem, g]
    refine pw_wkK [0, 2] (by simp [go_sem, g]; rfl) ?_
    cases hΦ _ (Rn_some hF)
    try simp [go_sem, g]
   ·try simp [go_sem, g]
    refine pw_wk ?_
    try simp [go_sem, g]
    refine pC hF [.io, .sh] c_spec_l1Cur_pick__io0 (fun z12 hF => ?_)
    try simp [go_sem, g]
    refine pw_wkK [0, 2] (by simp [go_sem, g]; rfl) ?_
    cases hΦ _ (Rn_some hF)
    try simp [go_sem, g]
  ·repeat rw [sq]
   refine pI hF (fun h7 hF => ?_) (fun h7 hF => ?_)
   ·try simp [go_sem, g]
    exact pT (hj4 (z1.1 == 1)) (Rn_some hF)
   ·try simp [go_sem, g]
    refine pw_wk ?_
    repeat rw [sq]
    refine pI hF (fun h8 hF => ?_) (fun h8 hF => ?_)
    ·try simp [go_sem, g]
     exact pT (hj4 (z1.1 == 2)) (Rn_some hF)
    ·try simp [go_sem, g]
     exact pT (hj4 (z1.1 == 3)) (Rn_some hF)
noncomputable def F_spec_l1Own (a0 : (List Int)) : Option ((List Int)) :=
 gd (a0.length * 8 ≤ 140737488355328 ∧ a0.length ≤ 4611686018427387904) <|
 some a0
theorem c_spec_l1Own : ∀ {a0} {r}, F_spec_l1Own a0 = some r → PCalls Tryz.prog 120 [(.sh, .sl false 1 (a0.map row_i64))] (Eo (.sl true 1 (r.map row_i64)) [.junk]) := by
 intro a0 r hr
 apply pF 6 [] [] [] [.tmp 2] hr cl120 Tryz.func120
 intro Φ hΦ hF g
 unfold F_spec_l1Own at hF
 obtain ⟨g, hF⟩ := Rg g hF
 cases hΦ _ (Rn_some hF)
 iterate 2 (try simp [go_sem, g]; refine pw_wk ?_)
 try simp [go_sem, g]
noncomputable def F_spec_l1Cur_anyExpo__io0 (a0c0 : (List Int)) (a0c1 : Int) (a0c2 : Int) (a1 : Group) : Option (Int × ((List Int) × Int × Int)) :=
 (F_spec_l1Cur_one__io0 a0c0 a0c1 a0c2 24).bind fun z1 =>
 if z1.1 = true then (
 (F_spec_l1Cur_among__io0_mv1 z1.2.1 z1.2.2.1 z1.2.2.2 [a1.Q, (-1), i64.wrap (a1.Q - 1)]).bind fun z3 =>
 some (z3.1, (z3.2.1, z3.2.2.1, z3.2.2.2))) else (
 (F_spec_l1Cur_expo__io0 z1.2.1 z1.2.2.1 z1.2.2.2 a1).bind fun z4 =>
 some (z4.1, (z4.2.1, z4.2.2.1, z4.2.2.2)))
theorem c_spec_l1Cur_anyExpo__io0 : ∀ {a0c0} {a0c1} {a0c2} {a1} {r}, F_spec_l1Cur_anyExpo__io0 a0c0 a0c1 a0c2 a1 = some r → PCalls Tryz.prog 131 [(.io, .bx [.sl false 1 (a0c0.map row_u8), .int .i64 a0c1, .int .u64 a0c2]), (.sh, .agg [.int .i64 a1.P, .int .i64 a1.Q, .int .i64 a1.G])] (Eo (.int .i64 r.1) [.bx [.sl false 1 (r.2.1.map row_u8), .int .i64 r.2.2.1, .int .u64 r.2.2.2], .junk]) := by
 intro a0c0 a0c1 a0c2 a1 r hr
 apply pF 18 [0] [] [] [.tmp 4] hr cl131 Tryz.func131
 intro Φ hΦ hF g
 unfold F_spec_l1Cur_anyExpo__io0 at hF
 try simp [go_sem, g]
 refine pw_wk ?_
 try simp [go_sem, g]
 refine pC hF [.io, .sh] c_spec_l1Cur_one__io0 (fun z1 hF => ?_)
 try simp [go_sem, g]
 refine pw_wk ?_
 repeat rw [sq]
 refine pI hF (fun h2 hF => ?_) (fun h2 hF => ?_)
 ·try simp [go_sem, g]
  refine pC hF [.io, .mv] c_spec_l1Cur_among__io0_mv1 (fun z3 hF => ?_)
  try simp [go_sem, g]
  refine pw_wkK [0, 4] (by simp [go_sem, g]; rfl) ?_
  cases hΦ _ (Rn_some hF)
  try simp [go_sem, g]
 ·try simp [go_sem, g]
  refine pw_wk ?_
  try simp [go_sem, g]
  refine pC hF [.io, .sh] c_spec_l1Cur_expo__io0 (fun z4 hF => ?_)
  cases hΦ _ (Rn_some hF)
  try simp [go_sem, g]
  refine pw_wk ?_
  try simp [go_sem, g]
def D91_3 : List DE := [d2 0 [3] 3 3, d1 1 [3] 3, d2 2 [14] 3 14, d1 3 [3] 3, d2 4 [16] 3 16, d0 6 [0], d2 7 [3] 3 3, d3 5 [15, 17], d3 8 [19, 20], d3 9 [13, 18, 21], d0 10 [22]]
noncomputable def F_spec_l1Cur_element__io0 (a0c0 : (List Int)) (a0c1 : Int) (a0c2 : Int) (a1 : Group) : Option (Int × ((List Int) × Int × Int)) :=
 ((if decide (a1.P < 3) = true then (
 some true) else (
 some (decide (a1.Q < 1))) : Option (Bool)).bind fun x3 =>
 if x3 = true then (
 some (1, (a0c0, a0c1, a0c2))) else (
 (F_spec_nMod a1.G a1.P).bind fun z6 =>
 (F_spec_l1Cur_expo__io0 a0c0 a0c1 a0c2 a1).bind fun z7 =>
 (F_spec_gExp a1 z6 z7.1).bind fun z8 =>
 some (z8, (z7.2.1, z7.2.2.1, z7.2.2.2))))
theorem c_spec_l1Cur_element__io0 : ∀ {a0c0} {a0c1} {a0c2} {a1} {r}, F_spec_l1Cur_element__io0 a0c0 a0c1 a0c2 a1 = some r → PCalls Tryz.prog 91 [(.io, .bx [.sl false 1 (a0c0.map row_u8), .int .i64 a0c1, .int .u64 a0c2]), (.sh, .agg [.int .i64 a1.P, .int .i64 a1.Q, .int .i64 a1.G])] (Eo (.int .i64 r.1) [.bx [.sl false 1 (r.2.1.map row_u8), .int .i64 r.2.2.1, .int .u64 r.2.2.2], .junk]) := by
 intro a0c0 a0c1 a0c2 a1 r hr
 apply pF 23 [0] [] [] [.tmp 4] hr cl91 Tryz.func91
 intro Φ hΦ hF g
 unfold F_spec_l1Cur_element__io0 at hF
 try simp [go_sem, g]
 refine pw_wk ?_
 repeat rw [sq]
 refine pJ hF (fun x3 => [(0, .v (.bx [.sl false 1 (a0c0.map row_u8), .int .i64 a0c1, .int .u64 a0c2])), (3, .bl [.int .i64 a1.P, .int .i64 a1.Q, .int .i64 a1.G]), (12, .v (.bool x3))]) (fun x3 hF => ?_) fun _ hj1 hF => ?_
 ·repeat rw [sq]
  refine pI hF (fun h5 hF => ?_) (fun h5 hF => ?_)
  ·cases hΦ _ (Rn_some hF)
   try simp [go_sem, g]
   refine pw_wk ?_
   try simp [go_sem, g]
  ·try simp [go_sem, g]
   refine pw_wk ?_
   repeat rw [sq]
   refine pw_draw D91_3 follows (by kernel_rfl) rfl ?_
   try simp only [go_sem, D91_3]
   try simp [go_sem, g]
   refine pC hF [.sh, .sh] c_spec_nMod (fun z6 hF => ?_)
   try simp [go_sem, g]
   refine pC hF [.io, .sh] c_spec_l1Cur_expo__io0 (fun z7 hF => ?_)
   try simp [go_sem, g]
   refine pC hF [.sh, .sh, .sh] c_spec_gExp (fun z8 hF => ?_)
   try simp [go_sem, g]
   refine pw_wkK [0, 4] (by simp [go_sem, g]; rfl) ?_
   cases hΦ _ (Rn_some hF)
   try simp [go_sem, g]
 ·try simp [go_sem, g]
  refine pwg_F hF (fun h4 hF => ?_) fun h4 hF => ?_
  ·try simp [go_sem, g, h4]
   exact pT (hj1 true) (Rn_some hF)
  ·try simp [go_sem, g, h4]
   exact pT (hj1 (decide (a1.Q < 1))) (Rn_some hF)
noncomputable def F_spec_l1Cur_anyElement__io0 (a0c0 : (List Int)) (a0c1 : Int) (a0c2 : Int) (a1 : Group) : Option (Int × ((List Int) × Int × Int)) :=
 (F_spec_l1Cur_one__io0 a0c0 a0c1 a0c2 20).bind fun z1 =>
 if z1.1 = true then (
 (F_spec_l1Cur_among__io0_mv1 z1.2.1 z1.2.2.1 z1.2.2.2 [0, 1, i64.wrap (a1.P - 1), a1.P, (-1), 5]).bind fun z3 =>
 some (z3.1, (z3.2.1, z3.2.2.1, z3.2.2.2))) else (
 (F_spec_l1Cur_element__io0 z1.2.1 z1.2.2.1 z1.2.2.2 a1).bind fun z4 =>
 some (z4.1, (z4.2.1, z4.2.2.1, z4.2.2.2)))
theorem c_spec_l1Cur_anyElement__io0 : ∀ {a0c0} {a0c1} {a0c2} {a1} {r}, F_spec_l1Cur_anyElement__io0 a0c0 a0c1 a0c2 a1 = some r → PCalls Tryz.prog 57 [(.io, .bx [.sl false 1 (a0c0.map row_u8), .int .i64 a0c1, .int .u64 a0c2]), (.sh, .agg [.int .i64 a1.P, .int .i64 a1.Q, .int .i64 a1.G])] (Eo (.int .i64 r.1) [.bx [.sl false 1 (r.2.1.map row_u8), .int .i64 r.2.2.1, .int .u64 r.2.2.2], .junk]) := by
 intro a0c0 a0c1 a0c2 a1 r hr
 apply pF 18 [0] [] [] [.tmp 4] hr cl57 Tryz.func57
 intro Φ hΦ hF g
 unfold F_spec_l1Cur_anyElement__io0 at hF
 try simp [go_sem, g]
 refine pw_wk ?_
 try simp [go_sem, g]
 refine pC hF [.io, .sh] c_spec_l1Cur_one__io0 (fun z1 hF => ?_)
 try simp [go_sem, g]
 refine pw_wk ?_
 repeat rw [sq]
 refine pI hF (fun h2 hF => ?_) (fun h2 hF => ?_)
 ·try simp [go_sem, g]
  refine pC hF [.io, .mv] c_spec_l1Cur_among__io0_mv1 (fun z3 hF => ?_)
  try simp [go_sem, g]
  refine pw_wkK [0, 4] (by simp [go_sem, g]; rfl) ?_
  cases hΦ _ (Rn_some hF)
  try simp [go_sem, g]
 ·try simp [go_sem, g]
  refine pw_wk ?_
  try simp [go_sem, g]
  refine pC hF [.io, .sh] c_spec_l1Cur_element__io0 (fun z4 hF => ?_)
  cases hΦ _ (Rn_some hF)
  try simp [go_sem, g]
  refine pw_wk ?_
  try simp [go_sem, g]
def D117_1 : List DE := [d1 0 [5] 5, d2 1 [10] 5 10, d1 3 [5] 5, d2 4 [13] 5 13, d1 6 [5] 5, d2 7 [16] 5 16, d3 2 [11], d3 5 [14], d3 8 [17], d0 9 [12, 15, 18], d2 10 [5, 19] 5 5]
def D117_10 : List DE := [d1 0 [5] 5, d2 1 [45] 5 45, d0 2 [0], d0 3 [8], d0 5 [0], d2 6 [4] 4 4, d3 4 [47, 48], d3 7 [50, 51], d0 8 [46, 49], d0 9 [53, 52]]
def D117_14 : List DE := [d1 0 [5] 5, d2 1 [61] 5 61, d0 2 [0], d0 3 [9], d0 5 [0], d2 6 [4] 4 4, d3 4 [63, 64], d3 7 [66, 67], d0 8 [62, 65], d0 9 [69, 68]]
def D117_6 : List DE := [d1 0 [5] 5, d2 1 [29] 5 29, d0 2 [0], d0 3 [7], d0 5 [0], d2 6 [4] 4 4, d3 4 [31, 32], d3 7 [34, 35], d0 8 [30, 33], d0 9 [37, 36]]
noncomputable def F_spec_l1Cur_spoiltProof__io0 (a0c0 : (List Int)) (a0c1 : Int) (a0c2 : Int) (a1 : Group) (a2 : Proof) : Option (Proof × ((List Int) × Int × Int)) :=
 (F_spec_l1Own a2.Commits).bind fun z1 =>
 (F_spec_l1Own a2.Challenges).bind fun z2 =>
 (F_spec_l1Own a2.Responses).bind fun z3 =>
 (F_spec_l1Cur_pick__io0 a0c0 a0c1 a0c2 12).bind fun z4 =>
 ((if (z4.1 == 0) = true then (
 if decide (0 < (z3.length : Int)) = true then (
 (F_spec_l1Cur_pick__io0 z4.2.1 z4.2.2.1 z4.2.2.2 (z3.length : Int)).bind fun z10 =>
 (F_spec_l1Cur_anyExpo__io0 z10.2.1 z10.2.2.1 z10.2.2.2 a1).bind fun z11 =>
 (ix z3 z10.1).bind fun x12 =>
 some (.inl ((z11.2.1, z11.2.2.1, z11.2.2.2), z1, z2, z3.set z10.1.toNat z11.1))) else (
 some (.inl ((z4.2.1, z4.2.2.1, z4.2.2.2), z1, z2, z3)))) else (
 if (z4.1 == 1) = true then (
 if decide (0 < (z1.length : Int)) = true then (
 (F_spec_l1Cur_pick__io0 z4.2.1 z4.2.2.1 z4.2.2.2 (z1.length : Int)).bind fun z15 =>
 (F_spec_l1Cur_anyElement__io0 z15.2.1 z15.2.2.1 z15.2.2.2 a1).bind fun z16 =>
 (ix z1 z15.1).bind fun x17 =>
 some (.inl ((z16.2.1, z16.2.2.1, z16.2.2.2), z1.set z15.1.toNat z16.1, z2, z3))) else (
 some (.inl ((z4.2.1, z4.2.2.1, z4.2.2.2), z1, z2, z3)))) else (
 if (z4.1 == 2) = true then (
 if decide (0 < (z2.length : Int)) = true then (
 (F_spec_l1Cur_pick__io0 z4.2.1 z4.2.2.1 z4.2.2.2 (z2.length : Int)).bind fun z20 =>
 (F_spec_l1Cur_anyExpo__io0 z20.2.1 z20.2.2.1 z20.2.2.2 a1).bind fun z21 =>
 (ix z2 z20.1).bind fun x22 =>
 some (.inl ((z21.2.1, z21.2.2.1, z21.2.2.2), z1, z2.set z20.1.toNat z21.1, z3))) else (
 some (.inl ((z4.2.1, z4.2.2.1, z4.2.2.2), z1, z2, z3)))) else (
 if (z4.1 == 3) = true then (
 gd ((z3.length + 1) * 8 ≤ 140737488355328 ∧ z3.length + 1 ≤ 4611686018427387904) <|
 some (.inl ((z4.2.1, z4.2.2.1, z4.2.2.2), z1, z2, z3 ++ [0]))) else (
 if (z4.1 == 4) = true then (
 some (.inr ((Proof.mk [] [] []), (z4.2.1, z4.2.2.1, z4.2.2.2)))) else (
 some (.inl ((z4.2.1, z4.2.2.1, z4.2.2.2), z1, z2, z3))))))) : Option ((((List Int) × Int × Int) × (List Int) × (List Int) × (List Int)) ⊕ (Proof × ((List Int) × Int × Int)))).bind (Sum.elim (fun x7 =>
 some ((Proof.mk x7.2.1 x7.2.2.1 x7.2.2.2), (x7.1.1, x7.1.2.1, x7.1.2.2))) some))
theorem c_spec_l1Cur_spoiltProof__io0 : ∀ {a0c0} {a0c1} {a0c2} {a1} {a2} {r}, F_spec_l1Cur_spoiltProof__io0 a0c0 a0c1 a0c2 a1 a2 = some r → PCalls Tryz.prog 117 [(.io, .bx [.sl false 1 (a0c0.map row_u8), .int .i64 a0c1, .int .u64 a0c2]), (.sh, .agg [.int .i64 a1.P, .int .i64 a1.Q, .int .i64 a1.G]), (.sh, .agg [.sl false 1 (a2.Commits.map row_i64), .sl false 1 (a2.Challenges.map row_i64), .sl false 1 (a2.Responses.map row_i64)])] (Eo (.agg [.sl true 1 (r.1.Commits.map row_i64), .sl true 1 (r.1.Challenges.map row_i64), .sl true 1 (r.1.Responses.map row_i64)]) [.bx [.sl false 1 (r.2.1.map row_u8), .int .i64 r.2.2.1, .int .u64 r.2.2.2], .junk, .junk]) := by
 intro a0c0 a0c1 a0c2 a1 a2 r hr
 apply pF 81 [0] [] [] [.cell 6 31] hr cl117 Tryz.func117
 intro Φ hΦ hF g
 unfold F_spec_l1Cur_spoiltProof__io0 at hF
 try simp [go_sem, g]
 refine pw_wk ?_
 repeat rw [sq]
 refine pw_draw D117_1 follows (by kernel_rfl) rfl ?_
 try simp only [go_sem, D117_1]
 try simp [go_sem, g]
 refine pC hF [.sh] c_spec_l1Own (fun z1 hF => ?_)
 try simp [go_sem, g]
 refine pC hF [.sh] c_spec_l1Own (fun z2 hF => ?_)
 try simp [go_sem, g]
 refine pC hF [.sh] c_spec_l1Own (fun z3 hF => ?_)
 try simp [go_sem, g]
 refine pw_wkK [0, 4, 5, 6] (by simp [go_sem, g]; rfl) ?_
 try simp [go_sem, g]
 refine pC hF [.io, .sh] c_spec_l1Cur_pick__io0 (fun z4 hF => ?_)
 try simp [go_sem, g]
 refine pw_wk ?_
 repeat rw [sq]
 refine pJs hF (fun x7 => [(0, .v (.bx [.sl false 1 (x7.1.1.map row_u8), .int .i64 x7.1.2.1, .int .u64 x7.1.2.2])), (5, .bl [.sl true 1 (x7.2.1.map row_i64), .sl true 1 (x7.2.2.1.map row_i64), .sl true 1 (x7.2.2.2.map row_i64)]), (6, .bl [.sl true 1 [], .sl true 1 [], .sl true 1 []])]) (fun x7 hF => ?_) fun _ hj5 hr6 hF => ?_
 ·cases hΦ _ (Rn_some hF)
  try simp [go_sem, g]
  refine pw_wk ?_
  try simp [go_sem, g]
 ·repeat rw [sq]
  rw [pw_block]
  try simp [go_sem, g]
  refine pw_wk ?_
  repeat rw [sq]
  refine pI hF (fun h8 hF => ?_) (fun h8 hF => ?_)
  ·try simp [go_sem, g]
   try intros
   refine pw_wk ?_
   try simp [go_sem, g]
   try intros
   refine pw_wkK [0, 4, 5, 6, 7, 28] (by simp [go_sem, g]; rfl) ?_
   repeat rw [sq]
   refine pI hF (fun h9 hF => ?_) (fun h9 hF => ?_)
   ·repeat rw [sq]
    refine pw_draw D117_6 follows (by kernel_rfl) rfl ?_
    try simp only [go_sem, D117_6]
    try simp [go_sem, g]
    refine pC hF [.io, .sh] c_spec_l1Cur_pick__io0 (fun z10 hF => ?_)
    try simp [go_sem, g]
    refine pC hF [.io, .sh] c_spec_l1Cur_anyExpo__io0 (fun z11 hF => ?_)
    obtain ⟨x12, g, hF⟩ := Rx g hF
    try simp [go_sem, g]
    exact pT (hj5 ((z11.2.1, z11.2.2.1, z11.2.2.2), z1, z2, z3.set z10.1.toNat z11.1)) (Rn_some hF)
   ·try simp [go_sem, g]
    exact pT (hj5 ((z4.2.1, z4.2.2.1, z4.2.2.2), z1, z2, z3)) (Rn_some hF)
  ·try simp [go_sem, g]
   refine pw_wk ?_
   repeat rw [sq]
   refine pI hF (fun h13 hF => ?_) (fun h13 hF => ?_)
   ·try simp [go_sem, g]
    try intros
    refine pw_wkK [0, 4, 5, 6, 8] (by simp [go_sem, g]; rfl) ?_
    try simp [go_sem, g]
    refine pw_wk ?_
    repeat rw [sq]
    refine pI hF (fun h14 hF => ?_) (fun h14 hF => ?_)
    ·repeat rw [sq]
     refine pw_draw D117_10 follows (by kernel_rfl) rfl ?_
     try simp only [go_sem, D117_10]
     try simp [go_sem, g]
     refine pC hF [.io, .sh] c_spec_l1Cur_pick__io0 (fun z15 hF => ?_)
     try simp [go_sem, g]
     refine pC hF [.io, .sh] c_spec_l1Cur_anyElement__io0 (fun z16 hF => ?_)
     obtain ⟨x17, g, hF⟩ := Rx g hF
     try simp [go_sem, g]
     exact pT (hj5 ((z16.2.1, z16.2.2.1, z16.2.2.2), z1.set z15.1.toNat z16.1, z2, z3)) (Rn_some hF)
    ·try simp [go_sem, g]
     exact pT (hj5 ((z4.2.1, z4.2.2.1, z4.2.2.2), z1, z2, z3)) (Rn_some hF)
   ·try simp [go_sem, g]
    refine pw_wk ?_
    repeat rw [sq]
    refine pI hF (fun h18 hF => ?_) (fun h18 hF => ?_)
    ·try simp [go_sem, g]
     try intros
     refine pw_wkK [0, 4, 5, 6, 9] (by simp [go_sem, g]; rfl) ?_
     try simp [go_sem, g]
     refine pw_wk ?_
     repeat rw [sq]
     refine pI hF (fun h19 hF => ?_) (fun h19 hF => ?_)
     ·repeat rw [sq]
      refine pw_draw D117_14 follows (by kernel_rfl) rfl ?_
      try simp only [go_sem, D117_14]
      try simp [go_sem, g]
      refine pC hF [.io, .sh] c_spec_l1Cur_pick__io0 (fun z20 hF => ?_)
      try simp [go_sem, g]
      refine pC hF [.io, .sh] c_spec_l1Cur_anyExpo__io0 (fun z21 hF => ?_)
      obtain ⟨x22, g, hF⟩ := Rx g hF
      try simp [go_sem, g]
      exact pT (hj5 ((z21.2.1, z21.2.2.1, z21.2.2.2), z1, z2.set z20.1.toNat z21.1, z3)) (Rn_some hF)
     ·try simp [go_sem, g]
      exact pT (hj5 ((z4.2.1, z4.2.2.1, z4.2.2.2), z1, z2, z3)) (Rn_some hF)
    ·try simp [go_sem, g]
     refine pw_wkK [0, 5, 6, 21, 70] (by simp [go_sem, g]; rfl) ?_
     repeat rw [sq]
     refine pI hF (fun h23 hF => ?_) (fun h23 hF => ?_)
     ·obtain ⟨g, hF⟩ := Rg g hF
      try simp [go_sem, g]
      exact pT (hj5 ((z4.2.1, z4.2.2.1, z4.2.2.2), z1, z2, z3 ++ [0])) (Rn_some hF)
     ·try simp [go_sem, g]
      refine pw_wk ?_
      repeat rw [sq]
      refine pI hF (fun h24 hF => ?_) (fun h24 hF => ?_)
      ·cases hΦ _ (hr6 _ (Rn_some hF))
       try simp [go_sem, g]
       refine pw_wk ?_
       try simp [go_sem, g]
      ·try simp [go_sem, g]
       exact pT (hj5 ((z4.2.1, z4.2.2.1, z4.2.2.2), z1, z2, z3)) (Rn_some hF)
noncomputable def F_spec_l1Cur_spoiltHead__io0 (a0c0 : (List Int)) (a0c1 : Int) (a0c2 : Int) (a1 : Group) (a2 : Head) : Option (Head × ((List Int) × Int × Int)) :=
 (F_spec_l1Cur_pick__io0 a0c0 a0c1 a0c2 8).bind fun z1 =>
 ((if (z1.1 == 0) = true then (
 some ((z1.2.1, z1.2.2.1, z1.2.2.2), a2.Author, i64.wrap (a2.Size + 1), a2.Root, a2.Sign.Commits, a2.Sign.Challenges, a2.Sign.Responses)) else (
 if (z1.1 == 1) = true then (
 (F_spec_l1Cur_digest__io0 z1.2.1 z1.2.2.1 z1.2.2.2).bind fun z7 =>
 some ((z7.2.1, z7.2.2.1, z7.2.2.2), a2.Author, a2.Size, z7.1, a2.Sign.Commits, a2.Sign.Challenges, a2.Sign.Responses)) else (
 if (z1.1 == 2) = true then (
 (F_spec_l1Cur_spoiltProof__io0 z1.2.1 z1.2.2.1 z1.2.2.2 a1 a2.Sign).bind fun z9 =>
 some ((z9.2.1, z9.2.2.1, z9.2.2.2), a2.Author, a2.Size, a2.Root, z9.1.Commits, z9.1.Challenges, z9.1.Responses)) else (
 if (z1.1 == 3) = true then (
 (F_spec_l1Cur_pick__io0 z1.2.1 z1.2.2.1 z1.2.2.2 4).bind fun z11 =>
 some ((z11.2.1, z11.2.2.1, z11.2.2.2), i64.wrap (z11.1 - 1), a2.Size, a2.Root, a2.Sign.Commits, a2.Sign.Challenges, a2.Sign.Responses)) else (
 some ((z1.2.1, z1.2.2.1, z1.2.2.2), a2.Author, a2.Size, a2.Root, a2.Sign.Commits, a2.Sign.Challenges, a2.Sign.Responses))))) : Option ((((List Int) × Int × Int) × Int × Int × Int × (List Int) × (List Int) × (List Int)))).bind fun x4 =>
 some ((Head.mk x4.2.1 x4.2.2.1 x4.2.2.2.1 (Proof.mk x4.2.2.2.2.1 x4.2.2.2.2.2.1 x4.2.2.2.2.2.2)), (x4.1.1, x4.1.2.1, x4.1.2.2)))
theorem c_spec_l1Cur_spoiltHead__io0 : ∀ {a0c0} {a0c1} {a0c2} {a1} {a2} {r}, F_spec_l1Cur_spoiltHead__io0 a0c0 a0c1 a0c2 a1 a2 = some r → PCalls Tryz.prog 90 [(.io, .bx [.sl false 1 (a0c0.map row_u8), .int .i64 a0c1, .int .u64 a0c2]), (.sh, .agg [.int .i64 a1.P, .int .i64 a1.Q, .int .i64 a1.G]), (.sh, .agg [.int .i64 a2.Author, .int .i64 a2.Size, .int .i64 a2.Root, .sl false 1 (a2.Sign.Commits.map row_i64), .sl false 1 (a2.Sign.Challenges.map row_i64), .sl false 1 (a2.Sign.Responses.map row_i64)])] (Eo (.agg [.int .i64 r.1.Author, .int .i64 r.1.Size, .int .i64 r.1.Root, .sl false 1 (r.1.Sign.Commits.map row_i64), .sl false 1 (r.1.Sign.Challenges.map row_i64), .sl false 1 (r.1.Sign.Responses.map row_i64)]) [.bx [.sl false 1 (r.2.1.map row_u8), .int .i64 r.2.2.1, .int .u64 r.2.2.2], .junk, .junk]) := by
 intro a0c0 a0c1 a0c2 a1 a2 r hr
 apply pF 35 [0] [] [] [.cell 6 33] hr cl90 Tryz.func90
 intro Φ hΦ hF g
 unfold F_spec_l1Cur_spoiltHead__io0 at hF
 try simp [go_sem, g]
 refine pw_wk ?_
 try simp [go_sem, g]
 refine pC hF [.io, .sh] c_spec_l1Cur_pick__io0 (fun z1 hF => ?_)
 try simp [go_sem, g]
 refine pw_wk ?_
 repeat rw [sq]
 refine pJ hF (fun x4 => [(0, .v (.bx [.sl false 1 (x4.1.1.map row_u8), .int .i64 x4.1.2.1, .int .u64 x4.1.2.2])), (5, .bl [.int .i64 x4.2.1, .int .i64 x4.2.2.1, .int .i64 x4.2.2.2.1, .sl false 1 (x4.2.2.2.2.1.map row_i64), .sl false 1 (x4.2.2.2.2.2.1.map row_i64), .sl false 1 (x4.2.2.2.2.2.2.map row_i64)]), (6, .bl [.int .i64 0, .int .i64 0, .int .i64 0, .sl true 1 [], .sl true 1 [], .sl true 1 []])]) (fun x4 hF => ?_) fun _ hj2 hF => ?_
 ·cases hΦ _ (Rn_some hF)
  try simp [go_sem, g]
  refine pw_wk ?_
  try simp [go_sem, g]
 ·repeat rw [sq]
  rw [pw_block]
  try simp [go_sem, g]
  refine pw_wk ?_
  repeat rw [sq]
  refine pI hF (fun h5 hF => ?_) (fun h5 hF => ?_)
  ·try simp [go_sem, g]
   exact pT (hj2 ((z1.2.1, z1.2.2.1, z1.2.2.2), a2.Author, i64.wrap (a2.Size + 1), a2.Root, a2.Sign.Commits, a2.Sign.Challenges, a2.Sign.Responses)) (Rn_some hF)
  ·try simp [go_sem, g]
   refine pw_wk ?_
   repeat rw [sq]
   refine pI hF (fun h6 hF => ?_) (fun h6 hF => ?_)
   ·try simp [go_sem, g]
    refine pC hF [.io] c_spec_l1Cur_digest__io0 (fun z7 hF => ?_)
    try simp [go_sem, g]
    exact pT (hj2 ((z7.2.1, z7.2.2.1, z7.2.2.2), a2.Author, a2.Size, z7.1, a2.Sign.Commits, a2.Sign.Challenges, a2.Sign.Responses)) (Rn_some hF)
   ·try simp [go_sem, g]
    refine pw_wkK [0, 4, 5, 6, 8, 20] (by simp [go_sem, g]; rfl) ?_
    repeat rw [sq]
    refine pI hF (fun h8 hF => ?_) (fun h8 hF => ?_)
    ·try simp [go_sem, g]
     refine pC hF [.io, .sh, .sh] c_spec_l1Cur_spoiltProof__io0 (fun z9 hF => ?_)
     try simp [go_sem, g]
     refine pw_frzB 5 3 (by simp [go_sem, g]; rfl) rfl (by simp [go_sem]) ?_
     refine pw_frzB 5 4 (by simp [go_sem, g]; rfl) rfl (by simp [go_sem]) ?_
     refine pw_frzB 5 5 (by simp [go_sem, g]; rfl) rfl (by simp [go_sem]) ?_
     exact pT (hj2 ((z9.2.1, z9.2.2.1, z9.2.2.2), a2.Author, a2.Size, a2.Root, z9.1.Commits, z9.1.Challenges, z9.1.Responses)) (Rn_some hF)
    ·try simp [go_sem, g]
     refine pw_wk ?_
     repeat rw [sq]
     refine pI hF (fun h10 hF => ?_) (fun h10 hF => ?_)
     ·try simp [go_sem, g]
      refine pC hF [.io, .sh] c_spec_l1Cur_pick__io0 (fun z11 hF => ?_)
      try simp [go_sem, g]
      exact pT (hj2 ((z11.2.1, z11.2.2.1, z11.2.2.2), i64.wrap (z11.1 - 1), a2.Size, a2.Root, a2.Sign.Commits, a2.Sign.Challenges, a2.Sign.Responses)) (Rn_some hF)
     ·try simp [go_sem, g]
      exact pT (hj2 ((z1.2.1, z1.2.2.1, z1.2.2.2), a2.Author, a2.Size, a2.Root, a2.Sign.Commits, a2.Sign.Challenges, a2.Sign.Responses)) (Rn_some hF)
def D56_1 : List DE := [d0 0 [0], d2 1 [3] 3 3, d0 2 [0], d3 3 [17], d0 4 [18], d3 5 [15, 16, 19], d0 6 [20]]
def D56_13x1 : List DE := [d2 0 [3] 3 3, d0 1 [6], d0 2 [12], d0 3 [48, 49], d0 4 [50], d0 5 [12], d0 6 [0], d0 8 [0], d0 10 [0], d1 12 [3] 3, d2 13 [59] 3 59, d0 19 [], d3 7 [53], d3 9 [55], d3 11 [57], d0 14 [58, 60], d3 15 [47, 51, 52, 54, 56, 61], d0 16 [62], d0 17 [46], d0 18 [46], d2 20 [13, 63] 13 13, d0 21 [64]]
def D56_13x3 : List DE := [d2 0 [3] 3 3, d0 1 [6], d0 2 [12], d0 3 [48, 49], d0 5 [12], d0 6 [0], d0 8 [0], d0 10 [0], d1 12 [3] 3, d2 13 [59] 3 59, d0 19 [], d3 7 [53], d0 4 [50], d3 9 [55], d3 11 [57], d0 14 [58, 60], d3 15 [47, 51, 52, 54, 56, 61], d0 16 [62], d0 17 [46], d0 18 [46], d2 20 [13, 63] 13 13, d0 21 [64]]
def D56_13x5 : List DE := [d2 0 [3] 3 3, d0 1 [6], d0 2 [12], d0 3 [48, 49], d0 5 [12], d0 6 [0], d0 8 [0], d0 10 [0], d1 12 [3] 3, d2 13 [59] 3 59, d0 19 [], d3 7 [53], d3 9 [55], d0 4 [50], d3 11 [57], d0 14 [58, 60], d3 15 [47, 51, 52, 54, 56, 61], d0 16 [62], d0 17 [46], d0 18 [46], d2 20 [13, 63] 13 13, d0 21 [64]]
def D56_13x6 : List DE := [d2 0 [3] 3 3, d0 1 [6], d0 2 [12], d0 3 [48, 49], d0 5 [12], d0 6 [0], d0 8 [0], d0 10 [0], d1 12 [3] 3, d2 13 [59] 3 59, d0 19 [], d3 7 [53], d3 9 [55], d3 11 [57], d0 4 [50], d0 14 [58, 60], d3 15 [47, 51, 52, 54, 56, 61], d0 16 [62], d0 17 [46], d0 18 [46], d2 20 [13, 63] 13 13, d0 21 [64]]
noncomputable def F_spec_l1Cur_heads__io0 (a0c0 : (List Int)) (a0c1 : Int) (a0c2 : Int) (a1 : Group) : Option ((List Int) × (List Head) × ((List Int) × Int × Int)) :=
 (F_spec_l1Cur_pick__io0 a0c0 a0c1 a0c2 3).bind fun z1 =>
 (F_spec_l1Cur_coins__io0 z1.2.1 z1.2.2.1 z1.2.2.2 a1 (i64.wrap (1 + z1.1))).bind fun z2 =>
 ((rloop (σ := (List Int)) (fun i7 s6 =>
 (ix z2.1 i7).bind fun x13 =>
 (F_spec_gExp a1 a1.G x13).bind fun z14 =>
 gd ((s6.length + 1) * 8 ≤ 140737488355328 ∧ s6.length + 1 ≤ 4611686018427387904) <|
 some (.go (s6 ++ [z14]))) (fun s6 => s6) (z2.1.length) 0 [] : Option ((List Int))).bind fun x5 =>
 (F_spec_l1Cur_pick__io0 z2.2.1 z2.2.2.1 z2.2.2.2 6).bind fun z19 =>
 ((wloop (σ := ((List Int) × Int × Int) × (List Head) × Int) (fun s41 =>
 if decide (0 < s41.2.2) = true then (
 (F_spec_l1Cur_pick__io0 s41.1.1 s41.1.2.1 s41.1.2.2 (x5.length : Int)).bind fun z47 =>
 (ix z2.1 z47.1).bind fun x48 =>
 (F_spec_l1Cur_pick__io0 z47.2.1 z47.2.2.1 z47.2.2.2 4).bind fun z49 =>
 (F_spec_l1Cur_pick__io0 z49.2.1 z49.2.2.1 z49.2.2.2 3).bind fun z50 =>
 (F_spec_l1Cur_pick__io0 z50.2.1 z50.2.2.1 z50.2.2.2 2).bind fun z51 =>
 gd (a1.Q ≠ 0) <|
 (F_spec_SignHead a1 x48 z47.1 z49.1 z50.1 (z51.1.tmod a1.Q)).bind fun z52 =>
 (F_spec_l1Cur_one__io0 z51.2.1 z51.2.2.1 z51.2.2.2 8).bind fun z53 =>
 ((if z53.1 = true then (
 (F_spec_l1Cur_spoiltHead__io0 z53.2.1 z53.2.2.1 z53.2.2.2 a1 z52.1).bind fun z58 =>
 some ((z58.2.1, z58.2.2.1, z58.2.2.2), z58.1.Author, z58.1.Size, z58.1.Root, z58.1.Sign.Commits, z58.1.Sign.Challenges, z58.1.Sign.Responses)) else (
 some ((z53.2.1, z53.2.2.1, z53.2.2.2), z52.1.Author, z52.1.Size, z52.1.Root, z52.1.Sign.Commits, z52.1.Sign.Challenges, z52.1.Sign.Responses)) : Option ((((List Int) × Int × Int) × Int × Int × Int × (List Int) × (List Int) × (List Int)))).bind fun x56 =>
 gd ((s41.2.1.length + 1) * 96 ≤ 140737488355328 ∧ s41.2.1.length + 1 ≤ 4611686018427387904) <|
 some (.go ((x56.1.1, x56.1.2.1, x56.1.2.2), s41.2.1 ++ [(Head.mk x56.2.1 x56.2.2.1 x56.2.2.2.1 (Proof.mk x56.2.2.2.2.1 x56.2.2.2.2.2.1 x56.2.2.2.2.2.2))], i64.wrap (s41.2.2 - 1))))) else (
 some (.out ((s41.1.1, s41.1.2.1, s41.1.2.2), s41.2.1)))) ((z19.2.1, z19.2.2.1, z19.2.2.2), [], z19.1) : Option ((((List Int) × Int × Int) × (List Head)))).bind fun x22 =>
 some (x5, x22.2, (x22.1.1, x22.1.2.1, x22.1.2.2))))
theorem c_spec_l1Cur_heads__io0 : ∀ {a0c0} {a0c1} {a0c2} {a1} {r}, F_spec_l1Cur_heads__io0 a0c0 a0c1 a0c2 a1 = some r → PCalls Tryz.prog 56 [(.io, .bx [.sl false 1 (a0c0.map row_u8), .int .i64 a0c1, .int .u64 a0c2]), (.sh, .agg [.int .i64 a1.P, .int .i64 a1.Q, .int .i64 a1.G])] (Eo (.tup [.sl true 1 (r.1.map row_i64), .sl true 6 (r.2.1.map row_Head)]) [.bx [.sl false 1 (r.2.2.1.map row_u8), .int .i64 r.2.2.2.1, .int .u64 r.2.2.2.2], .junk]) := by
 intro a0c0 a0c1 a0c2 a1 r hr
 apply pF 77 [0] [69] [] [.tmp 4, .tmp 5] hr cl56 Tryz.func56
 intro Φ hΦ hF g
 unfold F_spec_l1Cur_heads__io0 at hF
 try simp [go_sem, g]
 refine pw_wk ?_
 repeat rw [sq]
 refine pw_draw D56_1 follows (by kernel_rfl) rfl ?_
 try simp only [go_sem, D56_1]
 try simp [go_sem, g]
 refine pC hF [.io, .sh] c_spec_l1Cur_pick__io0 (fun z1 hF => ?_)
 try simp [go_sem, g]
 refine pC hF [.io, .sh, .sh] c_spec_l1Cur_coins__io0 (fun z2 hF => ?_)
 try simp [go_sem, g]
 refine pw_wkK [0, 3, 6] (by simp [go_sem, g]; rfl) ?_
 iterate 2 (try simp [go_sem, g]; try intros; refine pw_wk ?_)
 repeat rw [sq]
 refine pJ hF (fun x5 => [(0, .v (.bx [.sl false 1 (z2.2.1.map row_u8), .int .i64 z2.2.2.1, .int .u64 z2.2.2.2])), (3, .bl [.int .i64 a1.P, .int .i64 a1.Q, .int .i64 a1.G]), (6, .v (.sl true 1 (z2.1.map row_i64))), (7, .v (.sl true 1 (x5.map row_i64)))]) (fun x5 hF => ?_) fun _ hj3 hF => ?_
 ·try simp [go_sem, g]
  refine pw_wk ?_
  try simp [go_sem, g]
  refine pC hF [.io, .sh] c_spec_l1Cur_pick__io0 (fun z19 hF => ?_)
  try simp [go_sem, g]
  refine pw_wk ?_
  repeat rw [sq]
  refine pJ hF (fun x22 => [(0, .v (.bx [.sl false 1 (x22.1.1.map row_u8), .int .i64 x22.1.2.1, .int .u64 x22.1.2.2])), (7, .v (.sl true 1 (x5.map row_i64))), (10, .v (.sl true 6 (x22.2.map row_Head)))]) (fun x22 hF => ?_) fun _ hj20 hF => ?_
  ·try simp [go_sem, g]
   refine pw_wkK [0, 4, 5] (by simp [go_sem, g]; rfl) ?_
   cases hΦ _ (Rn_some hF)
   try simp [go_sem, g]
  ·repeat rw [sq]
   rw [pw_block]
   obtain ⟨b59, hb60, hψ45⟩ := hF
   refine pL hb60 (fun s41 => [(0, .v (.bx [.sl false 1 (s41.1.1.map row_u8), .int .i64 s41.1.2.1, .int .u64 s41.1.2.2])), (3, .bl [.int .i64 a1.P, .int .i64 a1.Q, .int .i64 a1.G]), (6, .v (.sl true 1 (z2.1.map row_i64))), (7, .v (.sl true 1 (x5.map row_i64))), (10, .v (.sl true 6 (s41.2.1.map row_Head))), (11, .v (.int .i64 s41.2.2))]) (fun s41 _ _ ho43 hg44 hF => ?_)
   try simp [go_sem, g]
   refine pw_wkK [0, 3, 6, 7, 10, 11, 39] (by simp [go_sem, g]; rfl) ?_
   repeat rw [sq]
   refine pI hF (fun h46 hF => ?_) (fun h46 hF => ?_)
   ·try simp [go_sem, g]
    refine pw_wk ?_
    repeat rw [sq]
    rw [pw_block]
    try simp [go_sem, g]
    try intros
    refine pC hF [.io, .sh] c_spec_l1Cur_pick__io0 (fun z47 hF => ?_)
    try simp [go_sem, g]
    refine pw_wk ?_
    repeat rw [sq]
    refine pw_draw4 4 7 4 9 4 11 18 19 17 19 D56_13x1 D56_13x3 D56_13x5 D56_13x6 follows (by decide) (by kernel_rfl) (by kernel_rfl) (by kernel_rfl) (by kernel_rfl) rfl rfl rfl rfl ?_ ?_ ?_ ?_
    ·try simp only [go_sem, D56_13x1]
     obtain ⟨x48, g, hF⟩ := Rx g hF
     try simp [go_sem, g]
     refine pC hF [.io, .sh] c_spec_l1Cur_pick__io0 (fun z49 hF => ?_)
     try simp [go_sem, g]
     refine pC hF [.io, .sh] c_spec_l1Cur_pick__io0 (fun z50 hF => ?_)
     try simp [go_sem, g]
     refine pC hF [.io, .sh] c_spec_l1Cur_pick__io0 (fun z51 hF => ?_)
     obtain ⟨g, hF⟩ := Rz g hF
     try simp [go_sem, g]
     refine pC hF [.sh, .sh, .sh, .sh, .sh, .sh] c_spec_SignHead (fun z52 hF => ?_)
     try simp [go_sem, g]
     refine pw_wkK [0, 3, 6, 7, 10, 11, 13] (by simp [go_sem, g]; rfl) ?_
     try simp [go_sem, g]
     refine pC hF [.io, .sh] c_spec_l1Cur_one__io0 (fun z53 hF => ?_)
     try simp [go_sem, g]
     refine pw_wk ?_
     repeat rw [sq]
     refine pJ hF (fun x56 => [(0, .v (.bx [.sl false 1 (x56.1.1.map row_u8), .int .i64 x56.1.2.1, .int .u64 x56.1.2.2])), (3, .bl [.int .i64 a1.P, .int .i64 a1.Q, .int .i64 a1.G]), (6, .v (.sl true 1 (z2.1.map row_i64))), (7, .v (.sl true 1 (x5.map row_i64))), (10, .v (.sl true 6 (s41.2.1.map row_Head))), (11, .v (.int .i64 s41.2.2)), (13, .bl [.int .i64 x56.2.1, .int .i64 x56.2.2.1, .int .i64 x56.2.2.2.1, .sl false 1 (x56.2.2.2.2.1.map row_i64), .sl false 1 (x56.2.2.2.2.2.1.map row_i64), .sl false 1 (x56.2.2.2.2.2.2.map row_i64)])]) (fun x56 hF => ?_) fun _ hj54 hF => ?_
     ·obtain ⟨g, hF⟩ := Rg g hF
      try simp [go_sem, g]
      refine pw_wk ?_
      try simp [go_sem, g]
      exact pT (hg44 ((x56.1.1, x56.1.2.1, x56.1.2.2), s41.2.1 ++ [(Head.mk x56.2.1 x56.2.2.1 x56.2.2.2.1 (Proof.mk x56.2.2.2.2.1 x56.2.2.2.2.2.1 x56.2.2.2.2.2.2))], i64.wrap (s41.2.2 - 1))) (Rn_some hF)
     ·repeat rw [sq]
      refine pI hF (fun h57 hF => ?_) (fun h57 hF => ?_)
      ·try simp [go_sem, g]
       refine pC hF [.io, .sh, .sh] c_spec_l1Cur_spoiltHead__io0 (fun z58 hF => ?_)
       try simp [go_sem, g]
       exact pT (hj54 ((z58.2.1, z58.2.2.1, z58.2.2.2), z58.1.Author, z58.1.Size, z58.1.Root, z58.1.Sign.Commits, z58.1.Sign.Challenges, z58.1.Sign.Responses)) (Rn_some hF)
      ·try simp [go_sem, g]
       refine pw_frzB 13 3 (by simp [go_sem, g]; rfl) rfl (by simp [go_sem]) ?_
       refine pw_frzB 13 4 (by simp [go_sem, g]; rfl) rfl (by simp [go_sem]) ?_
       refine pw_frzB 13 5 (by simp [go_sem, g]; rfl) rfl (by simp [go_sem]) ?_
       exact pT (hj54 ((z53.2.1, z53.2.2.1, z53.2.2.2), z52.1.Author, z52.1.Size, z52.1.Root, z52.1.Sign.Commits, z52.1.Sign.Challenges, z52.1.Sign.Responses)) (Rn_some hF)
    ·try simp only [go_sem, D56_13x3]
     obtain ⟨x48, g, hF⟩ := Rx g hF
     try simp [go_sem, g]
     refine pC hF [.io, .sh] c_spec_l1Cur_pick__io0 (fun z49 hF => ?_)
     try simp [go_sem, g]
     refine pC hF [.io, .sh] c_spec_l1Cur_pick__io0 (fun z50 hF => ?_)
     try simp [go_sem, g]
     refine pC hF [.io, .sh] c_spec_l1Cur_pick__io0 (fun z51 hF => ?_)
     obtain ⟨g, hF⟩ := Rz g hF
     try simp [go_sem, g]
     refine pC hF [.sh, .sh, .sh, .sh, .sh, .sh] c_spec_SignHead (fun z52 hF => ?_)
     try simp [go_sem, g]
     refine pw_wkK [0, 3, 6, 7, 10, 11, 13] (by simp [go_sem, g]; rfl) ?_
     try simp [go_sem, g]
     refine pC hF [.io, .sh] c_spec_l1Cur_one__io0 (fun z53 hF => ?_)
     try simp [go_sem, g]
     refine pw_wk ?_
     repeat rw [sq]
     refine pJ hF (fun x56 => [(0, .v (.bx [.sl false 1 (x56.1.1.map row_u8), .int .i64 x56.1.2.1, .int .u64 x56.1.2.2])), (3, .bl [.int .i64 a1.P, .int .i64 a1.Q, .int .i64 a1.G]), (6, .v (.sl true 1 (z2.1.map row_i64))), (7, .v (.sl true 1 (x5.map row_i64))), (10, .v (.sl true 6 (s41.2.1.map row_Head))), (11, .v (.int .i64 s41.2.2)), (13, .bl [.int .i64 x56.2.1, .int .i64 x56.2.2.1, .int .i64 x56.2.2.2.1, .sl false 1 (x56.2.2.2.2.1.map row_i64), .sl false 1 (x56.2.2.2.2.2.1.map row_i64), .sl false 1 (x56.2.2.2.2.2.2.map row_i64)])]) (fun x56 hF => ?_) fun _ hj54 hF => ?_
     ·obtain ⟨g, hF⟩ := Rg g hF
      try simp [go_sem, g]
      refine pw_wk ?_
      try simp [go_sem, g]
      exact pT (hg44 ((x56.1.1, x56.1.2.1, x56.1.2.2), s41.2.1 ++ [(Head.mk x56.2.1 x56.2.2.1 x56.2.2.2.1 (Proof.mk x56.2.2.2.2.1 x56.2.2.2.2.2.1 x56.2.2.2.2.2.2))], i64.wrap (s41.2.2 - 1))) (Rn_some hF)
     ·repeat rw [sq]
      refine pI hF (fun h57 hF => ?_) (fun h57 hF => ?_)
      ·try simp [go_sem, g]
       refine pC hF [.io, .sh, .sh] c_spec_l1Cur_spoiltHead__io0 (fun z58 hF => ?_)
       try simp [go_sem, g]
       exact pT (hj54 ((z58.2.1, z58.2.2.1, z58.2.2.2), z58.1.Author, z58.1.Size, z58.1.Root, z58.1.Sign.Commits, z58.1.Sign.Challenges, z58.1.Sign.Responses)) (Rn_some hF)
      ·try simp [go_sem, g]
       refine pw_frzB 13 3 (by simp [go_sem, g]; rfl) rfl (by simp [go_sem]) ?_
       refine pw_frzB 13 4 (by simp [go_sem, g]; rfl) rfl (by simp [go_sem]) ?_
       refine pw_frzB 13 5 (by simp [go_sem, g]; rfl) rfl (by simp [go_sem]) ?_
       exact pT (hj54 ((z53.2.1, z53.2.2.1, z53.2.2.2), z52.1.Author, z52.1.Size, z52.1.Root, z52.1.Sign.Commits, z52.1.Sign.Challenges, z52.1.Sign.Responses)) (Rn_some hF)
    ·try simp only [go_sem, D56_13x5]
     obtain ⟨x48, g, hF⟩ := Rx g hF
     try simp [go_sem, g]
     refine pC hF [.io, .sh] c_spec_l1Cur_pick__io0 (fun z49 hF => ?_)
     try simp [go_sem, g]
     refine pC hF [.io, .sh] c_spec_l1Cur_pick__io0 (fun z50 hF => ?_)
     try simp [go_sem, g]
     refine pC hF [.io, .sh] c_spec_l1Cur_pick__io0 (fun z51 hF => ?_)
     obtain ⟨g, hF⟩ := Rz g hF
     try simp [go_sem, g]
     refine pC hF [.sh, .sh, .sh, .sh, .sh, .sh] c_spec_SignHead (fun z52 hF => ?_)
     try simp [go_sem, g]
     refine pw_wkK [0, 3, 6, 7, 10, 11, 13] (by simp [go_sem, g]; rfl) ?_
     try simp [go_sem, g]
     refine pC hF [.io, .sh] c_spec_l1Cur_one__io0 (fun z53 hF => ?_)
     try simp [go_sem, g]
     refine pw_wk ?_
     repeat rw [sq]
     refine pJ hF (fun x56 => [(0, .v (.bx [.sl false 1 (x56.1.1.map row_u8), .int .i64 x56.1.2.1, .int .u64 x56.1.2.2])), (3, .bl [.int .i64 a1.P, .int .i64 a1.Q, .int .i64 a1.G]), (6, .v (.sl true 1 (z2.1.map row_i64))), (7, .v (.sl true 1 (x5.map row_i64))), (10, .v (.sl true 6 (s41.2.1.map row_Head))), (11, .v (.int .i64 s41.2.2)), (13, .bl [.int .i64 x56.2.1, .int .i64 x56.2.2.1, .int .i64 x56.2.2.2.1, .sl false 1 (x56.2.2.2.2.1.map row_i64), .sl false 1 (x56.2.2.2.2.2.1.map row_i64), .sl false 1 (x56.2.2.2.2.2.2.map row_i64)])]) (fun x56 hF => ?_) fun _ hj54 hF => ?_
     ·obtain ⟨g, hF⟩ := Rg g hF
      try simp [go_sem, g]
      refine pw_wk ?_
      try simp [go_sem, g]
      exact pT (hg44 ((x56.1.1, x56.1.2.1, x56.1.2.2), s41.2.1 ++ [(Head.mk x56.2.1 x56.2.2.1 x56.2.2.2.1 (Proof.mk x56.2.2.2.2.1 x56.2.2.2.2.2.1 x56.2.2.2.2.2.2))], i64.wrap (s41.2.2 - 1))) (Rn_some hF)
     ·repeat rw [sq]
      refine pI hF (fun h57 hF => ?_) (fun h57 hF => ?_)
      ·try simp [go_sem, g]
       refine pC hF [.io, .sh, .sh] c_spec_l1Cur_spoiltHead__io0 (fun z58 hF => ?_)
       try simp [go_sem, g]
       exact pT (hj54 ((z58.2.1, z58.2.2.1, z58.2.2.2), z58.1.Author, z58.1.Size, z58.1.Root, z58.1.Sign.Commits, z58.1.Sign.Challenges, z58.1.Sign.Responses)) (Rn_some hF)
      ·try simp [go_sem, g]
       refine pw_frzB 13 3 (by simp [go_sem, g]; rfl) rfl (by simp [go_sem]) ?_
       refine pw_frzB 13 4 (by simp [go_sem, g]; rfl) rfl (by simp [go_sem]) ?_
       refine pw_frzB 13 5 (by simp [go_sem, g]; rfl) rfl (by simp [go_sem]) ?_
       exact pT (hj54 ((z53.2.1, z53.2.2.1, z53.2.2.2), z52.1.Author, z52.1.Size, z52.1.Root, z52.1.Sign.Commits, z52.1.Sign.Challenges, z52.1.Sign.Responses)) (Rn_some hF)
    ·try simp only [go_sem, D56_13x6]
     obtain ⟨x48, g, hF⟩ := Rx g hF
     try simp [go_sem, g]
     refine pC hF [.io, .sh] c_spec_l1Cur_pick__io0 (fun z49 hF => ?_)
     try simp [go_sem, g]
     refine pC hF [.io, .sh] c_spec_l1Cur_pick__io0 (fun z50 hF => ?_)
     try simp [go_sem, g]
     refine pC hF [.io, .sh] c_spec_l1Cur_pick__io0 (fun z51 hF => ?_)
     obtain ⟨g, hF⟩ := Rz g hF
     try simp [go_sem, g]
     refine pC hF [.sh, .sh, .sh, .sh, .sh, .sh] c_spec_SignHead (fun z52 hF => ?_)
     try simp [go_sem, g]
     refine pw_wkK [0, 3, 6, 7, 10, 11, 13] (by simp [go_sem, g]; rfl) ?_
     try simp [go_sem, g]
     refine pC hF [.io, .sh] c_spec_l1Cur_one__io0 (fun z53 hF => ?_)
     try simp [go_sem, g]
     refine pw_wk ?_
     repeat rw [sq]
     refine pJ hF (fun x56 => [(0, .v (.bx [.sl false 1 (x56.1.1.map row_u8), .int .i64 x56.1.2.1, .int .u64 x56.1.2.2])), (3, .bl [.int .i64 a1.P, .int .i64 a1.Q, .int .i64 a1.G]), (6, .v (.sl true 1 (z2.1.map row_i64))), (7, .v (.sl true 1 (x5.map row_i64))), (10, .v (.sl true 6 (s41.2.1.map row_Head))), (11, .v (.int .i64 s41.2.2)), (13, .bl [.int .i64 x56.2.1, .int .i64 x56.2.2.1, .int .i64 x56.2.2.2.1, .sl false 1 (x56.2.2.2.2.1.map row_i64), .sl false 1 (x56.2.2.2.2.2.1.map row_i64), .sl false 1 (x56.2.2.2.2.2.2.map row_i64)])]) (fun x56 hF => ?_) fun _ hj54 hF => ?_
     ·obtain ⟨g, hF⟩ := Rg g hF
      try simp [go_sem, g]
      refine pw_wk ?_
      try simp [go_sem, g]
      exact pT (hg44 ((x56.1.1, x56.1.2.1, x56.1.2.2), s41.2.1 ++ [(Head.mk x56.2.1 x56.2.2.1 x56.2.2.2.1 (Proof.mk x56.2.2.2.2.1 x56.2.2.2.2.2.1 x56.2.2.2.2.2.2))], i64.wrap (s41.2.2 - 1))) (Rn_some hF)
     ·repeat rw [sq]
      refine pI hF (fun h57 hF => ?_) (fun h57 hF => ?_)
      ·try simp [go_sem, g]
       refine pC hF [.io, .sh, .sh] c_spec_l1Cur_spoiltHead__io0 (fun z58 hF => ?_)
       try simp [go_sem, g]
       exact pT (hj54 ((z58.2.1, z58.2.2.1, z58.2.2.2), z58.1.Author, z58.1.Size, z58.1.Root, z58.1.Sign.Commits, z58.1.Sign.Challenges, z58.1.Sign.Responses)) (Rn_some hF)
      ·try simp [go_sem, g]
       refine pw_frzB 13 3 (by simp [go_sem, g]; rfl) rfl (by simp [go_sem]) ?_
       refine pw_frzB 13 4 (by simp [go_sem, g]; rfl) rfl (by simp [go_sem]) ?_
       refine pw_frzB 13 5 (by simp [go_sem, g]; rfl) rfl (by simp [go_sem]) ?_
       exact pT (hj54 ((z53.2.1, z53.2.2.1, z53.2.2.2), z52.1.Author, z52.1.Size, z52.1.Root, z52.1.Sign.Commits, z52.1.Sign.Challenges, z52.1.Sign.Responses)) (Rn_some hF)
   ·try simp [go_sem, g]
    cases ho43 _ (Rn_some hF)
    exact pT (hj20 ((s41.1.1, s41.1.2.1, s41.1.2.2), s41.2.1)) hψ45
 ·repeat rw [sq]
  rw [pw_block]
  obtain ⟨b15, hb16, hψ10⟩ := hF
  refine pR hb16 (fun i7 s6 => [(0, .v (.bx [.sl false 1 (z2.2.1.map row_u8), .int .i64 z2.2.2.1, .int .u64 z2.2.2.2])), (3, .bl [.int .i64 a1.P, .int .i64 a1.Q, .int .i64 a1.G]), (6, .v (.sl true 1 (z2.1.map row_i64))), (7, .v (.sl true 1 (s6.map row_i64))), (21, .rf 6 []), (22, .v (.int .i64 (z2.1.length : Int))), (23, .v (.int .i64 i7))]) (fun s6 _ hN17 => ?_) (fun i7 s6 _ _ hi11 hi12 ho8 hg9 hF => ?_)
  ·subst hN17
   try simp [go_sem]
   refine pw_wk ?_
   repeat rw [sq]
   refine pw_cond_f (by simp [go_sem]) ?_
   try simp [go_sem]
   exact pT (hj3 s6) hψ10 (by simp [go_sem])
  ·try simp [go_sem, g]
   refine pw_wk ?_
   repeat rw [sq]
   refine pw_cond_t (by simp [go_sem, g, hi11, hi12]) ?_
   try simp [go_sem, g]
   refine pw_wk ?_
   repeat rw [sq]
   rw [pw_block]
   obtain ⟨x13, g, hF⟩ := Rx g hF
   try simp [go_sem, g]
   refine pw_wk ?_
   try simp [go_sem, g]
   refine pC hF [.sh, .sh, .sh] c_spec_gExp (fun z14 hF => ?_)
   obtain ⟨g, hF⟩ := Rg g hF
   try simp [go_sem, g]
   refine pw_wkK [0, 3, 6, 7, 21, 22, 23] (by simp [go_sem, g]; rfl) ?_
   try simp [go_sem, g]
   exact pT (hg9 (s6 ++ [z14])) (Rn_some hF) (by simp [go_sem, g, wr_i hi11 hi12 (by assumption)])
noncomputable def F_spec_l1Cur_anyHeads__io0 (a0c0 : (List Int)) (a0c1 : Int) (a0c2 : Int) : Option (Group × (List Int) × (List Head) × ((List Int) × Int × Int)) :=
 (F_spec_l1Cur_anyGroup__io0 a0c0 a0c1 a0c2).bind fun z1 =>
 (F_spec_l2Good z1.1).bind fun z2 =>
 if (!z2) = true then (
 some (z1.1, [1], [], (z1.2.1, z1.2.2.1, z1.2.2.2))) else (
 (F_spec_l1Cur_heads__io0 z1.2.1 z1.2.2.1 z1.2.2.2 z1.1).bind fun z4 =>
 (F_spec_l1Cur_pick__io0 z4.2.2.1 z4.2.2.2.1 z4.2.2.2.2 20).bind fun z5 =>
 ((if (z5.1 == 0) = true then (
 (F_spec_l1Cur_anyElement__io0 z5.2.1 z5.2.2.1 z5.2.2.2 z1.1).bind fun z10 =>
 gd ((z4.1.length + 1) * 8 ≤ 140737488355328 ∧ z4.1.length + 1 ≤ 4611686018427387904) <|
 some ((z10.2.1, z10.2.2.1, z10.2.2.2), z4.1 ++ [z10.1], z4.2.1)) else (
 if (z5.1 == 1) = true then (
 (F_spec_l1Cur_pick__io0 z5.2.1 z5.2.2.1 z5.2.2.2 2).bind fun z12 =>
 wloop (σ := (List Head)) (fun s13 =>
 if decide ((s13.length : Int) < (i64.wrap (20 + z12.1))) = true then (
 gd ((s13.length + 1) * 96 ≤ 140737488355328 ∧ s13.length + 1 ≤ 4611686018427387904) <|
 some (.go (s13 ++ [(Head.mk 0 (s13.length : Int) 1 (Proof.mk [] [] []))]))) else (
 some (.out ((z12.2.1, z12.2.2.1, z12.2.2.2), z4.1, s13)))) z4.2.1) else (
 some ((z5.2.1, z5.2.2.1, z5.2.2.2), z4.1, z4.2.1))) : Option ((((List Int) × Int × Int) × (List Int) × (List Head)))).bind fun x8 =>
 some (z1.1, x8.2.1, x8.2.2, (x8.1.1, x8.1.2.1, x8.1.2.2))))
theorem c_spec_l1Cur_anyHeads__io0 : ∀ {a0c0} {a0c1} {a0c2} {r}, F_spec_l1Cur_anyHeads__io0 a0c0 a0c1 a0c2 = some r → PCalls Tryz.prog 24 [(.io, .bx [.sl false 1 (a0c0.map row_u8), .int .i64 a0c1, .int .u64 a0c2])] (Eo (.tup [.agg [.int .i64 r.1.P, .int .i64 r.1.Q, .int .i64 r.1.G], .sl true 1 (r.2.1.map row_i64), .sl true 6 (r.2.2.1.map row_Head)]) [.bx [.sl false 1 (r.2.2.2.1.map row_u8), .int .i64 r.2.2.2.2.1, .int .u64 r.2.2.2.2.2]]) := by
 intro a0c0 a0c1 a0c2 r hr
 apply pF 50 [0] [44] [] [.cell 2 25, .tmp 3, .tmp 4] hr cl24 Tryz.func24
 intro Φ hΦ hF g
 unfold F_spec_l1Cur_anyHeads__io0 at hF
 try simp [go_sem, g]
 refine pw_wk ?_
 try simp [go_sem, g]
 refine pC hF [.io] c_spec_l1Cur_anyGroup__io0 (fun z1 hF => ?_)
 try simp [go_sem, g]
 refine pw_wk ?_
 try simp [go_sem, g]
 refine pC hF [.sh] c_spec_l2Good (fun z2 hF => ?_)
 try simp [go_sem, g]
 refine pw_wkK [0, 2, 5, 13] (by simp [go_sem, g]; rfl) ?_
 repeat rw [sq]
 refine pI hF (fun h3 hF => ?_) (fun h3 hF => ?_)
 ·cases hΦ _ (Rn_some hF)
  try simp [go_sem, g]
  refine pw_wk ?_
  try simp [go_sem, g]
 ·try simp [go_sem, g]
  refine pw_wk ?_
  try simp [go_sem, g]
  refine pC hF [.io, .sh] c_spec_l1Cur_heads__io0 (fun z4 hF => ?_)
  try simp [go_sem, g]
  refine pw_wk ?_
  try simp [go_sem, g]
  refine pC hF [.io, .sh] c_spec_l1Cur_pick__io0 (fun z5 hF => ?_)
  try simp [go_sem, g]
  refine pw_wkK [0, 2, 5, 6, 7, 23] (by simp [go_sem, g]; rfl) ?_
  repeat rw [sq]
  refine pJ hF (fun x8 => [(0, .v (.bx [.sl false 1 (x8.1.1.map row_u8), .int .i64 x8.1.2.1, .int .u64 x8.1.2.2])), (2, .bl [.int .i64 0, .int .i64 0, .int .i64 0]), (5, .bl [.int .i64 z1.1.P, .int .i64 z1.1.Q, .int .i64 z1.1.G]), (6, .v (.sl true 1 (x8.2.1.map row_i64))), (7, .v (.sl true 6 (x8.2.2.map row_Head)))]) (fun x8 hF => ?_) fun _ hj6 hF => ?_
  ·cases hΦ _ (Rn_some hF)
   try simp [go_sem, g]
   refine pw_wk ?_
   try simp [go_sem, g]
  ·repeat rw [sq]
   rw [pw_block]
   try simp [go_sem, g]
   refine pw_wk ?_
   repeat rw [sq]
   refine pI hF (fun h9 hF => ?_) (fun h9 hF => ?_)
   ·try simp [go_sem, g]
    refine pC hF [.io, .sh] c_spec_l1Cur_anyElement__io0 (fun z10 hF => ?_)
    obtain ⟨g, hF⟩ := Rg g hF
    try simp [go_sem, g]
    exact pT (hj6 ((z10.2.1, z10.2.2.1, z10.2.2.2), z4.1 ++ [z10.1], z4.2.1)) (Rn_some hF)
   ·try simp [go_sem, g]
    refine pw_wk ?_
    repeat rw [sq]
    refine pI hF (fun h11 hF => ?_) (fun h11 hF => ?_)
    ·try simp [go_sem, g]
     refine pC hF [.io, .sh] c_spec_l1Cur_pick__io0 (fun z12 hF => ?_)
     try simp [go_sem, g]
     refine pw_wk ?_
     repeat rw [sq]
     rw [pw_block]
     obtain ⟨b19, hb20, hψ17⟩ := hF
     refine pL hb20 (fun s13 => [(0, .v (.bx [.sl false 1 (z12.2.1.map row_u8), .int .i64 z12.2.2.1, .int .u64 z12.2.2.2])), (2, .bl [.int .i64 0, .int .i64 0, .int .i64 0]), (5, .bl [.int .i64 z1.1.P, .int .i64 z1.1.Q, .int .i64 z1.1.G]), (6, .v (.sl true 1 (z4.1.map row_i64))), (7, .v (.sl true 6 (s13.map row_Head))), (8, .v (.int .i64 (i64.wrap (20 + z12.1))))]) (fun s13 _ _ ho15 hg16 hF => ?_)
     try simp [go_sem, g]
     try intros
     refine pw_wkK [0, 2, 5, 6, 7, 8, 40] (by simp [go_sem, g]; rfl) ?_
     repeat rw [sq]
     refine pI hF (fun h18 hF => ?_) (fun h18 hF => ?_)
     ·try simp [go_sem, g]
      refine pw_wk ?_
      repeat rw [sq]
      rw [pw_block]
      obtain ⟨g, hF⟩ := Rg g hF
      try simp [go_sem, g]
      try intros
      exact pT (hg16 (s13 ++ [(Head.mk 0 (s13.length : Int) 1 (Proof.mk [] [] []))])) (Rn_some hF)
     ·try simp [go_sem, g]
      cases ho15 _ (Rn_some hF)
      exact pT (hj6 ((z12.2.1, z12.2.2.1, z12.2.2.2), z4.1, s13)) hψ17
    ·try simp [go_sem, g]
     exact pT (hj6 ((z5.2.1, z5.2.2.1, z5.2.2.2), z4.1, z4.2.1)) (Rn_some hF)
noncomputable def F_spec_DrawFindFork (a0 : (List Int)) : Option (Group × (List Int) × (List Head)) :=
 (F_spec_l1Cur_anyHeads__io0 a0 0 0).bind fun z1 =>
 some (z1.1, z1.2.1, z1.2.2.1)
theorem c_spec_DrawFindFork : ∀ {a0} {r}, F_spec_DrawFindFork a0 = some r → PCalls Tryz.prog 6 [(.sh, .sl false 1 (a0.map row_u8))] (Eo (.tup [.agg [.int .i64 r.1.P, .int .i64 r.1.Q, .int .i64 r.1.G], .sl true 1 (r.2.1.map row_i64), .sl true 6 (r.2.2.map row_Head)]) [.junk]) := by
 intro a0 r hr
 apply pF 14 [] [] [8] [.cell 2 25, .tmp 3, .tmp 4] hr cl6 Tryz.func6
 intro Φ hΦ hF g
 unfold F_spec_DrawFindFork at hF
 iterate 2 (try simp [go_sem, g]; refine pw_wk ?_)
 try simp [go_sem, g]
 refine pC hF [.io] c_spec_l1Cur_anyHeads__io0 (fun z1 hF => ?_)
 try simp [go_sem, g]
 refine pw_wkK [2, 3, 4] (by simp [go_sem, g]; rfl) ?_
 cases hΦ _ (Rn_some hF)
 try simp [go_sem, g]
noncomputable def F_impl_within (a0 : Int) (a1 : Int) (a2 : Int) : Option (Bool) :=
 ((if decide (a1 ≤ a0) = true then (
 some (decide (a0 ≤ a2))) else (
 some false) : Option (Bool)).bind fun x3 =>
 some x3)
theorem c_impl_within : ∀ {a0} {a1} {a2} {r}, F_impl_within a0 a1 a2 = some r → PCalls Tryz.prog 49 [(.sh, .int .i64 a0), (.sh, .int .i64 a1), (.sh, .int .i64 a2)] (Eo (.bool r) [.junk, .junk, .junk]) := by
 intro a0 a1 a2 r hr
 apply pF 15 [] [] [] [.tmp 6] hr cl49 Tryz.func49
 intro Φ hΦ hF g
 unfold F_impl_within at hF
 try simp [go_sem, g]
 refine pw_wk ?_
 repeat rw [sq]
 refine pJ hF (fun x3 => [(6, .v (.bool x3))]) (fun x3 hF => ?_) fun _ hj1 hF => ?_
 ·cases hΦ _ (Rn_some hF)
  try simp [go_sem, g]
 ·try simp [go_sem, g]
  refine pwg_F hF (fun h4 hF => ?_) fun h4 hF => ?_
  ·try simp [go_sem, g, h4]
   exact pT (hj1 (decide (a0 ≤ a2))) (Rn_some hF)
  ·try simp [go_sem, g, h4]
   exact pT (hj1 false) (Rn_some hF)
noncomputable def F_impl_isModulus (a0 : Int) : Option (Bool) :=
 (F_impl_within a0 2 2000000000).bind fun z1 =>
 some z1
theorem c_impl_isModulus : ∀ {a0} {r}, F_impl_isModulus a0 = some r → PCalls Tryz.prog 92 [(.sh, .int .i64 a0)] (Eo (.bool r) [.junk]) := by
 intro a0 r hr
 apply pF 5 [] [] [] [.tmp 2] hr cl92 Tryz.func92
 intro Φ hΦ hF g
 unfold F_impl_isModulus at hF
 try simp [go_sem, g]
 refine pw_wk ?_
 try simp [go_sem, g]
 refine pC hF [.sh, .sh, .sh] c_impl_within (fun z1 hF => ?_)
 cases hΦ _ (Rn_some hF)
 try simp [go_sem, g]
 refine pw_wk ?_
 try simp [go_sem, g]
noncomputable def F_impl_isPrime (a0 : Int) : Option (Bool) :=
 (((F_impl_isModulus a0).bind fun z4 =>
 if (!z4) = true then (
 some true) else (
 if ((a0.tmod 2) == 0) = true then (
 some (a0 != 2)) else (
 some false)) : Option (Bool)).bind fun x3 =>
 if x3 = true then (
 some false) else (
 ((wloop (σ := Int) (fun s11 =>
 if decide ((i64.wrap (s11 * s11)) ≤ a0) = true then (
 gd (s11 ≠ 0) <|
 if ((a0.tmod s11) == 0) = true then (
 some (.out (.inr false))) else (
 some (.go (i64.wrap (s11 + 2))))) else (
 some (.out (.inl ())))) 3 : Option (Unit ⊕ Bool)).bind (Sum.elim (fun x10 =>
 some true) some))))
theorem c_impl_isPrime : ∀ {a0} {r}, F_impl_isPrime a0 = some r → PCalls Tryz.prog 58 [(.sh, .int .i64 a0)] (Eo (.bool r) [.junk]) := by
 intro a0 r hr
 apply pF 27 [] [] [] [.tmp 2] hr cl58 Tryz.func58
 intro Φ hΦ hF g
 unfold F_impl_isPrime at hF
 try simp [go_sem, g]
 refine pw_wk ?_
 repeat rw [sq]
 refine pJ hF (fun x3 => [(0, .v (.int .i64 a0)), (15, .v (.bool x3))]) (fun x3 hF => ?_) fun _ hj1 hF => ?_
 ·repeat rw [sq]
  refine pI hF (fun h7 hF => ?_) (fun h7 hF => ?_)
  ·cases hΦ _ (Rn_some hF)
   try simp [go_sem, g]
   refine pw_wk ?_
   try simp [go_sem, g]
  ·iterate 2 (try simp [go_sem, g]; refine pw_wk ?_)
   repeat rw [sq]
   refine pJs hF (fun x10 => []) (fun x10 hF => ?_) fun _ hj8 hr9 hF => ?_
   ·cases hΦ _ (Rn_some hF)
    try simp [go_sem, g]
    refine pw_wk ?_
    try simp [go_sem, g]
   ·repeat rw [sq]
    rw [pw_block]
    obtain ⟨b18, hb19, hψ15⟩ := hF
    refine pL hb19 (fun s11 => [(0, .v (.int .i64 a0)), (3, .v (.int .i64 s11))]) (fun s11 _ _ ho13 hg14 hF => ?_)
    try simp [go_sem, g]
    refine pw_wk ?_
    repeat rw [sq]
    refine pI hF (fun h16 hF => ?_) (fun h16 hF => ?_)
    ·try simp [go_sem, g]
     refine pw_wk ?_
     repeat rw [sq]
     rw [pw_block]
     obtain ⟨g, hF⟩ := Rz g hF
     try simp [go_sem, g]
     refine pw_wkK [0, 3, 26] (by simp [go_sem, g]; rfl) ?_
     repeat rw [sq]
     refine pI hF (fun h17 hF => ?_) (fun h17 hF => ?_)
     ·cases ho13 _ (Rn_some hF)
      cases hΦ _ (hr9 _ hψ15)
      try simp [go_sem, g]
      refine pw_wk ?_
      try simp [go_sem, g]
     ·try simp [go_sem, g]
      refine pw_wk ?_
      try simp [go_sem, g]
      exact pT (hg14 (i64.wrap (s11 + 2))) (Rn_some hF)
    ·try simp [go_sem, g]
     cases ho13 _ (Rn_some hF)
     exact pT (hj8 ()) hψ15
 ·try simp [go_sem, g]
  refine pC hF [.sh] c_impl_isModulus (fun z4 hF => ?_)
  try simp [go_sem, g]
  refine pwg_F hF (fun h5 hF => ?_) fun h5 hF => ?_
  ·try simp [go_sem, g, h5]
   exact pT (hj1 true) (Rn_some hF)
  ·have g := Ld g 2
   try simp [go_sem, g, h5]
   refine pwg_F hF (fun h6 hF => ?_) fun h6 hF => ?_
   ·try simp [go_sem, g, h6, h5]
    exact pT (hj1 (a0 != 2)) (Rn_some hF)
   ·try simp [go_sem, g, h6, h5]
    exact pT (hj1 false) (Rn_some hF)
noncomputable def F_impl_power (a0 : Int) (a1 : Int) (a2 : Int) : Option (Int) :=
 gd (a2 ≠ 0) <|
 ((wloop (σ := Int × Int × Int) (fun s4 =>
 if decide (0 < s4.2.1) = true then (
 ((if ((i64.wrap ((BitVec.ofInt i64.bits s4.2.1 &&& BitVec.ofInt i64.bits 1).toNat)) == 1) = true then (
 gd (a2 ≠ 0) <|
 some ((i64.wrap (s4.2.2 * s4.1)).tmod a2)) else (
 some s4.2.2) : Option (Int)).bind fun x12 =>
 gd (a2 ≠ 0) <|
 some (.go ((i64.wrap (s4.1 * s4.1)).tmod a2, s4.2.1.fdiv 2, x12)))) else (
 some (.out s4.2.2))) (a0, a1, (1 : Int).tmod a2) : Option (Int)).bind fun x3 =>
 some x3)
theorem c_impl_power : ∀ {a0} {a1} {a2} {r}, F_impl_power a0 a1 a2 = some r → PCalls Tryz.prog 59 [(.sh, .int .i64 a0), (.sh, .int .i64 a1), (.sh, .int .i64 a2)] (Eo (.int .i64 r) [.junk, .junk, .junk]) := by
 intro a0 a1 a2 r hr
 apply pF 28 [] [] [] [.tmp 6] hr cl59 Tryz.func59
 intro Φ hΦ hF g
 unfold F_impl_power at hF
 obtain ⟨g, hF⟩ := Rz g hF
 iterate 2 (try simp [go_sem, g]; refine pw_wk ?_)
 repeat rw [sq]
 refine pJ hF (fun x3 => [(7, .v (.int .i64 x3))]) (fun x3 hF => ?_) fun _ hj1 hF => ?_
 ·cases hΦ _ (Rn_some hF)
  try simp [go_sem, g]
  refine pw_wk ?_
  try simp [go_sem, g]
 ·repeat rw [sq]
  rw [pw_block]
  obtain ⟨b14, hb15, hψ8⟩ := hF
  refine pL hb15 (fun s4 => [(0, .v (.int .i64 s4.1)), (1, .v (.int .i64 s4.2.1)), (2, .v (.int .i64 a2)), (7, .v (.int .i64 s4.2.2))]) (fun s4 _ _ ho6 hg7 hF => ?_)
  try simp [go_sem, g]
  refine pw_wk ?_
  repeat rw [sq]
  refine pI hF (fun h9 hF => ?_) (fun h9 hF => ?_)
  ·try simp [go_sem, g]
   refine pw_wk ?_
   repeat rw [sq]
   rw [pw_block]
   try simp [go_sem, g]
   refine pw_wk ?_
   repeat rw [sq]
   refine pJ hF (fun x12 => [(0, .v (.int .i64 s4.1)), (1, .v (.int .i64 s4.2.1)), (2, .v (.int .i64 a2)), (7, .v (.int .i64 x12))]) (fun x12 hF => ?_) fun _ hj10 hF => ?_
   ·obtain ⟨g, hF⟩ := Rz g hF
    try simp [go_sem, g]
    refine pw_wkK [0, 1, 2, 7] (by simp [go_sem, g]; rfl) ?_
    have g := Ls g 1
    try simp [go_sem, g]
    exact pT (hg7 ((i64.wrap (s4.1 * s4.1)).tmod a2, s4.2.1.fdiv 2, x12)) (Rn_some hF)
   ·repeat rw [sq]
    refine pI hF (fun h13 hF => ?_) (fun h13 hF => ?_)
    ·obtain ⟨g, hF⟩ := Rz g hF
     try simp [go_sem, g]
     exact pT (hj10 ((i64.wrap (s4.2.2 * s4.1)).tmod a2)) (Rn_some hF)
    ·try simp [go_sem, g]
     exact pT (hj10 s4.2.2) (Rn_some hF)
  ·try simp [go_sem, g]
   cases ho6 _ (Rn_some hF)
   exact pT (hj1 s4.2.2) hψ8
noncomputable def F_impl_IsValidGroup (a0 : Group) : Option (Bool) :=
 (((F_impl_within a0.P 3 2000000000).bind fun z4 =>
 if z4 = true then (
 (F_impl_within a0.Q 2 (i64.wrap (a0.P - 1))).bind fun z6 =>
 if z6 = true then (
 gd (a0.Q ≠ 0) <|
 if (((i64.wrap (a0.P - 1)).tmod a0.Q) == 0) = true then (
 (F_impl_within a0.G 2 (i64.wrap (a0.P - 1))).bind fun z9 =>
 if z9 = true then (
 (F_impl_isPrime a0.P).bind fun z11 =>
 if z11 = true then (
 (F_impl_isPrime a0.Q).bind fun z13 =>
 if z13 = true then (
 (F_impl_power a0.G a0.Q a0.P).bind fun z15 =>
 some (z15 == 1)) else (
 some false)) else (
 some false)) else (
 some false)) else (
 some false)) else (
 some false)) else (
 some false) : Option (Bool)).bind fun x3 =>
 some x3)
theorem c_impl_IsValidGroup : ∀ {a0} {r}, F_impl_IsValidGroup a0 = some r → PCalls Tryz.prog 25 [(.sh, .agg [.int .i64 a0.P, .int .i64 a0.Q, .int .i64 a0.G])] (Eo (.bool r) [.junk]) := by
 intro a0 r hr
 apply pF 51 [] [] [] [.tmp 2] hr cl25 Tryz.func25
 intro Φ hΦ hF g
 unfold F_impl_IsValidGroup at hF
 try simp [go_sem, g]
 refine pw_wk ?_
 repeat rw [sq]
 refine pJ hF (fun x3 => [(2, .v (.bool x3))]) (fun x3 hF => ?_) fun _ hj1 hF => ?_
 ·cases hΦ _ (Rn_some hF)
  try simp [go_sem, g]
 ·try simp [go_sem, g]
  refine pC hF [.sh, .sh, .sh] c_impl_within (fun z4 hF => ?_)
  try simp [go_sem, g]
  refine pwg_F hF (fun h5 hF => ?_) fun h5 hF => ?_
  ·try simp [go_sem, g, h5]
   refine pC hF [.sh, .sh, .sh] c_impl_within (fun z6 hF => ?_)
   try simp [go_sem, g, h5]
   refine pwg_F hF (fun h7 hF => ?_) fun h7 hF => ?_
   ·obtain ⟨g, hF⟩ := Rz g hF
    try simp [go_sem, g, h7]
    refine pwg_F hF (fun h8 hF => ?_) fun h8 hF => ?_
    ·try simp [go_sem, g, h8]
     refine pC hF [.sh, .sh, .sh] c_impl_within (fun z9 hF => ?_)
     try simp [go_sem, g, h8]
     refine pwg_F hF (fun h10 hF => ?_) fun h10 hF => ?_
     ·try simp [go_sem, g, h10]
      refine pC hF [.sh] c_impl_isPrime (fun z11 hF => ?_)
      try simp [go_sem, g, h10]
      refine pwg_F hF (fun h12 hF => ?_) fun h12 hF => ?_
      ·try simp [go_sem, g, h12]
       refine pC hF [.sh] c_impl_isPrime (fun z13 hF => ?_)
       try simp [go_sem, g, h12]
       refine pwg_F hF (fun h14 hF => ?_) fun h14 hF => ?_
       ·try simp [go_sem, g, h14]
        refine pC hF [.sh, .sh, .sh] c_impl_power (fun z15 hF => ?_)
        try simp [go_sem, g, h14]
        exact pT (hj1 (z15 == 1)) (Rn_some hF)
       ·try simp [go_sem, g, h14]
        exact pT (hj1 false) (Rn_some hF)
      ·try simp [go_sem, g, h12]
       exact pT (hj1 false) (Rn_some hF)
     ·try simp [go_sem, g, h10]
      exact pT (hj1 false) (Rn_some hF)
    ·try simp [go_sem, g, h8]
     exact pT (hj1 false) (Rn_some hF)
   ·try simp [go_sem, g, h7]
    exact pT (hj1 false) (Rn_some hF)
  ·try simp [go_sem, g, h5]
   exact pT (hj1 false) (Rn_some hF)
noncomputable def F_impl_Group_has (a0 : Group) (a1 : Int) : Option (Bool) :=
 (((F_impl_within a1 1 (i64.wrap (a0.P - 1))).bind fun z4 =>
 if z4 = true then (
 (F_impl_power a1 a0.Q a0.P).bind fun z6 =>
 some (z6 == 1)) else (
 some false) : Option (Bool)).bind fun x3 =>
 some x3)
theorem c_impl_Group_has : ∀ {a0} {a1} {r}, F_impl_Group_has a0 a1 = some r → PCalls Tryz.prog 93 [(.sh, .agg [.int .i64 a0.P, .int .i64 a0.Q, .int .i64 a0.G]), (.sh, .int .i64 a1)] (Eo (.bool r) [.junk, .junk]) := by
 intro a0 a1 r hr
 apply pF 19 [] [] [] [.tmp 4] hr cl93 Tryz.func93
 intro Φ hΦ hF g
 unfold F_impl_Group_has at hF
 try simp [go_sem, g]
 refine pw_wk ?_
 repeat rw [sq]
 refine pJ hF (fun x3 => [(4, .v (.bool x3))]) (fun x3 hF => ?_) fun _ hj1 hF => ?_
 ·cases hΦ _ (Rn_some hF)
  try simp [go_sem, g]
 ·try simp [go_sem, g]
  refine pC hF [.sh, .sh, .sh] c_impl_within (fun z4 hF => ?_)
  try simp [go_sem, g]
  refine pwg_F hF (fun h5 hF => ?_) fun h5 hF => ?_
  ·try simp [go_sem, g, h5]
   refine pC hF [.sh, .sh, .sh] c_impl_power (fun z6 hF => ?_)
   try simp [go_sem, g, h5]
   exact pT (hj1 (z6 == 1)) (Rn_some hF)
  ·try simp [go_sem, g, h5]
   exact pT (hj1 false) (Rn_some hF)
noncomputable def F_impl_areAll_1__impl_Group_has (a0 : Int) (a1c0x0 : Group) : Option (Bool) :=
 (F_impl_Group_has a1c0x0 a0).bind fun z1 =>
 some (!z1)
theorem c_impl_areAll_1__impl_Group_has : ∀ {a0} {a1c0x0} {r}, F_impl_areAll_1__impl_Group_has a0 a1c0x0 = some r → PCalls Tryz.prog 71 [(.sh, .int .i64 a0), (.sh, .fp [.func (.func 93) [.agg [.int .i64 a1c0x0.P, .int .i64 a1c0x0.Q, .int .i64 a1c0x0.G]] []])] (Eo (.bool r) [.junk, .junk]) := by
 intro a0 a1c0x0 r hr
 apply pF 8 [] [] [] [.tmp 3] hr cl71 Tryz.func71
 intro Φ hΦ hF g
 unfold F_impl_areAll_1__impl_Group_has at hF
 try simp [go_sem, g]
 refine pw_wk ?_
 try simp [go_sem, g]
 refine pC hF [.sh] c_impl_Group_has (fun z1 hF => ?_)
 cases hΦ _ (Rn_some hF)
 try simp [go_sem, g]
 refine pw_wk ?_
 try simp [go_sem, g]
noncomputable def F_slices_IndexFunc_int_int__impl_areAll_1_impl_Group_has (a0 : (List Int)) (a1u0c0x0 : Group) : Option (Int) :=
 ((rloop (σ := Unit) (fun i5 s4 =>
 (ix a0 i5).bind fun x11 =>
 (F_impl_areAll_1__impl_Group_has x11 a1u0c0x0).bind fun z12 =>
 if z12 = true then (
 some (.out (.inr i5))) else (
 some (.go ()))) (fun s4 => .inl ()) (a0.length) 0 () : Option (Unit ⊕ Int)).bind (Sum.elim (fun x3 =>
 some (-1)) some))
theorem c_slices_IndexFunc_int_int__impl_areAll_1_impl_Group_has : ∀ {a0} {a1u0c0x0} {r}, F_slices_IndexFunc_int_int__impl_areAll_1_impl_Group_has a0 a1u0c0x0 = some r → PCalls Tryz.prog 101 [(.sh, .sl false 1 (a0.map row_i64)), (.sh, .func (.func 71) [] [.fp [.func (.func 93) [.agg [.int .i64 a1u0c0x0.P, .int .i64 a1u0c0x0.Q, .int .i64 a1u0c0x0.G]] []]])] (Eo (.int .i64 r) [.junk, .junk]) := by
 intro a0 a1u0c0x0 r hr
 apply pF 19 [] [] [] [.tmp 4] hr cl101 Tryz.func101
 intro Φ hΦ hF g
 unfold F_slices_IndexFunc_int_int__impl_areAll_1_impl_Group_has at hF
 iterate 2 (try simp [go_sem, g]; try intros; refine pw_wk ?_)
 repeat rw [sq]
 refine pJs hF (fun x3 => []) (fun x3 hF => ?_) fun _ hj1 hr2 hF => ?_
 ·cases hΦ _ (Rn_some hF)
  try simp [go_sem, g]
  refine pw_wk ?_
  try simp [go_sem, g]
 ·repeat rw [sq]
  rw [pw_block]
  obtain ⟨b14, hb15, hψ8⟩ := hF
  refine pR hb15 (fun i5 s4 => [(0, .v (.sl false 1 (a0.map row_i64))), (1, .v (.func (.func 71) [] [.fp [.func (.func 93) [.agg [.int .i64 a1u0c0x0.P, .int .i64 a1u0c0x0.Q, .int .i64 a1u0c0x0.G]] []]])), (7, .v (.int .i64 (a0.length : Int))), (8, .v (.int .i64 i5))]) (fun s4 _ hN16 => ?_) (fun i5 s4 _ _ hi9 hi10 ho6 hg7 hF => ?_)
  ·subst hN16
   try simp [go_sem]
   refine pw_wk ?_
   repeat rw [sq]
   refine pw_cond_f (by simp [go_sem]) ?_
   try simp [go_sem]
   exact pT (hj1 ()) hψ8 (by simp [go_sem])
  ·try simp [go_sem, g]
   refine pw_wk ?_
   repeat rw [sq]
   refine pw_cond_t (by simp [go_sem, g, hi9, hi10]) ?_
   try simp [go_sem, g]
   refine pw_wk ?_
   repeat rw [sq]
   rw [pw_block]
   obtain ⟨x11, g, hF⟩ := Rx g hF
   try simp [go_sem, g]
   refine pw_wk ?_
   try simp [go_sem, g]
   refine pC hF [.sh] c_impl_areAll_1__impl_Group_has (fun z12 hF => ?_)
   try simp [go_sem, g]
   refine pw_wkK [0, 1, 5, 7, 8, 16] (by simp [go_sem, g]; rfl) ?_
   repeat rw [sq]
   refine pI hF (fun h13 hF => ?_) (fun h13 hF => ?_)
   ·cases ho6 _ (Rn_some hF)
    cases hΦ _ (hr2 _ hψ8)
    try simp [go_sem, g]
    refine pw_wk ?_
    try simp [go_sem, g]
   ·try simp [go_sem, g]
    refine pw_wk ?_
    try simp [go_sem, g]
    exact pT (hg7 ()) (Rn_some hF) (by simp [go_sem, g, wr_i hi9 hi10 (by assumption)])
noncomputable def F_slices_ContainsFunc_int_int__impl_areAll_1_impl_Group_has (a0 : (List Int)) (a1u0c0x0 : Group) : Option (Bool) :=
 (F_slices_IndexFunc_int_int__impl_areAll_1_impl_Group_has a0 a1u0c0x0).bind fun z1 =>
 some (decide (0 ≤ z1))
theorem c_slices_ContainsFunc_int_int__impl_areAll_1_impl_Group_has : ∀ {a0} {a1u0c0x0} {r}, F_slices_ContainsFunc_int_int__impl_areAll_1_impl_Group_has a0 a1u0c0x0 = some r → PCalls Tryz.prog 70 [(.sh, .sl false 1 (a0.map row_i64)), (.sh, .func (.func 71) [] [.fp [.func (.func 93) [.agg [.int .i64 a1u0c0x0.P, .int .i64 a1u0c0x0.Q, .int .i64 a1u0c0x0.G]] []]])] (Eo (.bool r) [.junk, .junk]) := by
 intro a0 a1u0c0x0 r hr
 apply pF 9 [] [] [] [.tmp 4] hr cl70 Tryz.func70
 intro Φ hΦ hF g
 unfold F_slices_ContainsFunc_int_int__impl_areAll_1_impl_Group_has at hF
 try simp [go_sem, g]
 refine pw_wk ?_
 try simp [go_sem, g]
 refine pC hF [.sh, .sh] c_slices_IndexFunc_int_int__impl_areAll_1_impl_Group_has (fun z1 hF => ?_)
 cases hΦ _ (Rn_some hF)
 try simp [go_sem, g]
 refine pw_wk ?_
 try simp [go_sem, g]
noncomputable def F_impl_areAll__impl_Group_has (a0 : (List Int)) (a1x0 : Group) : Option (Bool) :=
 (F_slices_ContainsFunc_int_int__impl_areAll_1_impl_Group_has a0 a1x0).bind fun z1 =>
 some (!z1)
theorem c_impl_areAll__impl_Group_has : ∀ {a0} {a1x0} {r}, F_impl_areAll__impl_Group_has a0 a1x0 = some r → PCalls Tryz.prog 34 [(.sh, .sl false 1 (a0.map row_i64)), (.sh, .func (.func 93) [.agg [.int .i64 a1x0.P, .int .i64 a1x0.Q, .int .i64 a1x0.G]] [])] (Eo (.bool r) [.junk, .junk]) := by
 intro a0 a1x0 r hr
 apply pF 9 [] [] [1000000] [.tmp 4] hr cl34 Tryz.func34
 intro Φ hΦ hF g
 unfold F_impl_areAll__impl_Group_has at hF
 try simp [go_sem, g]
 refine pw_wk ?_
 try simp [go_sem, g]
 refine pC hF [.sh, .sh] c_slices_ContainsFunc_int_int__impl_areAll_1_impl_Group_has (fun z1 hF => ?_)
 cases hΦ _ (Rn_some hF)
 try simp [go_sem, g]
 refine pw_wk ?_
 try simp [go_sem, g]
noncomputable def F_impl_Group_hasAll (a0 : Group) (a1 : (List Int)) : Option (Bool) :=
 (F_impl_areAll__impl_Group_has a1 a0).bind fun z1 =>
 some z1
theorem c_impl_Group_hasAll : ∀ {a0} {a1} {r}, F_impl_Group_hasAll a0 a1 = some r → PCalls Tryz.prog 60 [(.sh, .agg [.int .i64 a0.P, .int .i64 a0.Q, .int .i64 a0.G]), (.sh, .sl false 1 (a1.map row_i64))] (Eo (.bool r) [.junk, .junk]) := by
 intro a0 a1 r hr
 apply pF 9 [] [] [] [.tmp 4] hr cl60 Tryz.func60
 intro Φ hΦ hF g
 unfold F_impl_Group_hasAll at hF
 try simp [go_sem, g]
 refine pw_wk ?_
 try simp [go_sem, g]
 refine pC hF [.sh, .sh] c_impl_areAll__impl_Group_has (fun z1 hF => ?_)
 cases hΦ _ (Rn_some hF)
 try simp [go_sem, g]
 refine pw_wk ?_
 try simp [go_sem, g]
noncomputable def F_impl_Group_areKeys (a0 : Group) (a1 : (List Int)) : Option (Bool) :=
 ((if decide ((a1.length : Int) ≤ 40) = true then (
 (F_impl_Group_hasAll a0 a1).bind fun z5 =>
 some z5) else (
 some false) : Option (Bool)).bind fun x3 =>
 some x3)
theorem c_impl_Group_areKeys : ∀ {a0} {a1} {r}, F_impl_Group_areKeys a0 a1 = some r → PCalls Tryz.prog 26 [(.sh, .agg [.int .i64 a0.P, .int .i64 a0.Q, .int .i64 a0.G]), (.sh, .sl false 1 (a1.map row_i64))] (Eo (.bool r) [.junk, .junk]) := by
 intro a0 a1 r hr
 apply pF 13 [] [] [] [.tmp 4] hr cl26 Tryz.func26
 intro Φ hΦ hF g
 unfold F_impl_Group_areKeys at hF
 try simp [go_sem, g]
 refine pw_wk ?_
 repeat rw [sq]
 refine pJ hF (fun x3 => [(4, .v (.bool x3))]) (fun x3 hF => ?_) fun _ hj1 hF => ?_
 ·cases hΦ _ (Rn_some hF)
  try simp [go_sem, g]
 ·try simp [go_sem, g]
  try intros
  refine pwg_F hF (fun h4 hF => ?_) fun h4 hF => ?_
  ·try simp [go_sem, g, h4]
   refine pC hF [.sh, .sh] c_impl_Group_hasAll (fun z5 hF => ?_)
   try simp [go_sem, g, h4]
   exact pT (hj1 z5) (Rn_some hF)
  ·try simp [go_sem, g, h4]
   exact pT (hj1 false) (Rn_some hF)
noncomputable def F_impl_isDigest (a0 : Int) : Option (Bool) :=
 (F_impl_within a0 0 4611686018427387903).bind fun z1 =>
 some z1
theorem c_impl_isDigest : ∀ {a0} {r}, F_impl_isDigest a0 = some r → PCalls Tryz.prog 35 [(.sh, .int .i64 a0)] (Eo (.bool r) [.junk]) := by
 intro a0 r hr
 apply pF 5 [] [] [] [.tmp 2] hr cl35 Tryz.func35
 intro Φ hΦ hF g
 unfold F_impl_isDigest at hF
 try simp [go_sem, g]
 refine pw_wk ?_
 try simp [go_sem, g]
 refine pC hF [.sh, .sh, .sh] c_impl_within (fun z1 hF => ?_)
 cases hΦ _ (Rn_some hF)
 try simp [go_sem, g]
 refine pw_wk ?_
 try simp [go_sem, g]
noncomputable def F_impl_isPlainHead (a0 : Int) (a1 : Int) (a2 : Int) : Option (Bool) :=
 (((F_impl_within a0 0 39).bind fun z4 =>
 if z4 = true then (
 (F_impl_within a1 0 64).bind fun z6 =>
 if z6 = true then (
 (F_impl_isDigest a2).bind fun z8 =>
 some z8) else (
 some false)) else (
 some false) : Option (Bool)).bind fun x3 =>
 some x3)
theorem c_impl_isPlainHead : ∀ {a0} {a1} {a2} {r}, F_impl_isPlainHead a0 a1 a2 = some r → PCalls Tryz.prog 69 [(.sh, .int .i64 a0), (.sh, .int .i64 a1), (.sh, .int .i64 a2)] (Eo (.bool r) [.junk, .junk, .junk]) := by
 intro a0 a1 a2 r hr
 apply pF 17 [] [] [] [.tmp 6] hr cl69 Tryz.func69
 intro Φ hΦ hF g
 unfold F_impl_isPlainHead at hF
 try simp [go_sem, g]
 refine pw_wk ?_
 repeat rw [sq]
 refine pJ hF (fun x3 => [(6, .v (.bool x3))]) (fun x3 hF => ?_) fun _ hj1 hF => ?_
 ·cases hΦ _ (Rn_some hF)
  try simp [go_sem, g]
 ·try simp [go_sem, g]
  refine pC hF [.sh, .sh, .sh] c_impl_within (fun z4 hF => ?_)
  try simp [go_sem, g]
  refine pwg_F hF (fun h5 hF => ?_) fun h5 hF => ?_
  ·try simp [go_sem, g, h5]
   refine pC hF [.sh, .sh, .sh] c_impl_within (fun z6 hF => ?_)
   try simp [go_sem, g, h5]
   refine pwg_F hF (fun h7 hF => ?_) fun h7 hF => ?_
   ·try simp [go_sem, g, h7]
    refine pC hF [.sh] c_impl_isDigest (fun z8 hF => ?_)
    try simp [go_sem, g, h7]
    exact pT (hj1 z8) (Rn_some hF)
   ·try simp [go_sem, g, h7]
    exact pT (hj1 false) (Rn_some hF)
  ·try simp [go_sem, g, h5]
   exact pT (hj1 false) (Rn_some hF)
noncomputable def F_impl_Head_isPlain (a0 : Head) : Option (Bool) :=
 (F_impl_isPlainHead a0.Author a0.Size a0.Root).bind fun z1 =>
 some z1
theorem c_impl_Head_isPlain : ∀ {a0} {r}, F_impl_Head_isPlain a0 = some r → PCalls Tryz.prog 33 [(.sh, .agg [.int .i64 a0.Author, .int .i64 a0.Size, .int .i64 a0.Root, .sl false 1 (a0.Sign.Commits.map row_i64), .sl false 1 (a0.Sign.Challenges.map row_i64), .sl false 1 (a0.Sign.Responses.map row_i64)])] (Eo (.bool r) [.junk]) := by
 intro a0 r hr
 apply pF 10 [] [] [] [.tmp 2] hr cl33 Tryz.func33
 intro Φ hΦ hF g
 unfold F_impl_Head_isPlain at hF
 try simp [go_sem, g]
 refine pw_wk ?_
 try simp [go_sem, g]
 refine pC hF [.sh, .sh, .sh] c_impl_isPlainHead (fun z1 hF => ?_)
 try simp [go_sem, g]
 refine pw_wkK [2] (by simp [go_sem, g]; rfl) ?_
 cases hΦ _ (Rn_some hF)
 try simp [go_sem, g]
noncomputable def F_impl_areHeads_1 (a0 : Head) : Option (Bool) :=
 (F_impl_Head_isPlain a0).bind fun z1 =>
 some (!z1)
theorem c_impl_areHeads_1 : ∀ {a0} {r}, F_impl_areHeads_1 a0 = some r → PCalls Tryz.prog 62 [(.sh, .agg [.int .i64 a0.Author, .int .i64 a0.Size, .int .i64 a0.Root, .sl false 1 (a0.Sign.Commits.map row_i64), .sl false 1 (a0.Sign.Challenges.map row_i64), .sl false 1 (a0.Sign.Responses.map row_i64)])] (Eo (.bool r) [.junk]) := by
 intro a0 r hr
 apply pF 6 [] [] [] [.tmp 2] hr cl62 Tryz.func62
 intro Φ hΦ hF g
 unfold F_impl_areHeads_1 at hF
 try simp [go_sem, g]
 refine pw_wk ?_
 try simp [go_sem, g]
 refine pC hF [.sh] c_impl_Head_isPlain (fun z1 hF => ?_)
 cases hΦ _ (Rn_some hF)
 try simp [go_sem, g]
 refine pw_wk ?_
 try simp [go_sem, g]
noncomputable def F_slices_IndexFunc_impl_Head_impl_Head__impl_areHeads_1 (a0 : (List Head)) : Option (Int) :=
 ((rloop (σ := Unit) (fun i5 s4 =>
 (ix a0 i5).bind fun x11 =>
 (F_impl_areHeads_1 x11).bind fun z12 =>
 if z12 = true then (
 some (.out (.inr i5))) else (
 some (.go ()))) (fun s4 => .inl ()) (a0.length) 0 () : Option (Unit ⊕ Int)).bind (Sum.elim (fun x3 =>
 some (-1)) some))
theorem c_slices_IndexFunc_impl_Head_impl_Head__impl_areHeads_1 : ∀ {a0} {r}, F_slices_IndexFunc_impl_Head_impl_Head__impl_areHeads_1 a0 = some r → PCalls Tryz.prog 94 [(.sh, .sl false 6 (a0.map row_Head)), (.sh, .func (.func 62) [] [])] (Eo (.int .i64 r) [.junk, .junk]) := by
 intro a0 r hr
 apply pF 19 [] [] [] [.tmp 4] hr cl94 Tryz.func94
 intro Φ hΦ hF g
 unfold F_slices_IndexFunc_impl_Head_impl_Head__impl_areHeads_1 at hF
 iterate 2 (try simp [go_sem, g]; try intros; refine pw_wk ?_)
 repeat rw [sq]
 refine pJs hF (fun x3 => []) (fun x3 hF => ?_) fun _ hj1 hr2 hF => ?_
 ·cases hΦ _ (Rn_some hF)
  try simp [go_sem, g]
  refine pw_wk ?_
  try simp [go_sem, g]
 ·repeat rw [sq]
  rw [pw_block]
  obtain ⟨b14, hb15, hψ8⟩ := hF
  refine pR hb15 (fun i5 s4 => [(0, .v (.sl false 6 (a0.map row_Head))), (1, .v (.func (.func 62) [] [])), (7, .v (.int .i64 (a0.length : Int))), (8, .v (.int .i64 i5))]) (fun s4 _ hN16 => ?_) (fun i5 s4 _ _ hi9 hi10 ho6 hg7 hF => ?_)
  ·subst hN16
   try simp [go_sem]
   refine pw_wk ?_
   repeat rw [sq]
   refine pw_cond_f (by simp [go_sem]) ?_
   try simp [go_sem]
   exact pT (hj1 ()) hψ8 (by simp [go_sem])
  ·try simp [go_sem, g]
   refine pw_wk ?_
   repeat rw [sq]
   refine pw_cond_t (by simp [go_sem, g, hi9, hi10]) ?_
   try simp [go_sem, g]
   refine pw_wk ?_
   repeat rw [sq]
   rw [pw_block]
   obtain ⟨x11, g, hF⟩ := Rx g hF
   try simp [go_sem, g]
   refine pw_wk ?_
   try simp [go_sem, g]
   refine pC hF [.sh] c_impl_areHeads_1 (fun z12 hF => ?_)
   try simp [go_sem, g]
   refine pw_wkK [0, 1, 5, 7, 8, 16] (by simp [go_sem, g]; rfl) ?_
   repeat rw [sq]
   refine pI hF (fun h13 hF => ?_) (fun h13 hF => ?_)
   ·cases ho6 _ (Rn_some hF)
    cases hΦ _ (hr2 _ hψ8)
    try simp [go_sem, g]
    refine pw_wk ?_
    try simp [go_sem, g]
   ·try simp [go_sem, g]
    refine pw_wk ?_
    try simp [go_sem, g]
    exact pT (hg7 ()) (Rn_some hF) (by simp [go_sem, g, wr_i hi9 hi10 (by assumption)])
noncomputable def F_slices_ContainsFunc_impl_Head_impl_Head__impl_areHeads_1 (a0 : (List Head)) : Option (Bool) :=
 (F_slices_IndexFunc_impl_Head_impl_Head__impl_areHeads_1 a0).bind fun z1 =>
 some (decide (0 ≤ z1))
theorem c_slices_ContainsFunc_impl_Head_impl_Head__impl_areHeads_1 : ∀ {a0} {r}, F_slices_ContainsFunc_impl_Head_impl_Head__impl_areHeads_1 a0 = some r → PCalls Tryz.prog 61 [(.sh, .sl false 6 (a0.map row_Head)), (.sh, .func (.func 62) [] [])] (Eo (.bool r) [.junk, .junk]) := by
 intro a0 r hr
 apply pF 9 [] [] [] [.tmp 4] hr cl61 Tryz.func61
 intro Φ hΦ hF g
 unfold F_slices_ContainsFunc_impl_Head_impl_Head__impl_areHeads_1 at hF
 try simp [go_sem, g]
 refine pw_wk ?_
 try simp [go_sem, g]
 refine pC hF [.sh, .sh] c_slices_IndexFunc_impl_Head_impl_Head__impl_areHeads_1 (fun z1 hF => ?_)
 cases hΦ _ (Rn_some hF)
 try simp [go_sem, g]
 refine pw_wk ?_
 try simp [go_sem, g]
noncomputable def F_impl_areHeads (a0 : (List Head)) : Option (Bool) :=
 ((if decide ((a0.length : Int) ≤ 20) = true then (
 (F_slices_ContainsFunc_impl_Head_impl_Head__impl_areHeads_1 a0).bind fun z5 =>
 some (!z5)) else (
 some false) : Option (Bool)).bind fun x3 =>
 some x3)
theorem c_impl_areHeads : ∀ {a0} {r}, F_impl_areHeads a0 = some r → PCalls Tryz.prog 27 [(.sh, .sl false 6 (a0.map row_Head))] (Eo (.bool r) [.junk]) := by
 intro a0 r hr
 apply pF 11 [] [] [] [.tmp 2] hr cl27 Tryz.func27
 intro Φ hΦ hF g
 unfold F_impl_areHeads at hF
 try simp [go_sem, g]
 refine pw_wk ?_
 repeat rw [sq]
 refine pJ hF (fun x3 => [(2, .v (.bool x3))]) (fun x3 hF => ?_) fun _ hj1 hF => ?_
 ·cases hΦ _ (Rn_some hF)
  try simp [go_sem, g]
 ·try simp [go_sem, g]
  try intros
  refine pwg_F hF (fun h4 hF => ?_) fun h4 hF => ?_
  ·try simp [go_sem, g, h4]
   refine pC hF [.sh, .sh] c_slices_ContainsFunc_impl_Head_impl_Head__impl_areHeads_1 (fun z5 hF => ?_)
   try simp [go_sem, g, h4]
   exact pT (hj1 (!z5)) (Rn_some hF)
  ·try simp [go_sem, g, h4]
   exact pT (hj1 false) (Rn_some hF)
noncomputable def F_impl_labelled (a0 : ByteArray) (a1 : (List Int)) : Option ((List Int)) :=
 ((wloop (σ := (List Int) × Int) (fun s4 =>
 if decide (s4.2 < (a0.size : Int)) = true then (
 (ixs a0 s4.2).bind fun x10 =>
 gd ((s4.1.length + 1) * 8 ≤ 140737488355328 ∧ s4.1.length + 1 ≤ 4611686018427387904) <|
 some (.go (s4.1 ++ [i64.wrap x10], i64.wrap (s4.2 + 1)))) else (
 some (.out s4.1))) ([(a0.size : Int)], 0) : Option ((List Int))).bind fun x3 =>
 gd ((x3.length + a1.length) * 8 ≤ 140737488355328 ∧ x3.length + a1.length ≤ 4611686018427387904) <|
 some (x3 ++ a1))
theorem c_impl_labelled : ∀ {a0} {a1} {r}, F_impl_labelled a0 a1 = some r → PCalls Tryz.prog 140 [(.sh, .str a0), (.sh, .sl false 1 (a1.map row_i64))] (Eo (.sl true 1 (r.map row_i64)) [.junk, .junk]) := by
 intro a0 a1 r hr
 apply pF 26 [] [] [] [.tmp 4] hr cl140 Tryz.func140
 intro Φ hΦ hF g
 unfold F_impl_labelled at hF
 iterate 3 (try simp [go_sem, g]; refine pw_wk ?_)
 repeat rw [sq]
 refine pJ hF (fun x3 => [(1, .v (.sl false 1 (a1.map row_i64))), (5, .v (.sl true 1 (x3.map row_i64)))]) (fun x3 hF => ?_) fun _ hj1 hF => ?_
 ·obtain ⟨g, hF⟩ := Rg g hF
  try simp [go_sem, g]
  refine pw_wkK [4] (by simp [go_sem, g]; rfl) ?_
  cases hΦ _ (Rn_some hF)
  try simp [go_sem, g]
 ·repeat rw [sq]
  rw [pw_block]
  obtain ⟨b11, hb12, hψ8⟩ := hF
  refine pL hb12 (fun s4 => [(0, .v (.str a0)), (1, .v (.sl false 1 (a1.map row_i64))), (5, .v (.sl true 1 (s4.1.map row_i64))), (11, .v (.int .i64 (a0.size : Int))), (12, .v (.int .i64 s4.2))]) (fun s4 _ _ ho6 hg7 hF => ?_)
  try simp [go_sem, g]
  refine pw_wk ?_
  repeat rw [sq]
  refine pI hF (fun h9 hF => ?_) (fun h9 hF => ?_)
  ·try simp [go_sem, g]
   refine pw_wk ?_
   repeat rw [sq]
   rw [pw_block]
   try simp [go_sem, g]
   refine pw_wkK [0, 1, 5, 6, 11, 12] (by simp [go_sem, g]; rfl) ?_
   obtain ⟨x10, g, hF⟩ := Rxs g hF
   obtain ⟨g, hF⟩ := Rg g hF
   try simp [go_sem, g]
   refine pw_wk ?_
   try simp [go_sem, g]
   exact pT (hg7 (s4.1 ++ [i64.wrap x10], i64.wrap (s4.2 + 1))) (Rn_some hF)
  ·try simp [go_sem, g]
   cases ho6 _ (Rn_some hF)
   exact pT (hj1 s4.1) hψ8
noncomputable def F_impl_areAll_1__impl_isDigest (a0 : Int) : Option (Bool) :=
 (F_impl_isDigest a0).bind fun z1 =>
 some (!z1)
theorem c_impl_areAll_1__impl_isDigest : ∀ {a0} {r}, F_impl_areAll_1__impl_isDigest a0 = some r → PCalls Tryz.prog 71 [(.sh, .int .i64 a0), (.sh, .fp [.func (.func 35) [] []])] (Eo (.bool r) [.junk, .junk]) := by
 intro a0 r hr
 apply pF 8 [] [] [] [.tmp 3] hr cl71 Tryz.func71
 intro Φ hΦ hF g
 unfold F_impl_areAll_1__impl_isDigest at hF
 try simp [go_sem, g]
 refine pw_wk ?_
 try simp [go_sem, g]
 refine pC hF [.sh] c_impl_isDigest (fun z1 hF => ?_)
 cases hΦ _ (Rn_some hF)
 try simp [go_sem, g]
 refine pw_wk ?_
 try simp [go_sem, g]
noncomputable def F_slices_IndexFunc_int_int__impl_areAll_1_impl_isDigest (a0 : (List Int)) : Option (Int) :=
 ((rloop (σ := Unit) (fun i5 s4 =>
 (ix a0 i5).bind fun x11 =>
 (F_impl_areAll_1__impl_isDigest x11).bind fun z12 =>
 if z12 = true then (
 some (.out (.inr i5))) else (
 some (.go ()))) (fun s4 => .inl ()) (a0.length) 0 () : Option (Unit ⊕ Int)).bind (Sum.elim (fun x3 =>
 some (-1)) some))
theorem c_slices_IndexFunc_int_int__impl_areAll_1_impl_isDigest : ∀ {a0} {r}, F_slices_IndexFunc_int_int__impl_areAll_1_impl_isDigest a0 = some r → PCalls Tryz.prog 101 [(.sh, .sl false 1 (a0.map row_i64)), (.sh, .func (.func 71) [] [.fp [.func (.func 35) [] []]])] (Eo (.int .i64 r) [.junk, .junk]) := by
 intro a0 r hr
 apply pF 19 [] [] [] [.tmp 4] hr cl101 Tryz.func101
 intro Φ hΦ hF g
 unfold F_slices_IndexFunc_int_int__impl_areAll_1_impl_isDigest at hF
 iterate 2 (try simp [go_sem, g]; try intros; refine pw_wk ?_)
 repeat rw [sq]
 refine pJs hF (fun x3 => []) (fun x3 hF => ?_) fun _ hj1 hr2 hF => ?_
 ·cases hΦ _ (Rn_some hF)
  try simp [go_sem, g]
  refine pw_wk ?_
  try simp [go_sem, g]
 ·repeat rw [sq]
  rw [pw_block]
  obtain ⟨b14, hb15, hψ8⟩ := hF
  refine pR hb15 (fun i5 s4 => [(0, .v (.sl false 1 (a0.map row_i64))), (1, .v (.func (.func 71) [] [.fp [.func (.func 35) [] []]])), (7, .v (.int .i64 (a0.length : Int))), (8, .v (.int .i64 i5))]) (fun s4 _ hN16 => ?_) (fun i5 s4 _ _ hi9 hi10 ho6 hg7 hF => ?_)
  ·subst hN16
   try simp [go_sem]
   refine pw_wk ?_
   repeat rw [sq]
   refine pw_cond_f (by simp [go_sem]) ?_
   try simp [go_sem]
   exact pT (hj1 ()) hψ8 (by simp [go_sem])
  ·try simp [go_sem, g]
   refine pw_wk ?_
   repeat rw [sq]
   refine pw_cond_t (by simp [go_sem, g, hi9, hi10]) ?_
   try simp [go_sem, g]
   refine pw_wk ?_
   repeat rw [sq]
   rw [pw_block]
   obtain ⟨x11, g, hF⟩ := Rx g hF
   try simp [go_sem, g]
   refine pw_wk ?_
   try simp [go_sem, g]
   refine pC hF [.sh] c_impl_areAll_1__impl_isDigest (fun z12 hF => ?_)
   try simp [go_sem, g]
   refine pw_wkK [0, 1, 5, 7, 8, 16] (by simp [go_sem, g]; rfl) ?_
   repeat rw [sq]
   refine pI hF (fun h13 hF => ?_) (fun h13 hF => ?_)
   ·cases ho6 _ (Rn_some hF)
    cases hΦ _ (hr2 _ hψ8)
    try simp [go_sem, g]
    refine pw_wk ?_
    try simp [go_sem, g]
   ·try simp [go_sem, g]
    refine pw_wk ?_
    try simp [go_sem, g]
    exact pT (hg7 ()) (Rn_some hF) (by simp [go_sem, g, wr_i hi9 hi10 (by assumption)])
noncomputable def F_slices_ContainsFunc_int_int__impl_areAll_1_impl_isDigest (a0 : (List Int)) : Option (Bool) :=
 (F_slices_IndexFunc_int_int__impl_areAll_1_impl_isDigest a0).bind fun z1 =>
 some (decide (0 ≤ z1))
theorem c_slices_ContainsFunc_int_int__impl_areAll_1_impl_isDigest : ∀ {a0} {r}, F_slices_ContainsFunc_int_int__impl_areAll_1_impl_isDigest a0 = some r → PCalls Tryz.prog 70 [(.sh, .sl false 1 (a0.map row_i64)), (.sh, .func (.func 71) [] [.fp [.func (.func 35) [] []]])] (Eo (.bool r) [.junk, .junk]) := by
 intro a0 r hr
 apply pF 9 [] [] [] [.tmp 4] hr cl70 Tryz.func70
 intro Φ hΦ hF g
 unfold F_slices_ContainsFunc_int_int__impl_areAll_1_impl_isDigest at hF
 try simp [go_sem, g]
 refine pw_wk ?_
 try simp [go_sem, g]
 refine pC hF [.sh, .sh] c_slices_IndexFunc_int_int__impl_areAll_1_impl_isDigest (fun z1 hF => ?_)
 cases hΦ _ (Rn_some hF)
 try simp [go_sem, g]
 refine pw_wk ?_
 try simp [go_sem, g]
noncomputable def F_impl_areAll__impl_isDigest (a0 : (List Int)) : Option (Bool) :=
 (F_slices_ContainsFunc_int_int__impl_areAll_1_impl_isDigest a0).bind fun z1 =>
 some (!z1)
theorem c_impl_areAll__impl_isDigest : ∀ {a0} {r}, F_impl_areAll__impl_isDigest a0 = some r → PCalls Tryz.prog 34 [(.sh, .sl false 1 (a0.map row_i64)), (.sh, .func (.func 35) [] [])] (Eo (.bool r) [.junk, .junk]) := by
 intro a0 r hr
 apply pF 9 [] [] [1000000] [.tmp 4] hr cl34 Tryz.func34
 intro Φ hΦ hF g
 unfold F_impl_areAll__impl_isDigest at hF
 try simp [go_sem, g]
 refine pw_wk ?_
 try simp [go_sem, g]
 refine pC hF [.sh, .sh] c_slices_ContainsFunc_int_int__impl_areAll_1_impl_isDigest (fun z1 hF => ?_)
 cases hΦ _ (Rn_some hF)
 try simp [go_sem, g]
 refine pw_wk ?_
 try simp [go_sem, g]
noncomputable def F_impl_areDigests (a0 : (List Int)) : Option (Bool) :=
 ((if decide ((a0.length : Int) ≤ 400) = true then (
 (F_impl_areAll__impl_isDigest a0).bind fun z5 =>
 some z5) else (
 some false) : Option (Bool)).bind fun x3 =>
 some x3)
theorem c_impl_areDigests : ∀ {a0} {r}, F_impl_areDigests a0 = some r → PCalls Tryz.prog 156 [(.sh, .sl false 1 (a0.map row_i64))] (Eo (.bool r) [.junk]) := by
 intro a0 r hr
 apply pF 10 [] [] [] [.tmp 2] hr cl156 Tryz.func156
 intro Φ hΦ hF g
 unfold F_impl_areDigests at hF
 try simp [go_sem, g]
 refine pw_wk ?_
 repeat rw [sq]
 refine pJ hF (fun x3 => [(2, .v (.bool x3))]) (fun x3 hF => ?_) fun _ hj1 hF => ?_
 ·cases hΦ _ (Rn_some hF)
  try simp [go_sem, g]
 ·try simp [go_sem, g]
  try intros
  refine pwg_F hF (fun h4 hF => ?_) fun h4 hF => ?_
  ·try simp [go_sem, g, h4]
   refine pC hF [.sh, .sh] c_impl_areAll__impl_isDigest (fun z5 hF => ?_)
   try simp [go_sem, g, h4]
   exact pT (hj1 z5) (Rn_some hF)
  ·try simp [go_sem, g, h4]
   exact pT (hj1 false) (Rn_some hF)
noncomputable def F_impl_hash (a0 : (List Int)) : Option (Int) :=
 gd (([(a0.length : Int)].length + a0.length) * 8 ≤ 140737488355328 ∧ [(a0.length : Int)].length + a0.length ≤ 4611686018427387904) <|
 (some ([(a0.length : Int)] ++ a0)).bind fun x1 =>
 ((rloop (σ := Int × Int) (fun i7 s6 =>
 (ix x1 i7).bind fun x13 =>
 some (.go ((i64.wrap ((i64.wrap ((i64.wrap (48271 * ((i64.wrap ((i64.wrap ((i64.wrap (48271 * s6.1)) + (i64.wrap ((BitVec.ofInt i64.bits x13 &&& BitVec.ofInt i64.bits 2147483647).toNat)))) + 1)).tmod 2147483647))) + (x13.fdiv 2147483648))) + 1)).tmod 2147483647, (i64.wrap ((i64.wrap ((i64.wrap (69621 * ((i64.wrap ((i64.wrap ((i64.wrap (69621 * s6.2)) + (i64.wrap ((BitVec.ofInt i64.bits x13 &&& BitVec.ofInt i64.bits 2147483647).toNat)))) + 1)).tmod 2147483647))) + (x13.fdiv 2147483648))) + 1)).tmod 2147483647))) (fun s6 => (s6.1, s6.2)) (x1.length) 0 (1, 2) : Option ((Int × Int))).bind fun x5 =>
 some (i64.wrap ((i64.wrap (x5.1 * 2147483648)) + x5.2)))
theorem c_impl_hash : ∀ {a0} {r}, F_impl_hash a0 = some r → PCalls Tryz.prog 157 [(.sh, .sl false 1 (a0.map row_i64))] (Eo (.int .i64 r) [.junk]) := by
 intro a0 r hr
 apply pF 52 [] [] [] [.tmp 2] hr cl157 Tryz.func157
 intro Φ hΦ hF g
 unfold F_impl_hash at hF
 obtain ⟨g, hF⟩ := Rg g hF
 obtain ⟨x1, e2, hF⟩ := Rn_bind hF
 have g := And.intro g (show [.int .i64 (a0.length : Int)] :: (List.map row_i64 a0) = x1.map row_i64 by injection e2 with e2; rw [← e2]; simp [go_sem])
 iterate 2 (try simp [go_sem, g]; try intros; refine pw_wk ?_)
 try simp [go_sem, g]
 try intros
 refine pw_wkK [3, 4, 13, 14, 15] (by simp [go_sem, g]; rfl) ?_
 repeat rw [sq]
 refine pJ hF (fun x5 => [(3, .v (.int .i64 x5.1)), (4, .v (.int .i64 x5.2))]) (fun x5 hF => ?_) fun _ hj3 hF => ?_
 ·have g := Ls g 31
  cases hΦ _ (Rn_some hF)
  try simp [go_sem, g]
  refine pw_wk ?_
  try simp [go_sem, g]
 ·repeat rw [sq]
  rw [pw_block]
  obtain ⟨b14, hb15, hψ10⟩ := hF
  refine pR hb15 (fun i7 s6 => [(3, .v (.int .i64 s6.1)), (4, .v (.int .i64 s6.2)), (13, .v (.sl true 1 (x1.map row_i64))), (14, .v (.int .i64 (x1.length : Int))), (15, .v (.int .i64 i7))]) (fun s6 _ hN16 => ?_) (fun i7 s6 _ _ hi11 hi12 ho8 hg9 hF => ?_)
  ·subst hN16
   try simp [go_sem]
   refine pw_wk ?_
   repeat rw [sq]
   refine pw_cond_f (by simp [go_sem]) ?_
   try simp [go_sem]
   exact pT (hj3 (s6.1, s6.2)) hψ10 (by simp [go_sem])
  ·try simp [go_sem, g]
   refine pw_wk ?_
   repeat rw [sq]
   refine pw_cond_t (by simp [go_sem, g, hi11, hi12]) ?_
   try simp [go_sem, g]
   refine pw_wk ?_
   repeat rw [sq]
   rw [pw_block]
   obtain ⟨x13, g, hF⟩ := Rx g hF
   have g := Ls g 31
   try simp [go_sem, g]
   refine pw_wk ?_
   try simp [go_sem, g]
   refine pw_wkK [3, 4, 7, 8, 13, 14, 15] (by simp [go_sem, g]; rfl) ?_
   have g := Ld g 2147483647
   try simp [go_sem, g]
   refine pw_wk ?_
   try simp [go_sem, g]
   refine pw_wkK [3, 4, 7, 8, 13, 14, 15] (by simp [go_sem, g]; rfl) ?_
   try simp [go_sem, g]
   refine pw_wk ?_
   try simp [go_sem, g]
   refine pw_wkK [3, 4, 13, 14, 15] (by simp [go_sem, g]; rfl) ?_
   try simp [go_sem, g]
   exact pT (hg9 ((i64.wrap ((i64.wrap ((i64.wrap (48271 * ((i64.wrap ((i64.wrap ((i64.wrap (48271 * s6.1)) + (i64.wrap ((BitVec.ofInt i64.bits x13 &&& BitVec.ofInt i64.bits 2147483647).toNat)))) + 1)).tmod 2147483647))) + (x13.fdiv 2147483648))) + 1)).tmod 2147483647, (i64.wrap ((i64.wrap ((i64.wrap (69621 * ((i64.wrap ((i64.wrap ((i64.wrap (69621 * s6.2)) + (i64.wrap ((BitVec.ofInt i64.bits x13 &&& BitVec.ofInt i64.bits 2147483647).toNat)))) + 1)).tmod 2147483647))) + (x13.fdiv 2147483648))) + 1)).tmod 2147483647)) (Rn_some hF) (by simp [go_sem, g, wr_i hi11 hi12 (by assumption)])
noncomputable def F_impl_HashInts (a0 : (List Int)) : Option (Int × Bool) :=
 (F_impl_areDigests a0).bind fun z1 =>
 if (!z1) = true then (
 some (0, false)) else (
 (F_impl_hash a0).bind fun z3 =>
 some (z3, true))
theorem c_impl_HashInts : ∀ {a0} {r}, F_impl_HashInts a0 = some r → PCalls Tryz.prog 139 [(.sh, .sl false 1 (a0.map row_i64))] (Eo (.tup [.int .i64 r.1, .bool r.2]) [.junk]) := by
 intro a0 r hr
 apply pF 9 [] [] [] [.tmp 2, .tmp 3] hr cl139 Tryz.func139
 intro Φ hΦ hF g
 unfold F_impl_HashInts at hF
 try simp [go_sem, g]
 refine pw_wk ?_
 try simp [go_sem, g]
 refine pC hF [.sh] c_impl_areDigests (fun z1 hF => ?_)
 try simp [go_sem, g]
 refine pw_wk ?_
 repeat rw [sq]
 refine pI hF (fun h2 hF => ?_) (fun h2 hF => ?_)
 ·cases hΦ _ (Rn_some hF)
  try simp [go_sem, g]
  refine pw_wk ?_
  try simp [go_sem, g]
 ·try simp [go_sem, g]
  refine pw_wk ?_
  try simp [go_sem, g]
  refine pC hF [.sh] c_impl_hash (fun z3 hF => ?_)
  cases hΦ _ (Rn_some hF)
  try simp [go_sem, g]
  refine pw_wk ?_
  try simp [go_sem, g]
noncomputable def F_impl_HashLabelled (a0 : ByteArray) (a1 : (List Int)) : Option (Int × Bool) :=
 ((if decide (40 < (a0.size : Int)) = true then (
 some true) else (
 some (decide (400 < (a1.length : Int)))) : Option (Bool)).bind fun x3 =>
 if x3 = true then (
 some (0, false)) else (
 (F_impl_labelled a0 a1).bind fun z6 =>
 (F_impl_HashInts z6).bind fun z7 =>
 some (z7.1, z7.2)))
theorem c_impl_HashLabelled : ∀ {a0} {a1} {r}, F_impl_HashLabelled a0 a1 = some r → PCalls Tryz.prog 122 [(.sh, .str a0), (.sh, .sl false 1 (a1.map row_i64))] (Eo (.tup [.int .i64 r.1, .bool r.2]) [.junk, .junk]) := by
 intro a0 a1 r hr
 apply pF 20 [] [] [] [.tmp 4, .tmp 5] hr cl122 Tryz.func122
 intro Φ hΦ hF g
 unfold F_impl_HashLabelled at hF
 try simp [go_sem, g]
 refine pw_wk ?_
 repeat rw [sq]
 refine pJ hF (fun x3 => [(0, .v (.str a0)), (1, .v (.sl false 1 (a1.map row_i64))), (13, .v (.bool x3))]) (fun x3 hF => ?_) fun _ hj1 hF => ?_
 ·repeat rw [sq]
  refine pI hF (fun h5 hF => ?_) (fun h5 hF => ?_)
  ·cases hΦ _ (Rn_some hF)
   try simp [go_sem, g]
   refine pw_wk ?_
   try simp [go_sem, g]
  ·try simp [go_sem, g]
   refine pw_wk ?_
   try simp [go_sem, g]
   refine pC hF [.sh, .sh] c_impl_labelled (fun z6 hF => ?_)
   try simp [go_sem, g]
   refine pC hF [.sh] c_impl_HashInts (fun z7 hF => ?_)
   try simp [go_sem, g]
   refine pw_wkK [4, 5] (by simp [go_sem, g]; rfl) ?_
   cases hΦ _ (Rn_some hF)
   try simp [go_sem, g]
 ·try simp [go_sem, g]
  refine pwg_F hF (fun h4 hF => ?_) fun h4 hF => ?_
  ·try simp [go_sem, g, h4]
   exact pT (hj1 true) (Rn_some hF)
  ·try simp [go_sem, g, h4]
   try intros
   exact pT (hj1 (decide (400 < (a1.length : Int)))) (Rn_some hF)
noncomputable def F_impl_DigestText (a0 : Int) : Option (ByteArray × Bool) :=
 (F_impl_isDigest a0).bind fun z1 =>
 if (!z1) = true then (
 some ((⟨#[]⟩ : ByteArray), false)) else (
 ((wloop (σ := (List Int) × Int) (fun s6 =>
 if decide (0 ≤ s6.2) = true then (
 gd (0 ≤ (u64.wrap (i64.wrap (4 * s6.2)))) <|
 (ixs (⟨#[48, 49, 50, 51, 52, 53, 54, 55, 56, 57, 97, 98, 99, 100, 101, 102]⟩ : ByteArray) (i64.wrap ((BitVec.ofInt i64.bits (a0.fdiv (2 ^ min (u64.wrap (i64.wrap (4 * s6.2))).toNat i64.bits)) &&& BitVec.ofInt i64.bits 15).toNat))).bind fun x12 =>
 gd ((s6.1.length + 1) * 1 ≤ 140737488355328 ∧ s6.1.length + 1 ≤ 4611686018427387904) <|
 some (.go (s6.1 ++ [x12], i64.wrap (s6.2 - 1)))) else (
 some (.out s6.1))) ([], 15) : Option ((List Int))).bind fun x5 =>
 some ((bytesOf x5), true)))
theorem c_impl_DigestText : ∀ {a0} {r}, F_impl_DigestText a0 = some r → PCalls Tryz.prog 141 [(.sh, .int .i64 a0)] (Eo (.tup [.str r.1, .bool r.2]) [.junk]) := by
 intro a0 r hr
 apply pF 26 [] [] [1000000] [.tmp 2, .tmp 3] hr cl141 Tryz.func141
 intro Φ hΦ hF g
 unfold F_impl_DigestText at hF
 try simp [go_sem, g]
 refine pw_wk ?_
 try simp [go_sem, g]
 refine pC hF [.sh] c_impl_isDigest (fun z1 hF => ?_)
 try simp [go_sem, g]
 refine pw_wk ?_
 repeat rw [sq]
 refine pI hF (fun h2 hF => ?_) (fun h2 hF => ?_)
 ·cases hΦ _ (Rn_some hF)
  try simp [go_sem, g]
  refine pw_wk ?_
  try simp [go_sem, g]
 ·iterate 3 (try simp [go_sem, g]; refine pw_wk ?_)
  repeat rw [sq]
  refine pJ hF (fun x5 => [(4, .v (.sl true 1 (x5.map row_u8)))]) (fun x5 hF => ?_) fun _ hj3 hF => ?_
  ·try simp [go_sem, g]
   refine pw_wkK [2, 3] (by simp [go_sem, g]; rfl) ?_
   cases hΦ _ (Rn_some hF)
   try simp [go_sem, g]
  ·repeat rw [sq]
   rw [pw_block]
   obtain ⟨b13, hb14, hψ10⟩ := hF
   refine pL hb14 (fun s6 => [(0, .v (.int .i64 a0)), (4, .v (.sl true 1 (s6.1.map row_u8))), (5, .v (.int .i64 s6.2))]) (fun s6 _ _ ho8 hg9 hF => ?_)
   try simp [go_sem, g]
   refine pw_wkK [0, 4, 5, 11] (by simp [go_sem, g]; rfl) ?_
   repeat rw [sq]
   refine pI hF (fun h11 hF => ?_) (fun h11 hF => ?_)
   ·try simp [go_sem, g]
    refine pw_wk ?_
    repeat rw [sq]
    rw [pw_block]
    obtain ⟨g, hF⟩ := Rsh g hF
    obtain ⟨x12, g, hF⟩ := Rxs g hF
    obtain ⟨g, hF⟩ := Rg g hF
    try simp [go_sem, g]
    refine pw_wkK [0, 4, 5] (by simp [go_sem, g]; rfl) ?_
    try simp [go_sem, g]
    exact pT (hg9 (s6.1 ++ [x12], i64.wrap (s6.2 - 1))) (Rn_some hF)
   ·try simp [go_sem, g]
    cases ho8 _ (Rn_some hF)
    exact pT (hj3 s6.1) hψ10
noncomputable def F_impl_signLabel (a0 : ByteArray) (a1 : Int) : Option (ByteArray) :=
 (F_impl_DigestText a1).bind fun z1 =>
 gd (a0.size + z1.1.size ≤ 9223372036854775807) <|
 some (a0 ++ z1.1)
theorem c_impl_signLabel : ∀ {a0} {a1} {r}, F_impl_signLabel a0 a1 = some r → PCalls Tryz.prog 123 [(.sh, .str a0), (.sh, .int .i64 a1)] (Eo (.str r) [.junk, .junk]) := by
 intro a0 a1 r hr
 apply pF 15 [] [] [] [.tmp 4] hr cl123 Tryz.func123
 intro Φ hΦ hF g
 unfold F_impl_signLabel at hF
 try simp [go_sem, g]
 refine pw_wk ?_
 try simp [go_sem, g]
 refine pC hF [.sh] c_impl_DigestText (fun z1 hF => ?_)
 obtain ⟨g, hF⟩ := Rsa g hF
 try simp [go_sem, g]
 refine pw_wk ?_
 try simp [go_sem, g]
 refine pw_wkK [4] (by simp [go_sem, g]; rfl) ?_
 cases hΦ _ (Rn_some hF)
 try simp [go_sem, g]
noncomputable def F_impl_headLabel (a0 : Int) (a1 : Int) (a2 : Int) : Option (ByteArray) :=
 (F_impl_HashLabelled (⟨#[104, 101, 97, 100]⟩ : ByteArray) [a0, a1, a2]).bind fun z1 =>
 (F_impl_signLabel (⟨#[104, 101, 97, 100, 32]⟩ : ByteArray) z1.1).bind fun z2 =>
 some z2
theorem c_impl_headLabel : ∀ {a0} {a1} {a2} {r}, F_impl_headLabel a0 a1 a2 = some r → PCalls Tryz.prog 100 [(.sh, .int .i64 a0), (.sh, .int .i64 a1), (.sh, .int .i64 a2)] (Eo (.str r) [.junk, .junk, .junk]) := by
 intro a0 a1 a2 r hr
 apply pF 19 [] [] [] [.tmp 6] hr cl100 Tryz.func100
 intro Φ hΦ hF g
 unfold F_impl_headLabel at hF
 try simp [go_sem, g]
 refine pw_wk ?_
 try simp [go_sem, g]
 refine pC hF [.sh, .sh] c_impl_HashLabelled (fun z1 hF => ?_)
 try simp [go_sem, g]
 refine pw_wkK [7] (by simp [go_sem, g]; rfl) ?_
 try simp [go_sem, g]
 refine pC hF [.sh, .sh] c_impl_signLabel (fun z2 hF => ?_)
 cases hΦ _ (Rn_some hF)
 try simp [go_sem, g]
 refine pw_wk ?_
 try simp [go_sem, g]
noncomputable def F_impl_Group_isExp (a0 : Group) (a1 : Int) : Option (Bool) :=
 (F_impl_within a1 0 (i64.wrap (a0.Q - 1))).bind fun z1 =>
 some z1
theorem c_impl_Group_isExp : ∀ {a0} {a1} {r}, F_impl_Group_isExp a0 a1 = some r → PCalls Tryz.prog 152 [(.sh, .agg [.int .i64 a0.P, .int .i64 a0.Q, .int .i64 a0.G]), (.sh, .int .i64 a1)] (Eo (.bool r) [.junk, .junk]) := by
 intro a0 a1 r hr
 apply pF 10 [] [] [] [.tmp 4] hr cl152 Tryz.func152
 intro Φ hΦ hF g
 unfold F_impl_Group_isExp at hF
 try simp [go_sem, g]
 refine pw_wk ?_
 try simp [go_sem, g]
 refine pC hF [.sh, .sh, .sh] c_impl_within (fun z1 hF => ?_)
 cases hΦ _ (Rn_some hF)
 try simp [go_sem, g]
 refine pw_wk ?_
 try simp [go_sem, g]
noncomputable def F_impl_areAll_1__impl_Group_isExp (a0 : Int) (a1c0x0 : Group) : Option (Bool) :=
 (F_impl_Group_isExp a1c0x0 a0).bind fun z1 =>
 some (!z1)
theorem c_impl_areAll_1__impl_Group_isExp : ∀ {a0} {a1c0x0} {r}, F_impl_areAll_1__impl_Group_isExp a0 a1c0x0 = some r → PCalls Tryz.prog 71 [(.sh, .int .i64 a0), (.sh, .fp [.func (.func 152) [.agg [.int .i64 a1c0x0.P, .int .i64 a1c0x0.Q, .int .i64 a1c0x0.G]] []])] (Eo (.bool r) [.junk, .junk]) := by
 intro a0 a1c0x0 r hr
 apply pF 8 [] [] [] [.tmp 3] hr cl71 Tryz.func71
 intro Φ hΦ hF g
 unfold F_impl_areAll_1__impl_Group_isExp at hF
 try simp [go_sem, g]
 refine pw_wk ?_
 try simp [go_sem, g]
 refine pC hF [.sh] c_impl_Group_isExp (fun z1 hF => ?_)
 cases hΦ _ (Rn_some hF)
 try simp [go_sem, g]
 refine pw_wk ?_
 try simp [go_sem, g]
noncomputable def F_slices_IndexFunc_int_int__impl_areAll_1_impl_Group_isExp (a0 : (List Int)) (a1u0c0x0 : Group) : Option (Int) :=
 ((rloop (σ := Unit) (fun i5 s4 =>
 (ix a0 i5).bind fun x11 =>
 (F_impl_areAll_1__impl_Group_isExp x11 a1u0c0x0).bind fun z12 =>
 if z12 = true then (
 some (.out (.inr i5))) else (
 some (.go ()))) (fun s4 => .inl ()) (a0.length) 0 () : Option (Unit ⊕ Int)).bind (Sum.elim (fun x3 =>
 some (-1)) some))
theorem c_slices_IndexFunc_int_int__impl_areAll_1_impl_Group_isExp : ∀ {a0} {a1u0c0x0} {r}, F_slices_IndexFunc_int_int__impl_areAll_1_impl_Group_isExp a0 a1u0c0x0 = some r → PCalls Tryz.prog 101 [(.sh, .sl false 1 (a0.map row_i64)), (.sh, .func (.func 71) [] [.fp [.func (.func 152) [.agg [.int .i64 a1u0c0x0.P, .int .i64 a1u0c0x0.Q, .int .i64 a1u0c0x0.G]] []]])] (Eo (.int .i64 r) [.junk, .junk]) := by
 intro a0 a1u0c0x0 r hr
 apply pF 19 [] [] [] [.tmp 4] hr cl101 Tryz.func101
 intro Φ hΦ hF g
 unfold F_slices_IndexFunc_int_int__impl_areAll_1_impl_Group_isExp at hF
 iterate 2 (try simp [go_sem, g]; try intros; refine pw_wk ?_)
 repeat rw [sq]
 refine pJs hF (fun x3 => []) (fun x3 hF => ?_) fun _ hj1 hr2 hF => ?_
 ·cases hΦ _ (Rn_some hF)
  try simp [go_sem, g]
  refine pw_wk ?_
  try simp [go_sem, g]
 ·repeat rw [sq]
  rw [pw_block]
  obtain ⟨b14, hb15, hψ8⟩ := hF
  refine pR hb15 (fun i5 s4 => [(0, .v (.sl false 1 (a0.map row_i64))), (1, .v (.func (.func 71) [] [.fp [.func (.func 152) [.agg [.int .i64 a1u0c0x0.P, .int .i64 a1u0c0x0.Q, .int .i64 a1u0c0x0.G]] []]])), (7, .v (.int .i64 (a0.length : Int))), (8, .v (.int .i64 i5))]) (fun s4 _ hN16 => ?_) (fun i5 s4 _ _ hi9 hi10 ho6 hg7 hF => ?_)
  ·subst hN16
   try simp [go_sem]
   refine pw_wk ?_
   repeat rw [sq]
   refine pw_cond_f (by simp [go_sem]) ?_
   try simp [go_sem]
   exact pT (hj1 ()) hψ8 (by simp [go_sem])
  ·try simp [go_sem, g]
   refine pw_wk ?_
   repeat rw [sq]
   refine pw_cond_t (by simp [go_sem, g, hi9, hi10]) ?_
   try simp [go_sem, g]
   refine pw_wk ?_
   repeat rw [sq]
   rw [pw_block]
   obtain ⟨x11, g, hF⟩ := Rx g hF
   try simp [go_sem, g]
   refine pw_wk ?_
   try simp [go_sem, g]
   refine pC hF [.sh] c_impl_areAll_1__impl_Group_isExp (fun z12 hF => ?_)
   try simp [go_sem, g]
   refine pw_wkK [0, 1, 5, 7, 8, 16] (by simp [go_sem, g]; rfl) ?_
   repeat rw [sq]
   refine pI hF (fun h13 hF => ?_) (fun h13 hF => ?_)
   ·cases ho6 _ (Rn_some hF)
    cases hΦ _ (hr2 _ hψ8)
    try simp [go_sem, g]
    refine pw_wk ?_
    try simp [go_sem, g]
   ·try simp [go_sem, g]
    refine pw_wk ?_
    try simp [go_sem, g]
    exact pT (hg7 ()) (Rn_some hF) (by simp [go_sem, g, wr_i hi9 hi10 (by assumption)])
noncomputable def F_slices_ContainsFunc_int_int__impl_areAll_1_impl_Group_isExp (a0 : (List Int)) (a1u0c0x0 : Group) : Option (Bool) :=
 (F_slices_IndexFunc_int_int__impl_areAll_1_impl_Group_isExp a0 a1u0c0x0).bind fun z1 =>
 some (decide (0 ≤ z1))
theorem c_slices_ContainsFunc_int_int__impl_areAll_1_impl_Group_isExp : ∀ {a0} {a1u0c0x0} {r}, F_slices_ContainsFunc_int_int__impl_areAll_1_impl_Group_isExp a0 a1u0c0x0 = some r → PCalls Tryz.prog 70 [(.sh, .sl false 1 (a0.map row_i64)), (.sh, .func (.func 71) [] [.fp [.func (.func 152) [.agg [.int .i64 a1u0c0x0.P, .int .i64 a1u0c0x0.Q, .int .i64 a1u0c0x0.G]] []]])] (Eo (.bool r) [.junk, .junk]) := by
 intro a0 a1u0c0x0 r hr
 apply pF 9 [] [] [] [.tmp 4] hr cl70 Tryz.func70
 intro Φ hΦ hF g
 unfold F_slices_ContainsFunc_int_int__impl_areAll_1_impl_Group_isExp at hF
 try simp [go_sem, g]
 refine pw_wk ?_
 try simp [go_sem, g]
 refine pC hF [.sh, .sh] c_slices_IndexFunc_int_int__impl_areAll_1_impl_Group_isExp (fun z1 hF => ?_)
 cases hΦ _ (Rn_some hF)
 try simp [go_sem, g]
 refine pw_wk ?_
 try simp [go_sem, g]
noncomputable def F_impl_areAll__impl_Group_isExp (a0 : (List Int)) (a1x0 : Group) : Option (Bool) :=
 (F_slices_ContainsFunc_int_int__impl_areAll_1_impl_Group_isExp a0 a1x0).bind fun z1 =>
 some (!z1)
theorem c_impl_areAll__impl_Group_isExp : ∀ {a0} {a1x0} {r}, F_impl_areAll__impl_Group_isExp a0 a1x0 = some r → PCalls Tryz.prog 34 [(.sh, .sl false 1 (a0.map row_i64)), (.sh, .func (.func 152) [.agg [.int .i64 a1x0.P, .int .i64 a1x0.Q, .int .i64 a1x0.G]] [])] (Eo (.bool r) [.junk, .junk]) := by
 intro a0 a1x0 r hr
 apply pF 9 [] [] [1000000] [.tmp 4] hr cl34 Tryz.func34
 intro Φ hΦ hF g
 unfold F_impl_areAll__impl_Group_isExp at hF
 try simp [go_sem, g]
 refine pw_wk ?_
 try simp [go_sem, g]
 refine pC hF [.sh, .sh] c_slices_ContainsFunc_int_int__impl_areAll_1_impl_Group_isExp (fun z1 hF => ?_)
 cases hΦ _ (Rn_some hF)
 try simp [go_sem, g]
 refine pw_wk ?_
 try simp [go_sem, g]
noncomputable def F_impl_Group_areExps (a0 : Group) (a1 : (List Int)) : Option (Bool) :=
 (F_impl_areAll__impl_Group_isExp a1 a0).bind fun z1 =>
 some z1
theorem c_impl_Group_areExps : ∀ {a0} {a1} {r}, F_impl_Group_areExps a0 a1 = some r → PCalls Tryz.prog 133 [(.sh, .agg [.int .i64 a0.P, .int .i64 a0.Q, .int .i64 a0.G]), (.sh, .sl false 1 (a1.map row_i64))] (Eo (.bool r) [.junk, .junk]) := by
 intro a0 a1 r hr
 apply pF 9 [] [] [] [.tmp 4] hr cl133 Tryz.func133
 intro Φ hΦ hF g
 unfold F_impl_Group_areExps at hF
 try simp [go_sem, g]
 refine pw_wk ?_
 try simp [go_sem, g]
 refine pC hF [.sh, .sh] c_impl_areAll__impl_Group_isExp (fun z1 hF => ?_)
 cases hΦ _ (Rn_some hF)
 try simp [go_sem, g]
 refine pw_wk ?_
 try simp [go_sem, g]
theorem gr153 : GrowC Tryz.prog 153 26 := by
 intro n H e b es by_ z e1 e2 h0 h1 h2 h3 h4 h5
 refine acalls_intro cl153 Tryz.func153 rfl rfl (by simp [Tryz.f153]) fun hw => ?_
 have hn : ¬ n < 0 := by omega
 have hw1 : i64.wrap n = n := wrI (by omega)
 have hw0 : i64.wrap 0 = 0 := wrI (by omega)
 have ei : (intTy Tryz.prog 3).isSome = true := by kernel_rfl
 by_cases hp : 0 < n
 ·have hne : n ≠ 0 := by omega
  have h5' := h5
  simp [okConst] at h5'
  simp [Tryz.f153, awp, aops, aop, ahp, aplain, plainOps, matl, mat, plainV, putO, athen, FR.put, FR.init, rdv, rda, binV, binInt, okConst, Am.lenV, sliceV, sliceBnds, bnd, bndM, aend, resL, resV, resT, hn, e1, e2, ei, hw1, hw0, hp, h1, h2, h3, h4, hne]
  exact h5'
 ·have hz : n = 0 := by omega
  subst hz
  simp [Tryz.f153, awp, aops, aop, ahp, aplain, plainOps, matl, mat, plainV, putO, athen, FR.put, FR.init, rdv, rda, binV, binInt, okConst, Am.lenV, sliceV, sliceBnds, bnd, bndM, aend, resL, resV, resT, hn, e1, e2, hw1, hw0, hp]
noncomputable def F_slices_Concat_int_int (a0 : (List (List Int))) : Option ((List Int)) :=
 ((rloop (σ := Int) (fun i5 s4 =>
 (ix a0 i5).bind fun x11 =>
 if decide ((i64.wrap (s4 + (x11.length : Int))) < 0) = true then (
 none) else (
 some (.go (i64.wrap (s4 + (x11.length : Int)))))) (fun s4 => s4) (a0.length) 0 0 : Option (Int)).bind fun x3 =>
 gd (0 ≤ x3 ∧ 8 * x3 ≤ 140737488355328 ∧ x3 ≤ 4611686018427387904) <|
 ((rloop (σ := (List Int)) (fun i22 s21 =>
 (ix a0 i22).bind fun x28 =>
 gd ((s21.length + x28.length) * 8 ≤ 140737488355328 ∧ s21.length + x28.length ≤ 4611686018427387904) <|
 some (.go (s21 ++ x28))) (fun s21 => s21) (a0.length) 0 [] : Option ((List Int))).bind fun x20 =>
 some x20))
theorem c_slices_Concat_int_int : ∀ {a0} {r}, F_slices_Concat_int_int a0 = some r → PCalls Tryz.prog 135 [(.sh, .sl false 1 (a0.map row_zi64))] (Eo (.sl true 1 (r.map row_i64)) [.junk]) := by
 intro a0 r hr
 apply pF 36 [] [] [] [.tmp 2] hr cl135 Tryz.func135
 intro Φ hΦ hF g
 unfold F_slices_Concat_int_int at hF
 iterate 3 (try simp [go_sem, g]; try intros; refine pw_wk ?_)
 repeat rw [sq]
 refine pJ hF (fun x3 => [(0, .v (.sl false 1 (a0.map row_zi64))), (3, .v (.int .i64 x3))]) (fun x3 hF => ?_) fun _ hj1 hF => ?_
 ·obtain ⟨g17, hF⟩ := Rn_gd hF
  try simp [go_sem, g]
  refine pw_grow gr153 ez26 (by simp [go_sem, g]) g17 ?_
  try simp [go_sem, g]
  try intros
  refine pw_wk ?_
  try simp [go_sem, g]
  try intros
  refine pw_wkK [6, 25, 26, 27] (by simp [go_sem, g]; rfl) ?_
  repeat rw [sq]
  refine pJ hF (fun x20 => [(6, .v (.sl true 1 (x20.map row_i64)))]) (fun x20 hF => ?_) fun _ hj18 hF => ?_
  ·cases hΦ _ (Rn_some hF)
   try simp [go_sem, g]
   refine pw_wk ?_
   try simp [go_sem, g]
  ·repeat rw [sq]
   rw [pw_block]
   obtain ⟨b29, hb30, hψ25⟩ := hF
   refine pR hb30 (fun i22 s21 => [(6, .v (.sl true 1 (s21.map row_i64))), (25, .v (.sl false 1 (a0.map row_zi64))), (26, .v (.int .i64 (a0.length : Int))), (27, .v (.int .i64 i22))]) (fun s21 _ hN31 => ?_) (fun i22 s21 _ _ hi26 hi27 ho23 hg24 hF => ?_)
   ·subst hN31
    try simp [go_sem]
    refine pw_wk ?_
    repeat rw [sq]
    refine pw_cond_f (by simp [go_sem]) ?_
    try simp [go_sem]
    exact pT (hj18 s21) hψ25 (by simp [go_sem])
   ·try simp [go_sem, g]
    refine pw_wk ?_
    repeat rw [sq]
    refine pw_cond_t (by simp [go_sem, g, hi26, hi27]) ?_
    try simp [go_sem, g]
    refine pw_wk ?_
    repeat rw [sq]
    rw [pw_block]
    obtain ⟨x28, g, hF⟩ := Rx g hF
    obtain ⟨g, hF⟩ := Rg g hF
    iterate 2 (try simp [go_sem, g]; refine pw_wk ?_)
    try simp [go_sem, g]
    exact pT (hg24 (s21 ++ x28)) (Rn_some hF) (by simp [go_sem, g, wr_i hi26 hi27 (by assumption)])
 ·repeat rw [sq]
  rw [pw_block]
  obtain ⟨b13, hb14, hψ8⟩ := hF
  refine pR hb14 (fun i5 s4 => [(0, .v (.sl false 1 (a0.map row_zi64))), (3, .v (.int .i64 s4)), (9, .v (.sl false 1 (a0.map row_zi64))), (10, .v (.int .i64 (a0.length : Int))), (11, .v (.int .i64 i5))]) (fun s4 _ hN15 => ?_) (fun i5 s4 _ _ hi9 hi10 ho6 hg7 hF => ?_)
  ·subst hN15
   try simp [go_sem]
   refine pw_wk ?_
   repeat rw [sq]
   refine pw_cond_f (by simp [go_sem]) ?_
   try simp [go_sem]
   exact pT (hj1 s4) hψ8 (by simp [go_sem])
  ·try simp [go_sem, g]
   refine pw_wk ?_
   repeat rw [sq]
   refine pw_cond_t (by simp [go_sem, g, hi9, hi10]) ?_
   try simp [go_sem, g]
   refine pw_wk ?_
   repeat rw [sq]
   rw [pw_block]
   obtain ⟨x11, g, hF⟩ := Rx g hF
   try simp [go_sem, g]
   try intros
   refine pw_wk ?_
   try simp [go_sem, g]
   try intros
   refine pw_wkK [0, 3, 9, 10, 11] (by simp [go_sem, g]; rfl) ?_
   try simp [go_sem, g]
   refine pw_wk ?_
   repeat rw [sq]
   refine pI hF (fun h12 hF => ?_) (fun h12 hF => ?_)
   ·exact (Rn_none hF).elim
   ·try simp [go_sem, g]
    refine pw_wk ?_
    try simp [go_sem, g]
    exact pT (hg7 (i64.wrap (s4 + (x11.length : Int)))) (Rn_some hF) (by simp [go_sem, g, wr_i hi9 hi10 (by assumption)])
noncomputable def F_impl_Group_challenge (a0 : Group) (a1 : ByteArray) (a2 : (List Int)) : Option (Int × Bool) :=
 gd (([a0.P, a0.Q, a0.G].length + a2.length) * 8 ≤ 140737488355328 ∧ [a0.P, a0.Q, a0.G].length + a2.length ≤ 4611686018427387904) <|
 (F_impl_HashLabelled a1 ([a0.P, a0.Q, a0.G] ++ a2)).bind fun z1 =>
 if (!z1.2) = true then (
 some (0, false)) else (
 gd (a0.Q ≠ 0) <|
 some (z1.1.tmod a0.Q, true))
theorem c_impl_Group_challenge : ∀ {a0} {a1} {a2} {r}, F_impl_Group_challenge a0 a1 a2 = some r → PCalls Tryz.prog 134 [(.sh, .agg [.int .i64 a0.P, .int .i64 a0.Q, .int .i64 a0.G]), (.sh, .str a1), (.sh, .sl false 1 (a2.map row_i64))] (Eo (.tup [.int .i64 r.1, .bool r.2]) [.junk, .junk, .junk]) := by
 intro a0 a1 a2 r hr
 apply pF 30 [] [] [] [.tmp 6, .tmp 7] hr cl134 Tryz.func134
 intro Φ hΦ hF g
 unfold F_impl_Group_challenge at hF
 obtain ⟨g, hF⟩ := Rg g hF
 try simp [go_sem, g]
 refine pw_wk ?_
 try simp [go_sem, g]
 refine pC hF [.sh, .sh] c_impl_HashLabelled (fun z1 hF => ?_)
 try simp [go_sem, g]
 refine pw_wkK [3, 8, 9] (by simp [go_sem, g]; rfl) ?_
 try simp [go_sem, g]
 refine pw_wk ?_
 repeat rw [sq]
 refine pI hF (fun h2 hF => ?_) (fun h2 hF => ?_)
 ·cases hΦ _ (Rn_some hF)
  try simp [go_sem, g]
  refine pw_wk ?_
  try simp [go_sem, g]
 ·obtain ⟨g, hF⟩ := Rz g hF
  cases hΦ _ (Rn_some hF)
  iterate 2 (try simp [go_sem, g]; refine pw_wk ?_)
  try simp [go_sem, g]
noncomputable def F_impl_mod (a0 : Int) (a1 : Int) : Option (Int) :=
 gd (a1 ≠ 0) <|
 gd (a1 ≠ 0) <|
 some ((i64.wrap ((a0.tmod a1) + a1)).tmod a1)
theorem c_impl_mod : ∀ {a0} {a1} {r}, F_impl_mod a0 a1 = some r → PCalls Tryz.prog 155 [(.sh, .int .i64 a0), (.sh, .int .i64 a1)] (Eo (.int .i64 r) [.junk, .junk]) := by
 intro a0 a1 r hr
 apply pF 12 [] [] [] [.tmp 4] hr cl155 Tryz.func155
 intro Φ hΦ hF g
 unfold F_impl_mod at hF
 obtain ⟨g, hF⟩ := Rz g hF
 obtain ⟨g, hF⟩ := Rz g hF
 cases hΦ _ (Rn_some hF)
 iterate 2 (try simp [go_sem, g]; refine pw_wk ?_)
 try simp [go_sem, g]
def D138_1 : List DE := [d0 0 [1], d0 1 [2], d1 2 [3] 3, d2 3 [9] 3 9, d1 5 [3] 3, d2 6 [12] 3 12, d3 4 [8, 10], d3 7 [7, 11, 13], d0 8 [14]]
noncomputable def F_impl_Group_pow (a0 : Group) (a1 : Int) (a2 : Int) : Option (Int) :=
 (F_impl_mod a2 a0.Q).bind fun z1 =>
 (F_impl_power a1 z1 a0.P).bind fun z2 =>
 some z2
theorem c_impl_Group_pow : ∀ {a0} {a1} {a2} {r}, F_impl_Group_pow a0 a1 a2 = some r → PCalls Tryz.prog 138 [(.sh, .agg [.int .i64 a0.P, .int .i64 a0.Q, .int .i64 a0.G]), (.sh, .int .i64 a1), (.sh, .int .i64 a2)] (Eo (.int .i64 r) [.junk, .junk, .junk]) := by
 intro a0 a1 a2 r hr
 apply pF 15 [] [] [] [.tmp 6] hr cl138 Tryz.func138
 intro Φ hΦ hF g
 unfold F_impl_Group_pow at hF
 try simp [go_sem, g]
 refine pw_wk ?_
 repeat rw [sq]
 refine pw_draw D138_1 follows (by kernel_rfl) rfl ?_
 try simp only [go_sem, D138_1]
 try simp [go_sem, g]
 refine pC hF [.sh, .sh] c_impl_mod (fun z1 hF => ?_)
 try simp [go_sem, g]
 refine pC hF [.sh, .sh, .sh] c_impl_power (fun z2 hF => ?_)
 try simp [go_sem, g]
 refine pw_wkK [6] (by simp [go_sem, g]; rfl) ?_
 cases hΦ _ (Rn_some hF)
 try simp [go_sem, g]
noncomputable def F_impl_Group_mul (a0 : Group) (a1 : (List Int)) : Option (Int) :=
 ((rloop (σ := Int) (fun i5 s4 =>
 (ix a1 i5).bind fun x11 =>
 gd (a0.P ≠ 0) <|
 some (.go ((i64.wrap (s4 * x11)).tmod a0.P))) (fun s4 => s4) (a1.length) 0 1 : Option (Int)).bind fun x3 =>
 some x3)
theorem c_impl_Group_mul : ∀ {a0} {a1} {r}, F_impl_Group_mul a0 a1 = some r → PCalls Tryz.prog 137 [(.sh, .agg [.int .i64 a0.P, .int .i64 a0.Q, .int .i64 a0.G]), (.sh, .sl false 1 (a1.map row_i64))] (Eo (.int .i64 r) [.junk, .junk]) := by
 intro a0 a1 r hr
 apply pF 22 [] [] [] [.tmp 4] hr cl137 Tryz.func137
 intro Φ hΦ hF g
 unfold F_impl_Group_mul at hF
 iterate 3 (try simp [go_sem, g]; try intros; refine pw_wk ?_)
 repeat rw [sq]
 refine pJ hF (fun x3 => [(5, .v (.int .i64 x3))]) (fun x3 hF => ?_) fun _ hj1 hF => ?_
 ·cases hΦ _ (Rn_some hF)
  try simp [go_sem, g]
  refine pw_wk ?_
  try simp [go_sem, g]
 ·repeat rw [sq]
  rw [pw_block]
  obtain ⟨b12, hb13, hψ8⟩ := hF
  refine pR hb13 (fun i5 s4 => [(2, .bl [.int .i64 a0.P, .int .i64 a0.Q, .int .i64 a0.G]), (5, .v (.int .i64 s4)), (8, .v (.sl false 1 (a1.map row_i64))), (9, .v (.int .i64 (a1.length : Int))), (10, .v (.int .i64 i5))]) (fun s4 _ hN14 => ?_) (fun i5 s4 _ _ hi9 hi10 ho6 hg7 hF => ?_)
  ·subst hN14
   try simp [go_sem]
   refine pw_wk ?_
   repeat rw [sq]
   refine pw_cond_f (by simp [go_sem]) ?_
   try simp [go_sem]
   exact pT (hj1 s4) hψ8 (by simp [go_sem])
  ·try simp [go_sem, g]
   refine pw_wk ?_
   repeat rw [sq]
   refine pw_cond_t (by simp [go_sem, g, hi9, hi10]) ?_
   try simp [go_sem, g]
   refine pw_wk ?_
   repeat rw [sq]
   rw [pw_block]
   obtain ⟨x11, g, hF⟩ := Rx g hF
   try simp [go_sem, g]
   refine pw_wkK [2, 5, 7, 8, 9, 10] (by simp [go_sem, g]; rfl) ?_
   obtain ⟨g, hF⟩ := Rz g hF
   try simp [go_sem, g]
   refine pw_wk ?_
   try simp [go_sem, g]
   exact pT (hg7 ((i64.wrap (s4 * x11)).tmod a0.P)) (Rn_some hF) (by simp [go_sem, g, wr_i hi9 hi10 (by assumption)])
def D154_5 : List DE := [d2 0 [3] 3 3, d0 1 [7], d2 2 [3] 3 3, d0 3 [9], d0 4 [2], d0 5 [8], d0 6 [21, 22], d0 7 [23], d3 8 [19, 20, 24], d0 9 [18, 25], ⟨10, [17, 26], [], none, true, true, true⟩, d0 11 [27]]
noncomputable def F_impl_Group_powers (a0 : Group) (a1 : (List Int)) (a2 : (List Int)) : Option (Int) :=
 ((rloop (σ := Int) (fun i5 s4 =>
 (ix a1 i5).bind fun x11 =>
 (ix a2 i5).bind fun x12 =>
 (F_impl_Group_pow a0 x11 x12).bind fun z13 =>
 (F_impl_Group_mul a0 [s4, z13]).bind fun z14 =>
 some (.go z14)) (fun s4 => s4) (a1.length) 0 1 : Option (Int)).bind fun x3 =>
 some x3)
theorem c_impl_Group_powers : ∀ {a0} {a1} {a2} {r}, F_impl_Group_powers a0 a1 a2 = some r → PCalls Tryz.prog 154 [(.sh, .agg [.int .i64 a0.P, .int .i64 a0.Q, .int .i64 a0.G]), (.sh, .sl false 1 (a1.map row_i64)), (.sh, .sl false 1 (a2.map row_i64))] (Eo (.int .i64 r) [.junk, .junk, .junk]) := by
 intro a0 a1 a2 r hr
 apply pF 30 [] [] [] [.tmp 6] hr cl154 Tryz.func154
 intro Φ hΦ hF g
 unfold F_impl_Group_powers at hF
 iterate 3 (try simp [go_sem, g]; try intros; refine pw_wk ?_)
 repeat rw [sq]
 refine pJ hF (fun x3 => [(7, .v (.int .i64 x3))]) (fun x3 hF => ?_) fun _ hj1 hF => ?_
 ·cases hΦ _ (Rn_some hF)
  try simp [go_sem, g]
  refine pw_wk ?_
  try simp [go_sem, g]
 ·repeat rw [sq]
  rw [pw_block]
  obtain ⟨b15, hb16, hψ8⟩ := hF
  refine pR hb16 (fun i5 s4 => [(2, .v (.sl false 1 (a2.map row_i64))), (3, .bl [.int .i64 a0.P, .int .i64 a0.Q, .int .i64 a0.G]), (7, .v (.int .i64 s4)), (10, .v (.sl false 1 (a1.map row_i64))), (11, .v (.int .i64 (a1.length : Int))), (12, .v (.int .i64 i5))]) (fun s4 _ hN17 => ?_) (fun i5 s4 _ _ hi9 hi10 ho6 hg7 hF => ?_)
  ·subst hN17
   try simp [go_sem]
   refine pw_wk ?_
   repeat rw [sq]
   refine pw_cond_f (by simp [go_sem]) ?_
   try simp [go_sem]
   exact pT (hj1 s4) hψ8 (by simp [go_sem])
  ·try simp [go_sem, g]
   refine pw_wk ?_
   repeat rw [sq]
   refine pw_cond_t (by simp [go_sem, g, hi9, hi10]) ?_
   try simp [go_sem, g]
   refine pw_wk ?_
   repeat rw [sq]
   rw [pw_block]
   obtain ⟨x11, g, hF⟩ := Rx g hF
   try simp [go_sem, g]
   refine pw_wkK [2, 3, 7, 8, 9, 10, 11, 12] (by simp [go_sem, g]; rfl) ?_
   repeat rw [sq]
   refine pw_draw D154_5 follows (by kernel_rfl) rfl ?_
   try simp only [go_sem, D154_5]
   obtain ⟨x12, g, hF⟩ := Rx g hF
   try simp [go_sem, g]
   refine pC hF [.sh, .sh, .sh] c_impl_Group_pow (fun z13 hF => ?_)
   try simp [go_sem, g]
   refine pC hF [.sh, .sh] c_impl_Group_mul (fun z14 hF => ?_)
   try simp [go_sem, g]
   refine pw_wkK [2, 3, 7, 10, 11, 12] (by simp [go_sem, g]; rfl) ?_
   try simp [go_sem, g]
   exact pT (hg7 z14) (Rn_some hF) (by simp [go_sem, g, wr_i hi9 hi10 (by assumption)])
noncomputable def F_impl_Group_images (a0 : Group) (a1 : (List (List Int))) (a2 : (List Int)) : Option ((List Int)) :=
 ((rloop (σ := (List Int)) (fun i5 s4 =>
 (ix a1 i5).bind fun x11 =>
 (F_impl_Group_powers a0 x11 a2).bind fun z12 =>
 gd ((s4.length + 1) * 8 ≤ 140737488355328 ∧ s4.length + 1 ≤ 4611686018427387904) <|
 some (.go (s4 ++ [z12]))) (fun s4 => s4) (a1.length) 0 [] : Option ((List Int))).bind fun x3 =>
 some x3)
theorem c_impl_Group_images : ∀ {a0} {a1} {a2} {r}, F_impl_Group_images a0 a1 a2 = some r → PCalls Tryz.prog 136 [(.sh, .agg [.int .i64 a0.P, .int .i64 a0.Q, .int .i64 a0.G]), (.sh, .sl false 1 (a1.map row_zi64)), (.sh, .sl false 1 (a2.map row_i64))] (Eo (.sl true 1 (r.map row_i64)) [.junk, .junk, .junk]) := by
 intro a0 a1 a2 r hr
 apply pF 26 [] [] [] [.tmp 6] hr cl136 Tryz.func136
 intro Φ hΦ hF g
 unfold F_impl_Group_images at hF
 iterate 3 (try simp [go_sem, g]; try intros; refine pw_wk ?_)
 repeat rw [sq]
 refine pJ hF (fun x3 => [(7, .v (.sl true 1 (x3.map row_i64)))]) (fun x3 hF => ?_) fun _ hj1 hF => ?_
 ·cases hΦ _ (Rn_some hF)
  try simp [go_sem, g]
  refine pw_wk ?_
  try simp [go_sem, g]
 ·repeat rw [sq]
  rw [pw_block]
  obtain ⟨b13, hb14, hψ8⟩ := hF
  refine pR hb14 (fun i5 s4 => [(2, .v (.sl false 1 (a2.map row_i64))), (3, .bl [.int .i64 a0.P, .int .i64 a0.Q, .int .i64 a0.G]), (7, .v (.sl true 1 (s4.map row_i64))), (11, .v (.sl false 1 (a1.map row_zi64))), (12, .v (.int .i64 (a1.length : Int))), (13, .v (.int .i64 i5))]) (fun s4 _ hN15 => ?_) (fun i5 s4 _ _ hi9 hi10 ho6 hg7 hF => ?_)
  ·subst hN15
   try simp [go_sem]
   refine pw_wk ?_
   repeat rw [sq]
   refine pw_cond_f (by simp [go_sem]) ?_
   try simp [go_sem]
   exact pT (hj1 s4) hψ8 (by simp [go_sem])
  ·try simp [go_sem, g]
   refine pw_wk ?_
   repeat rw [sq]
   refine pw_cond_t (by simp [go_sem, g, hi9, hi10]) ?_
   try simp [go_sem, g]
   refine pw_wk ?_
   repeat rw [sq]
   rw [pw_block]
   obtain ⟨x11, g, hF⟩ := Rx g hF
   try simp [go_sem, g]
   refine pw_wkK [2, 3, 7, 9, 11, 12, 13] (by simp [go_sem, g]; rfl) ?_
   try simp [go_sem, g]
   refine pC hF [.sh, .sh, .sh] c_impl_Group_powers (fun z12 hF => ?_)
   obtain ⟨g, hF⟩ := Rg g hF
   try simp [go_sem, g]
   refine pw_wk ?_
   try simp [go_sem, g]
   exact pT (hg7 (s4 ++ [z12])) (Rn_some hF) (by simp [go_sem, g, wr_i hi9 hi10 (by assumption)])
def D121_1 : List DE := [d1 0 [9] 9, d2 1 [15] 9 15, d0 2 [16], d0 3 [2], d0 4 [18], d0 5 [17, 19], d0 6 [20], d1 7 [9, 21] 9, d2 8 [22, 21] 9 22, d0 9 [23, 21], d0 10 [24, 21], d0 11 [21, 25], d0 12 [26], d1 13 [9, 27] 9, d2 14 [28, 27] 9 28, d0 15 [29, 27], d0 16 [2, 27], d0 17 [31, 27], d0 18 [32, 27], d0 19 [33, 27], d0 20 [30, 34, 27], d0 21 [27, 35], d0 22 [36], d2 23 [5, 37] 5 5, d1 24 [9, 37] 9, d2 25 [39, 37] 9 39, d3 26 [38, 40, 37], d0 27 [41, 37], d0 28 [37, 42], d0 29 [43], d2 30 [5, 44] 5 5, d1 31 [9, 44] 9, d2 32 [46, 44] 9 46, d3 33 [45, 47, 44], d0 34 [48, 44], d0 35 [44, 49]]
def D121_3 : List DE := [d2 0 [5] 5 5, d0 1 [1], d0 2 [2], d0 4 [3], d1 5 [9] 9, d2 6 [57] 9 57, d3 3 [54], d0 7 [55, 56, 58], ⟨8, [59], [], none, true, true, true⟩, d3 9 [52, 53, 60], d0 10 [61], d0 11 [51], d0 12 [51], d0 13 [62], d0 14 [63]]
def D121_9 : List DE := [d0 0 [14], d2 1 [5] 5 5, d1 2 [9] 9, d2 3 [87] 9 87, d0 4 [13], d0 5 [88, 89], d0 6 [90], d2 7 [5] 5 5, d0 8 [3], d0 9 [13], d0 10 [93, 94], d0 11 [95], d0 12 [11], ⟨13, [92, 96, 97], [], none, false, true, false⟩, d0 14 [91, 98], ⟨15, [86, 99], [], none, true, true, true⟩, d0 16 [85, 100]]
noncomputable def F_impl_Group_verifyLinear (a0 : Group) (a1 : ByteArray) (a2 : (List (List Int))) (a3 : (List Int)) (a4 : Proof) : Option (Bool) :=
 ((if ((a4.Commits.length : Int) != (a2.length : Int)) = true then (
 some true) else (
 if ((a4.Challenges.length : Int) != 1) = true then (
 some true) else (
 (ix a2 0).bind fun x6 =>
 if ((a4.Responses.length : Int) != (x6.length : Int)) = true then (
 some true) else (
 (F_impl_Group_hasAll a0 a4.Commits).bind fun z8 =>
 if (!z8) = true then (
 some true) else (
 (F_impl_Group_areExps a0 a4.Responses).bind fun z10 =>
 some (!z10))))) : Option (Bool)).bind fun x3 =>
 if x3 = true then (
 some false) else (
 (F_slices_Concat_int_int a2).bind fun z12 =>
 (F_slices_Concat_int_int [z12, a3, a4.Commits]).bind fun z13 =>
 (F_impl_Group_challenge a0 a1 z13).bind fun z14 =>
 ((if (!z14.2) = true then (
 some true) else (
 (ix a4.Challenges 0).bind fun x19 =>
 some (x19 != z14.1)) : Option (Bool)).bind fun x17 =>
 if x17 = true then (
 some false) else (
 (F_impl_Group_images a0 a2 a4.Responses).bind fun z21 =>
 ((rloop (σ := Unit) (fun i26 s25 =>
 (ix z21 i26).bind fun x32 =>
 (ix a4.Commits i26).bind fun x33 =>
 (ix a3 i26).bind fun x34 =>
 (F_impl_Group_pow a0 x34 z14.1).bind fun z35 =>
 (F_impl_Group_mul a0 [x33, z35]).bind fun z36 =>
 if (x32 != z36) = true then (
 some (.out (.inr false))) else (
 some (.go ()))) (fun s25 => .inl ()) (z21.length) 0 () : Option (Unit ⊕ Bool)).bind (Sum.elim (fun x24 =>
 some true) some))))))
theorem c_impl_Group_verifyLinear : ∀ {a0} {a1} {a2} {a3} {a4} {r}, F_impl_Group_verifyLinear a0 a1 a2 a3 a4 = some r → PCalls Tryz.prog 121 [(.sh, .agg [.int .i64 a0.P, .int .i64 a0.Q, .int .i64 a0.G]), (.sh, .str a1), (.sh, .sl false 1 (a2.map row_zi64)), (.sh, .sl false 1 (a3.map row_i64)), (.sh, .agg [.sl false 1 (a4.Commits.map row_i64), .sl false 1 (a4.Challenges.map row_i64), .sl false 1 (a4.Responses.map row_i64)])] (Eo (.bool r) [.junk, .junk, .junk, .junk, .junk]) := by
 intro a0 a1 a2 a3 a4 r hr
 apply pF 103 [] [55] [] [.tmp 10] hr cl121 Tryz.func121
 intro Φ hΦ hF g
 unfold F_impl_Group_verifyLinear at hF
 try simp [go_sem, g]
 refine pw_wk ?_
 repeat rw [sq]
 refine pJ hF (fun x3 => [(1, .v (.str a1)), (2, .v (.sl false 1 (a2.map row_zi64))), (3, .v (.sl false 1 (a3.map row_i64))), (5, .bl [.int .i64 a0.P, .int .i64 a0.Q, .int .i64 a0.G]), (9, .bl [.sl false 1 (a4.Commits.map row_i64), .sl false 1 (a4.Challenges.map row_i64), .sl false 1 (a4.Responses.map row_i64)]), (50, .v (.bool x3))]) (fun x3 hF => ?_) fun _ hj1 hF => ?_
 ·repeat rw [sq]
  refine pI hF (fun h11 hF => ?_) (fun h11 hF => ?_)
  ·cases hΦ _ (Rn_some hF)
   try simp [go_sem, g]
   refine pw_wk ?_
   try simp [go_sem, g]
  ·try simp [go_sem, g]
   refine pw_wk ?_
   repeat rw [sq]
   refine pw_draw D121_3 follows (by kernel_rfl) rfl ?_
   try simp only [go_sem, D121_3]
   try simp [go_sem, g]
   refine pC hF [.sh] c_slices_Concat_int_int (fun z12 hF => ?_)
   try simp [go_sem, g]
   refine pC hF [.sh] c_slices_Concat_int_int (fun z13 hF => ?_)
   try simp [go_sem, g]
   refine pC hF [.sh, .sh, .sh] c_impl_Group_challenge (fun z14 hF => ?_)
   try simp [go_sem, g]
   refine pw_wkK [2, 3, 5, 9, 11, 12] (by simp [go_sem, g]; rfl) ?_
   repeat rw [sq]
   refine pJ hF (fun x17 => [(2, .v (.sl false 1 (a2.map row_zi64))), (3, .v (.sl false 1 (a3.map row_i64))), (5, .bl [.int .i64 a0.P, .int .i64 a0.Q, .int .i64 a0.G]), (9, .bl [.sl false 1 (a4.Commits.map row_i64), .sl false 1 (a4.Challenges.map row_i64), .sl false 1 (a4.Responses.map row_i64)]), (11, .v (.int .i64 z14.1)), (73, .v (.bool x17))]) (fun x17 hF => ?_) fun _ hj15 hF => ?_
   ·repeat rw [sq]
    refine pI hF (fun h20 hF => ?_) (fun h20 hF => ?_)
    ·cases hΦ _ (Rn_some hF)
     try simp [go_sem, g]
     refine pw_wk ?_
     try simp [go_sem, g]
    ·try simp [go_sem, g]
     refine pw_wk ?_
     try simp [go_sem, g]
     refine pC hF [.sh, .sh, .sh] c_impl_Group_images (fun z21 hF => ?_)
     try simp [go_sem, g]
     try intros
     refine pw_wk ?_
     repeat rw [sq]
     refine pJs hF (fun x24 => []) (fun x24 hF => ?_) fun _ hj22 hr23 hF => ?_
     ·cases hΦ _ (Rn_some hF)
      try simp [go_sem, g]
      refine pw_wk ?_
      try simp [go_sem, g]
     ·repeat rw [sq]
      rw [pw_block]
      obtain ⟨b38, hb39, hψ29⟩ := hF
      refine pR hb39 (fun i26 s25 => [(3, .v (.sl false 1 (a3.map row_i64))), (5, .bl [.int .i64 a0.P, .int .i64 a0.Q, .int .i64 a0.G]), (9, .bl [.sl false 1 (a4.Commits.map row_i64), .sl false 1 (a4.Challenges.map row_i64), .sl false 1 (a4.Responses.map row_i64)]), (11, .v (.int .i64 z14.1)), (78, .v (.sl true 1 (z21.map row_i64))), (79, .v (.int .i64 (z21.length : Int))), (80, .v (.int .i64 i26))]) (fun s25 _ hN40 => ?_) (fun i26 s25 _ _ hi30 hi31 ho27 hg28 hF => ?_)
      ·subst hN40
       try simp [go_sem]
       refine pw_wk ?_
       repeat rw [sq]
       refine pw_cond_f (by simp [go_sem]) ?_
       try simp [go_sem]
       exact pT (hj22 ()) hψ29 (by simp [go_sem])
      ·try simp [go_sem, g]
       refine pw_wk ?_
       repeat rw [sq]
       refine pw_cond_t (by simp [go_sem, g, hi30, hi31]) ?_
       try simp [go_sem, g]
       refine pw_wk ?_
       repeat rw [sq]
       rw [pw_block]
       obtain ⟨x32, g, hF⟩ := Rx g hF
       try simp [go_sem, g]
       refine pw_wkK [3, 5, 9, 11, 13, 14, 78, 79, 80] (by simp [go_sem, g]; rfl) ?_
       repeat rw [sq]
       refine pw_draw D121_9 follows (by kernel_rfl) rfl ?_
       try simp only [go_sem, D121_9]
       obtain ⟨x33, g, hF⟩ := Rx g hF
       obtain ⟨x34, g, hF⟩ := Rx g hF
       try simp [go_sem, g]
       refine pCD hF c_impl_Group_pow (fun z35 hF => ?_)
       try simp [go_sem, g]
       refine pC hF [.sh, .sh] c_impl_Group_mul (fun z36 hF => ?_)
       try simp [go_sem, g]
       refine pw_wkK [3, 5, 9, 11, 78, 79, 80, 101] (by simp [go_sem, g]; rfl) ?_
       repeat rw [sq]
       refine pI hF (fun h37 hF => ?_) (fun h37 hF => ?_)
       ·cases ho27 _ (Rn_some hF)
        cases hΦ _ (hr23 _ hψ29)
        try simp [go_sem, g]
        refine pw_wk ?_
        try simp [go_sem, g]
       ·try simp [go_sem, g]
        refine pw_wk ?_
        try simp [go_sem, g]
        exact pT (hg28 ()) (Rn_some hF) (by simp [go_sem, g, wr_i hi30 hi31 (by assumption)])
   ·try simp [go_sem, g]
    refine pwg_F hF (fun h18 hF => ?_) fun h18 hF => ?_
    ·try simp [go_sem, g, h18]
     exact pT (hj15 true) (Rn_some hF)
    ·obtain ⟨x19, g, hF⟩ := Rxn g 0 hF
     try simp [go_sem, g, h18]
     exact pT (hj15 (x19 != z14.1)) (Rn_some hF)
 ·repeat rw [sq]
  refine pw_draw D121_1 follows (by kernel_rfl) rfl ?_
  try simp only [go_sem, D121_1]
  try simp [go_sem, g]
  try intros
  refine pwgD_F hF (fun h4 hF => ?_) fun h4 hF => ?_
  ·try simp [go_sem, g, h4]
   exact pT (hj1 true) (Rn_some hF)
  ·try simp [go_sem, g, h4]
   try intros
   refine pwgD_F hF (fun h5 hF => ?_) fun h5 hF => ?_
   ·try simp [go_sem, g, h5]
    exact pT (hj1 true) (Rn_some hF)
   ·obtain ⟨x6, g, hF⟩ := Rxn g 0 hF
    try simp [go_sem, g, h5]
    try intros
    refine pwgD_F hF (fun h7 hF => ?_) fun h7 hF => ?_
    ·try simp [go_sem, g, h7]
     exact pT (hj1 true) (Rn_some hF)
    ·try simp [go_sem, g, h7]
     refine pC hF [.sh, .sh] c_impl_Group_hasAll (fun z8 hF => ?_)
     try simp [go_sem, g, h7]
     refine pwgD_F hF (fun h9 hF => ?_) fun h9 hF => ?_
     ·try simp [go_sem, g, h9]
      exact pT (hj1 true) (Rn_some hF)
     ·try simp [go_sem, g, h9]
      refine pC hF [.sh, .sh] c_impl_Group_areExps (fun z10 hF => ?_)
      try simp [go_sem, g, h9]
      exact pT (hj1 (!z10)) (Rn_some hF)
noncomputable def F_impl_Group_isSigned (a0 : Group) (a1 : ByteArray) (a2 : Int) (a3 : Proof) : Option (Bool) :=
 (F_impl_Group_verifyLinear a0 a1 [[a0.G]] [a2] a3).bind fun z1 =>
 some z1
theorem c_impl_Group_isSigned : ∀ {a0} {a1} {a2} {a3} {r}, F_impl_Group_isSigned a0 a1 a2 a3 = some r → PCalls Tryz.prog 99 [(.sh, .agg [.int .i64 a0.P, .int .i64 a0.Q, .int .i64 a0.G]), (.sh, .str a1), (.sh, .int .i64 a2), (.sh, .agg [.sl false 1 (a3.Commits.map row_i64), .sl false 1 (a3.Challenges.map row_i64), .sl false 1 (a3.Responses.map row_i64)])] (Eo (.bool r) [.junk, .junk, .junk, .junk]) := by
 intro a0 a1 a2 a3 r hr
 apply pF 19 [] [] [] [.tmp 8] hr cl99 Tryz.func99
 intro Φ hΦ hF g
 unfold F_impl_Group_isSigned at hF
 try simp [go_sem, g]
 refine pw_wk ?_
 try simp [go_sem, g]
 refine pC hF [.sh, .sh, .sh, .sh, .sh] c_impl_Group_verifyLinear (fun z1 hF => ?_)
 try simp [go_sem, g]
 refine pw_wkK [8] (by simp [go_sem, g]; rfl) ?_
 cases hΦ _ (Rn_some hF)
 try simp [go_sem, g]
def D68_1 : List DE := [d1 0 [5] 5, d2 1 [7] 5 7, d1 2 [5] 5, d2 3 [9] 5 9, d1 4 [5] 5, d2 5 [11] 5 11, d3 6 [8, 10, 12], d0 7 [13], d2 8 [3, 14] 3 3, d1 9 [5, 14] 5, d2 10 [16, 14] 5 16, d1 11 [5, 14] 5, d2 12 [18, 14] 5 18, d1 13 [5, 14] 5, d2 14 [20, 14] 5 20, d0 16 [1, 14], d1 17 [5, 14] 5, d2 18 [24, 14] 5 24, d3 15 [17, 19, 21, 14], d3 19 [15, 22, 23, 25, 14], d0 20 [14, 26], d0 21 [27]]
noncomputable def F_impl_Group_isHead (a0 : Group) (a1 : Int) (a2 : Head) : Option (Bool) :=
 (((F_impl_isPlainHead a2.Author a2.Size a2.Root).bind fun z4 =>
 if z4 = true then (
 (F_impl_headLabel a2.Author a2.Size a2.Root).bind fun z6 =>
 (F_impl_Group_isSigned a0 z6 a1 a2.Sign).bind fun z7 =>
 some z7) else (
 some false) : Option (Bool)).bind fun x3 =>
 some x3)
theorem c_impl_Group_isHead : ∀ {a0} {a1} {a2} {r}, F_impl_Group_isHead a0 a1 a2 = some r → PCalls Tryz.prog 68 [(.sh, .agg [.int .i64 a0.P, .int .i64 a0.Q, .int .i64 a0.G]), (.sh, .int .i64 a1), (.sh, .agg [.int .i64 a2.Author, .int .i64 a2.Size, .int .i64 a2.Root, .sl false 1 (a2.Sign.Commits.map row_i64), .sl false 1 (a2.Sign.Challenges.map row_i64), .sl false 1 (a2.Sign.Responses.map row_i64)])] (Eo (.bool r) [.junk, .junk, .junk]) := by
 intro a0 a1 a2 r hr
 apply pF 28 [] [] [] [.tmp 6] hr cl68 Tryz.func68
 intro Φ hΦ hF g
 unfold F_impl_Group_isHead at hF
 try simp [go_sem, g]
 refine pw_wk ?_
 repeat rw [sq]
 refine pJ hF (fun x3 => [(6, .v (.bool x3))]) (fun x3 hF => ?_) fun _ hj1 hF => ?_
 ·cases hΦ _ (Rn_some hF)
  try simp [go_sem, g]
 ·repeat rw [sq]
  refine pw_draw D68_1 follows (by kernel_rfl) rfl ?_
  try simp only [go_sem, D68_1]
  try simp [go_sem, g]
  refine pC hF [.sh, .sh, .sh] c_impl_isPlainHead (fun z4 hF => ?_)
  try simp [go_sem, g]
  refine pwgD_F hF (fun h5 hF => ?_) fun h5 hF => ?_
  ·try simp [go_sem, g, h5]
   refine pC hF [.sh, .sh, .sh] c_impl_headLabel (fun z6 hF => ?_)
   try simp [go_sem, g, h5]
   refine pC hF [.sh, .sh, .sh, .sh] c_impl_Group_isSigned (fun z7 hF => ?_)
   try simp [go_sem, g, h5]
   exact pT (hj1 z7) (Rn_some hF)
  ·try simp [go_sem, g, h5]
   exact pT (hj1 false) (Rn_some hF)
def D32_1 : List DE := [d2 0 [6] 6 6, d3 1 [9], d0 2 [10], d2 3 [7, 11] 7 7, d3 4 [12, 11], d0 5 [11, 13], d0 6 [14], d1 7 [6, 15] 6, d2 8 [16, 15] 6 16, d1 9 [7, 15] 7, d2 10 [18, 15] 7 18, d0 11 [17, 19, 15], d0 12 [15, 20], d0 13 [21], d1 14 [6, 22] 6, d2 15 [23, 22] 6 23, d0 16 [1, 22], d0 17 [25, 22], d0 18 [26, 22], d3 19 [24, 27, 22], d0 20 [22, 28], d0 21 [29], d1 22 [6, 30] 6, d2 23 [31, 30] 6 31, d1 24 [7, 30] 7, d2 25 [33, 30] 7 33, d0 26 [32, 34, 30], d0 27 [30, 35], d0 28 [36], d1 29 [6, 37] 6, d2 30 [38, 37] 6 38, d1 31 [7, 37] 7, d2 32 [40, 37] 7 40, d0 33 [39, 41, 37], d0 34 [37, 42], d0 35 [43], d2 36 [4, 44] 4 4, d0 37 [1, 44], d1 38 [6, 44] 6, d2 39 [47, 44] 6 47, d0 40 [46, 48, 44], d0 41 [49, 44], d2 42 [6, 44] 6 6, d3 43 [45, 50, 51, 44], d0 44 [44, 52], d0 45 [53], d2 46 [4, 54] 4 4, d0 47 [1, 54], d1 48 [6, 54] 6, d2 49 [57, 54] 6 57, d0 50 [56, 58, 54], d0 51 [59, 54], d2 52 [7, 54] 7 7, d3 53 [55, 60, 61, 54], d0 54 [54, 62], d0 55 [63]]
noncomputable def F_impl_Group_isFork (a0 : Group) (a1 : (List Int)) (a2 : Head) (a3 : Head) : Option (Bool) :=
 (((F_impl_Head_isPlain a2).bind fun z4 =>
 if z4 = true then (
 (F_impl_Head_isPlain a3).bind fun z6 =>
 if z6 = true then (
 if (a2.Author == a3.Author) = true then (
 (F_impl_within a2.Author 0 (i64.wrap ((a1.length : Int) - 1))).bind fun z9 =>
 if z9 = true then (
 if (a2.Size == a3.Size) = true then (
 if (a2.Root != a3.Root) = true then (
 (ix a1 a2.Author).bind fun x13 =>
 (F_impl_Group_isHead a0 x13 a2).bind fun z14 =>
 if z14 = true then (
 (F_impl_Group_isHead a0 x13 a3).bind fun z16 =>
 some z16) else (
 some false)) else (
 some false)) else (
 some false)) else (
 some false)) else (
 some false)) else (
 some false)) else (
 some false) : Option (Bool)).bind fun x3 =>
 some x3)
theorem c_impl_Group_isFork : ∀ {a0} {a1} {a2} {a3} {r}, F_impl_Group_isFork a0 a1 a2 a3 = some r → PCalls Tryz.prog 32 [(.sh, .agg [.int .i64 a0.P, .int .i64 a0.Q, .int .i64 a0.G]), (.sh, .sl false 1 (a1.map row_i64)), (.sh, .agg [.int .i64 a2.Author, .int .i64 a2.Size, .int .i64 a2.Root, .sl false 1 (a2.Sign.Commits.map row_i64), .sl false 1 (a2.Sign.Challenges.map row_i64), .sl false 1 (a2.Sign.Responses.map row_i64)]), (.sh, .agg [.int .i64 a3.Author, .int .i64 a3.Size, .int .i64 a3.Root, .sl false 1 (a3.Sign.Commits.map row_i64), .sl false 1 (a3.Sign.Challenges.map row_i64), .sl false 1 (a3.Sign.Responses.map row_i64)])] (Eo (.bool r) [.junk, .junk, .junk, .junk]) := by
 intro a0 a1 a2 a3 r hr
 apply pF 64 [] [] [] [.tmp 8] hr cl32 Tryz.func32
 intro Φ hΦ hF g
 unfold F_impl_Group_isFork at hF
 try simp [go_sem, g]
 refine pw_wk ?_
 repeat rw [sq]
 refine pJ hF (fun x3 => [(8, .v (.bool x3))]) (fun x3 hF => ?_) fun _ hj1 hF => ?_
 ·cases hΦ _ (Rn_some hF)
  try simp [go_sem, g]
 ·repeat rw [sq]
  refine pw_draw D32_1 follows (by kernel_rfl) rfl ?_
  try simp only [go_sem, D32_1]
  try simp [go_sem, g]
  refine pC hF [.sh] c_impl_Head_isPlain (fun z4 hF => ?_)
  try simp [go_sem, g]
  refine pwgD_F hF (fun h5 hF => ?_) fun h5 hF => ?_
  ·try simp [go_sem, g, h5]
   refine pC hF [.sh] c_impl_Head_isPlain (fun z6 hF => ?_)
   try simp [go_sem, g, h5]
   refine pwgD_F hF (fun h7 hF => ?_) fun h7 hF => ?_
   ·try simp [go_sem, g, h7]
    refine pwgD_F hF (fun h8 hF => ?_) fun h8 hF => ?_
    ·try simp [go_sem, g, h8]
     try intros
     refine pC hF [.sh, .sh, .sh] c_impl_within (fun z9 hF => ?_)
     try simp [go_sem, g, h8]
     refine pwgD_F hF (fun h10 hF => ?_) fun h10 hF => ?_
     ·try simp [go_sem, g, h10]
      refine pwgD_F hF (fun h11 hF => ?_) fun h11 hF => ?_
      ·try simp [go_sem, g, h11]
       refine pwgD_F hF (fun h12 hF => ?_) fun h12 hF => ?_
       ·obtain ⟨x13, g, hF⟩ := Rx g hF
        try simp [go_sem, g, h12]
        refine pC hF [.sh, .sh, .sh] c_impl_Group_isHead (fun z14 hF => ?_)
        try simp [go_sem, g, h12]
        refine pwgD_F hF (fun h15 hF => ?_) fun h15 hF => ?_
        ·try simp [go_sem, g, h15]
         refine pC hF [.sh, .sh, .sh] c_impl_Group_isHead (fun z16 hF => ?_)
         try simp [go_sem, g, h15]
         exact pT (hj1 z16) (Rn_some hF)
        ·try simp [go_sem, g, h15]
         exact pT (hj1 false) (Rn_some hF)
       ·try simp [go_sem, g, h12]
        exact pT (hj1 false) (Rn_some hF)
      ·try simp [go_sem, g, h11]
       exact pT (hj1 false) (Rn_some hF)
     ·try simp [go_sem, g, h10]
      exact pT (hj1 false) (Rn_some hF)
    ·try simp [go_sem, g, h8]
     exact pT (hj1 false) (Rn_some hF)
   ·try simp [go_sem, g, h7]
    exact pT (hj1 false) (Rn_some hF)
  ·try simp [go_sem, g, h5]
   exact pT (hj1 false) (Rn_some hF)
noncomputable def F_slices_Clone_int_int (a0 : (List Int)) : Option (List Int) :=
 gd (a0.length * 8 ≤ 140737488355328 ∧ a0.length ≤ 4611686018427387904) <|
 some a0
theorem c_slices_Clone_int_int {a0 : (List Int)} {r : (List Int)} (hr : F_slices_Clone_int_int a0 = some r) : PCalls Tryz.prog 118 [(.sh, .sl false 1 (a0.map row_i64))] (Eo (.sl true 1 (r.map row_i64)) [.junk]) := by
 apply pcalls_lf 8 [] [] [1000000] [.tmp 2] hr cl118 Tryz.func118 rfl rfl rfl
 ·exact ⟨by simp, rfl⟩
 intro Φ hΦ hF
 unfold F_slices_Clone_int_int at hF
 obtain ⟨g, hF⟩ := Rn_gd hF
 have h1 := hΦ _ (Rn_some hF)
 subst h1
 try simp [go_sem]
 refine pw_wkL [(0, .v (.sl false 1 (a0.map row_i64)))] (by simp [go_sem]) ?_
 try simp [go_sem]
 refine pw1_nil rfl rfl (by simp [go_sem]) rfl (by rfl) fun b hb => ?_
 try simp [go_sem]
 refine pw_wk ?_
 repeat rw [pw_seq]
 cases b
 ·refine pw_cond_f (by simp [go_sem]) ?_
  try simp [go_sem]
  refine pw_wk ?_
  try simp [go_sem, g]
  refine pw_wk ?_
  try simp [go_sem, g]
 ·have hb0 : a0 = [] := by
   cases a0 with
   | nil => rfl
   | cons x l => exact absurd (hb (by simp)) (by simp)
  subst hb0
  refine pw_cond_t (by simp [go_sem]) ?_
  try simp [go_sem]
  refine pw_wk ?_
  try simp [go_sem]
def D95_1 : List DE := [d1 0 [1] 1, d2 1 [3] 1 3, d1 3 [1] 1, d2 4 [6] 1 6, d1 6 [1] 1, d2 7 [9] 1 9, d3 2 [4], d3 5 [7], d3 8 [10], d0 9 [5, 8, 11], d2 10 [2, 12] 2 2]
noncomputable def F_impl_copyProof (a0 : Proof) : Option (Proof) :=
 (F_slices_Clone_int_int a0.Commits).bind fun z1 =>
 (F_slices_Clone_int_int a0.Challenges).bind fun z2 =>
 (F_slices_Clone_int_int a0.Responses).bind fun z3 =>
 some (Proof.mk z1 z2 z3)
theorem c_impl_copyProof : ∀ {a0} {r}, F_impl_copyProof a0 = some r → PCalls Tryz.prog 95 [(.sh, .agg [.sl false 1 (a0.Commits.map row_i64), .sl false 1 (a0.Challenges.map row_i64), .sl false 1 (a0.Responses.map row_i64)])] (Eo (.agg [.sl true 1 (r.Commits.map row_i64), .sl true 1 (r.Challenges.map row_i64), .sl true 1 (r.Responses.map row_i64)]) [.junk]) := by
 intro a0 r hr
 apply pF 13 [] [] [] [.cell 2 31] hr cl95 Tryz.func95
 intro Φ hΦ hF g
 unfold F_impl_copyProof at hF
 try simp [go_sem, g]
 refine pw_wk ?_
 repeat rw [sq]
 refine pw_draw D95_1 follows (by kernel_rfl) rfl ?_
 try simp only [go_sem, D95_1]
 try simp [go_sem, g]
 refine pC hF [.sh] c_slices_Clone_int_int (fun z1 hF => ?_)
 try simp [go_sem, g]
 refine pC hF [.sh] c_slices_Clone_int_int (fun z2 hF => ?_)
 try simp [go_sem, g]
 refine pC hF [.sh] c_slices_Clone_int_int (fun z3 hF => ?_)
 try simp [go_sem, g]
 refine pw_wkK [2] (by simp [go_sem, g]; rfl) ?_
 cases hΦ _ (Rn_some hF)
 try simp [go_sem, g]
noncomputable def F_impl_copyHead (a0 : Head) : Option (Head) :=
 (F_impl_copyProof a0.Sign).bind fun z1 =>
 some (Head.mk a0.Author a0.Size a0.Root z1)
theorem c_impl_copyHead : ∀ {a0} {r}, F_impl_copyHead a0 = some r → PCalls Tryz.prog 63 [(.sh, .agg [.int .i64 a0.Author, .int .i64 a0.Size, .int .i64 a0.Root, .sl false 1 (a0.Sign.Commits.map row_i64), .sl false 1 (a0.Sign.Challenges.map row_i64), .sl false 1 (a0.Sign.Responses.map row_i64)])] (Eo (.agg [.int .i64 r.Author, .int .i64 r.Size, .int .i64 r.Root, .sl true 1 (r.Sign.Commits.map row_i64), .sl true 1 (r.Sign.Challenges.map row_i64), .sl true 1 (r.Sign.Responses.map row_i64)]) [.junk]) := by
 intro a0 r hr
 apply pF 8 [] [] [] [.cell 2 33] hr cl63 Tryz.func63
 intro Φ hΦ hF g
 unfold F_impl_copyHead at hF
 try simp [go_sem, g]
 refine pw_wk ?_
 try simp [go_sem, g]
 refine pC hF [.sh] c_impl_copyProof (fun z1 hF => ?_)
 cases hΦ _ (Rn_some hF)
 iterate 2 (try simp [go_sem, g]; refine pw_wk ?_)
 try simp [go_sem, g]
def D28_8 : List DE := [d2 0 [9] 9 9, d2 2 [11] 11 11, d3 1 [33], d3 3 [35], d0 4 [34, 36], d2 5 [6, 37] 6 6, d0 6 []]
noncomputable def F_impl_Group_findFork (a0 : Group) (a1 : (List Int)) (a2 : (List Head)) : Option (ForkEvidence × Bool) :=
 ((rloop (σ := Unit) (fun i5 s4 =>
 (((ix a2 i5).bind fun x14 =>
 gd (0 ≤ (i64.wrap (i5 + 1))) <|
 gd ((i64.wrap (i5 + 1)).toNat ≤ a2.length ∧ a2.length ≤ a2.length) <|
 rloop (σ := Unit) (fun i16 s15 =>
 (ix ((a2.take a2.length).drop ((i64.wrap (i5 + 1)).toNat)) i16).bind fun x23 =>
 (F_impl_Group_isFork a0 a1 x14 x23).bind fun z24 =>
 if z24 = true then (
 (F_impl_copyHead x14).bind fun z26 =>
 (F_impl_copyHead x23).bind fun z27 =>
 some (.out (.inr (.out (.inr ((ForkEvidence.mk z26 z27), true)))))) else (
 some (.go ()))) (fun s15 => .inl ()) (((a2.take a2.length).drop ((i64.wrap (i5 + 1)).toNat)).length) 0 () : Option (Unit ⊕ (Stp Unit (Unit ⊕ (ForkEvidence × Bool))))).bind (Sum.elim (fun x13 =>
 some (.go ())) some))) (fun s4 => .inl ()) (a2.length) 0 () : Option (Unit ⊕ (ForkEvidence × Bool))).bind (Sum.elim (fun x3 =>
 some ((ForkEvidence.mk (Head.mk 0 0 0 (Proof.mk [] [] [])) (Head.mk 0 0 0 (Proof.mk [] [] []))), false)) some))
theorem c_impl_Group_findFork : ∀ {a0} {a1} {a2} {r}, F_impl_Group_findFork a0 a1 a2 = some r → PCalls Tryz.prog 28 [(.sh, .agg [.int .i64 a0.P, .int .i64 a0.Q, .int .i64 a0.G]), (.sh, .sl false 1 (a1.map row_i64)), (.sh, .sl false 6 (a2.map row_Head))] (Eo (.tup [.agg [.int .i64 r.1.First.Author, .int .i64 r.1.First.Size, .int .i64 r.1.First.Root, .sl true 1 (r.1.First.Sign.Commits.map row_i64), .sl true 1 (r.1.First.Sign.Challenges.map row_i64), .sl true 1 (r.1.First.Sign.Responses.map row_i64), .int .i64 r.1.Second.Author, .int .i64 r.1.Second.Size, .int .i64 r.1.Second.Root, .sl true 1 (r.1.Second.Sign.Commits.map row_i64), .sl true 1 (r.1.Second.Sign.Challenges.map row_i64), .sl true 1 (r.1.Second.Sign.Responses.map row_i64)], .bool r.2]) [.junk, .junk, .junk]) := by
 intro a0 a1 a2 r hr
 apply pF 41 [] [] [] [.cell 6 35, .tmp 7] hr cl28 Tryz.func28
 intro Φ hΦ hF g
 unfold F_impl_Group_findFork at hF
 iterate 2 (try simp [go_sem, g]; try intros; refine pw_wk ?_)
 repeat rw [sq]
 refine pJs hF (fun x3 => [(6, .bl [.int .i64 0, .int .i64 0, .int .i64 0, .sl true 1 [], .sl true 1 [], .sl true 1 [], .int .i64 0, .int .i64 0, .int .i64 0, .sl true 1 [], .sl true 1 [], .sl true 1 []])]) (fun x3 hF => ?_) fun _ hj1 hr2 hF => ?_
 ·cases hΦ _ (Rn_some hF)
  try simp [go_sem, g]
  refine pw_wk ?_
  try simp [go_sem, g]
 ·repeat rw [sq]
  rw [pw_block]
  obtain ⟨b32, hb33, hψ8⟩ := hF
  refine pR hb33 (fun i5 s4 => [(1, .v (.sl false 1 (a1.map row_i64))), (2, .v (.sl false 6 (a2.map row_Head))), (3, .bl [.int .i64 a0.P, .int .i64 a0.Q, .int .i64 a0.G]), (6, .bl [.int .i64 0, .int .i64 0, .int .i64 0, .sl true 1 [], .sl true 1 [], .sl true 1 [], .int .i64 0, .int .i64 0, .int .i64 0, .sl true 1 [], .sl true 1 [], .sl true 1 []]), (12, .v (.sl false 6 (a2.map row_Head))), (13, .v (.int .i64 (a2.length : Int))), (14, .v (.int .i64 i5))]) (fun s4 _ hN34 => ?_) (fun i5 s4 _ _ hi9 hi10 ho6 hg7 hF => ?_)
  ·subst hN34
   try simp [go_sem]
   refine pw_wk ?_
   repeat rw [sq]
   refine pw_cond_f (by simp [go_sem]) ?_
   try simp [go_sem]
   exact pT (hj1 ()) hψ8 (by simp [go_sem])
  ·try simp [go_sem, g]
   refine pw_wk ?_
   repeat rw [sq]
   refine pw_cond_t (by simp [go_sem, g, hi9, hi10]) ?_
   try simp [go_sem, g]
   refine pw_wk ?_
   repeat rw [sq]
   refine pJs hF (fun x13 => [(1, .v (.sl false 1 (a1.map row_i64))), (2, .v (.sl false 6 (a2.map row_Head))), (3, .bl [.int .i64 a0.P, .int .i64 a0.Q, .int .i64 a0.G]), (6, .bl [.int .i64 0, .int .i64 0, .int .i64 0, .sl true 1 [], .sl true 1 [], .sl true 1 [], .int .i64 0, .int .i64 0, .int .i64 0, .sl true 1 [], .sl true 1 [], .sl true 1 []]), (12, .v (.sl false 6 (a2.map row_Head))), (13, .v (.int .i64 (a2.length : Int))), (14, .v (.int .i64 i5))]) (fun x13 hF => ?_) fun _ hj11 hr12 hF => ?_
   ·try simp [go_sem, g]
    exact pT (hg7 ()) (Rn_some hF) (by simp [go_sem, g, wr_i hi9 hi10 (by assumption)])
   ·repeat rw [sq]
    rw [pw_block]
    obtain ⟨x14, g, hF⟩ := Rx g hF
    try simp [go_sem, g]
    refine pw_wkK [1, 2, 3, 6, 8, 9, 12, 13, 14] (by simp [go_sem, g]; rfl) ?_
    obtain ⟨g, hF⟩ := Rg g hF
    obtain ⟨g, hF⟩ := Rg g hF
    try simp [go_sem, g]
    try intros
    refine pw_wk ?_
    repeat rw [sq]
    rw [pw_block]
    obtain ⟨b28, hb29, hψ19⟩ := hF
    refine pR hb29 (fun i16 s15 => [(1, .v (.sl false 1 (a1.map row_i64))), (2, .v (.sl false 6 (a2.map row_Head))), (3, .bl [.int .i64 a0.P, .int .i64 a0.Q, .int .i64 a0.G]), (6, .bl [.int .i64 0, .int .i64 0, .int .i64 0, .sl true 1 [], .sl true 1 [], .sl true 1 [], .int .i64 0, .int .i64 0, .int .i64 0, .sl true 1 [], .sl true 1 [], .sl true 1 []]), (9, .bl [.int .i64 x14.Author, .int .i64 x14.Size, .int .i64 x14.Root, .sl false 1 (x14.Sign.Commits.map row_i64), .sl false 1 (x14.Sign.Challenges.map row_i64), .sl false 1 (x14.Sign.Responses.map row_i64)]), (12, .v (.sl false 6 (a2.map row_Head))), (13, .v (.int .i64 (a2.length : Int))), (14, .v (.int .i64 i5)), (22, .v (.sl false 6 (((a2.take a2.length).drop ((i64.wrap (i5 + 1)).toNat)).map row_Head))), (23, .v (.int .i64 (((a2.take a2.length).drop ((i64.wrap (i5 + 1)).toNat)).length : Int))), (24, .v (.int .i64 i16))]) (fun s15 _ hN30 => ?_) (fun i16 s15 _ _ hi20 hi21 ho17 hg18 hF => ?_)
    ·subst hN30
     try simp [go_sem]
     refine pw_wk ?_
     repeat rw [sq]
     refine pw_cond_f (by simp [go_sem]) ?_
     try simp [go_sem]
     exact pT (hj11 ()) hψ19 (by simp [go_sem])
    ·have hi22 := hi21
     try simp at hi22
     try simp [go_sem, g]
     refine pw_wk ?_
     repeat rw [sq]
     refine pw_cond_t (by simp [go_sem, g, hi20, hi21, hi22]) ?_
     try simp [go_sem, g]
     refine pw_wk ?_
     repeat rw [sq]
     rw [pw_block]
     obtain ⟨x23, g, hF⟩ := Rxq g hF
     try simp [go_sem, g]
     refine pw_wkK [1, 2, 3, 6, 9, 11, 12, 13, 14, 22, 23, 24] (by simp [go_sem, g]; rfl) ?_
     try simp [go_sem, g]
     refine pC hF [.sh, .sh, .sh, .sh] c_impl_Group_isFork (fun z24 hF => ?_)
     try simp [go_sem, g]
     refine pw_wk ?_
     repeat rw [sq]
     refine pI hF (fun h25 hF => ?_) (fun h25 hF => ?_)
     ·repeat rw [sq]
      refine pw_draw D28_8 follows (by kernel_rfl) rfl ?_
      try simp only [go_sem, D28_8]
      try simp [go_sem, g]
      refine pC hF [.sh] c_impl_copyHead (fun z26 hF => ?_)
      try simp [go_sem, g]
      refine pC hF [.sh] c_impl_copyHead (fun z27 hF => ?_)
      try simp [go_sem, g]
      refine pw_wkK [6, 7] (by simp [go_sem, g]; rfl) ?_
      cases ho17 _ (Rn_some hF)
      cases ho6 _ (hr12 _ hψ19)
      cases hΦ _ (hr2 _ hψ8)
      try simp [go_sem, g]
     ·try simp [go_sem, g]
      refine pw_wk ?_
      try simp [go_sem, g]
      exact pT (hg18 ()) (Rn_some hF) (by simp [go_sem, g, wr_i hi20 hi21 (by first | assumption | (simp; assumption) | (simp; omega))])
noncomputable def F_impl_FindFork (a0 : Group) (a1 : (List Int)) (a2 : (List Head)) : Option (ForkEvidence × Bool) :=
 (((F_impl_IsValidGroup a0).bind fun z4 =>
 if (!z4) = true then (
 some true) else (
 (F_impl_Group_areKeys a0 a1).bind fun z6 =>
 if (!z6) = true then (
 some true) else (
 (F_impl_areHeads a2).bind fun z8 =>
 some (!z8))) : Option (Bool)).bind fun x3 =>
 if x3 = true then (
 some ((ForkEvidence.mk (Head.mk 0 0 0 (Proof.mk [] [] [])) (Head.mk 0 0 0 (Proof.mk [] [] []))), false)) else (
 (F_impl_Group_findFork a0 a1 a2).bind fun z10 =>
 some (z10.1, z10.2)))
theorem c_impl_FindFork : ∀ {a0} {a1} {a2} {r}, F_impl_FindFork a0 a1 a2 = some r → PCalls Tryz.prog 7 [(.sh, .agg [.int .i64 a0.P, .int .i64 a0.Q, .int .i64 a0.G]), (.sh, .sl false 1 (a1.map row_i64)), (.sh, .sl false 6 (a2.map row_Head))] (Eo (.tup [.agg [.int .i64 r.1.First.Author, .int .i64 r.1.First.Size, .int .i64 r.1.First.Root, .sl true 1 (r.1.First.Sign.Commits.map row_i64), .sl true 1 (r.1.First.Sign.Challenges.map row_i64), .sl true 1 (r.1.First.Sign.Responses.map row_i64), .int .i64 r.1.Second.Author, .int .i64 r.1.Second.Size, .int .i64 r.1.Second.Root, .sl true 1 (r.1.Second.Sign.Commits.map row_i64), .sl true 1 (r.1.Second.Sign.Challenges.map row_i64), .sl true 1 (r.1.Second.Sign.Responses.map row_i64)], .bool r.2]) [.junk, .junk, .junk]) := by
 intro a0 a1 a2 r hr
 apply pF 29 [] [] [] [.cell 6 35, .tmp 7] hr cl7 Tryz.func7
 intro Φ hΦ hF g
 unfold F_impl_FindFork at hF
 try simp [go_sem, g]
 refine pw_wk ?_
 repeat rw [sq]
 refine pJ hF (fun x3 => [(1, .v (.sl false 1 (a1.map row_i64))), (2, .v (.sl false 6 (a2.map row_Head))), (3, .bl [.int .i64 a0.P, .int .i64 a0.Q, .int .i64 a0.G]), (6, .bl [.int .i64 0, .int .i64 0, .int .i64 0, .sl true 1 [], .sl true 1 [], .sl true 1 [], .int .i64 0, .int .i64 0, .int .i64 0, .sl true 1 [], .sl true 1 [], .sl true 1 []]), (21, .v (.bool x3))]) (fun x3 hF => ?_) fun _ hj1 hF => ?_
 ·repeat rw [sq]
  refine pI hF (fun h9 hF => ?_) (fun h9 hF => ?_)
  ·cases hΦ _ (Rn_some hF)
   try simp [go_sem, g]
   refine pw_wk ?_
   try simp [go_sem, g]
  ·try simp [go_sem, g]
   refine pw_wk ?_
   try simp [go_sem, g]
   refine pC hF [.sh, .sh, .sh] c_impl_Group_findFork (fun z10 hF => ?_)
   try simp [go_sem, g]
   refine pw_wkK [6, 7] (by simp [go_sem, g]; rfl) ?_
   cases hΦ _ (Rn_some hF)
   try simp [go_sem, g]
 ·try simp [go_sem, g]
  refine pC hF [.sh] c_impl_IsValidGroup (fun z4 hF => ?_)
  try simp [go_sem, g]
  refine pwg_F hF (fun h5 hF => ?_) fun h5 hF => ?_
  ·try simp [go_sem, g, h5]
   exact pT (hj1 true) (Rn_some hF)
  ·try simp [go_sem, g, h5]
   refine pC hF [.sh, .sh] c_impl_Group_areKeys (fun z6 hF => ?_)
   try simp [go_sem, g, h5]
   refine pwg_F hF (fun h7 hF => ?_) fun h7 hF => ?_
   ·try simp [go_sem, g, h7]
    exact pT (hj1 true) (Rn_some hF)
   ·try simp [go_sem, g, h7]
    refine pC hF [.sh] c_impl_areHeads (fun z8 hF => ?_)
    try simp [go_sem, g, h7]
    exact pT (hj1 (!z8)) (Rn_some hF)
noncomputable def F_spec_gIs (a0 : Group) (a1 : (List Int)) : Option (Bool) :=
 ((rloop (σ := Unit) (fun i5 s4 =>
 (ix a1 i5).bind fun x11 =>
 (((F_spec_l1In x11 1 (i64.wrap (a0.P - 1))).bind fun z15 =>
 if (!z15) = true then (
 some true) else (
 (F_spec_nPower x11 a0.Q a0.P).bind fun z17 =>
 some (z17 != 1)) : Option (Bool)).bind fun x14 =>
 if x14 = true then (
 some (.out (.inr false))) else (
 some (.go ())))) (fun s4 => .inl ()) (a1.length) 0 () : Option (Unit ⊕ Bool)).bind (Sum.elim (fun x3 =>
 some true) some))
theorem c_spec_gIs : ∀ {a0} {a1} {r}, F_spec_gIs a0 a1 = some r → PCalls Tryz.prog 64 [(.sh, .agg [.int .i64 a0.P, .int .i64 a0.Q, .int .i64 a0.G]), (.sh, .sl false 1 (a1.map row_i64))] (Eo (.bool r) [.junk, .junk]) := by
 intro a0 a1 r hr
 apply pF 29 [] [] [] [.tmp 4] hr cl64 Tryz.func64
 intro Φ hΦ hF g
 unfold F_spec_gIs at hF
 iterate 2 (try simp [go_sem, g]; try intros; refine pw_wk ?_)
 repeat rw [sq]
 refine pJs hF (fun x3 => []) (fun x3 hF => ?_) fun _ hj1 hr2 hF => ?_
 ·cases hΦ _ (Rn_some hF)
  try simp [go_sem, g]
  refine pw_wk ?_
  try simp [go_sem, g]
 ·repeat rw [sq]
  rw [pw_block]
  obtain ⟨b19, hb20, hψ8⟩ := hF
  refine pR hb20 (fun i5 s4 => [(2, .bl [.int .i64 a0.P, .int .i64 a0.Q, .int .i64 a0.G]), (7, .v (.sl false 1 (a1.map row_i64))), (8, .v (.int .i64 (a1.length : Int))), (9, .v (.int .i64 i5))]) (fun s4 _ hN21 => ?_) (fun i5 s4 _ _ hi9 hi10 ho6 hg7 hF => ?_)
  ·subst hN21
   try simp [go_sem]
   refine pw_wk ?_
   repeat rw [sq]
   refine pw_cond_f (by simp [go_sem]) ?_
   try simp [go_sem]
   exact pT (hj1 ()) hψ8 (by simp [go_sem])
  ·try simp [go_sem, g]
   refine pw_wk ?_
   repeat rw [sq]
   refine pw_cond_t (by simp [go_sem, g, hi9, hi10]) ?_
   try simp [go_sem, g]
   refine pw_wk ?_
   repeat rw [sq]
   rw [pw_block]
   obtain ⟨x11, g, hF⟩ := Rx g hF
   try simp [go_sem, g]
   refine pw_wk ?_
   repeat rw [sq]
   refine pJ hF (fun x14 => [(2, .bl [.int .i64 a0.P, .int .i64 a0.Q, .int .i64 a0.G]), (7, .v (.sl false 1 (a1.map row_i64))), (8, .v (.int .i64 (a1.length : Int))), (9, .v (.int .i64 i5)), (27, .v (.bool x14))]) (fun x14 hF => ?_) fun _ hj12 hF => ?_
   ·repeat rw [sq]
    refine pI hF (fun h18 hF => ?_) (fun h18 hF => ?_)
    ·try simp [go_sem, g]
     refine pw_wkK [4] (by simp [go_sem, g]; rfl) ?_
     cases ho6 _ (Rn_some hF)
     cases hΦ _ (hr2 _ hψ8)
     try simp [go_sem, g]
    ·try simp [go_sem, g]
     refine pw_wk ?_
     try simp [go_sem, g]
     exact pT (hg7 ()) (Rn_some hF) (by simp [go_sem, g, wr_i hi9 hi10 (by assumption)])
   ·try simp [go_sem, g]
    refine pC hF [.sh, .sh, .sh] c_spec_l1In (fun z15 hF => ?_)
    try simp [go_sem, g]
    refine pwg_F hF (fun h16 hF => ?_) fun h16 hF => ?_
    ·try simp [go_sem, g, h16]
     exact pT (hj12 true) (Rn_some hF)
    ·try simp [go_sem, g, h16]
     refine pC hF [.sh, .sh, .sh] c_spec_nPower (fun z17 hF => ?_)
     try simp [go_sem, g, h16]
     exact pT (hj12 (z17 != 1)) (Rn_some hF)
noncomputable def F_spec_fKeys (a0 : Group) (a1 : (List Int)) : Option (Bool) :=
 (((F_spec_l2Good a0).bind fun z4 =>
 if z4 = true then (
 if decide ((a1.length : Int) ≤ 40) = true then (
 (F_spec_gIs a0 a1).bind fun z7 =>
 some z7) else (
 some false)) else (
 some false) : Option (Bool)).bind fun x3 =>
 some x3)
theorem c_spec_fKeys : ∀ {a0} {a1} {r}, F_spec_fKeys a0 a1 = some r → PCalls Tryz.prog 29 [(.sh, .agg [.int .i64 a0.P, .int .i64 a0.Q, .int .i64 a0.G]), (.sh, .sl false 1 (a1.map row_i64))] (Eo (.bool r) [.junk, .junk]) := by
 intro a0 a1 r hr
 apply pF 17 [] [] [] [.tmp 4] hr cl29 Tryz.func29
 intro Φ hΦ hF g
 unfold F_spec_fKeys at hF
 try simp [go_sem, g]
 refine pw_wk ?_
 repeat rw [sq]
 refine pJ hF (fun x3 => [(4, .v (.bool x3))]) (fun x3 hF => ?_) fun _ hj1 hF => ?_
 ·cases hΦ _ (Rn_some hF)
  try simp [go_sem, g]
 ·try simp [go_sem, g]
  refine pC hF [.sh] c_spec_l2Good (fun z4 hF => ?_)
  try simp [go_sem, g]
  refine pwg_F hF (fun h5 hF => ?_) fun h5 hF => ?_
  ·try simp [go_sem, g, h5]
   try intros
   refine pwg_F hF (fun h6 hF => ?_) fun h6 hF => ?_
   ·try simp [go_sem, g, h6]
    refine pC hF [.sh, .sh] c_spec_gIs (fun z7 hF => ?_)
    try simp [go_sem, g, h6]
    exact pT (hj1 z7) (Rn_some hF)
   ·try simp [go_sem, g, h6]
    exact pT (hj1 false) (Rn_some hF)
  ·try simp [go_sem, g, h5]
   exact pT (hj1 false) (Rn_some hF)
noncomputable def F_spec_fHeads (a0 : (List Head)) : Option (Bool) :=
 ((rloop (σ := Unit) (fun i5 s4 =>
 (ix a0 i5).bind fun x11 =>
 (F_spec_oHead x11).bind fun z12 =>
 if (!z12) = true then (
 some (.out (.inr false))) else (
 some (.go ()))) (fun s4 => .inl ()) (a0.length) 0 () : Option (Unit ⊕ Bool)).bind (Sum.elim (fun x3 =>
 some (decide ((a0.length : Int) ≤ 20))) some))
theorem c_spec_fHeads : ∀ {a0} {r}, F_spec_fHeads a0 = some r → PCalls Tryz.prog 30 [(.sh, .sl false 6 (a0.map row_Head))] (Eo (.bool r) [.junk]) := by
 intro a0 r hr
 apply pF 18 [] [] [] [.tmp 2] hr cl30 Tryz.func30
 intro Φ hΦ hF g
 unfold F_spec_fHeads at hF
 iterate 2 (try simp [go_sem, g]; try intros; refine pw_wk ?_)
 repeat rw [sq]
 refine pJs hF (fun x3 => [(0, .v (.sl false 6 (a0.map row_Head)))]) (fun x3 hF => ?_) fun _ hj1 hr2 hF => ?_
 ·cases hΦ _ (Rn_some hF)
  try simp [go_sem, g]
  try intros
  refine pw_wk ?_
  try simp [go_sem, g]
  try intros
 ·repeat rw [sq]
  rw [pw_block]
  obtain ⟨b14, hb15, hψ8⟩ := hF
  refine pR hb15 (fun i5 s4 => [(0, .v (.sl false 6 (a0.map row_Head))), (5, .v (.sl false 6 (a0.map row_Head))), (6, .v (.int .i64 (a0.length : Int))), (7, .v (.int .i64 i5))]) (fun s4 _ hN16 => ?_) (fun i5 s4 _ _ hi9 hi10 ho6 hg7 hF => ?_)
  ·subst hN16
   try simp [go_sem]
   refine pw_wk ?_
   repeat rw [sq]
   refine pw_cond_f (by simp [go_sem]) ?_
   try simp [go_sem]
   exact pT (hj1 ()) hψ8 (by simp [go_sem])
  ·try simp [go_sem, g]
   refine pw_wk ?_
   repeat rw [sq]
   refine pw_cond_t (by simp [go_sem, g, hi9, hi10]) ?_
   try simp [go_sem, g]
   refine pw_wk ?_
   repeat rw [sq]
   rw [pw_block]
   obtain ⟨x11, g, hF⟩ := Rx g hF
   try simp [go_sem, g]
   refine pw_wk ?_
   try simp [go_sem, g]
   refine pC hF [.sh] c_spec_oHead (fun z12 hF => ?_)
   try simp [go_sem, g]
   refine pw_wkK [0, 5, 6, 7, 13] (by simp [go_sem, g]; rfl) ?_
   repeat rw [sq]
   refine pI hF (fun h13 hF => ?_) (fun h13 hF => ?_)
   ·cases ho6 _ (Rn_some hF)
    cases hΦ _ (hr2 _ hψ8)
    try simp [go_sem, g]
    refine pw_wk ?_
    try simp [go_sem, g]
   ·try simp [go_sem, g]
    refine pw_wk ?_
    try simp [go_sem, g]
    exact pT (hg7 ()) (Rn_some hF) (by simp [go_sem, g, wr_i hi9 hi10 (by assumption)])
noncomputable def F_spec_gMul (a0 : Group) (a1 : (List Int)) : Option (Int) :=
 ((rloop (σ := Int) (fun i5 s4 =>
 (ix a1 i5).bind fun x11 =>
 gd (a0.P ≠ 0) <|
 some (.go ((i64.wrap (s4 * x11)).tmod a0.P))) (fun s4 => s4) (a1.length) 0 1 : Option (Int)).bind fun x3 =>
 some x3)
theorem c_spec_gMul : ∀ {a0} {a1} {r}, F_spec_gMul a0 a1 = some r → PCalls Tryz.prog 151 [(.sh, .agg [.int .i64 a0.P, .int .i64 a0.Q, .int .i64 a0.G]), (.sh, .sl false 1 (a1.map row_i64))] (Eo (.int .i64 r) [.junk, .junk]) := by
 intro a0 a1 r hr
 apply pF 22 [] [] [] [.tmp 4] hr cl151 Tryz.func151
 intro Φ hΦ hF g
 unfold F_spec_gMul at hF
 iterate 3 (try simp [go_sem, g]; try intros; refine pw_wk ?_)
 repeat rw [sq]
 refine pJ hF (fun x3 => [(5, .v (.int .i64 x3))]) (fun x3 hF => ?_) fun _ hj1 hF => ?_
 ·cases hΦ _ (Rn_some hF)
  try simp [go_sem, g]
  refine pw_wk ?_
  try simp [go_sem, g]
 ·repeat rw [sq]
  rw [pw_block]
  obtain ⟨b12, hb13, hψ8⟩ := hF
  refine pR hb13 (fun i5 s4 => [(2, .bl [.int .i64 a0.P, .int .i64 a0.Q, .int .i64 a0.G]), (5, .v (.int .i64 s4)), (8, .v (.sl false 1 (a1.map row_i64))), (9, .v (.int .i64 (a1.length : Int))), (10, .v (.int .i64 i5))]) (fun s4 _ hN14 => ?_) (fun i5 s4 _ _ hi9 hi10 ho6 hg7 hF => ?_)
  ·subst hN14
   try simp [go_sem]
   refine pw_wk ?_
   repeat rw [sq]
   refine pw_cond_f (by simp [go_sem]) ?_
   try simp [go_sem]
   exact pT (hj1 s4) hψ8 (by simp [go_sem])
  ·try simp [go_sem, g]
   refine pw_wk ?_
   repeat rw [sq]
   refine pw_cond_t (by simp [go_sem, g, hi9, hi10]) ?_
   try simp [go_sem, g]
   refine pw_wk ?_
   repeat rw [sq]
   rw [pw_block]
   obtain ⟨x11, g, hF⟩ := Rx g hF
   try simp [go_sem, g]
   refine pw_wkK [2, 5, 7, 8, 9, 10] (by simp [go_sem, g]; rfl) ?_
   obtain ⟨g, hF⟩ := Rz g hF
   try simp [go_sem, g]
   refine pw_wk ?_
   try simp [go_sem, g]
   exact pT (hg7 ((i64.wrap (s4 * x11)).tmod a0.P)) (Rn_some hF) (by simp [go_sem, g, wr_i hi9 hi10 (by assumption)])
def D132_1 : List DE := [d1 0 [9] 9, d2 1 [14] 9 14, d0 2 [15], d0 3 [2], d0 4 [17], d0 5 [16, 18], d0 6 [19], d1 7 [9, 20] 9, d2 8 [21, 20] 9 21, d0 9 [22, 20], d0 10 [23, 20], d0 11 [20, 24], d0 12 [25], d1 13 [9, 26] 9, d2 14 [27, 26] 9 27, d0 15 [28, 26], d0 16 [2, 26], d0 17 [30, 26], d0 18 [31, 26], d0 19 [32, 26], d0 20 [29, 33, 26], d0 21 [26, 34], d0 22 [35], d2 23 [5, 36] 5 5, d1 24 [9, 36] 9, d2 25 [38, 36] 9 38, d3 26 [37, 39, 36], d0 27 [40, 36], d0 28 [36, 41], d0 29 [42], d2 30 [5, 43] 5 5, d1 31 [9, 43] 9, d2 32 [45, 43] 9 45, d3 33 [44, 46, 43], d0 34 [47, 43], d0 35 [43, 48]]
def D132_4 : List DE := [d0 0 [11], d2 1 [5] 5 5, d0 2 [1], d0 3 [2], d0 4 [3], d1 5 [9] 9, d2 6 [59] 9 59, d3 7 [57, 58, 60], d3 8 [55, 56, 61], d0 9 [54, 62]]
def D132_9 : List DE := [d2 0 [5] 5 5, d0 1 [13], d1 2 [9] 9, d2 3 [73] 9 73, d2 5 [5] 5 5, d1 6 [9] 9, d2 7 [77] 9 77, d0 8 [12], d0 9 [78, 79], d0 10 [80], d2 11 [5] 5 5, d0 12 [3], d0 13 [12], d0 14 [83, 84], d0 15 [85], d0 16 [11], ⟨4, [71, 72, 74], [], none, false, true, false⟩, ⟨17, [82, 86, 87], [], none, false, true, false⟩, d0 18 [81, 88], ⟨19, [76, 89], [], none, true, true, true⟩, d0 20 [75, 90]]
noncomputable def F_spec_sVerify (a0 : Group) (a1 : ByteArray) (a2 : (List (List Int))) (a3 : (List Int)) (a4 : Proof) : Option (Bool) :=
 ((if ((a4.Commits.length : Int) != (a2.length : Int)) = true then (
 some true) else (
 if ((a4.Challenges.length : Int) != 1) = true then (
 some true) else (
 (ix a2 0).bind fun x6 =>
 if ((a4.Responses.length : Int) != (x6.length : Int)) = true then (
 some true) else (
 (F_spec_gIs a0 a4.Commits).bind fun z8 =>
 if (!z8) = true then (
 some true) else (
 (F_spec_gExps a0 a4.Responses).bind fun z10 =>
 some (!z10))))) : Option (Bool)).bind fun x3 =>
 if x3 = true then (
 some false) else (
 (ix a4.Challenges 0).bind fun x12 =>
 (F_spec_sStatement a2 a3 a4.Commits).bind fun z13 =>
 (F_spec_hChallenge a0 a1 z13).bind fun z14 =>
 if (x12 != z14) = true then (
 some false) else (
 ((rloop (σ := Unit) (fun i20 s19 =>
 (ix a2 i20).bind fun x26 =>
 (ix a4.Commits i20).bind fun x27 =>
 (ix a3 i20).bind fun x28 =>
 (F_spec_gProd a0 x26 a4.Responses).bind fun z29 =>
 (F_spec_gExp a0 x28 x12).bind fun z30 =>
 (F_spec_gMul a0 [x27, z30]).bind fun z31 =>
 if (z29 != z31) = true then (
 some (.out (.inr false))) else (
 some (.go ()))) (fun s19 => .inl ()) (a2.length) 0 () : Option (Unit ⊕ Bool)).bind (Sum.elim (fun x18 =>
 some true) some)))))
end Go.Pm
