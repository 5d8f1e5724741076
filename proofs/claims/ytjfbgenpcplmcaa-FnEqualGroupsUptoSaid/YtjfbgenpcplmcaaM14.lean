/-
  Plain functions and their walks. Written by wip/tools/lift.py.
-/
import Derived.Test.YtjfbgenpcplmcaaPS
namespace Go.Pm
open Go.Am IntKind
open Go.Proofs
set_option maxRecDepth 100000
attribute [local irreducible] pw pwx pw1 pwg qv qz qf
attribute [-simp] List.map_set
set_option linter.unusedSimpArgs false
set_option linter.unusedVariables false
structure Group where
  P : Int
  Q : Int
  G : Int
structure Cipher where
  A : Int
  B : Int
structure l1Cur where
  code : (List Int)
  at_ : Int
  seed : Int
structure ViewCount where
  View : (List Int)
  Times : Int
def row_u8 (x : Int) : List PV := [.int .u8 x]
@[go_sem] theorem row_u8_eq {x : Int} : row_u8 x = [.int .u8 x] := (rfl)
@[go_sem] theorem row_u8_drop {l : List Int} : List.map (List.map drop ∘ row_u8) l = l.map row_u8 := by refine List.map_congr_left fun x _ => ?_; simp [go_sem]
@[go_sem] theorem row_u8_drop' {l : List Int} : List.map (List.map drop) (l.map row_u8) = l.map row_u8 := by rw [List.map_map]; exact row_u8_drop
@[go_sem] theorem row_u8_set {l : List Int} {i : Nat} {a : Int} : (l.map row_u8).set i [.int .u8 a] = (l.set i a).map row_u8 := by rw [List.map_set]; rfl
def row_i64 (x : Int) : List PV := [.int .i64 x]
@[go_sem] theorem row_i64_eq {x : Int} : row_i64 x = [.int .i64 x] := (rfl)
@[go_sem] theorem row_i64_drop {l : List Int} : List.map (List.map drop ∘ row_i64) l = l.map row_i64 := by refine List.map_congr_left fun x _ => ?_; simp [go_sem]
@[go_sem] theorem row_i64_drop' {l : List Int} : List.map (List.map drop) (l.map row_i64) = l.map row_i64 := by rw [List.map_map]; exact row_i64_drop
@[go_sem] theorem row_i64_set {l : List Int} {i : Nat} {a : Int} : (l.map row_i64).set i [.int .i64 a] = (l.set i a).map row_i64 := by rw [List.map_set]; rfl
def row_Cipher (x : Cipher) : List PV := [.int .i64 x.A, .int .i64 x.B]
@[go_sem] theorem row_Cipher_eq {x : Cipher} : row_Cipher x = [.int .i64 x.A, .int .i64 x.B] := (rfl)
@[go_sem] theorem row_Cipher_drop {l : List Cipher} : List.map (List.map drop ∘ row_Cipher) l = l.map row_Cipher := by refine List.map_congr_left fun x _ => ?_; simp [go_sem]
@[go_sem] theorem row_Cipher_drop' {l : List Cipher} : List.map (List.map drop) (l.map row_Cipher) = l.map row_Cipher := by rw [List.map_map]; exact row_Cipher_drop
@[go_sem] theorem row_Cipher_set {l : List Cipher} {i : Nat} {A : Int} {B : Int} : (l.map row_Cipher).set i [.int .i64 A, .int .i64 B] = (l.set i (Cipher.mk A B)).map row_Cipher := by rw [List.map_set]; rfl
def row_zi64 (x : (List Int)) : List PV := [.sl false 1 (x.map row_i64)]
@[go_sem] theorem row_zi64_eq {x : (List Int)} : row_zi64 x = [.sl false 1 (x.map row_i64)] := (rfl)
@[go_sem] theorem row_zi64_drop {l : List (List Int)} : List.map (List.map drop ∘ row_zi64) l = l.map row_zi64 := by refine List.map_congr_left fun x _ => ?_; simp [go_sem]
@[go_sem] theorem row_zi64_drop' {l : List (List Int)} : List.map (List.map drop) (l.map row_zi64) = l.map row_zi64 := by rw [List.map_map]; exact row_zi64_drop
@[go_sem] theorem row_zi64_set {l : List (List Int)} {i : Nat} {a : (List Int)} : (l.map row_zi64).set i [.sl false 1 (a.map row_i64)] = (l.set i a).map row_zi64 := by rw [List.map_set]; rfl
def row_oi64 (x : (List Int)) : List PV := [.sl true 1 (x.map row_i64)]
@[go_sem] theorem row_oi64_eq {x : (List Int)} : row_oi64 x = [.sl true 1 (x.map row_i64)] := (rfl)
@[go_sem] theorem row_oi64_drop {l : List (List Int)} : List.map (List.map drop ∘ row_oi64) l = l.map row_zi64 := by refine List.map_congr_left fun x _ => ?_; simp [go_sem]
@[go_sem] theorem row_oi64_drop' {l : List (List Int)} : List.map (List.map drop) (l.map row_oi64) = l.map row_zi64 := by rw [List.map_map]; exact row_oi64_drop
@[go_sem] theorem row_oi64_set {l : List (List Int)} {i : Nat} {a : (List Int)} : (l.map row_oi64).set i [.sl true 1 (a.map row_i64)] = (l.set i a).map row_oi64 := by rw [List.map_set]; rfl
def row_ViewCount_z (x : ViewCount) : List PV := [.sl false 1 (x.View.map row_i64), .int .i64 x.Times]
@[go_sem] theorem row_ViewCount_z_eq {x : ViewCount} : row_ViewCount_z x = [.sl false 1 (x.View.map row_i64), .int .i64 x.Times] := (rfl)
@[go_sem] theorem row_ViewCount_z_drop {l : List ViewCount} : List.map (List.map drop ∘ row_ViewCount_z) l = l.map row_ViewCount_z := by refine List.map_congr_left fun x _ => ?_; simp [go_sem]
@[go_sem] theorem row_ViewCount_z_drop' {l : List ViewCount} : List.map (List.map drop) (l.map row_ViewCount_z) = l.map row_ViewCount_z := by rw [List.map_map]; exact row_ViewCount_z_drop
@[go_sem] theorem row_ViewCount_z_set {l : List ViewCount} {i : Nat} {View : (List Int)} {Times : Int} : (l.map row_ViewCount_z).set i [.sl false 1 (View.map row_i64), .int .i64 Times] = (l.set i (ViewCount.mk View Times)).map row_ViewCount_z := by rw [List.map_set]; rfl
def row_ViewCount_o (x : ViewCount) : List PV := [.sl true 1 (x.View.map row_i64), .int .i64 x.Times]
@[go_sem] theorem row_ViewCount_o_eq {x : ViewCount} : row_ViewCount_o x = [.sl true 1 (x.View.map row_i64), .int .i64 x.Times] := (rfl)
@[go_sem] theorem row_ViewCount_o_drop {l : List ViewCount} : List.map (List.map drop ∘ row_ViewCount_o) l = l.map row_ViewCount_z := by refine List.map_congr_left fun x _ => ?_; simp [go_sem]
@[go_sem] theorem row_ViewCount_o_drop' {l : List ViewCount} : List.map (List.map drop) (l.map row_ViewCount_o) = l.map row_ViewCount_z := by rw [List.map_map]; exact row_ViewCount_o_drop
@[go_sem] theorem row_ViewCount_o_set {l : List ViewCount} {i : Nat} {View : (List Int)} {Times : Int} : (l.map row_ViewCount_o).set i [.sl true 1 (View.map row_i64), .int .i64 Times] = (l.set i (ViewCount.mk View Times)).map row_ViewCount_o := by rw [List.map_set]; rfl
def D148_2 : List DE := [⟨0, [0], [], none, false, false, false⟩, ⟨1, [4], [], none, false, false, false⟩, ⟨2, [5], [], none, false, false, false⟩, ⟨3, [6], [], none, false, false, false⟩, ⟨4, [0], [], none, false, false, false⟩, ⟨5, [8], [], none, false, false, false⟩, ⟨6, [9], [], none, false, false, false⟩, ⟨7, [10], [], none, false, false, false⟩, ⟨8, [11], [], none, false, false, false⟩, ⟨9, [7, 12], [], none, false, false, false⟩]
def D148_3 : List DE := [⟨0, [0], [], none, false, false, false⟩, ⟨1, [14], [], none, false, false, false⟩, ⟨2, [15], [], none, false, false, false⟩, ⟨3, [16], [], none, false, false, false⟩, ⟨4, [0], [], none, false, false, false⟩, ⟨5, [18], [], none, false, false, false⟩, ⟨6, [19], [], none, false, false, false⟩, ⟨7, [20], [], none, false, false, false⟩, ⟨8, [17, 21], [], none, false, false, false⟩, ⟨9, [22], [], none, false, false, false⟩, ⟨10, [23], [], none, false, false, false⟩, ⟨11, [24], [], none, false, false, false⟩]
def D148_6 : List DE := [⟨0, [0], [], none, false, false, false⟩, ⟨1, [44], [], none, false, false, false⟩, ⟨2, [45], [], none, false, false, false⟩, ⟨3, [46], [], none, false, false, false⟩, ⟨4, [0], [], none, false, false, false⟩, ⟨5, [48], [], none, false, false, false⟩, ⟨6, [49], [], none, false, false, false⟩, ⟨7, [50], [], none, false, false, false⟩, ⟨8, [51], [], none, false, false, false⟩, ⟨9, [47, 52], [], none, false, false, false⟩]
noncomputable def F_spec_l1Cur_next__io0 (a0c0 : (List Int)) (a0c1 : Int) (a0c2 : Int) : Option (Int × ((List Int) × Int × Int)) :=
  ((if decide (a0c1 < (a0c0.length : Int)) = true then (
  (ix a0c0 a0c1).bind fun x5 =>
  some (i64.wrap x5)) else (
  some 0) : Option (Int)).bind fun x3 =>
  if decide ((i64.wrap (a0c1 + 1)) ≤ (a0c0.length : Int)) = true then (
  some (x3, (a0c0, i64.wrap (a0c1 + 1), u64.wrap ((u64.wrap ((u64.wrap (a0c2 * 6364136223846793005)) + (u64.wrap x3))) + 1442695040888963407)))) else (
  some (i64.wrap (u64.wrap ((BitVec.ofInt u64.bits ((u64.wrap ((u64.wrap ((u64.wrap (a0c2 * 6364136223846793005)) + (u64.wrap x3))) + 1442695040888963407)).fdiv 1099511627776) &&& BitVec.ofInt u64.bits 255).toNat)), (a0c0, i64.wrap (a0c1 + 1), u64.wrap ((u64.wrap ((u64.wrap (a0c2 * 6364136223846793005)) + (u64.wrap x3))) + 1442695040888963407)))))
theorem c_spec_l1Cur_next__io0 : ∀ {a0c0} {a0c1} {a0c2} {r}, F_spec_l1Cur_next__io0 a0c0 a0c1 a0c2 = some r → PCalls Try.prog 148 [(.io, .bx [.sl false 1 (a0c0.map row_u8), .int .i64 a0c1, .int .u64 a0c2])] (Eo (.int .i64 r.1) [.bx [.sl false 1 (r.2.1.map row_u8), .int .i64 r.2.2.1, .int .u64 r.2.2.2]]) := by
  intro a0c0 a0c1 a0c2 r hr
  apply pF 62 [0] [] [] [.tmp 2] hr cl148 Try.func148
  intro Φ hΦ hF g
  unfold F_spec_l1Cur_next__io0 at hF
  iterate 2 (try simp [go_sem, g]; refine pw_wk ?_)
  repeat rw [sq]
  refine pw_draw D148_2 follows (by kernel_rfl) rfl ?_
  try simp only [go_sem, D148_2]
  try simp [go_sem, g]
  try intros
  refine pw_wkK [0, 3, 13] (by simp [go_sem, g]; rfl) ?_
  repeat rw [sq]
  refine pJ hF (fun x3 => [(0, .v (.bx [.sl false 1 (a0c0.map row_u8), .int .i64 a0c1, .int .u64 a0c2])), (3, .v (.int .i64 x3))]) (fun x3 hF => ?_) fun _ hj1 hF => ?_
  ·try simp [go_sem, g]
   refine pw_wk ?_
   try simp [go_sem, g]
   refine pw_wkK [0, 3] (by simp [go_sem, g]; rfl) ?_
   repeat rw [sq]
   refine pw_draw D148_6 follows (by kernel_rfl) rfl ?_
   try simp only [go_sem, D148_6]
   try simp [go_sem, g]
   try intros
   refine pw_wkK [0, 3, 53] (by simp [go_sem, g]; rfl) ?_
   repeat rw [sq]
   refine pI hF (fun h6 hF => ?_) (fun h6 hF => ?_)
   ·cases hΦ _ (Rn_some hF)
    try simp [go_sem, g]
    refine pw_wk ?_
    try simp [go_sem, g]
   ·have g := Ls g 40
    cases hΦ _ (Rn_some hF)
    iterate 2 (try simp [go_sem, g]; refine pw_wk ?_)
    try simp [go_sem, g]
  ·repeat rw [sq]
   refine pI hF (fun h4 hF => ?_) (fun h4 hF => ?_)
   ·repeat rw [sq]
    refine pw_draw D148_3 follows (by kernel_rfl) rfl ?_
    try simp only [go_sem, D148_3]
    obtain ⟨x5, g, hF⟩ := Rx g hF
    try simp [go_sem, g]
    exact pT (hj1 (i64.wrap x5)) (Rn_some hF)
   ·try simp [go_sem, g]
    exact pT (hj1 0) (Rn_some hF)
noncomputable def F_spec_l1Cur_pick__io0 (a0c0 : (List Int)) (a0c1 : Int) (a0c2 : Int) (a1 : Int) : Option (Int × ((List Int) × Int × Int)) :=
  if decide (a1 ≤ 1) = true then (
  some (0, (a0c0, a0c1, a0c2))) else (
  (F_spec_l1Cur_next__io0 a0c0 a0c1 a0c2).bind fun z2 =>
  ((if decide (200 < a1) = true then (
  (F_spec_l1Cur_next__io0 z2.2.1 z2.2.2.1 z2.2.2.2).bind fun z7 =>
  some ((z7.2.1, z7.2.2.1, z7.2.2.2), i64.wrap ((i64.wrap (z2.1 * 256)) + z7.1))) else (
  some ((z2.2.1, z2.2.2.1, z2.2.2.2), z2.1)) : Option ((((List Int) × Int × Int) × Int))).bind fun x5 =>
  gd (a1 ≠ 0) <|
  some (x5.2.tmod a1, (x5.1.1, x5.1.2.1, x5.1.2.2))))
theorem c_spec_l1Cur_pick__io0 : ∀ {a0c0} {a0c1} {a0c2} {a1} {r}, F_spec_l1Cur_pick__io0 a0c0 a0c1 a0c2 a1 = some r → PCalls Try.prog 102 [(.io, .bx [.sl false 1 (a0c0.map row_u8), .int .i64 a0c1, .int .u64 a0c2]), (.sh, .int .i64 a1)] (Eo (.int .i64 r.1) [.bx [.sl false 1 (r.2.1.map row_u8), .int .i64 r.2.2.1, .int .u64 r.2.2.2], .junk]) := by
  intro a0c0 a0c1 a0c2 a1 r hr
  apply pF 20 [0] [] [] [.tmp 4] hr cl102 Try.func102
  intro Φ hΦ hF g
  unfold F_spec_l1Cur_pick__io0 at hF
  iterate 2 (try simp [go_sem, g]; refine pw_wk ?_)
  repeat rw [sq]
  refine pI hF (fun h1 hF => ?_) (fun h1 hF => ?_)
  ·cases hΦ _ (Rn_some hF)
   try simp [go_sem, g]
   refine pw_wk ?_
   try simp [go_sem, g]
  ·try simp [go_sem, g]
   refine pw_wk ?_
   try simp [go_sem, g]
   refine pC hF [.io] c_spec_l1Cur_next__io0 (fun z2 hF => ?_)
   iterate 2 (try simp [go_sem, g]; refine pw_wk ?_)
   repeat rw [sq]
   refine pJ hF (fun x5 => [(0, .v (.bx [.sl false 1 (x5.1.1.map row_u8), .int .i64 x5.1.2.1, .int .u64 x5.1.2.2])), (1, .v (.int .i64 a1)), (5, .v (.int .i64 x5.2))]) (fun x5 hF => ?_) fun _ hj3 hF => ?_
   ·obtain ⟨g, hF⟩ := Rz g hF
    try simp [go_sem, g]
    refine pw_wkK [0, 4] (by simp [go_sem, g]; rfl) ?_
    cases hΦ _ (Rn_some hF)
    try simp [go_sem, g]
   ·repeat rw [sq]
    refine pI hF (fun h6 hF => ?_) (fun h6 hF => ?_)
    ·try simp [go_sem, g]
     refine pC hF [.io] c_spec_l1Cur_next__io0 (fun z7 hF => ?_)
     try simp [go_sem, g]
     exact pT (hj3 ((z7.2.1, z7.2.2.1, z7.2.2.2), i64.wrap ((i64.wrap (z2.1 * 256)) + z7.1))) (Rn_some hF)
    ·try simp [go_sem, g]
     exact pT (hj3 ((z2.2.1, z2.2.2.1, z2.2.2.2), z2.1)) (Rn_some hF)
noncomputable def F_spec_l1Cur_among__io0 (a0c0 : (List Int)) (a0c1 : Int) (a0c2 : Int) (a1 : (List Int)) : Option (Int × ((List Int) × Int × Int)) :=
  (F_spec_l1Cur_pick__io0 a0c0 a0c1 a0c2 (a1.length : Int)).bind fun z1 =>
  (ix a1 z1.1).bind fun x2 =>
  some (x2, (z1.2.1, z1.2.2.1, z1.2.2.2))
theorem c_spec_l1Cur_among__io0 : ∀ {a0c0} {a0c1} {a0c2} {a1} {r}, F_spec_l1Cur_among__io0 a0c0 a0c1 a0c2 a1 = some r → PCalls Try.prog 82 [(.io, .bx [.sl false 1 (a0c0.map row_u8), .int .i64 a0c1, .int .u64 a0c2]), (.sh, .sl false 1 (a1.map row_i64))] (Eo (.int .i64 r.1) [.bx [.sl false 1 (r.2.1.map row_u8), .int .i64 r.2.2.1, .int .u64 r.2.2.2], .junk]) := by
  intro a0c0 a0c1 a0c2 a1 r hr
  apply pF 12 [0] [] [] [.tmp 4] hr cl82 Try.func82
  intro Φ hΦ hF g
  unfold F_spec_l1Cur_among__io0 at hF
  try simp [go_sem, g]
  try intros
  refine pw_wk ?_
  try simp [go_sem, g]
  try intros
  refine pC hF [.io, .sh] c_spec_l1Cur_pick__io0 (fun z1 hF => ?_)
  obtain ⟨x2, g, hF⟩ := Rx g hF
  cases hΦ _ (Rn_some hF)
  try simp [go_sem, g]
  refine pw_wk ?_
  try simp [go_sem, g]
noncomputable def F_spec_l1Cur_among__io0_mv1 (a0c0 : (List Int)) (a0c1 : Int) (a0c2 : Int) (a1 : (List Int)) : Option (Int × ((List Int) × Int × Int)) :=
  (F_spec_l1Cur_pick__io0 a0c0 a0c1 a0c2 (a1.length : Int)).bind fun z1 =>
  (ix a1 z1.1).bind fun x2 =>
  some (x2, (z1.2.1, z1.2.2.1, z1.2.2.2))
theorem c_spec_l1Cur_among__io0_mv1 : ∀ {a0c0} {a0c1} {a0c2} {a1} {r}, F_spec_l1Cur_among__io0_mv1 a0c0 a0c1 a0c2 a1 = some r → PCalls Try.prog 82 [(.io, .bx [.sl false 1 (a0c0.map row_u8), .int .i64 a0c1, .int .u64 a0c2]), (.mv, .sl true 1 (a1.map row_i64))] (Eo (.int .i64 r.1) [.bx [.sl false 1 (r.2.1.map row_u8), .int .i64 r.2.2.1, .int .u64 r.2.2.2], .junk]) := by
  intro a0c0 a0c1 a0c2 a1 r hr
  apply pF 12 [0] [] [] [.tmp 4] hr cl82 Try.func82
  intro Φ hΦ hF g
  unfold F_spec_l1Cur_among__io0_mv1 at hF
  try simp [go_sem, g]
  try intros
  refine pw_wk ?_
  try simp [go_sem, g]
  try intros
  refine pC hF [.io, .sh] c_spec_l1Cur_pick__io0 (fun z1 hF => ?_)
  obtain ⟨x2, g, hF⟩ := Rx g hF
  cases hΦ _ (Rn_some hF)
  try simp [go_sem, g]
  refine pw_wk ?_
  try simp [go_sem, g]
noncomputable def F_spec_l1In (a0 : Int) (a1 : Int) (a2 : Int) : Option (Bool) :=
  ((if decide (a1 ≤ a0) = true then (
  some (decide (a0 ≤ a2))) else (
  some false) : Option (Bool)).bind fun x3 =>
  some x3)
theorem c_spec_l1In : ∀ {a0} {a1} {a2} {r}, F_spec_l1In a0 a1 a2 = some r → PCalls Try.prog 84 [(.sh, .int .i64 a0), (.sh, .int .i64 a1), (.sh, .int .i64 a2)] (Eo (.bool r) [.junk, .junk, .junk]) := by
  intro a0 a1 a2 r hr
  apply pF 15 [] [] [] [.tmp 6] hr cl84 Try.func84
  intro Φ hΦ hF g
  unfold F_spec_l1In at hF
  try simp [go_sem, g]
  refine pw_wk ?_
  repeat rw [sq]
  refine pJ hF (fun x3 => [(6, .v (.bool x3))]) (fun x3 hF => ?_) fun _ hj1 hF => ?_
  ·cases hΦ _ (Rn_some hF)
   try simp [go_sem, g]
  ·try simp [go_sem, g]
   refine pwg_F hF (fun h4 hF => ?_) fun h4 hF => ?_
   ·try simp [go_sem, g, h4]
    exact pT (hj1 (decide (a0 ≤ a2))) (Rn_some hF)
   ·try simp [go_sem, g, h4]
    exact pT (hj1 false) (Rn_some hF)
noncomputable def F_spec_nPrime (a0 : Int) : Option (Bool) :=
  if decide (a0 < 2) = true then (
  some false) else (
  ((wloop (σ := Int) (fun s5 =>
  if decide ((i64.wrap (s5 * s5)) ≤ a0) = true then (
  gd (s5 ≠ 0) <|
  if ((a0.tmod s5) == 0) = true then (
  some (.out (.inr false))) else (
  some (.go (i64.wrap (s5 + 1))))) else (
  some (.out (.inl ())))) 2 : Option (Unit ⊕ Bool)).bind (Sum.elim (fun x4 =>
  some true) some)))
theorem c_spec_nPrime : ∀ {a0} {r}, F_spec_nPrime a0 = some r → PCalls Try.prog 85 [(.sh, .int .i64 a0)] (Eo (.bool r) [.junk]) := by
  intro a0 r hr
  apply pF 17 [] [] [] [.tmp 2] hr cl85 Try.func85
  intro Φ hΦ hF g
  unfold F_spec_nPrime at hF
  iterate 2 (try simp [go_sem, g]; refine pw_wk ?_)
  repeat rw [sq]
  refine pI hF (fun h1 hF => ?_) (fun h1 hF => ?_)
  ·cases hΦ _ (Rn_some hF)
   try simp [go_sem, g]
   refine pw_wk ?_
   try simp [go_sem, g]
  ·iterate 2 (try simp [go_sem, g]; refine pw_wk ?_)
   repeat rw [sq]
   refine pJs hF (fun x4 => []) (fun x4 hF => ?_) fun _ hj2 hr3 hF => ?_
   ·cases hΦ _ (Rn_some hF)
    try simp [go_sem, g]
    refine pw_wk ?_
    try simp [go_sem, g]
   ·repeat rw [sq]
    rw [pw_block]
    obtain ⟨b12, hb13, hψ9⟩ := hF
    refine pL hb13 (fun s5 => [(0, .v (.int .i64 a0)), (3, .v (.int .i64 s5))]) (fun s5 _ _ ho7 hg8 hF => ?_)
    try simp [go_sem, g]
    refine pw_wk ?_
    repeat rw [sq]
    refine pI hF (fun h10 hF => ?_) (fun h10 hF => ?_)
    ·try simp [go_sem, g]
     refine pw_wk ?_
     repeat rw [sq]
     rw [pw_block]
     obtain ⟨g, hF⟩ := Rz g hF
     try simp [go_sem, g]
     refine pw_wkK [0, 3, 16] (by simp [go_sem, g]; rfl) ?_
     repeat rw [sq]
     refine pI hF (fun h11 hF => ?_) (fun h11 hF => ?_)
     ·cases ho7 _ (Rn_some hF)
      cases hΦ _ (hr3 _ hψ9)
      try simp [go_sem, g]
      refine pw_wk ?_
      try simp [go_sem, g]
     ·try simp [go_sem, g]
      refine pw_wk ?_
      try simp [go_sem, g]
      exact pT (hg8 (i64.wrap (s5 + 1))) (Rn_some hF)
    ·try simp [go_sem, g]
     cases ho7 _ (Rn_some hF)
     exact pT (hj2 ()) hψ9
noncomputable def F_spec_nPower (a0 : Int) (a1 : Int) (a2 : Int) : Option (Int) :=
  gd (a2 ≠ 0) <|
  ((wloop (σ := Int × Int × Int) (fun s4 =>
  if decide (0 < s4.2.1) = true then (
  ((if ((s4.2.1.tmod 2) == 1) = true then (
  gd (a2 ≠ 0) <|
  some ((i64.wrap (s4.2.2 * s4.1)).tmod a2)) else (
  some s4.2.2) : Option (Int)).bind fun x12 =>
  gd (a2 ≠ 0) <|
  some (.go ((i64.wrap (s4.1 * s4.1)).tmod a2, i64.wrap (s4.2.1.tdiv 2), x12)))) else (
  some (.out s4.2.2))) (a0, a1, (1 : Int).tmod a2) : Option (Int)).bind fun x3 =>
  some x3)
theorem c_spec_nPower : ∀ {a0} {a1} {a2} {r}, F_spec_nPower a0 a1 a2 = some r → PCalls Try.prog 119 [(.sh, .int .i64 a0), (.sh, .int .i64 a1), (.sh, .int .i64 a2)] (Eo (.int .i64 r) [.junk, .junk, .junk]) := by
  intro a0 a1 a2 r hr
  apply pF 28 [] [] [] [.tmp 6] hr cl119 Try.func119
  intro Φ hΦ hF g
  unfold F_spec_nPower at hF
  obtain ⟨g, hF⟩ := Rz g hF
  iterate 2 (try simp [go_sem, g]; refine pw_wk ?_)
  repeat rw [sq]
  refine pJ hF (fun x3 => [(7, .v (.int .i64 x3))]) (fun x3 hF => ?_) fun _ hj1 hF => ?_
  ·cases hΦ _ (Rn_some hF)
   try simp [go_sem, g]
   refine pw_wk ?_
   try simp [go_sem, g]
  ·repeat rw [sq]
   rw [pw_block]
   obtain ⟨b14, hb15, hψ8⟩ := hF
   refine pL hb15 (fun s4 => [(0, .v (.int .i64 s4.1)), (1, .v (.int .i64 s4.2.1)), (2, .v (.int .i64 a2)), (7, .v (.int .i64 s4.2.2))]) (fun s4 _ _ ho6 hg7 hF => ?_)
   try simp [go_sem, g]
   refine pw_wk ?_
   repeat rw [sq]
   refine pI hF (fun h9 hF => ?_) (fun h9 hF => ?_)
   ·try simp [go_sem, g]
    refine pw_wk ?_
    repeat rw [sq]
    rw [pw_block]
    have g := Ld g 2
    try simp [go_sem, g]
    refine pw_wk ?_
    repeat rw [sq]
    refine pJ hF (fun x12 => [(0, .v (.int .i64 s4.1)), (1, .v (.int .i64 s4.2.1)), (2, .v (.int .i64 a2)), (7, .v (.int .i64 x12))]) (fun x12 hF => ?_) fun _ hj10 hF => ?_
    ·obtain ⟨g, hF⟩ := Rz g hF
     try simp [go_sem, g]
     refine pw_wkK [0, 1, 2, 7] (by simp [go_sem, g]; rfl) ?_
     try simp [go_sem, g]
     exact pT (hg7 ((i64.wrap (s4.1 * s4.1)).tmod a2, i64.wrap (s4.2.1.tdiv 2), x12)) (Rn_some hF)
    ·repeat rw [sq]
     refine pI hF (fun h13 hF => ?_) (fun h13 hF => ?_)
     ·obtain ⟨g, hF⟩ := Rz g hF
      try simp [go_sem, g]
      exact pT (hj10 ((i64.wrap (s4.2.2 * s4.1)).tmod a2)) (Rn_some hF)
     ·try simp [go_sem, g]
      exact pT (hj10 s4.2.2) (Rn_some hF)
   ·try simp [go_sem, g]
    cases ho6 _ (Rn_some hF)
    exact pT (hj1 s4.2.2) hψ8
noncomputable def F_spec_MakeGroup (a0 : Int) : Option (Group × Bool) :=
  (((F_spec_l1In a0 2 1000000).bind fun z4 =>
  if (!z4) = true then (
  some true) else (
  (F_spec_nPrime a0).bind fun z6 =>
  some (!z6)) : Option (Bool)).bind fun x3 =>
  if x3 = true then (
  some ((Group.mk 0 0 0), false)) else (
  ((wloop (σ := Int) (fun s11 =>
  if decide (s11 ≤ 2000000000) = true then (
  (F_spec_nPrime s11).bind fun z17 =>
  if (!z17) = true then (
  some (.go (i64.wrap (s11 + a0)))) else (
  ((wloop (σ := Int) (fun s22 =>
  gd (a0 ≠ 0) <|
  (F_spec_nPower s22 (i64.wrap ((i64.wrap (s11 - 1)).tdiv a0)) s11).bind fun z27 =>
  if (z27 == 1) = true then (
  some (.go (i64.wrap (s22 + 1)))) else (
  some (.out s22))) 2 : Option (Int)).bind fun x21 =>
  gd (a0 ≠ 0) <|
  (F_spec_nPower x21 (i64.wrap ((i64.wrap (s11 - 1)).tdiv a0)) s11).bind fun z31 =>
  some (.out (.inr ((Group.mk s11 a0 z31), true)))))) else (
  some (.out (.inl ())))) (i64.wrap (a0 + 1)) : Option (Unit ⊕ (Group × Bool))).bind (Sum.elim (fun x10 =>
  some ((Group.mk 0 0 0), false)) some))))
theorem c_spec_MakeGroup : ∀ {a0} {r}, F_spec_MakeGroup a0 = some r → PCalls Try.prog 152 [(.sh, .int .i64 a0)] (Eo (.tup [.agg [.int .i64 r.1.P, .int .i64 r.1.Q, .int .i64 r.1.G], .bool r.2]) [.junk]) := by
  intro a0 r hr
  apply pF 46 [] [] [] [.cell 2 39, .tmp 3] hr cl152 Try.func152
  intro Φ hΦ hF g
  unfold F_spec_MakeGroup at hF
  try simp [go_sem, g]
  refine pw_wk ?_
  repeat rw [sq]
  refine pJ hF (fun x3 => [(0, .v (.int .i64 a0)), (2, .bl [.int .i64 0, .int .i64 0, .int .i64 0]), (13, .v (.bool x3))]) (fun x3 hF => ?_) fun _ hj1 hF => ?_
  ·repeat rw [sq]
   refine pI hF (fun h7 hF => ?_) (fun h7 hF => ?_)
   ·cases hΦ _ (Rn_some hF)
    try simp [go_sem, g]
    refine pw_wk ?_
    try simp [go_sem, g]
   ·iterate 2 (try simp [go_sem, g]; refine pw_wk ?_)
    repeat rw [sq]
    refine pJs hF (fun x10 => [(2, .bl [.int .i64 0, .int .i64 0, .int .i64 0])]) (fun x10 hF => ?_) fun _ hj8 hr9 hF => ?_
    ·cases hΦ _ (Rn_some hF)
     try simp [go_sem, g]
     refine pw_wk ?_
     try simp [go_sem, g]
    ·repeat rw [sq]
     rw [pw_block]
     obtain ⟨b32, hb33, hψ15⟩ := hF
     refine pL hb33 (fun s11 => [(0, .v (.int .i64 a0)), (2, .bl [.int .i64 0, .int .i64 0, .int .i64 0]), (4, .v (.int .i64 s11))]) (fun s11 _ _ ho13 hg14 hF => ?_)
     try simp [go_sem, g]
     refine pw_wk ?_
     repeat rw [sq]
     refine pI hF (fun h16 hF => ?_) (fun h16 hF => ?_)
     ·try simp [go_sem, g]
      refine pw_wk ?_
      repeat rw [sq]
      rw [pw_block]
      try simp [go_sem, g]
      refine pC hF [.sh] c_spec_nPrime (fun z17 hF => ?_)
      try simp [go_sem, g]
      refine pw_wkK [0, 2, 4, 24] (by simp [go_sem, g]; rfl) ?_
      repeat rw [sq]
      refine pI hF (fun h18 hF => ?_) (fun h18 hF => ?_)
      ·try simp [go_sem, g]
       refine pw_wk ?_
       try simp [go_sem, g]
       exact pT (hg14 (i64.wrap (s11 + a0))) (Rn_some hF)
      ·iterate 2 (try simp [go_sem, g]; refine pw_wk ?_)
       repeat rw [sq]
       refine pJ hF (fun x21 => [(0, .v (.int .i64 a0)), (2, .bl [.int .i64 0, .int .i64 0, .int .i64 0]), (4, .v (.int .i64 s11)), (5, .v (.int .i64 x21))]) (fun x21 hF => ?_) fun _ hj19 hF => ?_
       ·obtain ⟨g, hF⟩ := Rz g hF
        try simp [go_sem, g]
        refine pC hF [.sh, .sh, .sh] c_spec_nPower (fun z31 hF => ?_)
        try simp [go_sem, g]
        refine pw_wkK [2, 3] (by simp [go_sem, g]; rfl) ?_
        cases ho13 _ (Rn_some hF)
        cases hΦ _ (hr9 _ hψ15)
        try simp [go_sem, g]
       ·repeat rw [sq]
        rw [pw_block]
        obtain ⟨b29, hb30, hψ26⟩ := hF
        refine pL hb30 (fun s22 => [(0, .v (.int .i64 a0)), (2, .bl [.int .i64 0, .int .i64 0, .int .i64 0]), (4, .v (.int .i64 s11)), (5, .v (.int .i64 s22))]) (fun s22 _ _ ho24 hg25 hF => ?_)
        obtain ⟨g, hF⟩ := Rz g hF
        try simp [go_sem, g]
        refine pC hF [.sh, .sh, .sh] c_spec_nPower (fun z27 hF => ?_)
        try simp [go_sem, g]
        refine pw_wk ?_
        repeat rw [sq]
        refine pI hF (fun h28 hF => ?_) (fun h28 hF => ?_)
        ·try simp [go_sem, g]
         refine pw_wk ?_
         repeat rw [sq]
         rw [pw_block]
         try simp [go_sem, g]
         exact pT (hg25 (i64.wrap (s22 + 1))) (Rn_some hF)
        ·try simp [go_sem, g]
         cases ho24 _ (Rn_some hF)
         first | exact pT (hj19 s22) hψ26 | exact pT (hj19 _) hψ26
     ·try simp [go_sem, g]
      cases ho13 _ (Rn_some hF)
      exact pT (hj8 ()) hψ15
  ·try simp [go_sem, g]
   refine pC hF [.sh, .sh, .sh] c_spec_l1In (fun z4 hF => ?_)
   try simp [go_sem, g]
   refine pwg_F hF (fun h5 hF => ?_) fun h5 hF => ?_
   ·try simp [go_sem, g, h5]
    exact pT (hj1 true) (Rn_some hF)
   ·try simp [go_sem, g, h5]
    refine pC hF [.sh] c_spec_nPrime (fun z6 hF => ?_)
    try simp [go_sem, g, h5]
    exact pT (hj1 (!z6)) (Rn_some hF)
noncomputable def F_spec_l1Cur_tiny__io0 (a0c0 : (List Int)) (a0c1 : Int) (a0c2 : Int) : Option (Group × ((List Int) × Int × Int)) :=
  (F_spec_l1Cur_among__io0_mv1 a0c0 a0c1 a0c2 [3, 5, 5, 7, 11, 11, 13, 23]).bind fun z1 =>
  (F_spec_MakeGroup z1.1).bind fun z2 =>
  some (z2.1, (z1.2.1, z1.2.2.1, z1.2.2.2))
theorem c_spec_l1Cur_tiny__io0 : ∀ {a0c0} {a0c1} {a0c2} {r}, F_spec_l1Cur_tiny__io0 a0c0 a0c1 a0c2 = some r → PCalls Try.prog 114 [(.io, .bx [.sl false 1 (a0c0.map row_u8), .int .i64 a0c1, .int .u64 a0c2])] (Eo (.agg [.int .i64 r.1.P, .int .i64 r.1.Q, .int .i64 r.1.G]) [.bx [.sl false 1 (r.2.1.map row_u8), .int .i64 r.2.2.1, .int .u64 r.2.2.2]]) := by
  intro a0c0 a0c1 a0c2 r hr
  apply pF 13 [0] [] [] [.cell 2 39] hr cl114 Try.func114
  intro Φ hΦ hF g
  unfold F_spec_l1Cur_tiny__io0 at hF
  try simp [go_sem, g]
  refine pw_wk ?_
  try simp [go_sem, g]
  refine pC hF [.io, .mv] c_spec_l1Cur_among__io0_mv1 (fun z1 hF => ?_)
  try simp [go_sem, g]
  refine pC hF [.sh] c_spec_MakeGroup (fun z2 hF => ?_)
  try simp [go_sem, g]
  refine pw_wkK [0, 2, 3] (by simp [go_sem, g]; rfl) ?_
  cases hΦ _ (Rn_some hF)
  try simp [go_sem, g]
  refine pw_wk ?_
  try simp [go_sem, g]
noncomputable def F_spec_nMod (a0 : Int) (a1 : Int) : Option (Int) :=
  gd (a1 ≠ 0) <|
  gd (a1 ≠ 0) <|
  some ((i64.wrap ((a0.tmod a1) + a1)).tmod a1)
theorem c_spec_nMod : ∀ {a0} {a1} {r}, F_spec_nMod a0 a1 = some r → PCalls Try.prog 153 [(.sh, .int .i64 a0), (.sh, .int .i64 a1)] (Eo (.int .i64 r) [.junk, .junk]) := by
  intro a0 a1 r hr
  apply pF 12 [] [] [] [.tmp 4] hr cl153 Try.func153
  intro Φ hΦ hF g
  unfold F_spec_nMod at hF
  obtain ⟨g, hF⟩ := Rz g hF
  obtain ⟨g, hF⟩ := Rz g hF
  cases hΦ _ (Rn_some hF)
  iterate 2 (try simp [go_sem, g]; refine pw_wk ?_)
  try simp [go_sem, g]
def D122_1 : List DE := [⟨0, [1], [], none, false, false, false⟩, ⟨1, [2], [], none, false, false, false⟩, ⟨2, [3], [3], none, false, false, false⟩, ⟨3, [9], [3], some 9, false, false, false⟩, ⟨5, [3], [3], none, false, false, false⟩, ⟨6, [12], [3], some 12, false, false, false⟩, ⟨4, [8, 10], [], none, false, true, true⟩, ⟨7, [7, 11, 13], [], none, false, true, true⟩, ⟨8, [14], [], none, false, false, false⟩]
noncomputable def F_spec_gExp (a0 : Group) (a1 : Int) (a2 : Int) : Option (Int) :=
  (F_spec_nMod a2 a0.Q).bind fun z1 =>
  (F_spec_nPower a1 z1 a0.P).bind fun z2 =>
  some z2
theorem c_spec_gExp : ∀ {a0} {a1} {a2} {r}, F_spec_gExp a0 a1 a2 = some r → PCalls Try.prog 122 [(.sh, .agg [.int .i64 a0.P, .int .i64 a0.Q, .int .i64 a0.G]), (.sh, .int .i64 a1), (.sh, .int .i64 a2)] (Eo (.int .i64 r) [.junk, .junk, .junk]) := by
  intro a0 a1 a2 r hr
  apply pF 15 [] [] [] [.tmp 6] hr cl122 Try.func122
  intro Φ hΦ hF g
  unfold F_spec_gExp at hF
  try simp [go_sem, g]
  refine pw_wk ?_
  repeat rw [sq]
  refine pw_draw D122_1 follows (by kernel_rfl) rfl ?_
  try simp only [go_sem, D122_1]
  try simp [go_sem, g]
  refine pC hF [.sh, .sh] c_spec_nMod (fun z1 hF => ?_)
  try simp [go_sem, g]
  refine pC hF [.sh, .sh, .sh] c_spec_nPower (fun z2 hF => ?_)
  try simp [go_sem, g]
  refine pw_wkK [6] (by simp [go_sem, g]; rfl) ?_
  cases hΦ _ (Rn_some hF)
  try simp [go_sem, g]
def D151_8 : List DE := [⟨0, [5], [5], some 5, false, false, false⟩, ⟨1, [5], [5], none, false, false, false⟩, ⟨2, [24], [5], some 24, false, false, false⟩, ⟨3, [0], [], none, false, false, false⟩, ⟨4, [5], [5], none, false, false, false⟩, ⟨5, [27], [5], some 27, false, false, false⟩, ⟨6, [28], [], none, false, false, false⟩, ⟨7, [26, 29], [], none, false, true, true⟩, ⟨8, [30], [], none, false, false, false⟩, ⟨9, [23, 25, 31], [], none, false, true, true⟩, ⟨10, [5], [5], none, false, false, false⟩, ⟨11, [33, 32], [5], some 33, false, false, false⟩]
noncomputable def F_spec_l1Cur_group__io0 (a0c0 : (List Int)) (a0c1 : Int) (a0c2 : Int) : Option (Group × ((List Int) × Int × Int)) :=
  (F_spec_l1Cur_pick__io0 a0c0 a0c1 a0c2 6).bind fun z1 =>
  if (z1.1 == 0) = true then (
  some ((Group.mk 1000000007 500000003 4), (z1.2.1, z1.2.2.1, z1.2.2.2))) else (
  if (z1.1 == 1) = true then (
  (F_spec_l1Cur_among__io0_mv1 z1.2.1 z1.2.2.1 z1.2.2.2 [101, 1009, 1019, 65537, 999983]).bind fun z4 =>
  (F_spec_MakeGroup z4.1).bind fun z5 =>
  some (z5.1, (z4.2.1, z4.2.2.1, z4.2.2.2))) else (
  (F_spec_l1Cur_tiny__io0 z1.2.1 z1.2.2.1 z1.2.2.2).bind fun z6 =>
  (F_spec_l1Cur_pick__io0 z6.2.1 z6.2.2.1 z6.2.2.2 (i64.wrap (z6.1.Q - 1))).bind fun z7 =>
  (F_spec_gExp z6.1 z6.1.G (i64.wrap (1 + z7.1))).bind fun z8 =>
  some ((Group.mk z6.1.P z6.1.Q z8), (z7.2.1, z7.2.2.1, z7.2.2.2))))
theorem c_spec_l1Cur_group__io0 : ∀ {a0c0} {a0c1} {a0c2} {r}, F_spec_l1Cur_group__io0 a0c0 a0c1 a0c2 = some r → PCalls Try.prog 151 [(.io, .bx [.sl false 1 (a0c0.map row_u8), .int .i64 a0c1, .int .u64 a0c2])] (Eo (.agg [.int .i64 r.1.P, .int .i64 r.1.Q, .int .i64 r.1.G]) [.bx [.sl false 1 (r.2.1.map row_u8), .int .i64 r.2.2.1, .int .u64 r.2.2.2]]) := by
  intro a0c0 a0c1 a0c2 r hr
  apply pF 35 [0] [] [] [.cell 2 39] hr cl151 Try.func151
  intro Φ hΦ hF g
  unfold F_spec_l1Cur_group__io0 at hF
  try simp [go_sem, g]
  refine pw_wk ?_
  try simp [go_sem, g]
  refine pC hF [.io, .sh] c_spec_l1Cur_pick__io0 (fun z1 hF => ?_)
  try simp [go_sem, g]
  refine pw_wk ?_
  repeat rw [sq]
  rw [pw_block]
  try simp [go_sem, g]
  refine pw_wk ?_
  repeat rw [sq]
  refine pI hF (fun h2 hF => ?_) (fun h2 hF => ?_)
  ·cases hΦ _ (Rn_some hF)
   try simp [go_sem, g]
   refine pw_wk ?_
   try simp [go_sem, g]
  ·try simp [go_sem, g]
   refine pw_wk ?_
   repeat rw [sq]
   refine pI hF (fun h3 hF => ?_) (fun h3 hF => ?_)
   ·try simp [go_sem, g]
    refine pC hF [.io, .mv] c_spec_l1Cur_among__io0_mv1 (fun z4 hF => ?_)
    try simp [go_sem, g]
    refine pC hF [.sh] c_spec_MakeGroup (fun z5 hF => ?_)
    try simp [go_sem, g]
    refine pw_wkK [0, 2, 3] (by simp [go_sem, g]; rfl) ?_
    cases hΦ _ (Rn_some hF)
    try simp [go_sem, g]
    refine pw_wk ?_
    try simp [go_sem, g]
   ·try simp [go_sem, g]
    refine pw_wk ?_
    try simp [go_sem, g]
    refine pC hF [.io] c_spec_l1Cur_tiny__io0 (fun z6 hF => ?_)
    try simp [go_sem, g]
    refine pw_wkK [0, 2, 5] (by simp [go_sem, g]; rfl) ?_
    repeat rw [sq]
    refine pw_draw D151_8 follows (by kernel_rfl) rfl ?_
    try simp only [go_sem, D151_8]
    try simp [go_sem, g]
    refine pC hF [.io, .sh] c_spec_l1Cur_pick__io0 (fun z7 hF => ?_)
    try simp [go_sem, g]
    refine pC hF [.sh, .sh, .sh] c_spec_gExp (fun z8 hF => ?_)
    try simp [go_sem, g]
    refine pw_wkK [0, 2, 5] (by simp [go_sem, g]; rfl) ?_
    cases hΦ _ (Rn_some hF)
    try simp [go_sem, g]
    refine pw_wk ?_
    try simp [go_sem, g]
noncomputable def F_spec_l1Cur_one__io0 (a0c0 : (List Int)) (a0c1 : Int) (a0c2 : Int) (a1 : Int) : Option (Bool × ((List Int) × Int × Int)) :=
  (F_spec_l1Cur_pick__io0 a0c0 a0c1 a0c2 a1).bind fun z1 =>
  some ((z1.1 == 0), (z1.2.1, z1.2.2.1, z1.2.2.2))
theorem c_spec_l1Cur_one__io0 : ∀ {a0c0} {a0c1} {a0c2} {a1} {r}, F_spec_l1Cur_one__io0 a0c0 a0c1 a0c2 a1 = some r → PCalls Try.prog 44 [(.io, .bx [.sl false 1 (a0c0.map row_u8), .int .i64 a0c1, .int .u64 a0c2]), (.sh, .int .i64 a1)] (Eo (.bool r.1) [.bx [.sl false 1 (r.2.1.map row_u8), .int .i64 r.2.2.1, .int .u64 r.2.2.2], .junk]) := by
  intro a0c0 a0c1 a0c2 a1 r hr
  apply pF 9 [0] [] [] [.tmp 4] hr cl44 Try.func44
  intro Φ hΦ hF g
  unfold F_spec_l1Cur_one__io0 at hF
  try simp [go_sem, g]
  refine pw_wk ?_
  try simp [go_sem, g]
  refine pC hF [.io, .sh] c_spec_l1Cur_pick__io0 (fun z1 hF => ?_)
  cases hΦ _ (Rn_some hF)
  try simp [go_sem, g]
  refine pw_wk ?_
  try simp [go_sem, g]
noncomputable def F_spec_l1Cur_anyGroup__io0 (a0c0 : (List Int)) (a0c1 : Int) (a0c2 : Int) : Option (Group × ((List Int) × Int × Int)) :=
  (F_spec_l1Cur_group__io0 a0c0 a0c1 a0c2).bind fun z1 =>
  (F_spec_l1Cur_pick__io0 z1.2.1 z1.2.2.1 z1.2.2.2 24).bind fun z2 =>
  ((if (z2.1 == 0) = true then (
  (F_spec_l1Cur_among__io0_mv1 z2.2.1 z2.2.2.1 z2.2.2.2 [0, i64.wrap (z1.1.P + 2), 4, (-7)]).bind fun z7 =>
  some ((z7.2.1, z7.2.2.1, z7.2.2.2), z7.1, z1.1.Q, z1.1.G)) else (
  if (z2.1 == 1) = true then (
  (F_spec_l1Cur_among__io0_mv1 z2.2.1 z2.2.2.1 z2.2.2.2 [0, 1, i64.wrap (z1.1.Q + 1), i64.wrap (z1.1.P - 1)]).bind fun z9 =>
  some ((z9.2.1, z9.2.2.1, z9.2.2.2), z1.1.P, z9.1, z1.1.G)) else (
  if (z2.1 == 2) = true then (
  (F_spec_l1Cur_among__io0_mv1 z2.2.1 z2.2.2.1 z2.2.2.2 [0, 1, i64.wrap (z1.1.P - 1), z1.1.P, i64.wrap (z1.1.G + 1)]).bind fun z11 =>
  some ((z11.2.1, z11.2.2.1, z11.2.2.2), z1.1.P, z1.1.Q, z11.1)) else (
  some ((z2.2.1, z2.2.2.1, z2.2.2.2), z1.1.P, z1.1.Q, z1.1.G)))) : Option ((((List Int) × Int × Int) × Int × Int × Int))).bind fun x5 =>
  some ((Group.mk x5.2.1 x5.2.2.1 x5.2.2.2), (x5.1.1, x5.1.2.1, x5.1.2.2)))
theorem c_spec_l1Cur_anyGroup__io0 : ∀ {a0c0} {a0c1} {a0c2} {r}, F_spec_l1Cur_anyGroup__io0 a0c0 a0c1 a0c2 = some r → PCalls Try.prog 113 [(.io, .bx [.sl false 1 (a0c0.map row_u8), .int .i64 a0c1, .int .u64 a0c2])] (Eo (.agg [.int .i64 r.1.P, .int .i64 r.1.Q, .int .i64 r.1.G]) [.bx [.sl false 1 (r.2.1.map row_u8), .int .i64 r.2.2.1, .int .u64 r.2.2.2]]) := by
  intro a0c0 a0c1 a0c2 r hr
  apply pF 44 [0] [] [] [.cell 2 39] hr cl113 Try.func113
  intro Φ hΦ hF g
  unfold F_spec_l1Cur_anyGroup__io0 at hF
  try simp [go_sem, g]
  refine pw_wk ?_
  try simp [go_sem, g]
  refine pC hF [.io] c_spec_l1Cur_group__io0 (fun z1 hF => ?_)
  try simp [go_sem, g]
  refine pw_wk ?_
  try simp [go_sem, g]
  refine pC hF [.io, .sh] c_spec_l1Cur_pick__io0 (fun z2 hF => ?_)
  try simp [go_sem, g]
  refine pw_wk ?_
  repeat rw [sq]
  refine pJ hF (fun x5 => [(0, .v (.bx [.sl false 1 (x5.1.1.map row_u8), .int .i64 x5.1.2.1, .int .u64 x5.1.2.2])), (2, .bl [.int .i64 0, .int .i64 0, .int .i64 0]), (3, .bl [.int .i64 x5.2.1, .int .i64 x5.2.2.1, .int .i64 x5.2.2.2])]) (fun x5 hF => ?_) fun _ hj3 hF => ?_
  ·cases hΦ _ (Rn_some hF)
   try simp [go_sem, g]
   refine pw_wk ?_
   try simp [go_sem, g]
  ·repeat rw [sq]
   rw [pw_block]
   try simp [go_sem, g]
   refine pw_wk ?_
   repeat rw [sq]
   refine pI hF (fun h6 hF => ?_) (fun h6 hF => ?_)
   ·try simp [go_sem, g]
    refine pC hF [.io, .mv] c_spec_l1Cur_among__io0_mv1 (fun z7 hF => ?_)
    try simp [go_sem, g]
    exact pT (hj3 ((z7.2.1, z7.2.2.1, z7.2.2.2), z7.1, z1.1.Q, z1.1.G)) (Rn_some hF)
   ·try simp [go_sem, g]
    refine pw_wkK [0, 2, 3, 7, 17] (by simp [go_sem, g]; rfl) ?_
    repeat rw [sq]
    refine pI hF (fun h8 hF => ?_) (fun h8 hF => ?_)
    ·try simp [go_sem, g]
     refine pC hF [.io, .mv] c_spec_l1Cur_among__io0_mv1 (fun z9 hF => ?_)
     try simp [go_sem, g]
     exact pT (hj3 ((z9.2.1, z9.2.2.1, z9.2.2.2), z1.1.P, z9.1, z1.1.G)) (Rn_some hF)
    ·try simp [go_sem, g]
     refine pw_wk ?_
     repeat rw [sq]
     refine pI hF (fun h10 hF => ?_) (fun h10 hF => ?_)
     ·try simp [go_sem, g]
      refine pC hF [.io, .mv] c_spec_l1Cur_among__io0_mv1 (fun z11 hF => ?_)
      try simp [go_sem, g]
      exact pT (hj3 ((z11.2.1, z11.2.2.1, z11.2.2.2), z1.1.P, z1.1.Q, z11.1)) (Rn_some hF)
     ·try simp [go_sem, g]
      exact pT (hj3 ((z2.2.1, z2.2.2.1, z2.2.2.2), z1.1.P, z1.1.Q, z1.1.G)) (Rn_some hF)
def D116_3 : List DE := [⟨0, [0], [], none, false, false, false⟩, ⟨3, [0], [], none, false, false, false⟩, ⟨6, [3], [3], none, false, false, false⟩, ⟨7, [14], [3], some 14, false, false, false⟩, ⟨1, [8], [], none, false, true, true⟩, ⟨2, [9], [], none, false, false, false⟩, ⟨4, [11], [], none, false, true, true⟩, ⟨5, [10, 12], [], none, false, false, false⟩, ⟨8, [13, 15], [], none, false, false, false⟩, ⟨9, [16], [], none, false, false, false⟩]
noncomputable def F_spec_l1Cur_expo__io0 (a0c0 : (List Int)) (a0c1 : Int) (a0c2 : Int) (a1 : Group) : Option (Int × ((List Int) × Int × Int)) :=
  if decide (a1.Q < 2) = true then (
  some (0, (a0c0, a0c1, a0c2))) else (
  (F_spec_l1Cur_pick__io0 a0c0 a0c1 a0c2 60000).bind fun z2 =>
  (F_spec_l1Cur_pick__io0 z2.2.1 z2.2.2.1 z2.2.2.2 60000).bind fun z3 =>
  gd (a1.Q ≠ 0) <|
  some ((i64.wrap ((i64.wrap (z2.1 * 60000)) + z3.1)).tmod a1.Q, (z3.2.1, z3.2.2.1, z3.2.2.2)))
theorem c_spec_l1Cur_expo__io0 : ∀ {a0c0} {a0c1} {a0c2} {a1} {r}, F_spec_l1Cur_expo__io0 a0c0 a0c1 a0c2 a1 = some r → PCalls Try.prog 116 [(.io, .bx [.sl false 1 (a0c0.map row_u8), .int .i64 a0c1, .int .u64 a0c2]), (.sh, .agg [.int .i64 a1.P, .int .i64 a1.Q, .int .i64 a1.G])] (Eo (.int .i64 r.1) [.bx [.sl false 1 (r.2.1.map row_u8), .int .i64 r.2.2.1, .int .u64 r.2.2.2], .junk]) := by
  intro a0c0 a0c1 a0c2 a1 r hr
  apply pF 17 [0] [] [] [.tmp 4] hr cl116 Try.func116
  intro Φ hΦ hF g
  unfold F_spec_l1Cur_expo__io0 at hF
  iterate 2 (try simp [go_sem, g]; refine pw_wk ?_)
  repeat rw [sq]
  refine pI hF (fun h1 hF => ?_) (fun h1 hF => ?_)
  ·cases hΦ _ (Rn_some hF)
   try simp [go_sem, g]
   refine pw_wk ?_
   try simp [go_sem, g]
  ·try simp [go_sem, g]
   refine pw_wk ?_
   repeat rw [sq]
   refine pw_draw D116_3 follows (by kernel_rfl) rfl ?_
   try simp only [go_sem, D116_3]
   try simp [go_sem, g]
   refine pC hF [.io, .sh] c_spec_l1Cur_pick__io0 (fun z2 hF => ?_)
   try simp [go_sem, g]
   refine pC hF [.io, .sh] c_spec_l1Cur_pick__io0 (fun z3 hF => ?_)
   obtain ⟨g, hF⟩ := Rz g hF
   try simp [go_sem, g]
   refine pw_wkK [0, 4] (by simp [go_sem, g]; rfl) ?_
   cases hΦ _ (Rn_some hF)
   try simp [go_sem, g]
def D115_3 : List DE := [⟨0, [3], [3], some 3, false, false, false⟩, ⟨1, [3], [3], none, false, false, false⟩, ⟨2, [14], [3], some 14, false, false, false⟩, ⟨3, [3], [3], none, false, false, false⟩, ⟨4, [16], [3], some 16, false, false, false⟩, ⟨6, [0], [], none, false, false, false⟩, ⟨7, [3], [3], some 3, false, false, false⟩, ⟨5, [15, 17], [], none, false, true, true⟩, ⟨8, [19, 20], [], none, false, true, true⟩, ⟨9, [13, 18, 21], [], none, false, true, true⟩, ⟨10, [22], [], none, false, false, false⟩]
noncomputable def F_spec_l1Cur_element__io0 (a0c0 : (List Int)) (a0c1 : Int) (a0c2 : Int) (a1 : Group) : Option (Int × ((List Int) × Int × Int)) :=
  ((if decide (a1.P < 3) = true then (
  some true) else (
  some (decide (a1.Q < 1))) : Option (Bool)).bind fun x3 =>
  if x3 = true then (
  some (1, (a0c0, a0c1, a0c2))) else (
  (F_spec_nMod a1.G a1.P).bind fun z6 =>
  (F_spec_l1Cur_expo__io0 a0c0 a0c1 a0c2 a1).bind fun z7 =>
  (F_spec_gExp a1 z6 z7.1).bind fun z8 =>
  some (z8, (z7.2.1, z7.2.2.1, z7.2.2.2))))
theorem c_spec_l1Cur_element__io0 : ∀ {a0c0} {a0c1} {a0c2} {a1} {r}, F_spec_l1Cur_element__io0 a0c0 a0c1 a0c2 a1 = some r → PCalls Try.prog 115 [(.io, .bx [.sl false 1 (a0c0.map row_u8), .int .i64 a0c1, .int .u64 a0c2]), (.sh, .agg [.int .i64 a1.P, .int .i64 a1.Q, .int .i64 a1.G])] (Eo (.int .i64 r.1) [.bx [.sl false 1 (r.2.1.map row_u8), .int .i64 r.2.2.1, .int .u64 r.2.2.2], .junk]) := by
  intro a0c0 a0c1 a0c2 a1 r hr
  apply pF 23 [0] [] [] [.tmp 4] hr cl115 Try.func115
  intro Φ hΦ hF g
  unfold F_spec_l1Cur_element__io0 at hF
  try simp [go_sem, g]
  refine pw_wk ?_
  repeat rw [sq]
  refine pJ hF (fun x3 => [(0, .v (.bx [.sl false 1 (a0c0.map row_u8), .int .i64 a0c1, .int .u64 a0c2])), (3, .bl [.int .i64 a1.P, .int .i64 a1.Q, .int .i64 a1.G]), (12, .v (.bool x3))]) (fun x3 hF => ?_) fun _ hj1 hF => ?_
  ·repeat rw [sq]
   refine pI hF (fun h5 hF => ?_) (fun h5 hF => ?_)
   ·cases hΦ _ (Rn_some hF)
    try simp [go_sem, g]
    refine pw_wk ?_
    try simp [go_sem, g]
   ·try simp [go_sem, g]
    refine pw_wk ?_
    repeat rw [sq]
    refine pw_draw D115_3 follows (by kernel_rfl) rfl ?_
    try simp only [go_sem, D115_3]
    try simp [go_sem, g]
    refine pC hF [.sh, .sh] c_spec_nMod (fun z6 hF => ?_)
    try simp [go_sem, g]
    refine pC hF [.io, .sh] c_spec_l1Cur_expo__io0 (fun z7 hF => ?_)
    try simp [go_sem, g]
    refine pC hF [.sh, .sh, .sh] c_spec_gExp (fun z8 hF => ?_)
    try simp [go_sem, g]
    refine pw_wkK [0, 4] (by simp [go_sem, g]; rfl) ?_
    cases hΦ _ (Rn_some hF)
    try simp [go_sem, g]
  ·try simp [go_sem, g]
   refine pwg_F hF (fun h4 hF => ?_) fun h4 hF => ?_
   ·try simp [go_sem, g, h4]
    exact pT (hj1 true) (Rn_some hF)
   ·try simp [go_sem, g, h4]
    exact pT (hj1 (decide (a1.Q < 1))) (Rn_some hF)
def D154_1 : List DE := [⟨0, [0], [], none, false, false, false⟩, ⟨1, [3], [3], some 3, false, false, false⟩, ⟨3, [0], [], none, false, false, false⟩, ⟨4, [3], [3], some 3, false, false, false⟩, ⟨2, [5, 6], [], none, false, true, true⟩, ⟨5, [8, 9], [], none, false, true, true⟩, ⟨6, [7, 10], [], none, false, false, false⟩, ⟨7, [4, 11], [4], some 4, false, false, false⟩]
noncomputable def F_spec_l1Cur_cipher__io0 (a0c0 : (List Int)) (a0c1 : Int) (a0c2 : Int) (a1 : Group) : Option (Cipher × ((List Int) × Int × Int)) :=
  (F_spec_l1Cur_element__io0 a0c0 a0c1 a0c2 a1).bind fun z1 =>
  (F_spec_l1Cur_element__io0 z1.2.1 z1.2.2.1 z1.2.2.2 a1).bind fun z2 =>
  some ((Cipher.mk z1.1 z2.1), (z2.2.1, z2.2.2.1, z2.2.2.2))
theorem c_spec_l1Cur_cipher__io0 : ∀ {a0c0} {a0c1} {a0c2} {a1} {r}, F_spec_l1Cur_cipher__io0 a0c0 a0c1 a0c2 a1 = some r → PCalls Try.prog 154 [(.io, .bx [.sl false 1 (a0c0.map row_u8), .int .i64 a0c1, .int .u64 a0c2]), (.sh, .agg [.int .i64 a1.P, .int .i64 a1.Q, .int .i64 a1.G])] (Eo (.agg [.int .i64 r.1.A, .int .i64 r.1.B]) [.bx [.sl false 1 (r.2.1.map row_u8), .int .i64 r.2.2.1, .int .u64 r.2.2.2], .junk]) := by
  intro a0c0 a0c1 a0c2 a1 r hr
  apply pF 12 [0] [] [] [.cell 4 57] hr cl154 Try.func154
  intro Φ hΦ hF g
  unfold F_spec_l1Cur_cipher__io0 at hF
  try simp [go_sem, g]
  refine pw_wk ?_
  repeat rw [sq]
  refine pw_draw D154_1 follows (by kernel_rfl) rfl ?_
  try simp only [go_sem, D154_1]
  try simp [go_sem, g]
  refine pC hF [.io, .sh] c_spec_l1Cur_element__io0 (fun z1 hF => ?_)
  try simp [go_sem, g]
  refine pC hF [.io, .sh] c_spec_l1Cur_element__io0 (fun z2 hF => ?_)
  try simp [go_sem, g]
  refine pw_wkK [0, 4] (by simp [go_sem, g]; rfl) ?_
  cases hΦ _ (Rn_some hF)
  try simp [go_sem, g]
noncomputable def F_spec_l1Cur_perm__io0 (a0c0 : (List Int)) (a0c1 : Int) (a0c2 : Int) (a1 : Int) : Option ((List Int) × ((List Int) × Int × Int)) :=
  ((wloop (σ := (List Int) × Int) (fun s4 =>
  if decide (s4.2 < a1) = true then (
  gd ((s4.1.length + 1) * 8 ≤ 140737488355328 ∧ s4.1.length + 1 ≤ 4611686018427387904) <|
  some (.go (s4.1 ++ [s4.2], i64.wrap (s4.2 + 1)))) else (
  some (.out s4.1))) ([], 0) : Option ((List Int))).bind fun x3 =>
  ((wloop (σ := ((List Int) × Int × Int) × (List Int) × Int) (fun s25 =>
  if decide (0 < s25.2.2) = true then (
  (F_spec_l1Cur_pick__io0 s25.1.1 s25.1.2.1 s25.1.2.2 (i64.wrap (s25.2.2 + 1))).bind fun z31 =>
  (ix s25.2.1 s25.2.2).bind fun x32 =>
  (ix s25.2.1 z31.1).bind fun x33 =>
  (ix (s25.2.1.set s25.2.2.toNat x33) z31.1).bind fun x34 =>
  some (.go ((z31.2.1, z31.2.2.1, z31.2.2.2), (s25.2.1.set s25.2.2.toNat x33).set z31.1.toNat x32, i64.wrap (s25.2.2 - 1)))) else (
  some (.out ((s25.1.1, s25.1.2.1, s25.1.2.2), s25.2.1)))) ((a0c0, a0c1, a0c2), x3, i64.wrap (a1 - 1)) : Option ((((List Int) × Int × Int) × (List Int)))).bind fun x14 =>
  some (x14.2, (x14.1.1, x14.1.2.1, x14.1.2.2))))
theorem c_spec_l1Cur_perm__io0 : ∀ {a0c0} {a0c1} {a0c2} {a1} {r}, F_spec_l1Cur_perm__io0 a0c0 a0c1 a0c2 a1 = some r → PCalls Try.prog 155 [(.io, .bx [.sl false 1 (a0c0.map row_u8), .int .i64 a0c1, .int .u64 a0c2]), (.sh, .int .i64 a1)] (Eo (.sl true 1 (r.1.map row_i64)) [.bx [.sl false 1 (r.2.1.map row_u8), .int .i64 r.2.2.1, .int .u64 r.2.2.2], .junk]) := by
  intro a0c0 a0c1 a0c2 a1 r hr
  apply pF 45 [0] [] [] [.tmp 4] hr cl155 Try.func155
  intro Φ hΦ hF g
  unfold F_spec_l1Cur_perm__io0 at hF
  iterate 3 (try simp [go_sem, g]; refine pw_wk ?_)
  repeat rw [sq]
  refine pJ hF (fun x3 => [(0, .v (.bx [.sl false 1 (a0c0.map row_u8), .int .i64 a0c1, .int .u64 a0c2])), (1, .v (.int .i64 a1)), (5, .v (.sl true 1 (x3.map row_i64)))]) (fun x3 hF => ?_) fun _ hj1 hF => ?_
  ·try simp [go_sem, g]
   refine pw_wk ?_
   repeat rw [sq]
   refine pJ hF (fun x14 => [(0, .v (.bx [.sl false 1 (x14.1.1.map row_u8), .int .i64 x14.1.2.1, .int .u64 x14.1.2.2])), (5, .v (.sl true 1 (x14.2.map row_i64)))]) (fun x14 hF => ?_) fun _ hj12 hF => ?_
   ·cases hΦ _ (Rn_some hF)
    try simp [go_sem, g]
    refine pw_wk ?_
    try simp [go_sem, g]
   ·repeat rw [sq]
    rw [pw_block]
    obtain ⟨b35, hb36, hψ29⟩ := hF
    refine pL hb36 (fun s25 => [(0, .v (.bx [.sl false 1 (s25.1.1.map row_u8), .int .i64 s25.1.2.1, .int .u64 s25.1.2.2])), (5, .v (.sl true 1 (s25.2.1.map row_i64))), (7, .v (.int .i64 s25.2.2))]) (fun s25 _ _ ho27 hg28 hF => ?_)
    try simp [go_sem, g]
    refine pw_wk ?_
    repeat rw [sq]
    refine pI hF (fun h30 hF => ?_) (fun h30 hF => ?_)
    ·try simp [go_sem, g]
     refine pw_wk ?_
     repeat rw [sq]
     rw [pw_block]
     try simp [go_sem, g]
     refine pC hF [.io, .sh] c_spec_l1Cur_pick__io0 (fun z31 hF => ?_)
     try simp [go_sem, g]
     refine pw_wkK [0, 5, 7, 8] (by simp [go_sem, g]; rfl) ?_
     obtain ⟨x32, g, hF⟩ := Rx g hF
     obtain ⟨x33, g, hF⟩ := Rx g hF
     try simp [go_sem, g]
     refine pw_wk ?_
     try simp [go_sem, g]
     refine pw_wkK [0, 5, 7, 8, 9] (by simp [go_sem, g]; rfl) ?_
     obtain ⟨x34, g, hF⟩ := Rx g hF
     try simp [go_sem, g]
     refine pw_wk ?_
     try simp [go_sem, g]
     exact pT (hg28 ((z31.2.1, z31.2.2.1, z31.2.2.2), (s25.2.1.set s25.2.2.toNat x33).set z31.1.toNat x32, i64.wrap (s25.2.2 - 1))) (Rn_some hF)
    ·try simp [go_sem, g]
     cases ho27 _ (Rn_some hF)
     exact pT (hj12 ((s25.1.1, s25.1.2.1, s25.1.2.2), s25.2.1)) hψ29
  ·repeat rw [sq]
   rw [pw_block]
   obtain ⟨b10, hb11, hψ8⟩ := hF
   refine pL hb11 (fun s4 => [(0, .v (.bx [.sl false 1 (a0c0.map row_u8), .int .i64 a0c1, .int .u64 a0c2])), (1, .v (.int .i64 a1)), (5, .v (.sl true 1 (s4.1.map row_i64))), (6, .v (.int .i64 s4.2))]) (fun s4 _ _ ho6 hg7 hF => ?_)
   try simp [go_sem, g]
   refine pw_wk ?_
   repeat rw [sq]
   refine pI hF (fun h9 hF => ?_) (fun h9 hF => ?_)
   ·try simp [go_sem, g]
    refine pw_wk ?_
    repeat rw [sq]
    rw [pw_block]
    obtain ⟨g, hF⟩ := Rg g hF
    try simp [go_sem, g]
    refine pw_wkK [0, 1, 5, 6] (by simp [go_sem, g]; rfl) ?_
    try simp [go_sem, g]
    exact pT (hg7 (s4.1 ++ [s4.2], i64.wrap (s4.2 + 1))) (Rn_some hF)
   ·try simp [go_sem, g]
    cases ho6 _ (Rn_some hF)
    exact pT (hj1 s4.1) hψ8
noncomputable def F_spec_l1Cur_coins__io0 (a0c0 : (List Int)) (a0c1 : Int) (a0c2 : Int) (a1 : Group) (a2 : Int) : Option ((List Int) × ((List Int) × Int × Int)) :=
  ((wloop (σ := ((List Int) × Int × Int) × Int × (List Int)) (fun s11 =>
  if decide (0 < s11.2.1) = true then (
  (F_spec_l1Cur_expo__io0 s11.1.1 s11.1.2.1 s11.1.2.2 a1).bind fun z17 =>
  gd ((s11.2.2.length + 1) * 8 ≤ 140737488355328 ∧ s11.2.2.length + 1 ≤ 4611686018427387904) <|
  some (.go ((z17.2.1, z17.2.2.1, z17.2.2.2), i64.wrap (s11.2.1 - 1), s11.2.2 ++ [z17.1]))) else (
  some (.out ((s11.1.1, s11.1.2.1, s11.1.2.2), s11.2.2)))) ((a0c0, a0c1, a0c2), a2, []) : Option ((((List Int) × Int × Int) × (List Int)))).bind fun x3 =>
  some (x3.2, (x3.1.1, x3.1.2.1, x3.1.2.2)))
theorem c_spec_l1Cur_coins__io0 : ∀ {a0c0} {a0c1} {a0c2} {a1} {a2} {r}, F_spec_l1Cur_coins__io0 a0c0 a0c1 a0c2 a1 a2 = some r → PCalls Try.prog 183 [(.io, .bx [.sl false 1 (a0c0.map row_u8), .int .i64 a0c1, .int .u64 a0c2]), (.sh, .agg [.int .i64 a1.P, .int .i64 a1.Q, .int .i64 a1.G]), (.sh, .int .i64 a2)] (Eo (.sl true 1 (r.1.map row_i64)) [.bx [.sl false 1 (r.2.1.map row_u8), .int .i64 r.2.2.1, .int .u64 r.2.2.2], .junk, .junk]) := by
  intro a0c0 a0c1 a0c2 a1 a2 r hr
  apply pF 19 [0] [] [] [.tmp 6] hr cl183 Try.func183
  intro Φ hΦ hF g
  unfold F_spec_l1Cur_coins__io0 at hF
  iterate 2 (try simp [go_sem, g]; refine pw_wk ?_)
  repeat rw [sq]
  refine pJ hF (fun x3 => [(0, .v (.bx [.sl false 1 (x3.1.1.map row_u8), .int .i64 x3.1.2.1, .int .u64 x3.1.2.2])), (7, .v (.sl true 1 (x3.2.map row_i64)))]) (fun x3 hF => ?_) fun _ hj1 hF => ?_
  ·cases hΦ _ (Rn_some hF)
   try simp [go_sem, g]
   refine pw_wk ?_
   try simp [go_sem, g]
  ·repeat rw [sq]
   rw [pw_block]
   obtain ⟨b18, hb19, hψ15⟩ := hF
   refine pL hb19 (fun s11 => [(0, .v (.bx [.sl false 1 (s11.1.1.map row_u8), .int .i64 s11.1.2.1, .int .u64 s11.1.2.2])), (2, .v (.int .i64 s11.2.1)), (4, .bl [.int .i64 a1.P, .int .i64 a1.Q, .int .i64 a1.G]), (7, .v (.sl true 1 (s11.2.2.map row_i64)))]) (fun s11 _ _ ho13 hg14 hF => ?_)
   try simp [go_sem, g]
   refine pw_wk ?_
   repeat rw [sq]
   refine pI hF (fun h16 hF => ?_) (fun h16 hF => ?_)
   ·try simp [go_sem, g]
    refine pw_wk ?_
    repeat rw [sq]
    rw [pw_block]
    try simp [go_sem, g]
    refine pC hF [.io, .sh] c_spec_l1Cur_expo__io0 (fun z17 hF => ?_)
    obtain ⟨g, hF⟩ := Rg g hF
    try simp [go_sem, g]
    refine pw_wkK [0, 2, 4, 7] (by simp [go_sem, g]; rfl) ?_
    try simp [go_sem, g]
    exact pT (hg14 ((z17.2.1, z17.2.2.1, z17.2.2.2), i64.wrap (s11.2.1 - 1), s11.2.2 ++ [z17.1])) (Rn_some hF)
   ·try simp [go_sem, g]
    cases ho13 _ (Rn_some hF)
    exact pT (hj1 ((s11.1.1, s11.1.2.1, s11.1.2.2), s11.2.2)) hψ15
def D156_10 : List DE := [⟨0, [7], [], none, false, false, false⟩, ⟨1, [0], [], none, false, false, false⟩, ⟨2, [2], [], none, false, false, false⟩, ⟨4, [0], [], none, false, false, false⟩, ⟨5, [4], [4], none, false, false, false⟩, ⟨6, [34], [4], some 34, false, false, false⟩, ⟨7, [35], [], none, false, false, false⟩, ⟨3, [30, 31], [], none, false, true, true⟩, ⟨8, [33, 36], [], none, true, true, true⟩, ⟨9, [29, 32], [], none, false, false, false⟩, ⟨10, [38, 37], [], none, false, false, false⟩]
noncomputable def F_spec_l1Cur_anyCoins__io0 (a0c0 : (List Int)) (a0c1 : Int) (a0c2 : Int) (a1 : Group) (a2 : Int) : Option ((List Int) × ((List Int) × Int × Int)) :=
  (F_spec_l1Cur_coins__io0 a0c0 a0c1 a0c2 a1 a2).bind fun z1 =>
  (F_spec_l1Cur_pick__io0 z1.2.1 z1.2.2.1 z1.2.2.2 30).bind fun z2 =>
  ((if (z2.1 == 0) = true then (
  gd ((z1.1.length + 1) * 8 ≤ 140737488355328 ∧ z1.1.length + 1 ≤ 4611686018427387904) <|
  some (.inr (z1.1 ++ [0], (z2.2.1, z2.2.2.1, z2.2.2.2)))) else (
  if (z2.1 == 1) = true then (
  if decide (0 < a2) = true then (
  gd (1 ≤ z1.1.length ∧ z1.1.length ≤ z1.1.length) <|
  some (.inr ((z1.1.take z1.1.length).drop 1, (z2.2.1, z2.2.2.1, z2.2.2.2)))) else (
  some (.inl ((z2.2.1, z2.2.2.1, z2.2.2.2), z1.1)))) else (
  if (z2.1 == 2) = true then (
  if decide (0 < a2) = true then (
  (F_spec_l1Cur_pick__io0 z2.2.1 z2.2.2.1 z2.2.2.2 a2).bind fun z11 =>
  (F_spec_l1Cur_among__io0_mv1 z11.2.1 z11.2.2.1 z11.2.2.2 [(-1), a1.Q]).bind fun z12 =>
  (ix z1.1 z11.1).bind fun x13 =>
  some (.inl ((z12.2.1, z12.2.2.1, z12.2.2.2), z1.1.set z11.1.toNat z12.1))) else (
  some (.inl ((z2.2.1, z2.2.2.1, z2.2.2.2), z1.1)))) else (
  some (.inl ((z2.2.1, z2.2.2.1, z2.2.2.2), z1.1))))) : Option ((((List Int) × Int × Int) × (List Int)) ⊕ ((List Int) × ((List Int) × Int × Int)))).bind (Sum.elim (fun x5 =>
  some (x5.2, (x5.1.1, x5.1.2.1, x5.1.2.2))) some))
theorem c_spec_l1Cur_anyCoins__io0 : ∀ {a0c0} {a0c1} {a0c2} {a1} {a2} {r}, F_spec_l1Cur_anyCoins__io0 a0c0 a0c1 a0c2 a1 a2 = some r → PCalls Try.prog 156 [(.io, .bx [.sl false 1 (a0c0.map row_u8), .int .i64 a0c1, .int .u64 a0c2]), (.sh, .agg [.int .i64 a1.P, .int .i64 a1.Q, .int .i64 a1.G]), (.sh, .int .i64 a2)] (Eo (.sl false 1 (r.1.map row_i64)) [.bx [.sl false 1 (r.2.1.map row_u8), .int .i64 r.2.2.1, .int .u64 r.2.2.2], .junk, .junk]) := by
  intro a0c0 a0c1 a0c2 a1 a2 r hr
  apply pF 40 [0] [6] [] [.tmp 6] hr cl156 Try.func156
  intro Φ hΦ hF g
  unfold F_spec_l1Cur_anyCoins__io0 at hF
  try simp [go_sem, g]
  refine pw_wk ?_
  try simp [go_sem, g]
  refine pC hF [.io, .sh, .sh] c_spec_l1Cur_coins__io0 (fun z1 hF => ?_)
  try simp [go_sem, g]
  refine pw_wk ?_
  try simp [go_sem, g]
  refine pC hF [.io, .sh] c_spec_l1Cur_pick__io0 (fun z2 hF => ?_)
  try simp [go_sem, g]
  refine pw_wk ?_
  repeat rw [sq]
  refine pJs hF (fun x5 => [(0, .v (.bx [.sl false 1 (x5.1.1.map row_u8), .int .i64 x5.1.2.1, .int .u64 x5.1.2.2])), (7, .v (.sl true 1 (x5.2.map row_i64)))]) (fun x5 hF => ?_) fun _ hj3 hr4 hF => ?_
  ·try simp [go_sem, g]
   refine pw_wkK [0, 6] (by simp [go_sem, g]; rfl) ?_
   cases hΦ _ (Rn_some hF)
   try simp [go_sem, g]
  ·repeat rw [sq]
   rw [pw_block]
   try simp [go_sem, g]
   refine pw_wkK [0, 2, 4, 7, 13, 14] (by simp [go_sem, g]; rfl) ?_
   repeat rw [sq]
   refine pI hF (fun h6 hF => ?_) (fun h6 hF => ?_)
   ·obtain ⟨g, hF⟩ := Rg g hF
    cases hΦ _ (hr4 _ (Rn_some hF))
    try simp [go_sem, g]
    refine pw_wk ?_
    try simp [go_sem, g]
   ·try simp [go_sem, g]
    refine pw_wk ?_
    repeat rw [sq]
    refine pI hF (fun h7 hF => ?_) (fun h7 hF => ?_)
    ·try simp [go_sem, g]
     refine pw_wk ?_
     repeat rw [sq]
     refine pI hF (fun h8 hF => ?_) (fun h8 hF => ?_)
     ·obtain ⟨g, hF⟩ := Rg g hF
      cases hΦ _ (hr4 _ (Rn_some hF))
      try simp [go_sem, g]
      refine pw_wk ?_
      try simp [go_sem, g]
     ·try simp [go_sem, g]
      exact pT (hj3 ((z2.2.1, z2.2.2.1, z2.2.2.2), z1.1)) (Rn_some hF)
    ·try simp [go_sem, g]
     refine pw_wk ?_
     repeat rw [sq]
     refine pI hF (fun h9 hF => ?_) (fun h9 hF => ?_)
     ·try simp [go_sem, g]
      refine pw_wk ?_
      repeat rw [sq]
      refine pI hF (fun h10 hF => ?_) (fun h10 hF => ?_)
      ·repeat rw [sq]
       refine pw_draw D156_10 follows (by kernel_rfl) rfl ?_
       try simp only [go_sem, D156_10]
       try simp [go_sem, g]
       refine pC hF [.io, .sh] c_spec_l1Cur_pick__io0 (fun z11 hF => ?_)
       try simp [go_sem, g]
       refine pC hF [.io, .mv] c_spec_l1Cur_among__io0_mv1 (fun z12 hF => ?_)
       obtain ⟨x13, g, hF⟩ := Rx g hF
       try simp [go_sem, g]
       exact pT (hj3 ((z12.2.1, z12.2.2.1, z12.2.2.2), z1.1.set z11.1.toNat z12.1)) (Rn_some hF)
      ·try simp [go_sem, g]
       exact pT (hj3 ((z2.2.1, z2.2.2.1, z2.2.2.2), z1.1)) (Rn_some hF)
     ·try simp [go_sem, g]
      exact pT (hj3 ((z2.2.1, z2.2.2.1, z2.2.2.2), z1.1)) (Rn_some hF)
noncomputable def F_spec_l1Cur_anyElement__io0 (a0c0 : (List Int)) (a0c1 : Int) (a0c2 : Int) (a1 : Group) : Option (Int × ((List Int) × Int × Int)) :=
  (F_spec_l1Cur_one__io0 a0c0 a0c1 a0c2 20).bind fun z1 =>
  if z1.1 = true then (
  (F_spec_l1Cur_among__io0_mv1 z1.2.1 z1.2.2.1 z1.2.2.2 [0, 1, i64.wrap (a1.P - 1), a1.P, (-1), 5]).bind fun z3 =>
  some (z3.1, (z3.2.1, z3.2.2.1, z3.2.2.2))) else (
  (F_spec_l1Cur_element__io0 z1.2.1 z1.2.2.1 z1.2.2.2 a1).bind fun z4 =>
  some (z4.1, (z4.2.1, z4.2.2.1, z4.2.2.2)))
theorem c_spec_l1Cur_anyElement__io0 : ∀ {a0c0} {a0c1} {a0c2} {a1} {r}, F_spec_l1Cur_anyElement__io0 a0c0 a0c1 a0c2 a1 = some r → PCalls Try.prog 62 [(.io, .bx [.sl false 1 (a0c0.map row_u8), .int .i64 a0c1, .int .u64 a0c2]), (.sh, .agg [.int .i64 a1.P, .int .i64 a1.Q, .int .i64 a1.G])] (Eo (.int .i64 r.1) [.bx [.sl false 1 (r.2.1.map row_u8), .int .i64 r.2.2.1, .int .u64 r.2.2.2], .junk]) := by
  intro a0c0 a0c1 a0c2 a1 r hr
  apply pF 18 [0] [] [] [.tmp 4] hr cl62 Try.func62
  intro Φ hΦ hF g
  unfold F_spec_l1Cur_anyElement__io0 at hF
  try simp [go_sem, g]
  refine pw_wk ?_
  try simp [go_sem, g]
  refine pC hF [.io, .sh] c_spec_l1Cur_one__io0 (fun z1 hF => ?_)
  try simp [go_sem, g]
  refine pw_wk ?_
  repeat rw [sq]
  refine pI hF (fun h2 hF => ?_) (fun h2 hF => ?_)
  ·try simp [go_sem, g]
   refine pC hF [.io, .mv] c_spec_l1Cur_among__io0_mv1 (fun z3 hF => ?_)
   try simp [go_sem, g]
   refine pw_wkK [0, 4] (by simp [go_sem, g]; rfl) ?_
   cases hΦ _ (Rn_some hF)
   try simp [go_sem, g]
  ·try simp [go_sem, g]
   refine pw_wk ?_
   try simp [go_sem, g]
   refine pC hF [.io, .sh] c_spec_l1Cur_element__io0 (fun z4 hF => ?_)
   cases hΦ _ (Rn_some hF)
   try simp [go_sem, g]
   refine pw_wk ?_
   try simp [go_sem, g]
def D125_1 : List DE := [⟨0, [0], [], none, false, false, false⟩, ⟨1, [3], [3], some 3, false, false, false⟩, ⟨3, [0], [], none, false, false, false⟩, ⟨4, [3], [3], some 3, false, false, false⟩, ⟨2, [5, 6], [], none, false, true, true⟩, ⟨5, [8, 9], [], none, false, true, true⟩, ⟨6, [7, 10], [], none, false, false, false⟩, ⟨7, [4, 11], [4], some 4, false, false, false⟩]
noncomputable def F_spec_l1Cur_anyCipher__io0 (a0c0 : (List Int)) (a0c1 : Int) (a0c2 : Int) (a1 : Group) : Option (Cipher × ((List Int) × Int × Int)) :=
  (F_spec_l1Cur_anyElement__io0 a0c0 a0c1 a0c2 a1).bind fun z1 =>
  (F_spec_l1Cur_anyElement__io0 z1.2.1 z1.2.2.1 z1.2.2.2 a1).bind fun z2 =>
  some ((Cipher.mk z1.1 z2.1), (z2.2.1, z2.2.2.1, z2.2.2.2))
theorem c_spec_l1Cur_anyCipher__io0 : ∀ {a0c0} {a0c1} {a0c2} {a1} {r}, F_spec_l1Cur_anyCipher__io0 a0c0 a0c1 a0c2 a1 = some r → PCalls Try.prog 125 [(.io, .bx [.sl false 1 (a0c0.map row_u8), .int .i64 a0c1, .int .u64 a0c2]), (.sh, .agg [.int .i64 a1.P, .int .i64 a1.Q, .int .i64 a1.G])] (Eo (.agg [.int .i64 r.1.A, .int .i64 r.1.B]) [.bx [.sl false 1 (r.2.1.map row_u8), .int .i64 r.2.2.1, .int .u64 r.2.2.2], .junk]) := by
  intro a0c0 a0c1 a0c2 a1 r hr
  apply pF 12 [0] [] [] [.cell 4 57] hr cl125 Try.func125
  intro Φ hΦ hF g
  unfold F_spec_l1Cur_anyCipher__io0 at hF
  try simp [go_sem, g]
  refine pw_wk ?_
  repeat rw [sq]
  refine pw_draw D125_1 follows (by kernel_rfl) rfl ?_
  try simp only [go_sem, D125_1]
  try simp [go_sem, g]
  refine pC hF [.io, .sh] c_spec_l1Cur_anyElement__io0 (fun z1 hF => ?_)
  try simp [go_sem, g]
  refine pC hF [.io, .sh] c_spec_l1Cur_anyElement__io0 (fun z2 hF => ?_)
  try simp [go_sem, g]
  refine pw_wkK [0, 4] (by simp [go_sem, g]; rfl) ?_
  cases hΦ _ (Rn_some hF)
  try simp [go_sem, g]
def D123_21 : List DE := [⟨0, [7], [7], some 7, false, false, false⟩, ⟨1, [0], [], none, false, false, false⟩, ⟨2, [7], [7], some 7, false, false, false⟩, ⟨4, [8], [], none, false, false, false⟩, ⟨5, [10], [], none, false, false, false⟩, ⟨6, [11], [], none, false, false, false⟩, ⟨3, [75, 76], [], none, false, true, true⟩, ⟨7, [2, 74], [2], some 2, false, false, false⟩, ⟨8, [77], [], none, false, false, false⟩, ⟨9, [78], [], none, false, false, false⟩, ⟨10, [79], [], none, false, false, false⟩, ⟨11, [80], [], none, false, false, false⟩]
noncomputable def F_spec_l1Cur_mixed__io0 (a0c0 : (List Int)) (a0c1 : Int) (a0c2 : Int) : Option (Group × Int × (List Cipher) × (List Int) × (List Int) × ((List Int) × Int × Int)) :=
  (F_spec_l1Cur_group__io0 a0c0 a0c1 a0c2).bind fun z1 =>
  (F_spec_l1Cur_one__io0 z1.2.1 z1.2.2.1 z1.2.2.2 20).bind fun z2 =>
  ((if z2.1 = true then (
  (F_spec_l1Cur_anyGroup__io0 z2.2.1 z2.2.2.1 z2.2.2.2).bind fun z7 =>
  some ((z7.2.1, z7.2.2.1, z7.2.2.2), z7.1.P, z7.1.Q, z7.1.G)) else (
  some ((z2.2.1, z2.2.2.1, z2.2.2.2), z1.1.P, z1.1.Q, z1.1.G)) : Option ((((List Int) × Int × Int) × Int × Int × Int))).bind fun x5 =>
  (F_spec_l1Cur_pick__io0 x5.1.1 x5.1.2.1 x5.1.2.2 4).bind fun z8 =>
  ((wloop (σ := ((List Int) × Int × Int) × (List Cipher) × Int) (fun s19 =>
  if decide (0 < s19.2.2) = true then (
  (F_spec_l1Cur_cipher__io0 s19.1.1 s19.1.2.1 s19.1.2.2 (Group.mk x5.2.1 x5.2.2.1 x5.2.2.2)).bind fun z25 =>
  gd ((s19.2.1.length + 1) * 16 ≤ 140737488355328 ∧ s19.2.1.length + 1 ≤ 4611686018427387904) <|
  some (.go ((z25.2.1, z25.2.2.1, z25.2.2.2), s19.2.1 ++ [z25.1], i64.wrap (s19.2.2 - 1)))) else (
  some (.out ((s19.1.1, s19.1.2.1, s19.1.2.2), s19.2.1)))) ((z8.2.1, z8.2.2.1, z8.2.2.2), [], i64.wrap (1 + z8.1)) : Option ((((List Int) × Int × Int) × (List Cipher)))).bind fun x11 =>
  (F_spec_l1Cur_perm__io0 x11.1.1 x11.1.2.1 x11.1.2.2 (x11.2.length : Int)).bind fun z28 =>
  (F_spec_l1Cur_anyCoins__io0 z28.2.1 z28.2.2.1 z28.2.2.2 (Group.mk x5.2.1 x5.2.2.1 x5.2.2.2) (x11.2.length : Int)).bind fun z29 =>
  (F_spec_l1Cur_pick__io0 z29.2.1 z29.2.2.1 z29.2.2.2 24).bind fun z30 =>
  ((if (z30.1 == 0) = true then (
  (F_spec_l1Cur_anyCipher__io0 z30.2.1 z30.2.2.1 z30.2.2.2 (Group.mk x5.2.1 x5.2.2.1 x5.2.2.2)).bind fun z35 =>
  (ix x11.2 0).bind fun x36 =>
  some ((z35.2.1, z35.2.2.1, z35.2.2.2), x11.2.set 0 z35.1, z28.1)) else (
  if (z30.1 == 1) = true then (
  (F_spec_l1Cur_among__io0_mv1 z30.2.1 z30.2.2.1 z30.2.2.2 [(-1), (x11.2.length : Int), 0]).bind fun z38 =>
  (ix z28.1 0).bind fun x39 =>
  some ((z38.2.1, z38.2.2.1, z38.2.2.2), x11.2, z28.1.set 0 z38.1)) else (
  if (z30.1 == 2) = true then (
  some ((z30.2.1, z30.2.2.1, z30.2.2.2), [], z28.1)) else (
  if (z30.1 == 3) = true then (
  wloop (σ := ((List Int) × Int × Int) × (List Cipher)) (fun s50 =>
  (F_spec_l1Cur_pick__io0 s50.1.1 s50.1.2.1 s50.1.2.2 2).bind fun z55 =>
  if decide ((s50.2.length : Int) < (i64.wrap (12 + z55.1))) = true then (
  (ix s50.2 0).bind fun x57 =>
  gd ((s50.2.length + 1) * 16 ≤ 140737488355328 ∧ s50.2.length + 1 ≤ 4611686018427387904) <|
  some (.go ((z55.2.1, z55.2.2.1, z55.2.2.2), s50.2 ++ [x57]))) else (
  some (.out ((z55.2.1, z55.2.2.1, z55.2.2.2), s50.2, z28.1)))) ((z30.2.1, z30.2.2.1, z30.2.2.2), x11.2)) else (
  some ((z30.2.1, z30.2.2.1, z30.2.2.2), x11.2, z28.1))))) : Option ((((List Int) × Int × Int) × (List Cipher) × (List Int)))).bind fun x33 =>
  (F_spec_l1Cur_anyElement__io0 x33.1.1 x33.1.2.1 x33.1.2.2 (Group.mk x5.2.1 x5.2.2.1 x5.2.2.2)).bind fun z60 =>
  some ((Group.mk x5.2.1 x5.2.2.1 x5.2.2.2), z60.1, x33.2.1, x33.2.2, z29.1, (z60.2.1, z60.2.2.1, z60.2.2.2)))))
theorem c_spec_l1Cur_mixed__io0 : ∀ {a0c0} {a0c1} {a0c2} {r}, F_spec_l1Cur_mixed__io0 a0c0 a0c1 a0c2 = some r → PCalls Try.prog 123 [(.io, .bx [.sl false 1 (a0c0.map row_u8), .int .i64 a0c1, .int .u64 a0c2])] (Eo (.tup [.agg [.int .i64 r.1.P, .int .i64 r.1.Q, .int .i64 r.1.G], .int .i64 r.2.1, .sl true 2 (r.2.2.1.map row_Cipher), .sl true 1 (r.2.2.2.1.map row_i64), .sl false 1 (r.2.2.2.2.1.map row_i64)]) [.bx [.sl false 1 (r.2.2.2.2.2.1.map row_u8), .int .i64 r.2.2.2.2.2.2.1, .int .u64 r.2.2.2.2.2.2.2]]) := by
  intro a0c0 a0c1 a0c2 r hr
  apply pF 81 [0] [] [] [.cell 2 39, .tmp 3, .tmp 4, .tmp 5, .tmp 6] hr cl123 Try.func123
  intro Φ hΦ hF g
  unfold F_spec_l1Cur_mixed__io0 at hF
  try simp [go_sem, g]
  refine pw_wk ?_
  try simp [go_sem, g]
  refine pC hF [.io] c_spec_l1Cur_group__io0 (fun z1 hF => ?_)
  try simp [go_sem, g]
  refine pw_wk ?_
  try simp [go_sem, g]
  refine pC hF [.io, .sh] c_spec_l1Cur_one__io0 (fun z2 hF => ?_)
  try simp [go_sem, g]
  refine pw_wkK [0, 2, 7, 15] (by simp [go_sem, g]; rfl) ?_
  repeat rw [sq]
  refine pJ hF (fun x5 => [(0, .v (.bx [.sl false 1 (x5.1.1.map row_u8), .int .i64 x5.1.2.1, .int .u64 x5.1.2.2])), (2, .bl [.int .i64 0, .int .i64 0, .int .i64 0]), (7, .bl [.int .i64 x5.2.1, .int .i64 x5.2.2.1, .int .i64 x5.2.2.2])]) (fun x5 hF => ?_) fun _ hj3 hF => ?_
  ·try simp [go_sem, g]
   refine pw_wk ?_
   try simp [go_sem, g]
   refine pC hF [.io, .sh] c_spec_l1Cur_pick__io0 (fun z8 hF => ?_)
   try simp [go_sem, g]
   refine pw_wk ?_
   repeat rw [sq]
   refine pJ hF (fun x11 => [(0, .v (.bx [.sl false 1 (x11.1.1.map row_u8), .int .i64 x11.1.2.1, .int .u64 x11.1.2.2])), (2, .bl [.int .i64 0, .int .i64 0, .int .i64 0]), (7, .bl [.int .i64 x5.2.1, .int .i64 x5.2.2.1, .int .i64 x5.2.2.2]), (8, .v (.sl true 2 (x11.2.map row_Cipher)))]) (fun x11 hF => ?_) fun _ hj9 hF => ?_
   ·try simp [go_sem, g]
    try intros
    refine pC hF [.io, .sh] c_spec_l1Cur_perm__io0 (fun z28 hF => ?_)
    try simp [go_sem, g]
    refine pw_wkK [0, 2, 7, 8, 10] (by simp [go_sem, g]; rfl) ?_
    try simp [go_sem, g]
    try intros
    refine pC hF [.io, .sh, .sh] c_spec_l1Cur_anyCoins__io0 (fun z29 hF => ?_)
    try simp [go_sem, g]
    refine pw_wk ?_
    try simp [go_sem, g]
    refine pC hF [.io, .sh] c_spec_l1Cur_pick__io0 (fun z30 hF => ?_)
    try simp [go_sem, g]
    refine pw_wk ?_
    repeat rw [sq]
    refine pJ hF (fun x33 => [(0, .v (.bx [.sl false 1 (x33.1.1.map row_u8), .int .i64 x33.1.2.1, .int .u64 x33.1.2.2])), (2, .bl [.int .i64 0, .int .i64 0, .int .i64 0]), (7, .bl [.int .i64 x5.2.1, .int .i64 x5.2.2.1, .int .i64 x5.2.2.2]), (8, .v (.sl true 2 (x33.2.1.map row_Cipher))), (10, .v (.sl true 1 (x33.2.2.map row_i64))), (11, .v (.sl false 1 (z29.1.map row_i64)))]) (fun x33 hF => ?_) fun _ hj31 hF => ?_
    ·repeat rw [sq]
     refine pw_draw D123_21 follows (by kernel_rfl) rfl ?_
     try simp only [go_sem, D123_21]
     try simp [go_sem, g]
     refine pC hF [.io, .sh] c_spec_l1Cur_anyElement__io0 (fun z60 hF => ?_)
     try simp [go_sem, g]
     refine pw_wkK [0, 2, 3, 4, 5, 6] (by simp [go_sem, g]; rfl) ?_
     cases hΦ _ (Rn_some hF)
     try simp [go_sem, g]
    ·repeat rw [sq]
     rw [pw_block]
     try simp [go_sem, g]
     refine pw_wkK [0, 2, 7, 8, 10, 11, 41, 42] (by simp [go_sem, g]; rfl) ?_
     repeat rw [sq]
     refine pI hF (fun h34 hF => ?_) (fun h34 hF => ?_)
     ·try simp [go_sem, g]
      refine pC hF [.io, .sh] c_spec_l1Cur_anyCipher__io0 (fun z35 hF => ?_)
      obtain ⟨x36, g, hF⟩ := Rxn g 0 hF
      try simp [go_sem, g]
      exact pT (hj31 ((z35.2.1, z35.2.2.1, z35.2.2.2), x11.2.set 0 z35.1, z28.1)) (Rn_some hF)
     ·try simp [go_sem, g]
      refine pw_wk ?_
      repeat rw [sq]
      refine pI hF (fun h37 hF => ?_) (fun h37 hF => ?_)
      ·try simp [go_sem, g]
       try intros
       refine pC hF [.io, .mv] c_spec_l1Cur_among__io0_mv1 (fun z38 hF => ?_)
       obtain ⟨x39, g, hF⟩ := Rxn g 0 hF
       try simp [go_sem, g]
       exact pT (hj31 ((z38.2.1, z38.2.2.1, z38.2.2.2), x11.2, z28.1.set 0 z38.1)) (Rn_some hF)
      ·try simp [go_sem, g]
       refine pw_wk ?_
       repeat rw [sq]
       refine pI hF (fun h40 hF => ?_) (fun h40 hF => ?_)
       ·try simp [go_sem, g]
        exact pT (hj31 ((z30.2.1, z30.2.2.1, z30.2.2.2), [], z28.1)) (Rn_some hF)
       ·try simp [go_sem, g]
        refine pw_wk ?_
        repeat rw [sq]
        refine pI hF (fun h41 hF => ?_) (fun h41 hF => ?_)
        ·repeat rw [sq]
         rw [pw_block]
         obtain ⟨b58, hb59, hψ54⟩ := hF
         refine pL hb59 (fun s50 => [(0, .v (.bx [.sl false 1 (s50.1.1.map row_u8), .int .i64 s50.1.2.1, .int .u64 s50.1.2.2])), (2, .bl [.int .i64 0, .int .i64 0, .int .i64 0]), (7, .bl [.int .i64 x5.2.1, .int .i64 x5.2.2.1, .int .i64 x5.2.2.2]), (8, .v (.sl true 2 (s50.2.map row_Cipher))), (10, .v (.sl true 1 (z28.1.map row_i64))), (11, .v (.sl false 1 (z29.1.map row_i64)))]) (fun s50 _ _ ho52 hg53 hF => ?_)
         try simp [go_sem, g]
         try intros
         refine pC hF [.io, .sh] c_spec_l1Cur_pick__io0 (fun z55 hF => ?_)
         try simp [go_sem, g]
         refine pw_wkK [0, 2, 7, 8, 10, 11, 67] (by simp [go_sem, g]; rfl) ?_
         repeat rw [sq]
         refine pI hF (fun h56 hF => ?_) (fun h56 hF => ?_)
         ·try simp [go_sem, g]
          refine pw_wk ?_
          repeat rw [sq]
          rw [pw_block]
          obtain ⟨x57, g, hF⟩ := Rxn g 0 hF
          obtain ⟨g, hF⟩ := Rg g hF
          try simp [go_sem, g]
          exact pT (hg53 ((z55.2.1, z55.2.2.1, z55.2.2.2), s50.2 ++ [x57])) (Rn_some hF)
         ·try simp [go_sem, g]
          cases ho52 _ (Rn_some hF)
          exact pT (hj31 ((z55.2.1, z55.2.2.1, z55.2.2.2), s50.2, z28.1)) hψ54
        ·try simp [go_sem, g]
         exact pT (hj31 ((z30.2.1, z30.2.2.1, z30.2.2.2), x11.2, z28.1)) (Rn_some hF)
   ·repeat rw [sq]
    rw [pw_block]
    obtain ⟨b26, hb27, hψ23⟩ := hF
    refine pL hb27 (fun s19 => [(0, .v (.bx [.sl false 1 (s19.1.1.map row_u8), .int .i64 s19.1.2.1, .int .u64 s19.1.2.2])), (2, .bl [.int .i64 0, .int .i64 0, .int .i64 0]), (7, .bl [.int .i64 x5.2.1, .int .i64 x5.2.2.1, .int .i64 x5.2.2.2]), (8, .v (.sl true 2 (s19.2.1.map row_Cipher))), (9, .v (.int .i64 s19.2.2))]) (fun s19 _ _ ho21 hg22 hF => ?_)
    try simp [go_sem, g]
    refine pw_wk ?_
    repeat rw [sq]
    refine pI hF (fun h24 hF => ?_) (fun h24 hF => ?_)
    ·try simp [go_sem, g]
     refine pw_wk ?_
     repeat rw [sq]
     rw [pw_block]
     try simp [go_sem, g]
     refine pC hF [.io, .sh] c_spec_l1Cur_cipher__io0 (fun z25 hF => ?_)
     obtain ⟨g, hF⟩ := Rg g hF
     try simp [go_sem, g]
     refine pw_wkK [0, 2, 7, 8, 9] (by simp [go_sem, g]; rfl) ?_
     try simp [go_sem, g]
     exact pT (hg22 ((z25.2.1, z25.2.2.1, z25.2.2.2), s19.2.1 ++ [z25.1], i64.wrap (s19.2.2 - 1))) (Rn_some hF)
    ·try simp [go_sem, g]
     cases ho21 _ (Rn_some hF)
     exact pT (hj9 ((s19.1.1, s19.1.2.1, s19.1.2.2), s19.2.1)) hψ23
  ·repeat rw [sq]
   refine pI hF (fun h6 hF => ?_) (fun h6 hF => ?_)
   ·try simp [go_sem, g]
    refine pC hF [.io] c_spec_l1Cur_anyGroup__io0 (fun z7 hF => ?_)
    try simp [go_sem, g]
    exact pT (hj3 ((z7.2.1, z7.2.2.1, z7.2.2.2), z7.1.P, z7.1.Q, z7.1.G)) (Rn_some hF)
   ·try simp [go_sem, g]
    exact pT (hj3 ((z2.2.1, z2.2.2.1, z2.2.2.2), z1.1.P, z1.1.Q, z1.1.G)) (Rn_some hF)
noncomputable def F_spec_l1Cur_anyExpo__io0 (a0c0 : (List Int)) (a0c1 : Int) (a0c2 : Int) (a1 : Group) : Option (Int × ((List Int) × Int × Int)) :=
  (F_spec_l1Cur_one__io0 a0c0 a0c1 a0c2 24).bind fun z1 =>
  if z1.1 = true then (
  (F_spec_l1Cur_among__io0_mv1 z1.2.1 z1.2.2.1 z1.2.2.2 [a1.Q, (-1), i64.wrap (a1.Q - 1)]).bind fun z3 =>
  some (z3.1, (z3.2.1, z3.2.2.1, z3.2.2.2))) else (
  (F_spec_l1Cur_expo__io0 z1.2.1 z1.2.2.1 z1.2.2.2 a1).bind fun z4 =>
  some (z4.1, (z4.2.1, z4.2.2.1, z4.2.2.2)))
theorem c_spec_l1Cur_anyExpo__io0 : ∀ {a0c0} {a0c1} {a0c2} {a1} {r}, F_spec_l1Cur_anyExpo__io0 a0c0 a0c1 a0c2 a1 = some r → PCalls Try.prog 63 [(.io, .bx [.sl false 1 (a0c0.map row_u8), .int .i64 a0c1, .int .u64 a0c2]), (.sh, .agg [.int .i64 a1.P, .int .i64 a1.Q, .int .i64 a1.G])] (Eo (.int .i64 r.1) [.bx [.sl false 1 (r.2.1.map row_u8), .int .i64 r.2.2.1, .int .u64 r.2.2.2], .junk]) := by
  intro a0c0 a0c1 a0c2 a1 r hr
  apply pF 18 [0] [] [] [.tmp 4] hr cl63 Try.func63
  intro Φ hΦ hF g
  unfold F_spec_l1Cur_anyExpo__io0 at hF
  try simp [go_sem, g]
  refine pw_wk ?_
  try simp [go_sem, g]
  refine pC hF [.io, .sh] c_spec_l1Cur_one__io0 (fun z1 hF => ?_)
  try simp [go_sem, g]
  refine pw_wk ?_
  repeat rw [sq]
  refine pI hF (fun h2 hF => ?_) (fun h2 hF => ?_)
  ·try simp [go_sem, g]
   refine pC hF [.io, .mv] c_spec_l1Cur_among__io0_mv1 (fun z3 hF => ?_)
   try simp [go_sem, g]
   refine pw_wkK [0, 4] (by simp [go_sem, g]; rfl) ?_
   cases hΦ _ (Rn_some hF)
   try simp [go_sem, g]
  ·try simp [go_sem, g]
   refine pw_wk ?_
   try simp [go_sem, g]
   refine pC hF [.io, .sh] c_spec_l1Cur_expo__io0 (fun z4 hF => ?_)
   cases hΦ _ (Rn_some hF)
   try simp [go_sem, g]
   refine pw_wk ?_
   try simp [go_sem, g]
noncomputable def F_spec_l2Good (a0 : Group) : Option (Bool) :=
  (((F_spec_l1In a0.P 3 2000000000).bind fun z4 =>
  if z4 = true then (
  (F_spec_l1In a0.Q 2 (i64.wrap (a0.P - 1))).bind fun z6 =>
  if z6 = true then (
  gd (a0.Q ≠ 0) <|
  if (((i64.wrap (a0.P - 1)).tmod a0.Q) == 0) = true then (
  (F_spec_l1In a0.G 2 (i64.wrap (a0.P - 1))).bind fun z9 =>
  if z9 = true then (
  (F_spec_nPower a0.G a0.Q a0.P).bind fun z11 =>
  if (z11 == 1) = true then (
  (F_spec_nPrime a0.Q).bind fun z13 =>
  if z13 = true then (
  (F_spec_nPrime a0.P).bind fun z15 =>
  some z15) else (
  some false)) else (
  some false)) else (
  some false)) else (
  some false)) else (
  some false)) else (
  some false) : Option (Bool)).bind fun x3 =>
  some x3)
theorem c_spec_l2Good : ∀ {a0} {r}, F_spec_l2Good a0 = some r → PCalls Try.prog 79 [(.sh, .agg [.int .i64 a0.P, .int .i64 a0.Q, .int .i64 a0.G])] (Eo (.bool r) [.junk]) := by
  intro a0 r hr
  apply pF 51 [] [] [] [.tmp 2] hr cl79 Try.func79
  intro Φ hΦ hF g
  unfold F_spec_l2Good at hF
  try simp [go_sem, g]
  refine pw_wk ?_
  repeat rw [sq]
  refine pJ hF (fun x3 => [(2, .v (.bool x3))]) (fun x3 hF => ?_) fun _ hj1 hF => ?_
  ·cases hΦ _ (Rn_some hF)
   try simp [go_sem, g]
  ·try simp [go_sem, g]
   refine pC hF [.sh, .sh, .sh] c_spec_l1In (fun z4 hF => ?_)
   try simp [go_sem, g]
   refine pwg_F hF (fun h5 hF => ?_) fun h5 hF => ?_
   ·try simp [go_sem, g, h5]
    refine pC hF [.sh, .sh, .sh] c_spec_l1In (fun z6 hF => ?_)
    try simp [go_sem, g, h5]
    refine pwg_F hF (fun h7 hF => ?_) fun h7 hF => ?_
    ·obtain ⟨g, hF⟩ := Rz g hF
     try simp [go_sem, g, h7]
     refine pwg_F hF (fun h8 hF => ?_) fun h8 hF => ?_
     ·try simp [go_sem, g, h8]
      refine pC hF [.sh, .sh, .sh] c_spec_l1In (fun z9 hF => ?_)
      try simp [go_sem, g, h8]
      refine pwg_F hF (fun h10 hF => ?_) fun h10 hF => ?_
      ·try simp [go_sem, g, h10]
       refine pC hF [.sh, .sh, .sh] c_spec_nPower (fun z11 hF => ?_)
       try simp [go_sem, g, h10]
       refine pwg_F hF (fun h12 hF => ?_) fun h12 hF => ?_
       ·try simp [go_sem, g, h12]
        refine pC hF [.sh] c_spec_nPrime (fun z13 hF => ?_)
        try simp [go_sem, g, h12]
        refine pwg_F hF (fun h14 hF => ?_) fun h14 hF => ?_
        ·try simp [go_sem, g, h14]
         refine pC hF [.sh] c_spec_nPrime (fun z15 hF => ?_)
         try simp [go_sem, g, h14]
         exact pT (hj1 z15) (Rn_some hF)
        ·try simp [go_sem, g, h14]
         exact pT (hj1 false) (Rn_some hF)
       ·try simp [go_sem, g, h12]
        exact pT (hj1 false) (Rn_some hF)
      ·try simp [go_sem, g, h10]
       exact pT (hj1 false) (Rn_some hF)
     ·try simp [go_sem, g, h8]
      exact pT (hj1 false) (Rn_some hF)
    ·try simp [go_sem, g, h7]
     exact pT (hj1 false) (Rn_some hF)
   ·try simp [go_sem, g, h5]
    exact pT (hj1 false) (Rn_some hF)
noncomputable def F_spec_l1All (a0 : (List Int)) (a1 : Int) (a2 : Int) : Option (Bool) :=
  ((rloop (σ := Unit) (fun i5 s4 =>
  (ix a0 i5).bind fun x11 =>
  (F_spec_l1In x11 a1 a2).bind fun z12 =>
  if (!z12) = true then (
  some (.out (.inr false))) else (
  some (.go ()))) (fun s4 => .inl ()) (a0.length) 0 () : Option (Unit ⊕ Bool)).bind (Sum.elim (fun x3 =>
  some true) some))
theorem c_spec_l1All : ∀ {a0} {a1} {a2} {r}, F_spec_l1All a0 a1 a2 = some r → PCalls Try.prog 120 [(.sh, .sl false 1 (a0.map row_i64)), (.sh, .int .i64 a1), (.sh, .int .i64 a2)] (Eo (.bool r) [.junk, .junk, .junk]) := by
  intro a0 a1 a2 r hr
  apply pF 21 [] [] [] [.tmp 6] hr cl120 Try.func120
  intro Φ hΦ hF g
  unfold F_spec_l1All at hF
  iterate 2 (try simp [go_sem, g]; try intros; refine pw_wk ?_)
  repeat rw [sq]
  refine pJs hF (fun x3 => []) (fun x3 hF => ?_) fun _ hj1 hr2 hF => ?_
  ·cases hΦ _ (Rn_some hF)
   try simp [go_sem, g]
   refine pw_wk ?_
   try simp [go_sem, g]
  ·repeat rw [sq]
   rw [pw_block]
   obtain ⟨b14, hb15, hψ8⟩ := hF
   refine pR hb15 (fun i5 s4 => [(1, .v (.int .i64 a1)), (2, .v (.int .i64 a2)), (9, .v (.sl false 1 (a0.map row_i64))), (10, .v (.int .i64 (a0.length : Int))), (11, .v (.int .i64 i5))]) (fun s4 _ hN16 => ?_) (fun i5 s4 _ _ hi9 hi10 ho6 hg7 hF => ?_)
   ·subst hN16
    try simp [go_sem]
    refine pw_wk ?_
    repeat rw [sq]
    refine pw_cond_f (by simp [go_sem]) ?_
    try simp [go_sem]
    exact pT (hj1 ()) hψ8 (by simp [go_sem])
   ·try simp [go_sem, g]
    refine pw_wk ?_
    repeat rw [sq]
    refine pw_cond_t (by simp [go_sem, g, hi9, hi10]) ?_
    try simp [go_sem, g]
    refine pw_wk ?_
    repeat rw [sq]
    rw [pw_block]
    obtain ⟨x11, g, hF⟩ := Rx g hF
    try simp [go_sem, g]
    refine pw_wk ?_
    try simp [go_sem, g]
    refine pC hF [.sh, .sh, .sh] c_spec_l1In (fun z12 hF => ?_)
    try simp [go_sem, g]
    refine pw_wkK [1, 2, 9, 10, 11, 19] (by simp [go_sem, g]; rfl) ?_
    repeat rw [sq]
    refine pI hF (fun h13 hF => ?_) (fun h13 hF => ?_)
    ·cases ho6 _ (Rn_some hF)
     cases hΦ _ (hr2 _ hψ8)
     try simp [go_sem, g]
     refine pw_wk ?_
     try simp [go_sem, g]
    ·try simp [go_sem, g]
     refine pw_wk ?_
     try simp [go_sem, g]
     exact pT (hg7 ()) (Rn_some hF) (by simp [go_sem, g, wr_i hi9 hi10 (by assumption)])
noncomputable def F_spec_gExps (a0 : Group) (a1 : (List Int)) : Option (Bool) :=
  (F_spec_l1All a1 0 (i64.wrap (a0.Q - 1))).bind fun z1 =>
  some z1
theorem c_spec_gExps : ∀ {a0} {a1} {r}, F_spec_gExps a0 a1 = some r → PCalls Try.prog 71 [(.sh, .agg [.int .i64 a0.P, .int .i64 a0.Q, .int .i64 a0.G]), (.sh, .sl false 1 (a1.map row_i64))] (Eo (.bool r) [.junk, .junk]) := by
  intro a0 a1 r hr
  apply pF 10 [] [] [] [.tmp 4] hr cl71 Try.func71
  intro Φ hΦ hF g
  unfold F_spec_gExps at hF
  try simp [go_sem, g]
  refine pw_wk ?_
  try simp [go_sem, g]
  refine pC hF [.sh, .sh, .sh] c_spec_l1All (fun z1 hF => ?_)
  cases hΦ _ (Rn_some hF)
  try simp [go_sem, g]
  refine pw_wk ?_
  try simp [go_sem, g]
noncomputable def F_spec_gIs (a0 : Group) (a1 : (List Int)) : Option (Bool) :=
  ((rloop (σ := Unit) (fun i5 s4 =>
  (ix a1 i5).bind fun x11 =>
  (((F_spec_l1In x11 1 (i64.wrap (a0.P - 1))).bind fun z15 =>
  if (!z15) = true then (
  some true) else (
  (F_spec_nPower x11 a0.Q a0.P).bind fun z17 =>
  some (z17 != 1)) : Option (Bool)).bind fun x14 =>
  if x14 = true then (
  some (.out (.inr false))) else (
  some (.go ())))) (fun s4 => .inl ()) (a1.length) 0 () : Option (Unit ⊕ Bool)).bind (Sum.elim (fun x3 =>
  some true) some))
theorem c_spec_gIs : ∀ {a0} {a1} {r}, F_spec_gIs a0 a1 = some r → PCalls Try.prog 70 [(.sh, .agg [.int .i64 a0.P, .int .i64 a0.Q, .int .i64 a0.G]), (.sh, .sl false 1 (a1.map row_i64))] (Eo (.bool r) [.junk, .junk]) := by
  intro a0 a1 r hr
  apply pF 29 [] [] [] [.tmp 4] hr cl70 Try.func70
  intro Φ hΦ hF g
  unfold F_spec_gIs at hF
  iterate 2 (try simp [go_sem, g]; try intros; refine pw_wk ?_)
  repeat rw [sq]
  refine pJs hF (fun x3 => []) (fun x3 hF => ?_) fun _ hj1 hr2 hF => ?_
  ·cases hΦ _ (Rn_some hF)
   try simp [go_sem, g]
   refine pw_wk ?_
   try simp [go_sem, g]
  ·repeat rw [sq]
   rw [pw_block]
   obtain ⟨b19, hb20, hψ8⟩ := hF
   refine pR hb20 (fun i5 s4 => [(2, .bl [.int .i64 a0.P, .int .i64 a0.Q, .int .i64 a0.G]), (7, .v (.sl false 1 (a1.map row_i64))), (8, .v (.int .i64 (a1.length : Int))), (9, .v (.int .i64 i5))]) (fun s4 _ hN21 => ?_) (fun i5 s4 _ _ hi9 hi10 ho6 hg7 hF => ?_)
   ·subst hN21
    try simp [go_sem]
    refine pw_wk ?_
    repeat rw [sq]
    refine pw_cond_f (by simp [go_sem]) ?_
    try simp [go_sem]
    exact pT (hj1 ()) hψ8 (by simp [go_sem])
   ·try simp [go_sem, g]
    refine pw_wk ?_
    repeat rw [sq]
    refine pw_cond_t (by simp [go_sem, g, hi9, hi10]) ?_
    try simp [go_sem, g]
    refine pw_wk ?_
    repeat rw [sq]
    rw [pw_block]
    obtain ⟨x11, g, hF⟩ := Rx g hF
    try simp [go_sem, g]
    refine pw_wk ?_
    repeat rw [sq]
    refine pJ hF (fun x14 => [(2, .bl [.int .i64 a0.P, .int .i64 a0.Q, .int .i64 a0.G]), (7, .v (.sl false 1 (a1.map row_i64))), (8, .v (.int .i64 (a1.length : Int))), (9, .v (.int .i64 i5)), (27, .v (.bool x14))]) (fun x14 hF => ?_) fun _ hj12 hF => ?_
    ·repeat rw [sq]
     refine pI hF (fun h18 hF => ?_) (fun h18 hF => ?_)
     ·try simp [go_sem, g]
      refine pw_wkK [4] (by simp [go_sem, g]; rfl) ?_
      cases ho6 _ (Rn_some hF)
      cases hΦ _ (hr2 _ hψ8)
      try simp [go_sem, g]
     ·try simp [go_sem, g]
      refine pw_wk ?_
      try simp [go_sem, g]
      exact pT (hg7 ()) (Rn_some hF) (by simp [go_sem, g, wr_i hi9 hi10 (by assumption)])
    ·try simp [go_sem, g]
     refine pC hF [.sh, .sh, .sh] c_spec_l1In (fun z15 hF => ?_)
     try simp [go_sem, g]
     refine pwg_F hF (fun h16 hF => ?_) fun h16 hF => ?_
     ·try simp [go_sem, g, h16]
      exact pT (hj12 true) (Rn_some hF)
     ·try simp [go_sem, g, h16]
      refine pC hF [.sh, .sh, .sh] c_spec_nPower (fun z17 hF => ?_)
      try simp [go_sem, g, h16]
      exact pT (hj12 (z17 != 1)) (Rn_some hF)
noncomputable def F_spec_eKey (a0 : Group) (a1 : Int) : Option (Bool) :=
  (((F_spec_l2Good a0).bind fun z4 =>
  if z4 = true then (
  (F_spec_gIs a0 [a1]).bind fun z6 =>
  some z6) else (
  some false) : Option (Bool)).bind fun x3 =>
  some x3)
theorem c_spec_eKey : ∀ {a0} {a1} {r}, F_spec_eKey a0 a1 = some r → PCalls Try.prog 184 [(.sh, .agg [.int .i64 a0.P, .int .i64 a0.Q, .int .i64 a0.G]), (.sh, .int .i64 a1)] (Eo (.bool r) [.junk, .junk]) := by
  intro a0 a1 r hr
  apply pF 13 [] [] [] [.tmp 4] hr cl184 Try.func184
  intro Φ hΦ hF g
  unfold F_spec_eKey at hF
  try simp [go_sem, g]
  refine pw_wk ?_
  repeat rw [sq]
  refine pJ hF (fun x3 => [(4, .v (.bool x3))]) (fun x3 hF => ?_) fun _ hj1 hF => ?_
  ·cases hΦ _ (Rn_some hF)
   try simp [go_sem, g]
  ·try simp [go_sem, g]
   refine pC hF [.sh] c_spec_l2Good (fun z4 hF => ?_)
   try simp [go_sem, g]
   refine pwg_F hF (fun h5 hF => ?_) fun h5 hF => ?_
   ·try simp [go_sem, g, h5]
    refine pC hF [.sh, .sh] c_spec_gIs (fun z6 hF => ?_)
    try simp [go_sem, g, h5]
    exact pT (hj1 z6) (Rn_some hF)
   ·try simp [go_sem, g, h5]
    exact pT (hj1 false) (Rn_some hF)
noncomputable def F_spec_eGood (a0 : Group) (a1 : (List Cipher)) : Option (Bool) :=
  if decide (24 < (a1.length : Int)) = true then (
  some false) else (
  ((rloop (σ := Unit) (fun i6 s5 =>
  (ix a1 i6).bind fun x12 =>
  (F_spec_gIs a0 [x12.A, x12.B]).bind fun z13 =>
  if (!z13) = true then (
  some (.out (.inr false))) else (
  some (.go ()))) (fun s5 => .inl ()) (a1.length) 0 () : Option (Unit ⊕ Bool)).bind (Sum.elim (fun x4 =>
  some true) some)))
theorem c_spec_eGood : ∀ {a0} {a1} {r}, F_spec_eGood a0 a1 = some r → PCalls Try.prog 80 [(.sh, .agg [.int .i64 a0.P, .int .i64 a0.Q, .int .i64 a0.G]), (.sh, .sl false 2 (a1.map row_Cipher))] (Eo (.bool r) [.junk, .junk]) := by
  intro a0 a1 r hr
  apply pF 25 [] [] [] [.tmp 4] hr cl80 Try.func80
  intro Φ hΦ hF g
  unfold F_spec_eGood at hF
  iterate 2 (try simp [go_sem, g]; try intros; refine pw_wk ?_)
  repeat rw [sq]
  refine pI hF (fun h1 hF => ?_) (fun h1 hF => ?_)
  ·cases hΦ _ (Rn_some hF)
   try simp [go_sem, g]
   refine pw_wk ?_
   try simp [go_sem, g]
  ·iterate 2 (try simp [go_sem, g]; try intros; refine pw_wk ?_)
   repeat rw [sq]
   refine pJs hF (fun x4 => []) (fun x4 hF => ?_) fun _ hj2 hr3 hF => ?_
   ·cases hΦ _ (Rn_some hF)
    try simp [go_sem, g]
    refine pw_wk ?_
    try simp [go_sem, g]
   ·repeat rw [sq]
    rw [pw_block]
    obtain ⟨b15, hb16, hψ9⟩ := hF
    refine pR hb16 (fun i6 s5 => [(2, .bl [.int .i64 a0.P, .int .i64 a0.Q, .int .i64 a0.G]), (10, .v (.sl false 2 (a1.map row_Cipher))), (11, .v (.int .i64 (a1.length : Int))), (12, .v (.int .i64 i6))]) (fun s5 _ hN17 => ?_) (fun i6 s5 _ _ hi10 hi11 ho7 hg8 hF => ?_)
    ·subst hN17
     try simp [go_sem]
     refine pw_wk ?_
     repeat rw [sq]
     refine pw_cond_f (by simp [go_sem]) ?_
     try simp [go_sem]
     exact pT (hj2 ()) hψ9 (by simp [go_sem])
    ·try simp [go_sem, g]
     refine pw_wk ?_
     repeat rw [sq]
     refine pw_cond_t (by simp [go_sem, g, hi10, hi11]) ?_
     try simp [go_sem, g]
     refine pw_wk ?_
     repeat rw [sq]
     rw [pw_block]
     obtain ⟨x12, g, hF⟩ := Rx g hF
     try simp [go_sem, g]
     refine pw_wkK [2, 6, 10, 11, 12] (by simp [go_sem, g]; rfl) ?_
     try simp [go_sem, g]
     refine pC hF [.sh, .sh] c_spec_gIs (fun z13 hF => ?_)
     try simp [go_sem, g]
     refine pw_wk ?_
     repeat rw [sq]
     refine pI hF (fun h14 hF => ?_) (fun h14 hF => ?_)
     ·cases ho7 _ (Rn_some hF)
      cases hΦ _ (hr3 _ hψ9)
      try simp [go_sem, g]
      refine pw_wk ?_
      try simp [go_sem, g]
     ·try simp [go_sem, g]
      refine pw_wk ?_
      try simp [go_sem, g]
      exact pT (hg8 ()) (Rn_some hF) (by simp [go_sem, g, wr_i hi10 hi11 (by assumption)])
noncomputable def F_spec_mList (a0 : Group) (a1 : Int) (a2 : (List Cipher)) : Option (Bool) :=
  (((F_spec_eKey a0 a1).bind fun z4 =>
  if z4 = true then (
  (F_spec_l1In (a2.length : Int) 1 12).bind fun z6 =>
  if z6 = true then (
  (F_spec_eGood a0 a2).bind fun z8 =>
  some z8) else (
  some false)) else (
  some false) : Option (Bool)).bind fun x3 =>
  some x3)
theorem c_spec_mList : ∀ {a0} {a1} {a2} {r}, F_spec_mList a0 a1 a2 = some r → PCalls Try.prog 157 [(.sh, .agg [.int .i64 a0.P, .int .i64 a0.Q, .int .i64 a0.G]), (.sh, .int .i64 a1), (.sh, .sl false 2 (a2.map row_Cipher))] (Eo (.bool r) [.junk, .junk, .junk]) := by
  intro a0 a1 a2 r hr
  apply pF 20 [] [] [] [.tmp 6] hr cl157 Try.func157
  intro Φ hΦ hF g
  unfold F_spec_mList at hF
  try simp [go_sem, g]
  refine pw_wk ?_
  repeat rw [sq]
  refine pJ hF (fun x3 => [(6, .v (.bool x3))]) (fun x3 hF => ?_) fun _ hj1 hF => ?_
  ·cases hΦ _ (Rn_some hF)
   try simp [go_sem, g]
  ·try simp [go_sem, g]
   refine pC hF [.sh, .sh] c_spec_eKey (fun z4 hF => ?_)
   try simp [go_sem, g]
   refine pwg_F hF (fun h5 hF => ?_) fun h5 hF => ?_
   ·try simp [go_sem, g, h5]
    try intros
    refine pC hF [.sh, .sh, .sh] c_spec_l1In (fun z6 hF => ?_)
    try simp [go_sem, g, h5]
    refine pwg_F hF (fun h7 hF => ?_) fun h7 hF => ?_
    ·try simp [go_sem, g, h7]
     refine pC hF [.sh, .sh] c_spec_eGood (fun z8 hF => ?_)
     try simp [go_sem, g, h7]
     exact pT (hj1 z8) (Rn_some hF)
    ·try simp [go_sem, g, h7]
     exact pT (hj1 false) (Rn_some hF)
   ·try simp [go_sem, g, h5]
    exact pT (hj1 false) (Rn_some hF)
noncomputable def F_spec_l1Has (a0 : (List Int)) (a1 : Int) : Option (Bool) :=
  ((rloop (σ := Unit) (fun i5 s4 =>
  (ix a0 i5).bind fun x11 =>
  if (x11 == a1) = true then (
  some (.out (.inr true))) else (
  some (.go ()))) (fun s4 => .inl ()) (a0.length) 0 () : Option (Unit ⊕ Bool)).bind (Sum.elim (fun x3 =>
  some false) some))
theorem c_spec_l1Has : ∀ {a0} {a1} {r}, F_spec_l1Has a0 a1 = some r → PCalls Try.prog 189 [(.sh, .sl false 1 (a0.map row_i64)), (.sh, .int .i64 a1)] (Eo (.bool r) [.junk, .junk]) := by
  intro a0 a1 r hr
  apply pF 17 [] [] [] [.tmp 4] hr cl189 Try.func189
  intro Φ hΦ hF g
  unfold F_spec_l1Has at hF
  iterate 2 (try simp [go_sem, g]; try intros; refine pw_wk ?_)
  repeat rw [sq]
  refine pJs hF (fun x3 => []) (fun x3 hF => ?_) fun _ hj1 hr2 hF => ?_
  ·cases hΦ _ (Rn_some hF)
   try simp [go_sem, g]
   refine pw_wk ?_
   try simp [go_sem, g]
  ·repeat rw [sq]
   rw [pw_block]
   obtain ⟨b13, hb14, hψ8⟩ := hF
   refine pR hb14 (fun i5 s4 => [(1, .v (.int .i64 a1)), (7, .v (.sl false 1 (a0.map row_i64))), (8, .v (.int .i64 (a0.length : Int))), (9, .v (.int .i64 i5))]) (fun s4 _ hN15 => ?_) (fun i5 s4 _ _ hi9 hi10 ho6 hg7 hF => ?_)
   ·subst hN15
    try simp [go_sem]
    refine pw_wk ?_
    repeat rw [sq]
    refine pw_cond_f (by simp [go_sem]) ?_
    try simp [go_sem]
    exact pT (hj1 ()) hψ8 (by simp [go_sem])
   ·try simp [go_sem, g]
    refine pw_wk ?_
    repeat rw [sq]
    refine pw_cond_t (by simp [go_sem, g, hi9, hi10]) ?_
    try simp [go_sem, g]
    refine pw_wk ?_
    repeat rw [sq]
    rw [pw_block]
    obtain ⟨x11, g, hF⟩ := Rx g hF
    try simp [go_sem, g]
    refine pw_wk ?_
    try simp [go_sem, g]
    refine pw_wkK [1, 7, 8, 9, 15] (by simp [go_sem, g]; rfl) ?_
    repeat rw [sq]
    refine pI hF (fun h12 hF => ?_) (fun h12 hF => ?_)
    ·cases ho6 _ (Rn_some hF)
     cases hΦ _ (hr2 _ hψ8)
     try simp [go_sem, g]
     refine pw_wk ?_
     try simp [go_sem, g]
    ·try simp [go_sem, g]
     refine pw_wk ?_
     try simp [go_sem, g]
     exact pT (hg7 ()) (Rn_some hF) (by simp [go_sem, g, wr_i hi9 hi10 (by assumption)])
noncomputable def F_spec_yPoints (a0 : (List Int)) : Option (Bool) :=
  ((rloop (σ := Unit) (fun i5 s4 =>
  (ix a0 i5).bind fun x11 =>
  gd (0 ≤ i5) <|
  gd (0 ≤ i5.toNat ∧ i5.toNat ≤ a0.length) <|
  (F_spec_l1Has ((a0.take i5.toNat).drop 0) x11).bind fun z12 =>
  if z12 = true then (
  some (.out (.inr false))) else (
  some (.go ()))) (fun s4 => .inl ()) (a0.length) 0 () : Option (Unit ⊕ Bool)).bind (Sum.elim (fun x3 =>
  some true) some))
theorem c_spec_yPoints : ∀ {a0} {r}, F_spec_yPoints a0 = some r → PCalls Try.prog 185 [(.sh, .sl false 1 (a0.map row_i64))] (Eo (.bool r) [.junk]) := by
  intro a0 r hr
  apply pF 18 [] [] [] [.tmp 2] hr cl185 Try.func185
  intro Φ hΦ hF g
  unfold F_spec_yPoints at hF
  iterate 2 (try simp [go_sem, g]; try intros; refine pw_wk ?_)
  repeat rw [sq]
  refine pJs hF (fun x3 => []) (fun x3 hF => ?_) fun _ hj1 hr2 hF => ?_
  ·cases hΦ _ (Rn_some hF)
   try simp [go_sem, g]
   refine pw_wk ?_
   try simp [go_sem, g]
  ·repeat rw [sq]
   rw [pw_block]
   obtain ⟨b14, hb15, hψ8⟩ := hF
   refine pR hb15 (fun i5 s4 => [(0, .v (.sl false 1 (a0.map row_i64))), (5, .v (.sl false 1 (a0.map row_i64))), (6, .v (.int .i64 (a0.length : Int))), (7, .v (.int .i64 i5))]) (fun s4 _ hN16 => ?_) (fun i5 s4 _ _ hi9 hi10 ho6 hg7 hF => ?_)
   ·subst hN16
    try simp [go_sem]
    refine pw_wk ?_
    repeat rw [sq]
    refine pw_cond_f (by simp [go_sem]) ?_
    try simp [go_sem]
    exact pT (hj1 ()) hψ8 (by simp [go_sem])
   ·try simp [go_sem, g]
    refine pw_wk ?_
    repeat rw [sq]
    refine pw_cond_t (by simp [go_sem, g, hi9, hi10]) ?_
    try simp [go_sem, g]
    refine pw_wk ?_
    repeat rw [sq]
    rw [pw_block]
    obtain ⟨x11, g, hF⟩ := Rx g hF
    try simp [go_sem, g]
    refine pw_wkK [0, 3, 4, 5, 6, 7] (by simp [go_sem, g]; rfl) ?_
    obtain ⟨g, hF⟩ := Rg g hF
    obtain ⟨g, hF⟩ := Rg g hF
    try simp [go_sem, g]
    refine pC hF [.sh, .sh] c_spec_l1Has (fun z12 hF => ?_)
    try simp [go_sem, g]
    refine pw_wk ?_
    repeat rw [sq]
    refine pI hF (fun h13 hF => ?_) (fun h13 hF => ?_)
    ·cases ho6 _ (Rn_some hF)
     cases hΦ _ (hr2 _ hψ8)
     try simp [go_sem, g]
     refine pw_wk ?_
     try simp [go_sem, g]
    ·try simp [go_sem, g]
     refine pw_wk ?_
     try simp [go_sem, g]
     exact pT (hg7 ()) (Rn_some hF) (by simp [go_sem, g, wr_i hi9 hi10 (by assumption)])
noncomputable def F_spec_mPerm (a0 : (List Int)) (a1 : Int) : Option (Bool) :=
  ((if ((a0.length : Int) == a1) = true then (
  (F_spec_l1All a0 0 (i64.wrap (a1 - 1))).bind fun z5 =>
  if z5 = true then (
  (F_spec_yPoints a0).bind fun z7 =>
  some z7) else (
  some false)) else (
  some false) : Option (Bool)).bind fun x3 =>
  some x3)
theorem c_spec_mPerm : ∀ {a0} {a1} {r}, F_spec_mPerm a0 a1 = some r → PCalls Try.prog 158 [(.sh, .sl false 1 (a0.map row_i64)), (.sh, .int .i64 a1)] (Eo (.bool r) [.junk, .junk]) := by
  intro a0 a1 r hr
  apply pF 19 [] [] [] [.tmp 4] hr cl158 Try.func158
  intro Φ hΦ hF g
  unfold F_spec_mPerm at hF
  try simp [go_sem, g]
  refine pw_wk ?_
  repeat rw [sq]
  refine pJ hF (fun x3 => [(4, .v (.bool x3))]) (fun x3 hF => ?_) fun _ hj1 hF => ?_
  ·cases hΦ _ (Rn_some hF)
   try simp [go_sem, g]
  ·try simp [go_sem, g]
   try intros
   refine pwg_F hF (fun h4 hF => ?_) fun h4 hF => ?_
   ·try simp [go_sem, g, h4]
    refine pC hF [.sh, .sh, .sh] c_spec_l1All (fun z5 hF => ?_)
    try simp [go_sem, g, h4]
    refine pwg_F hF (fun h6 hF => ?_) fun h6 hF => ?_
    ·try simp [go_sem, g, h6]
     refine pC hF [.sh] c_spec_yPoints (fun z7 hF => ?_)
     try simp [go_sem, g, h6]
     exact pT (hj1 z7) (Rn_some hF)
    ·try simp [go_sem, g, h6]
     exact pT (hj1 false) (Rn_some hF)
   ·try simp [go_sem, g, h4]
    exact pT (hj1 false) (Rn_some hF)
noncomputable def F_spec_gMul (a0 : Group) (a1 : (List Int)) : Option (Int) :=
  ((rloop (σ := Int) (fun i5 s4 =>
  (ix a1 i5).bind fun x11 =>
  gd (a0.P ≠ 0) <|
  some (.go ((i64.wrap (s4 * x11)).tmod a0.P))) (fun s4 => s4) (a1.length) 0 1 : Option (Int)).bind fun x3 =>
  some x3)
theorem c_spec_gMul : ∀ {a0} {a1} {r}, F_spec_gMul a0 a1 = some r → PCalls Try.prog 121 [(.sh, .agg [.int .i64 a0.P, .int .i64 a0.Q, .int .i64 a0.G]), (.sh, .sl false 1 (a1.map row_i64))] (Eo (.int .i64 r) [.junk, .junk]) := by
  intro a0 a1 r hr
  apply pF 22 [] [] [] [.tmp 4] hr cl121 Try.func121
  intro Φ hΦ hF g
  unfold F_spec_gMul at hF
  iterate 3 (try simp [go_sem, g]; try intros; refine pw_wk ?_)
  repeat rw [sq]
  refine pJ hF (fun x3 => [(5, .v (.int .i64 x3))]) (fun x3 hF => ?_) fun _ hj1 hF => ?_
  ·cases hΦ _ (Rn_some hF)
   try simp [go_sem, g]
   refine pw_wk ?_
   try simp [go_sem, g]
  ·repeat rw [sq]
   rw [pw_block]
   obtain ⟨b12, hb13, hψ8⟩ := hF
   refine pR hb13 (fun i5 s4 => [(2, .bl [.int .i64 a0.P, .int .i64 a0.Q, .int .i64 a0.G]), (5, .v (.int .i64 s4)), (8, .v (.sl false 1 (a1.map row_i64))), (9, .v (.int .i64 (a1.length : Int))), (10, .v (.int .i64 i5))]) (fun s4 _ hN14 => ?_) (fun i5 s4 _ _ hi9 hi10 ho6 hg7 hF => ?_)
   ·subst hN14
    try simp [go_sem]
    refine pw_wk ?_
    repeat rw [sq]
    refine pw_cond_f (by simp [go_sem]) ?_
    try simp [go_sem]
    exact pT (hj1 s4) hψ8 (by simp [go_sem])
   ·try simp [go_sem, g]
    refine pw_wk ?_
    repeat rw [sq]
    refine pw_cond_t (by simp [go_sem, g, hi9, hi10]) ?_
    try simp [go_sem, g]
    refine pw_wk ?_
    repeat rw [sq]
    rw [pw_block]
    obtain ⟨x11, g, hF⟩ := Rx g hF
    try simp [go_sem, g]
    refine pw_wkK [2, 5, 7, 8, 9, 10] (by simp [go_sem, g]; rfl) ?_
    obtain ⟨g, hF⟩ := Rz g hF
    try simp [go_sem, g]
    refine pw_wk ?_
    try simp [go_sem, g]
    exact pT (hg7 ((i64.wrap (s4 * x11)).tmod a0.P)) (Rn_some hF) (by simp [go_sem, g, wr_i hi9 hi10 (by assumption)])
def D201_1 : List DE := [⟨0, [4], [4], some 4, false, false, false⟩, ⟨1, [4], [4], none, false, false, false⟩, ⟨2, [10], [4], some 10, false, false, false⟩, ⟨3, [3], [], none, false, false, false⟩, ⟨5, [4], [4], some 4, false, false, false⟩, ⟨6, [2], [], none, false, false, false⟩, ⟨7, [4], [4], some 4, false, false, false⟩, ⟨8, [1], [], none, false, false, false⟩, ⟨9, [3], [], none, false, false, false⟩, ⟨4, [9, 11, 12], [], none, false, true, true⟩, ⟨10, [16, 17, 18], [], none, false, true, true⟩, ⟨11, [15, 19], [], none, false, false, false⟩, ⟨12, [14, 20], [], none, true, true, true⟩, ⟨13, [13, 21], [], none, false, false, false⟩, ⟨14, [8, 22], [8], some 8, false, false, false⟩]
noncomputable def F_spec_eEnc (a0 : Group) (a1 : Int) (a2 : Int) (a3 : Int) : Option (Cipher) :=
  (F_spec_gExp a0 a0.G a3).bind fun z1 =>
  (F_spec_gExp a0 a1 a3).bind fun z2 =>
  (F_spec_gMul a0 [a2, z2]).bind fun z3 =>
  some (Cipher.mk z1 z3)
theorem c_spec_eEnc : ∀ {a0} {a1} {a2} {a3} {r}, F_spec_eEnc a0 a1 a2 a3 = some r → PCalls Try.prog 201 [(.sh, .agg [.int .i64 a0.P, .int .i64 a0.Q, .int .i64 a0.G]), (.sh, .int .i64 a1), (.sh, .int .i64 a2), (.sh, .int .i64 a3)] (Eo (.agg [.int .i64 r.A, .int .i64 r.B]) [.junk, .junk, .junk, .junk]) := by
  intro a0 a1 a2 a3 r hr
  apply pF 23 [] [] [] [.cell 8 57] hr cl201 Try.func201
  intro Φ hΦ hF g
  unfold F_spec_eEnc at hF
  try simp [go_sem, g]
  refine pw_wk ?_
  repeat rw [sq]
  refine pw_draw D201_1 follows (by kernel_rfl) rfl ?_
  try simp only [go_sem, D201_1]
  try simp [go_sem, g]
  refine pC hF [.sh, .sh, .sh] c_spec_gExp (fun z1 hF => ?_)
  try simp [go_sem, g]
  refine pC hF [.sh, .sh, .sh] c_spec_gExp (fun z2 hF => ?_)
  try simp [go_sem, g]
  refine pC hF [.sh, .sh] c_spec_gMul (fun z3 hF => ?_)
  try simp [go_sem, g]
  refine pw_wkK [8] (by simp [go_sem, g]; rfl) ?_
  cases hΦ _ (Rn_some hF)
  try simp [go_sem, g]
def D200_5 : List DE := [⟨0, [2], [2], some 2, false, false, false⟩, ⟨1, [5], [5], none, false, false, false⟩, ⟨2, [16], [5], some 16, false, false, false⟩, ⟨3, [7], [7], none, false, false, false⟩, ⟨4, [18], [7], some 18, false, false, false⟩, ⟨5, [17, 19], [], none, false, false, false⟩, ⟨7, [2], [2], some 2, false, false, false⟩, ⟨8, [5], [5], none, false, false, false⟩, ⟨9, [23], [5], some 23, false, false, false⟩, ⟨10, [7], [7], none, false, false, false⟩, ⟨11, [25], [7], some 25, false, false, false⟩, ⟨12, [24, 26], [], none, false, false, false⟩, ⟨6, [15, 20], [], none, true, true, true⟩, ⟨13, [22, 27], [], none, true, true, true⟩, ⟨14, [21, 28], [], none, false, false, false⟩, ⟨15, [5, 29], [5], some 5, false, false, false⟩]
noncomputable def F_spec_eMul (a0 : Group) (a1 : (List Cipher)) : Option (Cipher) :=
  ((rloop (σ := Int × Int) (fun i15 s14 =>
  (ix a1 i15).bind fun x21 =>
  (F_spec_gMul a0 [s14.1, x21.A]).bind fun z22 =>
  (F_spec_gMul a0 [s14.2, x21.B]).bind fun z23 =>
  some (.go (z22, z23))) (fun s14 => (s14.1, s14.2)) (a1.length) 0 (1, 1) : Option ((Int × Int))).bind fun x3 =>
  some (Cipher.mk x3.1 x3.2))
theorem c_spec_eMul : ∀ {a0} {a1} {r}, F_spec_eMul a0 a1 = some r → PCalls Try.prog 200 [(.sh, .agg [.int .i64 a0.P, .int .i64 a0.Q, .int .i64 a0.G]), (.sh, .sl false 2 (a1.map row_Cipher))] (Eo (.agg [.int .i64 r.A, .int .i64 r.B]) [.junk, .junk]) := by
  intro a0 a1 r hr
  apply pF 32 [] [] [] [.cell 4 57] hr cl200 Try.func200
  intro Φ hΦ hF g
  unfold F_spec_eMul at hF
  iterate 3 (try simp [go_sem, g]; try intros; refine pw_wk ?_)
  repeat rw [sq]
  refine pJ hF (fun x3 => [(4, .bl [.int .i64 0, .int .i64 0]), (5, .bl [.int .i64 x3.1, .int .i64 x3.2])]) (fun x3 hF => ?_) fun _ hj1 hF => ?_
  ·try simp [go_sem, g]
   refine pw_wkK [4] (by simp [go_sem, g]; rfl) ?_
   cases hΦ _ (Rn_some hF)
   try simp [go_sem, g]
  ·repeat rw [sq]
   rw [pw_block]
   obtain ⟨b24, hb25, hψ18⟩ := hF
   refine pR hb25 (fun i15 s14 => [(2, .bl [.int .i64 a0.P, .int .i64 a0.Q, .int .i64 a0.G]), (4, .bl [.int .i64 0, .int .i64 0]), (5, .bl [.int .i64 s14.1, .int .i64 s14.2]), (9, .v (.sl false 2 (a1.map row_Cipher))), (10, .v (.int .i64 (a1.length : Int))), (11, .v (.int .i64 i15))]) (fun s14 _ hN26 => ?_) (fun i15 s14 _ _ hi19 hi20 ho16 hg17 hF => ?_)
   ·subst hN26
    try simp [go_sem]
    refine pw_wk ?_
    repeat rw [sq]
    refine pw_cond_f (by simp [go_sem]) ?_
    try simp [go_sem]
    exact pT (hj1 (s14.1, s14.2)) hψ18 (by simp [go_sem])
   ·try simp [go_sem, g]
    refine pw_wk ?_
    repeat rw [sq]
    refine pw_cond_t (by simp [go_sem, g, hi19, hi20]) ?_
    try simp [go_sem, g]
    refine pw_wk ?_
    repeat rw [sq]
    rw [pw_block]
    obtain ⟨x21, g, hF⟩ := Rx g hF
    try simp [go_sem, g]
    refine pw_wkK [2, 4, 5, 7, 9, 10, 11] (by simp [go_sem, g]; rfl) ?_
    repeat rw [sq]
    refine pw_draw D200_5 follows (by kernel_rfl) rfl ?_
    try simp only [go_sem, D200_5]
    try simp [go_sem, g]
    refine pC hF [.sh, .sh] c_spec_gMul (fun z22 hF => ?_)
    try simp [go_sem, g]
    refine pC hF [.sh, .sh] c_spec_gMul (fun z23 hF => ?_)
    try simp [go_sem, g]
    refine pw_wkK [2, 4, 5, 9, 10, 11] (by simp [go_sem, g]; rfl) ?_
    try simp [go_sem, g]
    exact pT (hg17 (z22, z23)) (Rn_some hF) (by simp [go_sem, g, wr_i hi19 hi20 (by assumption)])
def D186_1 : List DE := [⟨0, [4], [4], some 4, false, false, false⟩, ⟨1, [6], [6], some 6, false, false, false⟩, ⟨2, [4], [4], some 4, false, false, false⟩, ⟨3, [1], [], none, false, false, false⟩, ⟨4, [3], [], none, false, false, false⟩, ⟨5, [11, 12, 13], [], none, false, true, true⟩, ⟨6, [10, 14], [], none, false, false, false⟩, ⟨7, [9, 15], [], none, true, true, true⟩, ⟨8, [8, 16], [8], some 8, false, false, false⟩]
noncomputable def F_spec_eRe (a0 : Group) (a1 : Int) (a2 : Cipher) (a3 : Int) : Option (Cipher) :=
  (F_spec_eEnc a0 a1 1 a3).bind fun z1 =>
  (F_spec_eMul a0 [a2, z1]).bind fun z2 =>
  some z2
theorem c_spec_eRe : ∀ {a0} {a1} {a2} {a3} {r}, F_spec_eRe a0 a1 a2 a3 = some r → PCalls Try.prog 186 [(.sh, .agg [.int .i64 a0.P, .int .i64 a0.Q, .int .i64 a0.G]), (.sh, .int .i64 a1), (.sh, .agg [.int .i64 a2.A, .int .i64 a2.B]), (.sh, .int .i64 a3)] (Eo (.agg [.int .i64 r.A, .int .i64 r.B]) [.junk, .junk, .junk, .junk]) := by
  intro a0 a1 a2 a3 r hr
  apply pF 17 [] [] [] [.cell 8 57] hr cl186 Try.func186
  intro Φ hΦ hF g
  unfold F_spec_eRe at hF
  try simp [go_sem, g]
  refine pw_wk ?_
  repeat rw [sq]
  refine pw_draw D186_1 follows (by kernel_rfl) rfl ?_
  try simp only [go_sem, D186_1]
  try simp [go_sem, g]
  refine pC hF [.sh, .sh, .sh, .sh] c_spec_eEnc (fun z1 hF => ?_)
  try simp [go_sem, g]
  refine pC hF [.sh, .sh] c_spec_eMul (fun z2 hF => ?_)
  try simp [go_sem, g]
  refine pw_wkK [8] (by simp [go_sem, g]; rfl) ?_
  cases hΦ _ (Rn_some hF)
  try simp [go_sem, g]
def D159_5 : List DE := [⟨0, [11], [], none, false, false, false⟩, ⟨1, [5], [5], some 5, false, false, false⟩, ⟨2, [1], [], none, false, false, false⟩, ⟨3, [2], [], none, false, false, false⟩, ⟨4, [13], [], none, false, false, false⟩, ⟨5, [24, 25], [], none, false, false, false⟩, ⟨6, [26], [], none, false, false, false⟩, ⟨7, [4], [], none, false, false, false⟩, ⟨8, [12], [], none, false, false, false⟩, ⟨9, [28, 29], [], none, false, false, false⟩, ⟨10, [30], [], none, false, false, false⟩, ⟨11, [22, 23, 27, 31], [], none, false, true, true⟩, ⟨12, [32], [], none, false, false, false⟩, ⟨13, [21, 33], [], none, true, false, false⟩, ⟨14, [34], [], none, false, false, false⟩]
noncomputable def F_spec_mMix (a0 : Group) (a1 : Int) (a2 : (List Cipher)) (a3 : (List Int)) (a4 : (List Int)) : Option ((List Cipher)) :=
  ((rloop (σ := (List Cipher)) (fun i5 s4 =>
  (ix a3 i5).bind fun x11 =>
  (ix a2 x11).bind fun x12 =>
  (ix a4 i5).bind fun x13 =>
  (F_spec_eRe a0 a1 x12 x13).bind fun z14 =>
  gd ((s4.length + 1) * 16 ≤ 140737488355328 ∧ s4.length + 1 ≤ 4611686018427387904) <|
  some (.go (s4 ++ [z14]))) (fun s4 => s4) (a3.length) 0 [] : Option ((List Cipher))).bind fun x3 =>
  some x3)
theorem c_spec_mMix : ∀ {a0} {a1} {a2} {a3} {a4} {r}, F_spec_mMix a0 a1 a2 a3 a4 = some r → PCalls Try.prog 159 [(.sh, .agg [.int .i64 a0.P, .int .i64 a0.Q, .int .i64 a0.G]), (.sh, .int .i64 a1), (.sh, .sl false 2 (a2.map row_Cipher)), (.sh, .sl false 1 (a3.map row_i64)), (.sh, .sl false 1 (a4.map row_i64))] (Eo (.sl true 2 (r.map row_Cipher)) [.junk, .junk, .junk, .junk, .junk]) := by
  intro a0 a1 a2 a3 a4 r hr
  apply pF 37 [] [] [] [.tmp 10] hr cl159 Try.func159
  intro Φ hΦ hF g
  unfold F_spec_mMix at hF
  iterate 3 (try simp [go_sem, g]; try intros; refine pw_wk ?_)
  repeat rw [sq]
  refine pJ hF (fun x3 => [(11, .v (.sl true 2 (x3.map row_Cipher)))]) (fun x3 hF => ?_) fun _ hj1 hF => ?_
  ·cases hΦ _ (Rn_some hF)
   try simp [go_sem, g]
   refine pw_wk ?_
   try simp [go_sem, g]
  ·repeat rw [sq]
   rw [pw_block]
   obtain ⟨b15, hb16, hψ8⟩ := hF
   refine pR hb16 (fun i5 s4 => [(1, .v (.int .i64 a1)), (2, .v (.sl false 2 (a2.map row_Cipher))), (4, .v (.sl false 1 (a4.map row_i64))), (5, .bl [.int .i64 a0.P, .int .i64 a0.Q, .int .i64 a0.G]), (11, .v (.sl true 2 (s4.map row_Cipher))), (14, .v (.sl false 1 (a3.map row_i64))), (15, .v (.int .i64 (a3.length : Int))), (16, .v (.int .i64 i5))]) (fun s4 _ hN17 => ?_) (fun i5 s4 _ _ hi9 hi10 ho6 hg7 hF => ?_)
   ·subst hN17
    try simp [go_sem]
    refine pw_wk ?_
    repeat rw [sq]
    refine pw_cond_f (by simp [go_sem]) ?_
    try simp [go_sem]
    exact pT (hj1 s4) hψ8 (by simp [go_sem])
   ·try simp [go_sem, g]
    refine pw_wk ?_
    repeat rw [sq]
    refine pw_cond_t (by simp [go_sem, g, hi9, hi10]) ?_
    try simp [go_sem, g]
    refine pw_wk ?_
    repeat rw [sq]
    rw [pw_block]
    obtain ⟨x11, g, hF⟩ := Rx g hF
    try simp [go_sem, g]
    refine pw_wkK [1, 2, 4, 5, 11, 12, 13, 14, 15, 16] (by simp [go_sem, g]; rfl) ?_
    repeat rw [sq]
    refine pw_draw D159_5 follows (by kernel_rfl) rfl ?_
    try simp only [go_sem, D159_5]
    obtain ⟨x12, g, hF⟩ := Rx g hF
    obtain ⟨x13, g, hF⟩ := Rx g hF
    try simp [go_sem, g]
    refine pC hF [.sh, .sh, .sh, .sh] c_spec_eRe (fun z14 hF => ?_)
    obtain ⟨g, hF⟩ := Rg g hF
    try simp [go_sem, g]
    refine pw_wkK [1, 2, 4, 5, 11, 14, 15, 16] (by simp [go_sem, g]; rfl) ?_
    try simp [go_sem, g]
    exact pT (hg7 (s4 ++ [z14])) (Rn_some hF) (by simp [go_sem, g, wr_i hi9 hi10 (by assumption)])
noncomputable def F_spec_MixCiphers (a0 : Group) (a1 : Int) (a2 : (List Cipher)) (a3 : (List Int)) (a4 : (List Int)) : Option ((List Cipher) × Bool) :=
  (((F_spec_mList a0 a1 a2).bind fun z4 =>
  if (!z4) = true then (
  some true) else (
  (F_spec_mPerm a3 (a2.length : Int)).bind fun z6 =>
  if (!z6) = true then (
  some true) else (
  if ((a4.length : Int) != (a2.length : Int)) = true then (
  some true) else (
  (F_spec_gExps a0 a4).bind fun z9 =>
  some (!z9)))) : Option (Bool)).bind fun x3 =>
  if x3 = true then (
  some ([], false)) else (
  (F_spec_mMix a0 a1 a2 a3 a4).bind fun z11 =>
  some (z11, true)))
theorem c_spec_MixCiphers : ∀ {a0} {a1} {a2} {a3} {a4} {r}, F_spec_MixCiphers a0 a1 a2 a3 a4 = some r → PCalls Try.prog 124 [(.sh, .agg [.int .i64 a0.P, .int .i64 a0.Q, .int .i64 a0.G]), (.sh, .int .i64 a1), (.sh, .sl false 2 (a2.map row_Cipher)), (.sh, .sl false 1 (a3.map row_i64)), (.sh, .sl false 1 (a4.map row_i64))] (Eo (.tup [.sl true 2 (r.1.map row_Cipher), .bool r.2]) [.junk, .junk, .junk, .junk, .junk]) := by
  intro a0 a1 a2 a3 a4 r hr
  apply pF 43 [] [] [] [.tmp 10, .tmp 11] hr cl124 Try.func124
  intro Φ hΦ hF g
  unfold F_spec_MixCiphers at hF
  try simp [go_sem, g]
  refine pw_wk ?_
  repeat rw [sq]
  refine pJ hF (fun x3 => [(1, .v (.int .i64 a1)), (2, .v (.sl false 2 (a2.map row_Cipher))), (3, .v (.sl false 1 (a3.map row_i64))), (4, .v (.sl false 1 (a4.map row_i64))), (5, .bl [.int .i64 a0.P, .int .i64 a0.Q, .int .i64 a0.G]), (36, .v (.bool x3))]) (fun x3 hF => ?_) fun _ hj1 hF => ?_
  ·repeat rw [sq]
   refine pI hF (fun h10 hF => ?_) (fun h10 hF => ?_)
   ·cases hΦ _ (Rn_some hF)
    try simp [go_sem, g]
    refine pw_wk ?_
    try simp [go_sem, g]
   ·try simp [go_sem, g]
    refine pw_wk ?_
    try simp [go_sem, g]
    refine pC hF [.sh, .sh, .sh, .sh, .sh] c_spec_mMix (fun z11 hF => ?_)
    try simp [go_sem, g]
    refine pw_wkK [10, 11] (by simp [go_sem, g]; rfl) ?_
    cases hΦ _ (Rn_some hF)
    try simp [go_sem, g]
  ·try simp [go_sem, g]
   refine pC hF [.sh, .sh, .sh] c_spec_mList (fun z4 hF => ?_)
   try simp [go_sem, g]
   refine pwg_F hF (fun h5 hF => ?_) fun h5 hF => ?_
   ·try simp [go_sem, g, h5]
    exact pT (hj1 true) (Rn_some hF)
   ·try simp [go_sem, g, h5]
    try intros
    refine pC hF [.sh, .sh] c_spec_mPerm (fun z6 hF => ?_)
    try simp [go_sem, g, h5]
    refine pwg_F hF (fun h7 hF => ?_) fun h7 hF => ?_
    ·try simp [go_sem, g, h7]
     exact pT (hj1 true) (Rn_some hF)
    ·try simp [go_sem, g, h7]
     try intros
     refine pwg_F hF (fun h8 hF => ?_) fun h8 hF => ?_
     ·try simp [go_sem, g, h8]
      exact pT (hj1 true) (Rn_some hF)
     ·try simp [go_sem, g, h8]
      refine pC hF [.sh, .sh] c_spec_gExps (fun z9 hF => ?_)
      try simp [go_sem, g, h8]
      exact pT (hj1 (!z9)) (Rn_some hF)
def D74_6 : List DE := [⟨0, [7], [7], some 7, false, false, false⟩, ⟨1, [7], [7], some 7, false, false, false⟩, ⟨2, [7], [7], none, false, false, false⟩, ⟨3, [40], [7], some 40, false, false, false⟩, ⟨4, [12], [], none, false, false, false⟩, ⟨6, [9], [], none, false, false, false⟩, ⟨7, [10], [], none, false, false, false⟩, ⟨8, [11], [], none, false, false, false⟩, ⟨5, [39, 41, 42], [], none, false, true, true⟩, ⟨9, [38, 43, 44, 45, 46], [], none, false, true, true⟩, ⟨10, [47], [], none, false, false, false⟩, ⟨11, [37], [], none, false, false, false⟩, ⟨12, [37], [], none, false, false, false⟩, ⟨13, [48], [], none, false, false, false⟩, ⟨14, [49], [], none, false, false, false⟩]
def D74_8 : List DE := [⟨0, [13], [], none, false, false, false⟩, ⟨1, [6], [], none, false, false, false⟩, ⟨2, [13], [], none, false, false, false⟩, ⟨3, [57], [], none, false, false, false⟩, ⟨5, [6], [], none, false, false, false⟩, ⟨6, [7], [7], some 7, false, false, false⟩, ⟨4, [56, 58], [], none, false, true, true⟩, ⟨7, [60, 61], [], none, false, true, true⟩, ⟨8, [55, 59], [], none, false, false, false⟩, ⟨9, [63, 62], [], none, false, false, false⟩]
noncomputable def F_spec_DrawSameMessages (a0 : (List Int)) : Option (Group × Int × (List Cipher) × (List Cipher)) :=
  (F_spec_l1Cur_mixed__io0 a0 0 0).bind fun z1 =>
  (F_spec_l1Cur_anyExpo__io0 z1.2.2.2.2.2.1 z1.2.2.2.2.2.2.1 z1.2.2.2.2.2.2.2 z1.1).bind fun z2 =>
  (((F_spec_l2Good z1.1).bind fun z6 =>
  if z6 = true then (
  (F_spec_gExps z1.1 [z2.1]).bind fun z8 =>
  some z8) else (
  some false) : Option (Bool)).bind fun x5 =>
  ((if x5 = true then (
  (F_spec_gExp z1.1 z1.1.G z2.1).bind fun z13 =>
  (F_spec_MixCiphers z1.1 z13 z1.2.2.1 z1.2.2.2.1 z1.2.2.2.2.1).bind fun z14 =>
  some (z14.1, z14.2)) else (
  some ([], false)) : Option (((List Cipher) × Bool))).bind fun x11 =>
  ((if x11.2 = true then (
  (F_spec_l1Cur_one__io0 z2.2.1 z2.2.2.1 z2.2.2.2 3).bind fun z19 =>
  some ((z19.2.1, z19.2.2.1, z19.2.2.2), z19.1)) else (
  some ((z2.2.1, z2.2.2.1, z2.2.2.2), false)) : Option ((((List Int) × Int × Int) × Bool))).bind fun x17 =>
  ((if x17.2 = true then (
  (F_spec_l1Cur_pick__io0 x17.1.1 x17.1.2.1 x17.1.2.2 (x11.1.length : Int)).bind fun z24 =>
  (F_spec_l1Cur_anyCipher__io0 z24.2.1 z24.2.2.1 z24.2.2.2 z1.1).bind fun z25 =>
  (ix x11.1 z24.1).bind fun x26 =>
  some ((z25.2.1, z25.2.2.1, z25.2.2.2), x11.1.set z24.1.toNat z25.1)) else (
  some ((x17.1.1, x17.1.2.1, x17.1.2.2), x11.1)) : Option ((((List Int) × Int × Int) × (List Cipher)))).bind fun x22 =>
  ((if x11.2 = true then (
  (F_spec_l1Cur_one__io0 x22.1.1 x22.1.2.1 x22.1.2.2 10).bind fun z31 =>
  some z31.1) else (
  some false) : Option (Bool)).bind fun x29 =>
  ((if x29 = true then (
  gd (1 ≤ x22.2.length ∧ x22.2.length ≤ x22.2.length) <|
  some ((x22.2.take x22.2.length).drop 1)) else (
  some x22.2) : Option ((List Cipher))).bind fun x34 =>
  some (z1.1, z2.1, z1.2.2.1, x34)))))))
theorem c_spec_DrawSameMessages : ∀ {a0} {r}, F_spec_DrawSameMessages a0 = some r → PCalls Try.prog 74 [(.sh, .sl false 1 (a0.map row_u8))] (Eo (.tup [.agg [.int .i64 r.1.P, .int .i64 r.1.Q, .int .i64 r.1.G], .int .i64 r.2.1, .sl true 2 (r.2.2.1.map row_Cipher), .sl false 2 (r.2.2.2.map row_Cipher)]) [.junk]) := by
  intro a0 r hr
  apply pF 75 [] [] [17] [.cell 2 39, .tmp 3, .tmp 4, .tmp 5] hr cl74 Try.func74
  intro Φ hΦ hF g
  unfold F_spec_DrawSameMessages at hF
  iterate 2 (try simp [go_sem, g]; refine pw_wk ?_)
  try simp [go_sem, g]
  refine pC hF [.io] c_spec_l1Cur_mixed__io0 (fun z1 hF => ?_)
  try simp [go_sem, g]
  refine pw_wkK [2, 6, 7, 9, 10, 11] (by simp [go_sem, g]; rfl) ?_
  try simp [go_sem, g]
  refine pC hF [.io, .sh] c_spec_l1Cur_anyExpo__io0 (fun z2 hF => ?_)
  iterate 2 (try simp [go_sem, g]; refine pw_wk ?_)
  repeat rw [sq]
  refine pJ hF (fun x5 => [(2, .bl [.int .i64 0, .int .i64 0, .int .i64 0]), (6, .v (.bx [.sl false 1 (z2.2.1.map row_u8), .int .i64 z2.2.2.1, .int .u64 z2.2.2.2])), (7, .bl [.int .i64 z1.1.P, .int .i64 z1.1.Q, .int .i64 z1.1.G]), (9, .v (.sl true 2 (z1.2.2.1.map row_Cipher))), (10, .v (.sl true 1 (z1.2.2.2.1.map row_i64))), (11, .v (.sl false 1 (z1.2.2.2.2.1.map row_i64))), (12, .v (.int .i64 z2.1)), (13, .v (.sl true 2 [])), (14, .v (.bool false)), (36, .v (.bool x5))]) (fun x5 hF => ?_) fun _ hj3 hF => ?_
  ·repeat rw [sq]
   refine pJ hF (fun x11 => [(2, .bl [.int .i64 0, .int .i64 0, .int .i64 0]), (6, .v (.bx [.sl false 1 (z2.2.1.map row_u8), .int .i64 z2.2.2.1, .int .u64 z2.2.2.2])), (7, .bl [.int .i64 z1.1.P, .int .i64 z1.1.Q, .int .i64 z1.1.G]), (9, .v (.sl true 2 (z1.2.2.1.map row_Cipher))), (12, .v (.int .i64 z2.1)), (13, .v (.sl true 2 (x11.1.map row_Cipher))), (14, .v (.bool x11.2))]) (fun x11 hF => ?_) fun _ hj9 hF => ?_
   ·repeat rw [sq]
    refine pJ hF (fun x17 => [(2, .bl [.int .i64 0, .int .i64 0, .int .i64 0]), (6, .v (.bx [.sl false 1 (x17.1.1.map row_u8), .int .i64 x17.1.2.1, .int .u64 x17.1.2.2])), (7, .bl [.int .i64 z1.1.P, .int .i64 z1.1.Q, .int .i64 z1.1.G]), (9, .v (.sl true 2 (z1.2.2.1.map row_Cipher))), (12, .v (.int .i64 z2.1)), (13, .v (.sl true 2 (x11.1.map row_Cipher))), (14, .v (.bool x11.2)), (54, .v (.bool x17.2))]) (fun x17 hF => ?_) fun _ hj15 hF => ?_
    ·repeat rw [sq]
     refine pJ hF (fun x22 => [(2, .bl [.int .i64 0, .int .i64 0, .int .i64 0]), (6, .v (.bx [.sl false 1 (x22.1.1.map row_u8), .int .i64 x22.1.2.1, .int .u64 x22.1.2.2])), (7, .bl [.int .i64 z1.1.P, .int .i64 z1.1.Q, .int .i64 z1.1.G]), (9, .v (.sl true 2 (z1.2.2.1.map row_Cipher))), (12, .v (.int .i64 z2.1)), (13, .v (.sl true 2 (x22.2.map row_Cipher))), (14, .v (.bool x11.2))]) (fun x22 hF => ?_) fun _ hj20 hF => ?_
     ·repeat rw [sq]
      refine pJ hF (fun x29 => [(2, .bl [.int .i64 0, .int .i64 0, .int .i64 0]), (7, .bl [.int .i64 z1.1.P, .int .i64 z1.1.Q, .int .i64 z1.1.G]), (9, .v (.sl true 2 (z1.2.2.1.map row_Cipher))), (12, .v (.int .i64 z2.1)), (13, .v (.sl true 2 (x22.2.map row_Cipher))), (68, .v (.bool x29))]) (fun x29 hF => ?_) fun _ hj27 hF => ?_
      ·repeat rw [sq]
       refine pJ hF (fun x34 => [(2, .bl [.int .i64 0, .int .i64 0, .int .i64 0]), (7, .bl [.int .i64 z1.1.P, .int .i64 z1.1.Q, .int .i64 z1.1.G]), (9, .v (.sl true 2 (z1.2.2.1.map row_Cipher))), (12, .v (.int .i64 z2.1)), (13, .v (.sl false 2 (x34.map row_Cipher)))]) (fun x34 hF => ?_) fun _ hj32 hF => ?_
       ·try simp [go_sem, g]
        refine pw_wkK [2, 3, 4, 5] (by simp [go_sem, g]; rfl) ?_
        cases hΦ _ (Rn_some hF)
        try simp [go_sem, g]
       ·repeat rw [sq]
        refine pI hF (fun h35 hF => ?_) (fun h35 hF => ?_)
        ·obtain ⟨g, hF⟩ := Rg g hF
         try simp [go_sem, g]
         exact pT (hj32 ((x22.2.take x22.2.length).drop 1)) (Rn_some hF)
        ·try simp [go_sem, g]
         refine pw_frz 13 (by simp [go_sem, g]; rfl) (by simp [go_sem]) ?_
         exact pT (hj32 x22.2) (Rn_some hF)
      ·try simp [go_sem, g]
       refine pwg_F hF (fun h30 hF => ?_) fun h30 hF => ?_
       ·try simp [go_sem, g, h30]
        refine pC hF [.io, .sh] c_spec_l1Cur_one__io0 (fun z31 hF => ?_)
        try simp [go_sem, g, h30]
        exact pT (hj27 z31.1) (Rn_some hF)
       ·try simp [go_sem, g, h30]
        exact pT (hj27 false) (Rn_some hF)
     ·repeat rw [sq]
      refine pI hF (fun h23 hF => ?_) (fun h23 hF => ?_)
      ·repeat rw [sq]
       refine pw_draw D74_8 follows (by kernel_rfl) rfl ?_
       try simp only [go_sem, D74_8]
       try simp [go_sem, g]
       try intros
       refine pC hF [.io, .sh] c_spec_l1Cur_pick__io0 (fun z24 hF => ?_)
       try simp [go_sem, g]
       refine pC hF [.io, .sh] c_spec_l1Cur_anyCipher__io0 (fun z25 hF => ?_)
       obtain ⟨x26, g, hF⟩ := Rx g hF
       try simp [go_sem, g]
       exact pT (hj20 ((z25.2.1, z25.2.2.1, z25.2.2.2), x11.1.set z24.1.toNat z25.1)) (Rn_some hF)
      ·try simp [go_sem, g]
       exact pT (hj20 ((x17.1.1, x17.1.2.1, x17.1.2.2), x11.1)) (Rn_some hF)
    ·try simp [go_sem, g]
     refine pwg_F hF (fun h18 hF => ?_) fun h18 hF => ?_
     ·try simp [go_sem, g, h18]
      refine pC hF [.io, .sh] c_spec_l1Cur_one__io0 (fun z19 hF => ?_)
      try simp [go_sem, g, h18]
      exact pT (hj15 ((z19.2.1, z19.2.2.1, z19.2.2.2), z19.1)) (Rn_some hF) (by first | (simp [go_sem, g]; done) | simp [go_sem, g, h18])
     ·try simp [go_sem, g, h18]
      exact pT (hj15 ((z2.2.1, z2.2.2.1, z2.2.2.2), false)) (Rn_some hF) (by first | (simp [go_sem, g]; done) | simp [go_sem, g, h18])
   ·repeat rw [sq]
    refine pI hF (fun h12 hF => ?_) (fun h12 hF => ?_)
    ·repeat rw [sq]
     refine pw_draw D74_6 follows (by kernel_rfl) rfl ?_
     try simp only [go_sem, D74_6]
     try simp [go_sem, g]
     refine pC hF [.sh, .sh, .sh] c_spec_gExp (fun z13 hF => ?_)
     try simp [go_sem, g]
     refine pC hF [.sh, .sh, .sh, .sh, .sh] c_spec_MixCiphers (fun z14 hF => ?_)
     try simp [go_sem, g]
     exact pT (hj9 (z14.1, z14.2)) (Rn_some hF)
    ·try simp [go_sem, g]
     exact pT (hj9 ([], false)) (Rn_some hF)
  ·try simp [go_sem, g]
   refine pC hF [.sh] c_spec_l2Good (fun z6 hF => ?_)
   try simp [go_sem, g]
   refine pwg_F hF (fun h7 hF => ?_) fun h7 hF => ?_
   ·try simp [go_sem, g, h7]
    refine pC hF [.sh, .sh] c_spec_gExps (fun z8 hF => ?_)
    try simp [go_sem, g, h7]
    exact pT (hj3 z8) (Rn_some hF)
   ·try simp [go_sem, g, h7]
    exact pT (hj3 false) (Rn_some hF)
def D22_4 : List DE := [⟨0, [6], [6], some 6, false, false, false⟩, ⟨1, [7], [], none, false, false, false⟩, ⟨2, [8], [], none, false, false, false⟩, ⟨3, [9], [], none, false, false, false⟩, ⟨4, [24, 25], [], none, false, false, false⟩, ⟨5, [2, 22], [2], some 2, false, false, false⟩, ⟨6, [23], [], none, false, false, false⟩, ⟨7, [26], [], none, false, false, false⟩]
noncomputable def F_spec_DrawEqualGroups (a0 : (List Int)) : Option (Group × Int × (List Cipher)) :=
  (F_spec_DrawSameMessages a0).bind fun z1 =>
  (F_spec_l1Cur_one__io0 a0 0 0 2).bind fun z2 =>
  if z2.1 = true then (
  gd ((z1.2.2.1.length + z1.2.2.2.length) * 16 ≤ 140737488355328 ∧ z1.2.2.1.length + z1.2.2.2.length ≤ 4611686018427387904) <|
  some (z1.1, z1.2.1, z1.2.2.1 ++ z1.2.2.2)) else (
  some (z1.1, z1.2.1, z1.2.2.1))
theorem c_spec_DrawEqualGroups : ∀ {a0} {r}, F_spec_DrawEqualGroups a0 = some r → PCalls Try.prog 22 [(.sh, .sl false 1 (a0.map row_u8))] (Eo (.tup [.agg [.int .i64 r.1.P, .int .i64 r.1.Q, .int .i64 r.1.G], .int .i64 r.2.1, .sl true 2 (r.2.2.map row_Cipher)]) [.junk]) := by
  intro a0 r hr
  apply pF 30 [] [] [12] [.cell 2 39, .tmp 3, .tmp 4] hr cl22 Try.func22
  intro Φ hΦ hF g
  unfold F_spec_DrawEqualGroups at hF
  iterate 2 (try simp [go_sem, g]; refine pw_wk ?_)
  try simp [go_sem, g]
  refine pC hF [.sh] c_spec_DrawSameMessages (fun z1 hF => ?_)
  try simp [go_sem, g]
  refine pw_wkK [2, 5, 6, 7, 8, 9] (by simp [go_sem, g]; rfl) ?_
  try simp [go_sem, g]
  refine pC hF [.io, .sh] c_spec_l1Cur_one__io0 (fun z2 hF => ?_)
  try simp [go_sem, g]
  refine pw_wk ?_
  repeat rw [sq]
  refine pI hF (fun h3 hF => ?_) (fun h3 hF => ?_)
  ·repeat rw [sq]
   refine pw_draw D22_4 follows (by kernel_rfl) rfl ?_
   try simp only [go_sem, D22_4]
   obtain ⟨g, hF⟩ := Rg g hF
   try simp [go_sem, g]
   refine pw_wkK [2, 3, 4] (by simp [go_sem, g]; rfl) ?_
   cases hΦ _ (Rn_some hF)
   try simp [go_sem, g]
  ·cases hΦ _ (Rn_some hF)
   iterate 2 (try simp [go_sem, g]; refine pw_wk ?_)
   try simp [go_sem, g]
noncomputable def F_impl_within (a0 : Int) (a1 : Int) (a2 : Int) : Option (Bool) :=
  ((if decide (a1 ≤ a0) = true then (
  some (decide (a0 ≤ a2))) else (
  some false) : Option (Bool)).bind fun x3 =>
  some x3)
theorem c_impl_within : ∀ {a0} {a1} {a2} {r}, F_impl_within a0 a1 a2 = some r → PCalls Try.prog 73 [(.sh, .int .i64 a0), (.sh, .int .i64 a1), (.sh, .int .i64 a2)] (Eo (.bool r) [.junk, .junk, .junk]) := by
  intro a0 a1 a2 r hr
  apply pF 15 [] [] [] [.tmp 6] hr cl73 Try.func73
  intro Φ hΦ hF g
  unfold F_impl_within at hF
  try simp [go_sem, g]
  refine pw_wk ?_
  repeat rw [sq]
  refine pJ hF (fun x3 => [(6, .v (.bool x3))]) (fun x3 hF => ?_) fun _ hj1 hF => ?_
  ·cases hΦ _ (Rn_some hF)
   try simp [go_sem, g]
  ·try simp [go_sem, g]
   refine pwg_F hF (fun h4 hF => ?_) fun h4 hF => ?_
   ·try simp [go_sem, g, h4]
    exact pT (hj1 (decide (a0 ≤ a2))) (Rn_some hF)
   ·try simp [go_sem, g, h4]
    exact pT (hj1 false) (Rn_some hF)
noncomputable def F_impl_isModulus (a0 : Int) : Option (Bool) :=
  (F_impl_within a0 2 2000000000).bind fun z1 =>
  some z1
theorem c_impl_isModulus : ∀ {a0} {r}, F_impl_isModulus a0 = some r → PCalls Try.prog 130 [(.sh, .int .i64 a0)] (Eo (.bool r) [.junk]) := by
  intro a0 r hr
  apply pF 5 [] [] [] [.tmp 2] hr cl130 Try.func130
  intro Φ hΦ hF g
  unfold F_impl_isModulus at hF
  try simp [go_sem, g]
  refine pw_wk ?_
  try simp [go_sem, g]
  refine pC hF [.sh, .sh, .sh] c_impl_within (fun z1 hF => ?_)
  cases hΦ _ (Rn_some hF)
  try simp [go_sem, g]
  refine pw_wk ?_
  try simp [go_sem, g]
noncomputable def F_impl_isPrime (a0 : Int) : Option (Bool) :=
  (((F_impl_isModulus a0).bind fun z4 =>
  if (!z4) = true then (
  some true) else (
  if ((a0.tmod 2) == 0) = true then (
  some (a0 != 2)) else (
  some false)) : Option (Bool)).bind fun x3 =>
  if x3 = true then (
  some false) else (
  ((wloop (σ := Int) (fun s11 =>
  if decide ((i64.wrap (s11 * s11)) ≤ a0) = true then (
  gd (s11 ≠ 0) <|
  if ((a0.tmod s11) == 0) = true then (
  some (.out (.inr false))) else (
  some (.go (i64.wrap (s11 + 2))))) else (
  some (.out (.inl ())))) 3 : Option (Unit ⊕ Bool)).bind (Sum.elim (fun x10 =>
  some true) some))))
theorem c_impl_isPrime : ∀ {a0} {r}, F_impl_isPrime a0 = some r → PCalls Try.prog 83 [(.sh, .int .i64 a0)] (Eo (.bool r) [.junk]) := by
  intro a0 r hr
  apply pF 27 [] [] [] [.tmp 2] hr cl83 Try.func83
  intro Φ hΦ hF g
  unfold F_impl_isPrime at hF
  try simp [go_sem, g]
  refine pw_wk ?_
  repeat rw [sq]
  refine pJ hF (fun x3 => [(0, .v (.int .i64 a0)), (15, .v (.bool x3))]) (fun x3 hF => ?_) fun _ hj1 hF => ?_
  ·repeat rw [sq]
   refine pI hF (fun h7 hF => ?_) (fun h7 hF => ?_)
   ·cases hΦ _ (Rn_some hF)
    try simp [go_sem, g]
    refine pw_wk ?_
    try simp [go_sem, g]
   ·iterate 2 (try simp [go_sem, g]; refine pw_wk ?_)
    repeat rw [sq]
    refine pJs hF (fun x10 => []) (fun x10 hF => ?_) fun _ hj8 hr9 hF => ?_
    ·cases hΦ _ (Rn_some hF)
     try simp [go_sem, g]
     refine pw_wk ?_
     try simp [go_sem, g]
    ·repeat rw [sq]
     rw [pw_block]
     obtain ⟨b18, hb19, hψ15⟩ := hF
     refine pL hb19 (fun s11 => [(0, .v (.int .i64 a0)), (3, .v (.int .i64 s11))]) (fun s11 _ _ ho13 hg14 hF => ?_)
     try simp [go_sem, g]
     refine pw_wk ?_
     repeat rw [sq]
     refine pI hF (fun h16 hF => ?_) (fun h16 hF => ?_)
     ·try simp [go_sem, g]
      refine pw_wk ?_
      repeat rw [sq]
      rw [pw_block]
      obtain ⟨g, hF⟩ := Rz g hF
      try simp [go_sem, g]
      refine pw_wkK [0, 3, 26] (by simp [go_sem, g]; rfl) ?_
      repeat rw [sq]
      refine pI hF (fun h17 hF => ?_) (fun h17 hF => ?_)
      ·cases ho13 _ (Rn_some hF)
       cases hΦ _ (hr9 _ hψ15)
       try simp [go_sem, g]
       refine pw_wk ?_
       try simp [go_sem, g]
      ·try simp [go_sem, g]
       refine pw_wk ?_
       try simp [go_sem, g]
       exact pT (hg14 (i64.wrap (s11 + 2))) (Rn_some hF)
     ·try simp [go_sem, g]
      cases ho13 _ (Rn_some hF)
      exact pT (hj8 ()) hψ15
  ·try simp [go_sem, g]
   refine pC hF [.sh] c_impl_isModulus (fun z4 hF => ?_)
   try simp [go_sem, g]
   refine pwg_F hF (fun h5 hF => ?_) fun h5 hF => ?_
   ·try simp [go_sem, g, h5]
    exact pT (hj1 true) (Rn_some hF)
   ·have g := Ld g 2
    try simp [go_sem, g, h5]
    refine pwg_F hF (fun h6 hF => ?_) fun h6 hF => ?_
    ·try simp [go_sem, g, h6, h5]
     exact pT (hj1 (a0 != 2)) (Rn_some hF)
    ·try simp [go_sem, g, h6, h5]
     exact pT (hj1 false) (Rn_some hF)
noncomputable def F_impl_power (a0 : Int) (a1 : Int) (a2 : Int) : Option (Int) :=
  gd (a2 ≠ 0) <|
  ((wloop (σ := Int × Int × Int) (fun s4 =>
  if decide (0 < s4.2.1) = true then (
  ((if ((i64.wrap ((BitVec.ofInt i64.bits s4.2.1 &&& BitVec.ofInt i64.bits 1).toNat)) == 1) = true then (
  gd (a2 ≠ 0) <|
  some ((i64.wrap (s4.2.2 * s4.1)).tmod a2)) else (
  some s4.2.2) : Option (Int)).bind fun x12 =>
  gd (a2 ≠ 0) <|
  some (.go ((i64.wrap (s4.1 * s4.1)).tmod a2, s4.2.1.fdiv 2, x12)))) else (
  some (.out s4.2.2))) (a0, a1, (1 : Int).tmod a2) : Option (Int)).bind fun x3 =>
  some x3)
theorem c_impl_power : ∀ {a0} {a1} {a2} {r}, F_impl_power a0 a1 a2 = some r → PCalls Try.prog 117 [(.sh, .int .i64 a0), (.sh, .int .i64 a1), (.sh, .int .i64 a2)] (Eo (.int .i64 r) [.junk, .junk, .junk]) := by
  intro a0 a1 a2 r hr
  apply pF 28 [] [] [] [.tmp 6] hr cl117 Try.func117
  intro Φ hΦ hF g
  unfold F_impl_power at hF
  obtain ⟨g, hF⟩ := Rz g hF
  iterate 2 (try simp [go_sem, g]; refine pw_wk ?_)
  repeat rw [sq]
  refine pJ hF (fun x3 => [(7, .v (.int .i64 x3))]) (fun x3 hF => ?_) fun _ hj1 hF => ?_
  ·cases hΦ _ (Rn_some hF)
   try simp [go_sem, g]
   refine pw_wk ?_
   try simp [go_sem, g]
  ·repeat rw [sq]
   rw [pw_block]
   obtain ⟨b14, hb15, hψ8⟩ := hF
   refine pL hb15 (fun s4 => [(0, .v (.int .i64 s4.1)), (1, .v (.int .i64 s4.2.1)), (2, .v (.int .i64 a2)), (7, .v (.int .i64 s4.2.2))]) (fun s4 _ _ ho6 hg7 hF => ?_)
   try simp [go_sem, g]
   refine pw_wk ?_
   repeat rw [sq]
   refine pI hF (fun h9 hF => ?_) (fun h9 hF => ?_)
   ·try simp [go_sem, g]
    refine pw_wk ?_
    repeat rw [sq]
    rw [pw_block]
    try simp [go_sem, g]
    refine pw_wk ?_
    repeat rw [sq]
    refine pJ hF (fun x12 => [(0, .v (.int .i64 s4.1)), (1, .v (.int .i64 s4.2.1)), (2, .v (.int .i64 a2)), (7, .v (.int .i64 x12))]) (fun x12 hF => ?_) fun _ hj10 hF => ?_
    ·obtain ⟨g, hF⟩ := Rz g hF
     try simp [go_sem, g]
     refine pw_wkK [0, 1, 2, 7] (by simp [go_sem, g]; rfl) ?_
     have g := Ls g 1
     try simp [go_sem, g]
     exact pT (hg7 ((i64.wrap (s4.1 * s4.1)).tmod a2, s4.2.1.fdiv 2, x12)) (Rn_some hF)
    ·repeat rw [sq]
     refine pI hF (fun h13 hF => ?_) (fun h13 hF => ?_)
     ·obtain ⟨g, hF⟩ := Rz g hF
      try simp [go_sem, g]
      exact pT (hj10 ((i64.wrap (s4.2.2 * s4.1)).tmod a2)) (Rn_some hF)
     ·try simp [go_sem, g]
      exact pT (hj10 s4.2.2) (Rn_some hF)
   ·try simp [go_sem, g]
    cases ho6 _ (Rn_some hF)
    exact pT (hj1 s4.2.2) hψ8
noncomputable def F_impl_IsValidGroup (a0 : Group) : Option (Bool) :=
  (((F_impl_within a0.P 3 2000000000).bind fun z4 =>
  if z4 = true then (
  (F_impl_within a0.Q 2 (i64.wrap (a0.P - 1))).bind fun z6 =>
  if z6 = true then (
  gd (a0.Q ≠ 0) <|
  if (((i64.wrap (a0.P - 1)).tmod a0.Q) == 0) = true then (
  (F_impl_within a0.G 2 (i64.wrap (a0.P - 1))).bind fun z9 =>
  if z9 = true then (
  (F_impl_isPrime a0.P).bind fun z11 =>
  if z11 = true then (
  (F_impl_isPrime a0.Q).bind fun z13 =>
  if z13 = true then (
  (F_impl_power a0.G a0.Q a0.P).bind fun z15 =>
  some (z15 == 1)) else (
  some false)) else (
  some false)) else (
  some false)) else (
  some false)) else (
  some false)) else (
  some false) : Option (Bool)).bind fun x3 =>
  some x3)
theorem c_impl_IsValidGroup : ∀ {a0} {r}, F_impl_IsValidGroup a0 = some r → PCalls Try.prog 75 [(.sh, .agg [.int .i64 a0.P, .int .i64 a0.Q, .int .i64 a0.G])] (Eo (.bool r) [.junk]) := by
  intro a0 r hr
  apply pF 51 [] [] [] [.tmp 2] hr cl75 Try.func75
  intro Φ hΦ hF g
  unfold F_impl_IsValidGroup at hF
  try simp [go_sem, g]
  refine pw_wk ?_
  repeat rw [sq]
  refine pJ hF (fun x3 => [(2, .v (.bool x3))]) (fun x3 hF => ?_) fun _ hj1 hF => ?_
  ·cases hΦ _ (Rn_some hF)
   try simp [go_sem, g]
  ·try simp [go_sem, g]
   refine pC hF [.sh, .sh, .sh] c_impl_within (fun z4 hF => ?_)
   try simp [go_sem, g]
   refine pwg_F hF (fun h5 hF => ?_) fun h5 hF => ?_
   ·try simp [go_sem, g, h5]
    refine pC hF [.sh, .sh, .sh] c_impl_within (fun z6 hF => ?_)
    try simp [go_sem, g, h5]
    refine pwg_F hF (fun h7 hF => ?_) fun h7 hF => ?_
    ·obtain ⟨g, hF⟩ := Rz g hF
     try simp [go_sem, g, h7]
     refine pwg_F hF (fun h8 hF => ?_) fun h8 hF => ?_
     ·try simp [go_sem, g, h8]
      refine pC hF [.sh, .sh, .sh] c_impl_within (fun z9 hF => ?_)
      try simp [go_sem, g, h8]
      refine pwg_F hF (fun h10 hF => ?_) fun h10 hF => ?_
      ·try simp [go_sem, g, h10]
       refine pC hF [.sh] c_impl_isPrime (fun z11 hF => ?_)
       try simp [go_sem, g, h10]
       refine pwg_F hF (fun h12 hF => ?_) fun h12 hF => ?_
       ·try simp [go_sem, g, h12]
        refine pC hF [.sh] c_impl_isPrime (fun z13 hF => ?_)
        try simp [go_sem, g, h12]
        refine pwg_F hF (fun h14 hF => ?_) fun h14 hF => ?_
        ·try simp [go_sem, g, h14]
         refine pC hF [.sh, .sh, .sh] c_impl_power (fun z15 hF => ?_)
         try simp [go_sem, g, h14]
         exact pT (hj1 (z15 == 1)) (Rn_some hF)
        ·try simp [go_sem, g, h14]
         exact pT (hj1 false) (Rn_some hF)
       ·try simp [go_sem, g, h12]
        exact pT (hj1 false) (Rn_some hF)
      ·try simp [go_sem, g, h10]
       exact pT (hj1 false) (Rn_some hF)
     ·try simp [go_sem, g, h8]
      exact pT (hj1 false) (Rn_some hF)
    ·try simp [go_sem, g, h7]
     exact pT (hj1 false) (Rn_some hF)
   ·try simp [go_sem, g, h5]
    exact pT (hj1 false) (Rn_some hF)
noncomputable def F_impl_Group_isExp (a0 : Group) (a1 : Int) : Option (Bool) :=
  (F_impl_within a1 0 (i64.wrap (a0.Q - 1))).bind fun z1 =>
  some z1
theorem c_impl_Group_isExp : ∀ {a0} {a1} {r}, F_impl_Group_isExp a0 a1 = some r → PCalls Try.prog 66 [(.sh, .agg [.int .i64 a0.P, .int .i64 a0.Q, .int .i64 a0.G]), (.sh, .int .i64 a1)] (Eo (.bool r) [.junk, .junk]) := by
  intro a0 a1 r hr
  apply pF 10 [] [] [] [.tmp 4] hr cl66 Try.func66
  intro Φ hΦ hF g
  unfold F_impl_Group_isExp at hF
  try simp [go_sem, g]
  refine pw_wk ?_
  try simp [go_sem, g]
  refine pC hF [.sh, .sh, .sh] c_impl_within (fun z1 hF => ?_)
  cases hΦ _ (Rn_some hF)
  try simp [go_sem, g]
  refine pw_wk ?_
  try simp [go_sem, g]
noncomputable def F_impl_Group_has (a0 : Group) (a1 : Int) : Option (Bool) :=
  (((F_impl_within a1 1 (i64.wrap (a0.P - 1))).bind fun z4 =>
  if z4 = true then (
  (F_impl_power a1 a0.Q a0.P).bind fun z6 =>
  some (z6 == 1)) else (
  some false) : Option (Bool)).bind fun x3 =>
  some x3)
theorem c_impl_Group_has : ∀ {a0} {a1} {r}, F_impl_Group_has a0 a1 = some r → PCalls Try.prog 65 [(.sh, .agg [.int .i64 a0.P, .int .i64 a0.Q, .int .i64 a0.G]), (.sh, .int .i64 a1)] (Eo (.bool r) [.junk, .junk]) := by
  intro a0 a1 r hr
  apply pF 19 [] [] [] [.tmp 4] hr cl65 Try.func65
  intro Φ hΦ hF g
  unfold F_impl_Group_has at hF
  try simp [go_sem, g]
  refine pw_wk ?_
  repeat rw [sq]
  refine pJ hF (fun x3 => [(4, .v (.bool x3))]) (fun x3 hF => ?_) fun _ hj1 hF => ?_
  ·cases hΦ _ (Rn_some hF)
   try simp [go_sem, g]
  ·try simp [go_sem, g]
   refine pC hF [.sh, .sh, .sh] c_impl_within (fun z4 hF => ?_)
   try simp [go_sem, g]
   refine pwg_F hF (fun h5 hF => ?_) fun h5 hF => ?_
   ·try simp [go_sem, g, h5]
    refine pC hF [.sh, .sh, .sh] c_impl_power (fun z6 hF => ?_)
    try simp [go_sem, g, h5]
    exact pT (hj1 (z6 == 1)) (Rn_some hF)
   ·try simp [go_sem, g, h5]
    exact pT (hj1 false) (Rn_some hF)
noncomputable def F_impl_Group_hasCipher (a0 : Group) (a1 : Cipher) : Option (Bool) :=
  (((F_impl_Group_has a0 a1.A).bind fun z4 =>
  if z4 = true then (
  (F_impl_Group_has a0 a1.B).bind fun z6 =>
  some z6) else (
  some false) : Option (Bool)).bind fun x3 =>
  some x3)
theorem c_impl_Group_hasCipher : ∀ {a0} {a1} {r}, F_impl_Group_hasCipher a0 a1 = some r → PCalls Try.prog 86 [(.sh, .agg [.int .i64 a0.P, .int .i64 a0.Q, .int .i64 a0.G]), (.sh, .agg [.int .i64 a1.A, .int .i64 a1.B])] (Eo (.bool r) [.junk, .junk]) := by
  intro a0 a1 r hr
  apply pF 15 [] [] [] [.tmp 4] hr cl86 Try.func86
  intro Φ hΦ hF g
  unfold F_impl_Group_hasCipher at hF
  try simp [go_sem, g]
  refine pw_wk ?_
  repeat rw [sq]
  refine pJ hF (fun x3 => [(4, .v (.bool x3))]) (fun x3 hF => ?_) fun _ hj1 hF => ?_
  ·cases hΦ _ (Rn_some hF)
   try simp [go_sem, g]
  ·try simp [go_sem, g]
   refine pC hF [.sh, .sh] c_impl_Group_has (fun z4 hF => ?_)
   try simp [go_sem, g]
   refine pwg_F hF (fun h5 hF => ?_) fun h5 hF => ?_
   ·try simp [go_sem, g, h5]
    refine pC hF [.sh, .sh] c_impl_Group_has (fun z6 hF => ?_)
    try simp [go_sem, g, h5]
    exact pT (hj1 z6) (Rn_some hF)
   ·try simp [go_sem, g, h5]
    exact pT (hj1 false) (Rn_some hF)
noncomputable def F_impl_Group_hasCiphers_1_ (a0 : Cipher) (a1c0 : Int) (a1c1 : Int) (a1c2 : Int) : Option (Bool) :=
  (F_impl_Group_hasCipher (Group.mk a1c0 a1c1 a1c2) a0).bind fun z1 =>
  some (!z1)
theorem c_impl_Group_hasCiphers_1_ : ∀ {a0} {a1c0} {a1c1} {a1c2} {r}, F_impl_Group_hasCiphers_1_ a0 a1c0 a1c1 a1c2 = some r → PCalls Try.prog 127 [(.sh, .agg [.int .i64 a0.A, .int .i64 a0.B]), (.sh, .fp [.int .i64 a1c0, .int .i64 a1c1, .int .i64 a1c2])] (Eo (.bool r) [.junk, .junk]) := by
  intro a0 a1c0 a1c1 a1c2 r hr
  apply pF 8 [] [] [] [.tmp 3] hr cl127 Try.func127
  intro Φ hΦ hF g
  unfold F_impl_Group_hasCiphers_1_ at hF
  try simp [go_sem, g]
  refine pw_wk ?_
  try simp [go_sem, g]
  refine pC hF [.sh, .sh] c_impl_Group_hasCipher (fun z1 hF => ?_)
  cases hΦ _ (Rn_some hF)
  try simp [go_sem, g]
  refine pw_wk ?_
  try simp [go_sem, g]
noncomputable def F_slices_IndexFunc_impl_Cipher_impl_Cipher__impl_Group_hasCiphers_1 (a0 : (List Cipher)) (a1u0c0 : Int) (a1u0c1 : Int) (a1u0c2 : Int) : Option (Int) :=
  ((rloop (σ := Unit) (fun i5 s4 =>
  (ix a0 i5).bind fun x11 =>
  (F_impl_Group_hasCiphers_1_ x11 a1u0c0 a1u0c1 a1u0c2).bind fun z12 =>
  if z12 = true then (
  some (.out (.inr i5))) else (
  some (.go ()))) (fun s4 => .inl ()) (a0.length) 0 () : Option (Unit ⊕ Int)).bind (Sum.elim (fun x3 =>
  some (-1)) some))
theorem c_slices_IndexFunc_impl_Cipher_impl_Cipher__impl_Group_hasCiphers_1 : ∀ {a0} {a1u0c0} {a1u0c1} {a1u0c2} {r}, F_slices_IndexFunc_impl_Cipher_impl_Cipher__impl_Group_hasCiphers_1 a0 a1u0c0 a1u0c1 a1u0c2 = some r → PCalls Try.prog 160 [(.sh, .sl false 2 (a0.map row_Cipher)), (.sh, .func (.func 127) [] [.fp [.int .i64 a1u0c0, .int .i64 a1u0c1, .int .i64 a1u0c2]])] (Eo (.int .i64 r) [.junk, .junk]) := by
  intro a0 a1u0c0 a1u0c1 a1u0c2 r hr
  apply pF 19 [] [] [] [.tmp 4] hr cl160 Try.func160
  intro Φ hΦ hF g
  unfold F_slices_IndexFunc_impl_Cipher_impl_Cipher__impl_Group_hasCiphers_1 at hF
  iterate 2 (try simp [go_sem, g]; try intros; refine pw_wk ?_)
  repeat rw [sq]
  refine pJs hF (fun x3 => []) (fun x3 hF => ?_) fun _ hj1 hr2 hF => ?_
  ·cases hΦ _ (Rn_some hF)
   try simp [go_sem, g]
   refine pw_wk ?_
   try simp [go_sem, g]
  ·repeat rw [sq]
   rw [pw_block]
   obtain ⟨b14, hb15, hψ8⟩ := hF
   refine pR hb15 (fun i5 s4 => [(0, .v (.sl false 2 (a0.map row_Cipher))), (1, .v (.func (.func 127) [] [.fp [.int .i64 a1u0c0, .int .i64 a1u0c1, .int .i64 a1u0c2]])), (7, .v (.int .i64 (a0.length : Int))), (8, .v (.int .i64 i5))]) (fun s4 _ hN16 => ?_) (fun i5 s4 _ _ hi9 hi10 ho6 hg7 hF => ?_)
   ·subst hN16
    try simp [go_sem]
    refine pw_wk ?_
    repeat rw [sq]
    refine pw_cond_f (by simp [go_sem]) ?_
    try simp [go_sem]
    exact pT (hj1 ()) hψ8 (by simp [go_sem])
   ·try simp [go_sem, g]
    refine pw_wk ?_
    repeat rw [sq]
    refine pw_cond_t (by simp [go_sem, g, hi9, hi10]) ?_
    try simp [go_sem, g]
    refine pw_wk ?_
    repeat rw [sq]
    rw [pw_block]
    obtain ⟨x11, g, hF⟩ := Rx g hF
    try simp [go_sem, g]
    refine pw_wk ?_
    try simp [go_sem, g]
    refine pC hF [.sh] c_impl_Group_hasCiphers_1_ (fun z12 hF => ?_)
    try simp [go_sem, g]
    refine pw_wkK [0, 1, 5, 7, 8, 16] (by simp [go_sem, g]; rfl) ?_
    repeat rw [sq]
    refine pI hF (fun h13 hF => ?_) (fun h13 hF => ?_)
    ·cases ho6 _ (Rn_some hF)
     cases hΦ _ (hr2 _ hψ8)
     try simp [go_sem, g]
     refine pw_wk ?_
     try simp [go_sem, g]
    ·try simp [go_sem, g]
     refine pw_wk ?_
     try simp [go_sem, g]
     exact pT (hg7 ()) (Rn_some hF) (by simp [go_sem, g, wr_i hi9 hi10 (by assumption)])
noncomputable def F_slices_ContainsFunc_impl_Cipher_impl_Cipher__impl_Group_hasCiphers_1 (a0 : (List Cipher)) (a1u0c0 : Int) (a1u0c1 : Int) (a1u0c2 : Int) : Option (Bool) :=
  (F_slices_IndexFunc_impl_Cipher_impl_Cipher__impl_Group_hasCiphers_1 a0 a1u0c0 a1u0c1 a1u0c2).bind fun z1 =>
  some (decide (0 ≤ z1))
theorem c_slices_ContainsFunc_impl_Cipher_impl_Cipher__impl_Group_hasCiphers_1 : ∀ {a0} {a1u0c0} {a1u0c1} {a1u0c2} {r}, F_slices_ContainsFunc_impl_Cipher_impl_Cipher__impl_Group_hasCiphers_1 a0 a1u0c0 a1u0c1 a1u0c2 = some r → PCalls Try.prog 126 [(.sh, .sl false 2 (a0.map row_Cipher)), (.sh, .func (.func 127) [] [.fp [.int .i64 a1u0c0, .int .i64 a1u0c1, .int .i64 a1u0c2]])] (Eo (.bool r) [.junk, .junk]) := by
  intro a0 a1u0c0 a1u0c1 a1u0c2 r hr
  apply pF 9 [] [] [] [.tmp 4] hr cl126 Try.func126
  intro Φ hΦ hF g
  unfold F_slices_ContainsFunc_impl_Cipher_impl_Cipher__impl_Group_hasCiphers_1 at hF
  try simp [go_sem, g]
  refine pw_wk ?_
  try simp [go_sem, g]
  refine pC hF [.sh, .sh] c_slices_IndexFunc_impl_Cipher_impl_Cipher__impl_Group_hasCiphers_1 (fun z1 hF => ?_)
  cases hΦ _ (Rn_some hF)
  try simp [go_sem, g]
  refine pw_wk ?_
  try simp [go_sem, g]
noncomputable def F_impl_Group_hasCiphers (a0 : Group) (a1 : (List Cipher)) : Option (Bool) :=
  ((if decide ((a1.length : Int) ≤ 24) = true then (
  (F_slices_ContainsFunc_impl_Cipher_impl_Cipher__impl_Group_hasCiphers_1 a1 a0.P a0.Q a0.G).bind fun z5 =>
  some (!z5)) else (
  some false) : Option (Bool)).bind fun x3 =>
  some x3)
theorem c_impl_Group_hasCiphers : ∀ {a0} {a1} {r}, F_impl_Group_hasCiphers a0 a1 = some r → PCalls Try.prog 76 [(.sh, .agg [.int .i64 a0.P, .int .i64 a0.Q, .int .i64 a0.G]), (.sh, .sl false 2 (a1.map row_Cipher))] (Eo (.bool r) [.junk, .junk]) := by
  intro a0 a1 r hr
  apply pF 14 [] [] [1000000] [.tmp 4] hr cl76 Try.func76
  intro Φ hΦ hF g
  unfold F_impl_Group_hasCiphers at hF
  try simp [go_sem, g]
  refine pw_wk ?_
  repeat rw [sq]
  refine pJ hF (fun x3 => [(4, .v (.bool x3))]) (fun x3 hF => ?_) fun _ hj1 hF => ?_
  ·cases hΦ _ (Rn_some hF)
   try simp [go_sem, g]
  ·try simp [go_sem, g]
   try intros
   refine pwg_F hF (fun h4 hF => ?_) fun h4 hF => ?_
   ·try simp [go_sem, g, h4]
    refine pC hF [.sh, .sh] c_slices_ContainsFunc_impl_Cipher_impl_Cipher__impl_Group_hasCiphers_1 (fun z5 hF => ?_)
    try simp [go_sem, g, h4]
    exact pT (hj1 (!z5)) (Rn_some hF)
   ·try simp [go_sem, g, h4]
    exact pT (hj1 false) (Rn_some hF)
noncomputable def F_impl_mod (a0 : Int) (a1 : Int) : Option (Int) :=
  gd (a1 ≠ 0) <|
  gd (a1 ≠ 0) <|
  some ((i64.wrap ((a0.tmod a1) + a1)).tmod a1)
theorem c_impl_mod : ∀ {a0} {a1} {r}, F_impl_mod a0 a1 = some r → PCalls Try.prog 118 [(.sh, .int .i64 a0), (.sh, .int .i64 a1)] (Eo (.int .i64 r) [.junk, .junk]) := by
  intro a0 a1 r hr
  apply pF 12 [] [] [] [.tmp 4] hr cl118 Try.func118
  intro Φ hΦ hF g
  unfold F_impl_mod at hF
  obtain ⟨g, hF⟩ := Rz g hF
  obtain ⟨g, hF⟩ := Rz g hF
  cases hΦ _ (Rn_some hF)
  iterate 2 (try simp [go_sem, g]; refine pw_wk ?_)
  try simp [go_sem, g]
def D68_1 : List DE := [⟨0, [1], [], none, false, false, false⟩, ⟨1, [2], [], none, false, false, false⟩, ⟨2, [3], [3], none, false, false, false⟩, ⟨3, [9], [3], some 9, false, false, false⟩, ⟨5, [3], [3], none, false, false, false⟩, ⟨6, [12], [3], some 12, false, false, false⟩, ⟨4, [8, 10], [], none, false, true, true⟩, ⟨7, [7, 11, 13], [], none, false, true, true⟩, ⟨8, [14], [], none, false, false, false⟩]
noncomputable def F_impl_Group_pow (a0 : Group) (a1 : Int) (a2 : Int) : Option (Int) :=
  (F_impl_mod a2 a0.Q).bind fun z1 =>
  (F_impl_power a1 z1 a0.P).bind fun z2 =>
  some z2
theorem c_impl_Group_pow : ∀ {a0} {a1} {a2} {r}, F_impl_Group_pow a0 a1 a2 = some r → PCalls Try.prog 68 [(.sh, .agg [.int .i64 a0.P, .int .i64 a0.Q, .int .i64 a0.G]), (.sh, .int .i64 a1), (.sh, .int .i64 a2)] (Eo (.int .i64 r) [.junk, .junk, .junk]) := by
  intro a0 a1 a2 r hr
  apply pF 15 [] [] [] [.tmp 6] hr cl68 Try.func68
  intro Φ hΦ hF g
  unfold F_impl_Group_pow at hF
  try simp [go_sem, g]
  refine pw_wk ?_
  repeat rw [sq]
  refine pw_draw D68_1 follows (by kernel_rfl) rfl ?_
  try simp only [go_sem, D68_1]
  try simp [go_sem, g]
  refine pC hF [.sh, .sh] c_impl_mod (fun z1 hF => ?_)
  try simp [go_sem, g]
  refine pC hF [.sh, .sh, .sh] c_impl_power (fun z2 hF => ?_)
  try simp [go_sem, g]
  refine pw_wkK [6] (by simp [go_sem, g]; rfl) ?_
  cases hΦ _ (Rn_some hF)
  try simp [go_sem, g]
noncomputable def F_impl_Group_inv (a0 : Group) (a1 : Int) : Option (Int) :=
  (F_impl_Group_pow a0 a1 (-1)).bind fun z1 =>
  some z1
theorem c_impl_Group_inv : ∀ {a0} {a1} {r}, F_impl_Group_inv a0 a1 = some r → PCalls Try.prog 128 [(.sh, .agg [.int .i64 a0.P, .int .i64 a0.Q, .int .i64 a0.G]), (.sh, .int .i64 a1)] (Eo (.int .i64 r) [.junk, .junk]) := by
  intro a0 a1 r hr
  apply pF 8 [] [] [] [.tmp 4] hr cl128 Try.func128
  intro Φ hΦ hF g
  unfold F_impl_Group_inv at hF
  try simp [go_sem, g]
  refine pw_wk ?_
  try simp [go_sem, g]
  refine pC hF [.sh, .sh, .sh] c_impl_Group_pow (fun z1 hF => ?_)
  cases hΦ _ (Rn_some hF)
  try simp [go_sem, g]
  refine pw_wk ?_
  try simp [go_sem, g]
noncomputable def F_impl_Group_mul (a0 : Group) (a1 : (List Int)) : Option (Int) :=
  ((rloop (σ := Int) (fun i5 s4 =>
  (ix a1 i5).bind fun x11 =>
  gd (a0.P ≠ 0) <|
  some (.go ((i64.wrap (s4 * x11)).tmod a0.P))) (fun s4 => s4) (a1.length) 0 1 : Option (Int)).bind fun x3 =>
  some x3)
theorem c_impl_Group_mul : ∀ {a0} {a1} {r}, F_impl_Group_mul a0 a1 = some r → PCalls Try.prog 67 [(.sh, .agg [.int .i64 a0.P, .int .i64 a0.Q, .int .i64 a0.G]), (.sh, .sl false 1 (a1.map row_i64))] (Eo (.int .i64 r) [.junk, .junk]) := by
  intro a0 a1 r hr
  apply pF 22 [] [] [] [.tmp 4] hr cl67 Try.func67
  intro Φ hΦ hF g
  unfold F_impl_Group_mul at hF
  iterate 3 (try simp [go_sem, g]; try intros; refine pw_wk ?_)
  repeat rw [sq]
  refine pJ hF (fun x3 => [(5, .v (.int .i64 x3))]) (fun x3 hF => ?_) fun _ hj1 hF => ?_
  ·cases hΦ _ (Rn_some hF)
   try simp [go_sem, g]
   refine pw_wk ?_
   try simp [go_sem, g]
  ·repeat rw [sq]
   rw [pw_block]
   obtain ⟨b12, hb13, hψ8⟩ := hF
   refine pR hb13 (fun i5 s4 => [(2, .bl [.int .i64 a0.P, .int .i64 a0.Q, .int .i64 a0.G]), (5, .v (.int .i64 s4)), (8, .v (.sl false 1 (a1.map row_i64))), (9, .v (.int .i64 (a1.length : Int))), (10, .v (.int .i64 i5))]) (fun s4 _ hN14 => ?_) (fun i5 s4 _ _ hi9 hi10 ho6 hg7 hF => ?_)
   ·subst hN14
    try simp [go_sem]
    refine pw_wk ?_
    repeat rw [sq]
    refine pw_cond_f (by simp [go_sem]) ?_
    try simp [go_sem]
    exact pT (hj1 s4) hψ8 (by simp [go_sem])
   ·try simp [go_sem, g]
    refine pw_wk ?_
    repeat rw [sq]
    refine pw_cond_t (by simp [go_sem, g, hi9, hi10]) ?_
    try simp [go_sem, g]
    refine pw_wk ?_
    repeat rw [sq]
    rw [pw_block]
    obtain ⟨x11, g, hF⟩ := Rx g hF
    try simp [go_sem, g]
    refine pw_wkK [2, 5, 7, 8, 9, 10] (by simp [go_sem, g]; rfl) ?_
    obtain ⟨g, hF⟩ := Rz g hF
    try simp [go_sem, g]
    refine pw_wk ?_
    try simp [go_sem, g]
    exact pT (hg7 ((i64.wrap (s4 * x11)).tmod a0.P)) (Rn_some hF) (by simp [go_sem, g, wr_i hi9 hi10 (by assumption)])
def D77_1 : List DE := [⟨0, [3], [3], some 3, false, false, false⟩, ⟨1, [5], [5], none, false, false, false⟩, ⟨2, [8], [5], some 8, false, false, false⟩, ⟨3, [3], [3], some 3, false, false, false⟩, ⟨4, [3], [3], some 3, false, false, false⟩, ⟨5, [5], [5], none, false, false, false⟩, ⟨6, [12], [5], some 12, false, false, false⟩, ⟨7, [1], [], none, false, false, false⟩, ⟨8, [11, 13, 14], [], none, false, true, true⟩, ⟨9, [10, 15], [], none, false, true, true⟩, ⟨10, [9, 16], [], none, false, false, false⟩, ⟨11, [7, 17], [], none, true, true, true⟩, ⟨12, [18], [], none, false, false, false⟩]
noncomputable def F_impl_Group_decrypt (a0 : Group) (a1 : Int) (a2 : Cipher) : Option (Int) :=
  (F_impl_Group_pow a0 a2.A a1).bind fun z1 =>
  (F_impl_Group_inv a0 z1).bind fun z2 =>
  (F_impl_Group_mul a0 [a2.B, z2]).bind fun z3 =>
  some z3
theorem c_impl_Group_decrypt : ∀ {a0} {a1} {a2} {r}, F_impl_Group_decrypt a0 a1 a2 = some r → PCalls Try.prog 77 [(.sh, .agg [.int .i64 a0.P, .int .i64 a0.Q, .int .i64 a0.G]), (.sh, .int .i64 a1), (.sh, .agg [.int .i64 a2.A, .int .i64 a2.B])] (Eo (.int .i64 r) [.junk, .junk, .junk]) := by
  intro a0 a1 a2 r hr
  apply pF 19 [] [] [] [.tmp 6] hr cl77 Try.func77
  intro Φ hΦ hF g
  unfold F_impl_Group_decrypt at hF
  try simp [go_sem, g]
  refine pw_wk ?_
  repeat rw [sq]
  refine pw_draw D77_1 follows (by kernel_rfl) rfl ?_
  try simp only [go_sem, D77_1]
  try simp [go_sem, g]
  refine pC hF [.sh, .sh, .sh] c_impl_Group_pow (fun z1 hF => ?_)
  try simp [go_sem, g]
  refine pC hF [.sh, .sh] c_impl_Group_inv (fun z2 hF => ?_)
  try simp [go_sem, g]
  refine pC hF [.sh, .sh] c_impl_Group_mul (fun z3 hF => ?_)
  try simp [go_sem, g]
  refine pw_wkK [6] (by simp [go_sem, g]; rfl) ?_
  cases hΦ _ (Rn_some hF)
  try simp [go_sem, g]
noncomputable def F_slices_Index_int_int (a0 : (List Int)) (a1 : Int) : Option (Int) :=
  ((rloop (σ := Unit) (fun i5 s4 =>
  (ix a0 i5).bind fun x11 =>
  if (a1 == x11) = true then (
  some (.out (.inr i5))) else (
  some (.go ()))) (fun s4 => .inl ()) (a0.length) 0 () : Option (Unit ⊕ Int)).bind (Sum.elim (fun x3 =>
  some (-1)) some))
theorem c_slices_Index_int_int : ∀ {a0} {a1} {r}, F_slices_Index_int_int a0 a1 = some r → PCalls Try.prog 78 [(.sh, .sl false 1 (a0.map row_i64)), (.sh, .int .i64 a1)] (Eo (.int .i64 r) [.junk, .junk]) := by
  intro a0 a1 r hr
  apply pF 19 [] [] [] [.tmp 4] hr cl78 Try.func78
  intro Φ hΦ hF g
  unfold F_slices_Index_int_int at hF
  iterate 2 (try simp [go_sem, g]; try intros; refine pw_wk ?_)
  repeat rw [sq]
  refine pJs hF (fun x3 => []) (fun x3 hF => ?_) fun _ hj1 hr2 hF => ?_
  ·cases hΦ _ (Rn_some hF)
   try simp [go_sem, g]
   refine pw_wk ?_
   try simp [go_sem, g]
  ·repeat rw [sq]
   rw [pw_block]
   obtain ⟨b13, hb14, hψ8⟩ := hF
   refine pR hb14 (fun i5 s4 => [(0, .v (.sl false 1 (a0.map row_i64))), (1, .v (.int .i64 a1)), (7, .v (.int .i64 (a0.length : Int))), (8, .v (.int .i64 i5))]) (fun s4 _ hN15 => ?_) (fun i5 s4 _ _ hi9 hi10 ho6 hg7 hF => ?_)
   ·subst hN15
    try simp [go_sem]
    refine pw_wk ?_
    repeat rw [sq]
    refine pw_cond_f (by simp [go_sem]) ?_
    try simp [go_sem]
    exact pT (hj1 ()) hψ8 (by simp [go_sem])
   ·try simp [go_sem, g]
    refine pw_wk ?_
    repeat rw [sq]
    refine pw_cond_t (by simp [go_sem, g, hi9, hi10]) ?_
    try simp [go_sem, g]
    refine pw_wk ?_
    repeat rw [sq]
    rw [pw_block]
    obtain ⟨x11, g, hF⟩ := Rx g hF
    try simp [go_sem, g]
    refine pw_wk ?_
    try simp [go_sem, g]
    refine pw_wkK [0, 1, 5, 7, 8, 16] (by simp [go_sem, g]; rfl) ?_
    repeat rw [sq]
    refine pI hF (fun h12 hF => ?_) (fun h12 hF => ?_)
    ·cases ho6 _ (Rn_some hF)
     cases hΦ _ (hr2 _ hψ8)
     try simp [go_sem, g]
     refine pw_wk ?_
     try simp [go_sem, g]
    ·try simp [go_sem, g]
     refine pw_wk ?_
     try simp [go_sem, g]
     exact pT (hg7 ()) (Rn_some hF) (by simp [go_sem, g, wr_i hi9 hi10 (by assumption)])
noncomputable def F_impl_EqualGroups (a0 : Group) (a1 : Int) (a2 : (List Cipher)) : Option ((List Int) × Bool) :=
  (((F_impl_IsValidGroup a0).bind fun z4 =>
  if (!z4) = true then (
  some true) else (
  (F_impl_Group_isExp a0 a1).bind fun z6 =>
  if (!z6) = true then (
  some true) else (
  (F_impl_Group_hasCiphers a0 a2).bind fun z8 =>
  some (!z8))) : Option (Bool)).bind fun x3 =>
  if x3 = true then (
  some ([], false)) else (
  ((rloop (σ := (List Int) × (List Int)) (fun i14 s13 =>
  (ix a2 i14).bind fun x20 =>
  (F_impl_Group_decrypt a0 a1 x20).bind fun z21 =>
  gd ((s13.2.length + 1) * 8 ≤ 140737488355328 ∧ s13.2.length + 1 ≤ 4611686018427387904) <|
  (some (s13.2 ++ [z21])).bind fun x22 =>
  (ix x22 (i64.wrap ((x22.length : Int) - 1))).bind fun x24 =>
  (F_slices_Index_int_int x22 x24).bind fun z25 =>
  gd ((s13.1.length + 1) * 8 ≤ 140737488355328 ∧ s13.1.length + 1 ≤ 4611686018427387904) <|
  some (.go (s13.1 ++ [z25], x22))) (fun s13 => s13.1) (a2.length) 0 ([], []) : Option ((List Int))).bind fun x12 =>
  some (x12, true))))
theorem c_impl_EqualGroups : ∀ {a0} {a1} {a2} {r}, F_impl_EqualGroups a0 a1 a2 = some r → PCalls Try.prog 23 [(.sh, .agg [.int .i64 a0.P, .int .i64 a0.Q, .int .i64 a0.G]), (.sh, .int .i64 a1), (.sh, .sl false 2 (a2.map row_Cipher))] (Eo (.tup [.sl true 1 (r.1.map row_i64), .bool r.2]) [.junk, .junk, .junk]) := by
  intro a0 a1 a2 r hr
  apply pF 55 [] [] [] [.tmp 6, .tmp 7] hr cl23 Try.func23
  intro Φ hΦ hF g
  unfold F_impl_EqualGroups at hF
  try simp [go_sem, g]
  refine pw_wk ?_
  repeat rw [sq]
  refine pJ hF (fun x3 => [(1, .v (.int .i64 a1)), (2, .v (.sl false 2 (a2.map row_Cipher))), (3, .bl [.int .i64 a0.P, .int .i64 a0.Q, .int .i64 a0.G]), (26, .v (.bool x3))]) (fun x3 hF => ?_) fun _ hj1 hF => ?_
  ·repeat rw [sq]
   refine pI hF (fun h9 hF => ?_) (fun h9 hF => ?_)
   ·cases hΦ _ (Rn_some hF)
    try simp [go_sem, g]
    refine pw_wk ?_
    try simp [go_sem, g]
   ·iterate 2 (try simp [go_sem, g]; try intros; refine pw_wk ?_)
    try simp [go_sem, g]
    try intros
    refine pw_wkK [1, 3, 8, 9, 29, 30, 31] (by simp [go_sem, g]; rfl) ?_
    repeat rw [sq]
    refine pJ hF (fun x12 => [(8, .v (.sl true 1 (x12.map row_i64)))]) (fun x12 hF => ?_) fun _ hj10 hF => ?_
    ·cases hΦ _ (Rn_some hF)
     try simp [go_sem, g]
     refine pw_wk ?_
     try simp [go_sem, g]
    ·repeat rw [sq]
     rw [pw_block]
     obtain ⟨b26, hb27, hψ17⟩ := hF
     refine pR hb27 (fun i14 s13 => [(1, .v (.int .i64 a1)), (3, .bl [.int .i64 a0.P, .int .i64 a0.Q, .int .i64 a0.G]), (8, .v (.sl true 1 (s13.1.map row_i64))), (9, .v (.sl true 1 (s13.2.map row_i64))), (29, .v (.sl false 2 (a2.map row_Cipher))), (30, .v (.int .i64 (a2.length : Int))), (31, .v (.int .i64 i14))]) (fun s13 _ hN28 => ?_) (fun i14 s13 _ _ hi18 hi19 ho15 hg16 hF => ?_)
     ·subst hN28
      try simp [go_sem]
      refine pw_wk ?_
      repeat rw [sq]
      refine pw_cond_f (by simp [go_sem]) ?_
      try simp [go_sem]
      exact pT (hj10 s13.1) hψ17 (by simp [go_sem])
     ·try simp [go_sem, g]
      refine pw_wk ?_
      repeat rw [sq]
      refine pw_cond_t (by simp [go_sem, g, hi18, hi19]) ?_
      try simp [go_sem, g]
      refine pw_wk ?_
      repeat rw [sq]
      rw [pw_block]
      obtain ⟨x20, g, hF⟩ := Rx g hF
      try simp [go_sem, g]
      refine pw_wk ?_
      try simp [go_sem, g]
      refine pC hF [.sh, .sh, .sh] c_impl_Group_decrypt (fun z21 hF => ?_)
      obtain ⟨g, hF⟩ := Rg g hF
      try simp [go_sem, g]
      refine pw_wkK [1, 3, 8, 9, 29, 30, 31] (by simp [go_sem, g]; rfl) ?_
      obtain ⟨x22, e23, hF⟩ := Rn_bind hF
      have g := And.intro g (show List.map row_i64 s13.2 ++ [[.int .i64 z21]] = x22.map row_i64 by injection e23 with e23; rw [← e23]; simp [go_sem])
      obtain ⟨x24, g, hF⟩ := Rx g hF
      try simp [go_sem, g]
      try intros
      refine pC hF [.sh, .sh] c_slices_Index_int_int (fun z25 hF => ?_)
      obtain ⟨g, hF⟩ := Rg g hF
      try simp [go_sem, g]
      refine pw_wkK [1, 3, 8, 9, 29, 30, 31] (by simp [go_sem, g]; rfl) ?_
      try simp [go_sem, g]
      exact pT (hg16 (s13.1 ++ [z25], x22)) (Rn_some hF) (by simp [go_sem, g, wr_i hi18 hi19 (by assumption)])
  ·try simp [go_sem, g]
   refine pC hF [.sh] c_impl_IsValidGroup (fun z4 hF => ?_)
   try simp [go_sem, g]
   refine pwg_F hF (fun h5 hF => ?_) fun h5 hF => ?_
   ·try simp [go_sem, g, h5]
    exact pT (hj1 true) (Rn_some hF)
   ·try simp [go_sem, g, h5]
    refine pC hF [.sh, .sh] c_impl_Group_isExp (fun z6 hF => ?_)
    try simp [go_sem, g, h5]
    refine pwg_F hF (fun h7 hF => ?_) fun h7 hF => ?_
    ·try simp [go_sem, g, h7]
     exact pT (hj1 true) (Rn_some hF)
    ·try simp [go_sem, g, h7]
     refine pC hF [.sh, .sh] c_impl_Group_hasCiphers (fun z8 hF => ?_)
     try simp [go_sem, g, h7]
     exact pT (hj1 (!z8)) (Rn_some hF)
noncomputable def F_spec_gInv (a0 : Group) (a1 : Int) : Option (Int) :=
  (F_spec_nPower a1 (i64.wrap (a0.Q - 1)) a0.P).bind fun z1 =>
  some z1
theorem c_spec_gInv : ∀ {a0} {a1} {r}, F_spec_gInv a0 a1 = some r → PCalls Try.prog 129 [(.sh, .agg [.int .i64 a0.P, .int .i64 a0.Q, .int .i64 a0.G]), (.sh, .int .i64 a1)] (Eo (.int .i64 r) [.junk, .junk]) := by
  intro a0 a1 r hr
  apply pF 12 [] [] [] [.tmp 4] hr cl129 Try.func129
  intro Φ hΦ hF g
  unfold F_spec_gInv at hF
  try simp [go_sem, g]
  refine pw_wk ?_
  try simp [go_sem, g]
  refine pC hF [.sh, .sh, .sh] c_spec_nPower (fun z1 hF => ?_)
  try simp [go_sem, g]
  refine pw_wkK [4] (by simp [go_sem, g]; rfl) ?_
  cases hΦ _ (Rn_some hF)
  try simp [go_sem, g]
def D81_1 : List DE := [⟨0, [3], [3], some 3, false, false, false⟩, ⟨1, [5], [5], none, false, false, false⟩, ⟨2, [8], [5], some 8, false, false, false⟩, ⟨3, [3], [3], some 3, false, false, false⟩, ⟨4, [3], [3], some 3, false, false, false⟩, ⟨5, [5], [5], none, false, false, false⟩, ⟨6, [12], [5], some 12, false, false, false⟩, ⟨7, [1], [], none, false, false, false⟩, ⟨8, [11, 13, 14], [], none, false, true, true⟩, ⟨9, [10, 15], [], none, false, true, true⟩, ⟨10, [9, 16], [], none, false, false, false⟩, ⟨11, [7, 17], [], none, true, true, true⟩, ⟨12, [18], [], none, false, false, false⟩]
noncomputable def F_spec_eDec (a0 : Group) (a1 : Int) (a2 : Cipher) : Option (Int) :=
  (F_spec_gExp a0 a2.A a1).bind fun z1 =>
  (F_spec_gInv a0 z1).bind fun z2 =>
  (F_spec_gMul a0 [a2.B, z2]).bind fun z3 =>
  some z3
theorem c_spec_eDec : ∀ {a0} {a1} {a2} {r}, F_spec_eDec a0 a1 a2 = some r → PCalls Try.prog 81 [(.sh, .agg [.int .i64 a0.P, .int .i64 a0.Q, .int .i64 a0.G]), (.sh, .int .i64 a1), (.sh, .agg [.int .i64 a2.A, .int .i64 a2.B])] (Eo (.int .i64 r) [.junk, .junk, .junk]) := by
  intro a0 a1 a2 r hr
  apply pF 19 [] [] [] [.tmp 6] hr cl81 Try.func81
  intro Φ hΦ hF g
  unfold F_spec_eDec at hF
  try simp [go_sem, g]
  refine pw_wk ?_
  repeat rw [sq]
  refine pw_draw D81_1 follows (by kernel_rfl) rfl ?_
  try simp only [go_sem, D81_1]
  try simp [go_sem, g]
  refine pC hF [.sh, .sh, .sh] c_spec_gExp (fun z1 hF => ?_)
  try simp [go_sem, g]
  refine pC hF [.sh, .sh] c_spec_gInv (fun z2 hF => ?_)
  try simp [go_sem, g]
  refine pC hF [.sh, .sh] c_spec_gMul (fun z3 hF => ?_)
  try simp [go_sem, g]
  refine pw_wkK [6] (by simp [go_sem, g]; rfl) ?_
  cases hΦ _ (Rn_some hF)
  try simp [go_sem, g]
noncomputable def F_spec_EqualGroups (a0 : Group) (a1 : Int) (a2 : (List Cipher)) : Option ((List Int) × Bool) :=
  (((F_spec_l2Good a0).bind fun z4 =>
  if (!z4) = true then (
  some true) else (
  (F_spec_gExps a0 [a1]).bind fun z6 =>
  if (!z6) = true then (
  some true) else (
  (F_spec_eGood a0 a2).bind fun z8 =>
  some (!z8))) : Option (Bool)).bind fun x3 =>
  if x3 = true then (
  some ([], false)) else (
  ((rloop (σ := (List Int) × (List Int)) (fun i14 s13 =>
  (ix a2 i14).bind fun x20 =>
  (F_spec_eDec a0 a1 x20).bind fun z21 =>
  ((rloop (σ := Int) (fun i26 s25 =>
  (((ix s13.1 i26).bind fun x35 =>
  ((if (x35 == z21) = true then (
  some (s25 == i14)) else (
  some false) : Option (Bool)).bind fun x38 =>
  if x38 = true then (
  some i26) else (
  some s25)) : Option (Int)).bind fun x34 =>
  some (.go x34))) (fun s25 => s25) (s13.1.length) 0 i14 : Option (Int)).bind fun x24 =>
  gd ((s13.1.length + 1) * 8 ≤ 140737488355328 ∧ s13.1.length + 1 ≤ 4611686018427387904) <|
  gd ((s13.2.length + 1) * 8 ≤ 140737488355328 ∧ s13.2.length + 1 ≤ 4611686018427387904) <|
  some (.go (s13.1 ++ [z21], s13.2 ++ [x24])))) (fun s13 => s13.2) (a2.length) 0 ([], []) : Option ((List Int))).bind fun x12 =>
  some (x12, true))))
theorem c_spec_EqualGroups : ∀ {a0} {a1} {a2} {r}, F_spec_EqualGroups a0 a1 a2 = some r → PCalls Try.prog 24 [(.sh, .agg [.int .i64 a0.P, .int .i64 a0.Q, .int .i64 a0.G]), (.sh, .int .i64 a1), (.sh, .sl false 2 (a2.map row_Cipher))] (Eo (.tup [.sl true 1 (r.1.map row_i64), .bool r.2]) [.junk, .junk, .junk]) := by
  intro a0 a1 a2 r hr
  apply pF 71 [] [] [] [.tmp 6, .tmp 7] hr cl24 Try.func24
  intro Φ hΦ hF g
  unfold F_spec_EqualGroups at hF
  try simp [go_sem, g]
  refine pw_wk ?_
  repeat rw [sq]
  refine pJ hF (fun x3 => [(1, .v (.int .i64 a1)), (2, .v (.sl false 2 (a2.map row_Cipher))), (3, .bl [.int .i64 a0.P, .int .i64 a0.Q, .int .i64 a0.G]), (31, .v (.bool x3))]) (fun x3 hF => ?_) fun _ hj1 hF => ?_
  ·repeat rw [sq]
   refine pI hF (fun h9 hF => ?_) (fun h9 hF => ?_)
   ·cases hΦ _ (Rn_some hF)
    try simp [go_sem, g]
    refine pw_wk ?_
    try simp [go_sem, g]
   ·iterate 3 (try simp [go_sem, g]; try intros; refine pw_wk ?_)
    repeat rw [sq]
    refine pJ hF (fun x12 => [(9, .v (.sl true 1 (x12.map row_i64)))]) (fun x12 hF => ?_) fun _ hj10 hF => ?_
    ·try simp [go_sem, g]
     refine pw_wkK [6, 7] (by simp [go_sem, g]; rfl) ?_
     cases hΦ _ (Rn_some hF)
     try simp [go_sem, g]
    ·repeat rw [sq]
     rw [pw_block]
     obtain ⟨b45, hb46, hψ17⟩ := hF
     refine pR hb46 (fun i14 s13 => [(1, .v (.int .i64 a1)), (3, .bl [.int .i64 a0.P, .int .i64 a0.Q, .int .i64 a0.G]), (8, .v (.sl true 1 (s13.1.map row_i64))), (9, .v (.sl true 1 (s13.2.map row_i64))), (32, .v (.sl false 2 (a2.map row_Cipher))), (33, .v (.int .i64 (a2.length : Int))), (34, .v (.int .i64 i14))]) (fun s13 _ hN47 => ?_) (fun i14 s13 _ _ hi18 hi19 ho15 hg16 hF => ?_)
     ·subst hN47
      try simp [go_sem]
      refine pw_wk ?_
      repeat rw [sq]
      refine pw_cond_f (by simp [go_sem]) ?_
      try simp [go_sem]
      exact pT (hj10 s13.2) hψ17 (by simp [go_sem])
     ·try simp [go_sem, g]
      refine pw_wk ?_
      repeat rw [sq]
      refine pw_cond_t (by simp [go_sem, g, hi18, hi19]) ?_
      try simp [go_sem, g]
      refine pw_wk ?_
      repeat rw [sq]
      rw [pw_block]
      obtain ⟨x20, g, hF⟩ := Rx g hF
      try simp [go_sem, g]
      refine pw_wkK [1, 3, 8, 9, 10, 11, 32, 33, 34] (by simp [go_sem, g]; rfl) ?_
      try simp [go_sem, g]
      refine pC hF [.sh, .sh, .sh] c_spec_eDec (fun z21 hF => ?_)
      iterate 2 (try simp [go_sem, g]; try intros; refine pw_wk ?_)
      try simp [go_sem, g]
      try intros
      refine pw_wkK [1, 3, 8, 9, 10, 12, 13, 32, 33, 34, 44, 45, 46] (by simp [go_sem, g]; rfl) ?_
      repeat rw [sq]
      refine pJ hF (fun x24 => [(1, .v (.int .i64 a1)), (3, .bl [.int .i64 a0.P, .int .i64 a0.Q, .int .i64 a0.G]), (8, .v (.sl true 1 (s13.1.map row_i64))), (9, .v (.sl true 1 (s13.2.map row_i64))), (12, .v (.int .i64 z21)), (13, .v (.int .i64 x24)), (32, .v (.sl false 2 (a2.map row_Cipher))), (33, .v (.int .i64 (a2.length : Int))), (34, .v (.int .i64 i14))]) (fun x24 hF => ?_) fun _ hj22 hF => ?_
      ·obtain ⟨g, hF⟩ := Rg g hF
       obtain ⟨g, hF⟩ := Rg g hF
       try simp [go_sem, g]
       refine pw_wk ?_
       try simp [go_sem, g]
       refine pw_wkK [1, 3, 8, 9, 32, 33, 34] (by simp [go_sem, g]; rfl) ?_
       try simp [go_sem, g]
       exact pT (hg16 (s13.1 ++ [z21], s13.2 ++ [x24])) (Rn_some hF) (by simp [go_sem, g, wr_i hi18 hi19 (by assumption)])
      ·repeat rw [sq]
       rw [pw_block]
       obtain ⟨b41, hb42, hψ29⟩ := hF
       refine pR hb42 (fun i26 s25 => [(1, .v (.int .i64 a1)), (3, .bl [.int .i64 a0.P, .int .i64 a0.Q, .int .i64 a0.G]), (8, .v (.sl true 1 (s13.1.map row_i64))), (9, .v (.sl true 1 (s13.2.map row_i64))), (10, .v (.int .i64 i14)), (12, .v (.int .i64 z21)), (13, .v (.int .i64 s25)), (32, .v (.sl false 2 (a2.map row_Cipher))), (33, .v (.int .i64 (a2.length : Int))), (34, .v (.int .i64 i14)), (44, .rf 8 []), (45, .v (.int .i64 (s13.1.length : Int))), (46, .v (.int .i64 i26))]) (fun s25 _ hN43 => ?_) (fun i26 s25 _ _ hi30 hi31 ho27 hg28 hF => ?_)
       ·subst hN43
        try simp [go_sem]
        refine pw_wk ?_
        repeat rw [sq]
        refine pw_cond_f (by simp [go_sem]) ?_
        try simp [go_sem]
        exact pT (hj22 s25) hψ29 (by simp [go_sem])
       ·try simp [go_sem, g]
        refine pw_wk ?_
        repeat rw [sq]
        refine pw_cond_t (by simp [go_sem, g, hi30, hi31]) ?_
        try simp [go_sem, g]
        refine pw_wk ?_
        repeat rw [sq]
        refine pJ hF (fun x34 => [(1, .v (.int .i64 a1)), (3, .bl [.int .i64 a0.P, .int .i64 a0.Q, .int .i64 a0.G]), (8, .v (.sl true 1 (s13.1.map row_i64))), (9, .v (.sl true 1 (s13.2.map row_i64))), (10, .v (.int .i64 i14)), (12, .v (.int .i64 z21)), (13, .v (.int .i64 x34)), (32, .v (.sl false 2 (a2.map row_Cipher))), (33, .v (.int .i64 (a2.length : Int))), (34, .v (.int .i64 i14)), (44, .rf 8 []), (45, .v (.int .i64 (s13.1.length : Int))), (46, .v (.int .i64 i26))]) (fun x34 hF => ?_) fun _ hj32 hF => ?_
        ·try simp [go_sem, g]
         exact pT (hg28 x34) (Rn_some hF) (by simp [go_sem, g, wr_i hi30 hi31 (by assumption)])
        ·repeat rw [sq]
         rw [pw_block]
         obtain ⟨x35, g, hF⟩ := Rx g hF
         try simp [go_sem, g]
         refine pw_wk ?_
         repeat rw [sq]
         refine pJ hF (fun x38 => [(1, .v (.int .i64 a1)), (3, .bl [.int .i64 a0.P, .int .i64 a0.Q, .int .i64 a0.G]), (8, .v (.sl true 1 (s13.1.map row_i64))), (9, .v (.sl true 1 (s13.2.map row_i64))), (10, .v (.int .i64 i14)), (12, .v (.int .i64 z21)), (13, .v (.int .i64 s25)), (14, .v (.int .i64 i26)), (32, .v (.sl false 2 (a2.map row_Cipher))), (33, .v (.int .i64 (a2.length : Int))), (34, .v (.int .i64 i14)), (44, .rf 8 []), (45, .v (.int .i64 (s13.1.length : Int))), (46, .v (.int .i64 i26)), (58, .v (.bool x38))]) (fun x38 hF => ?_) fun _ hj36 hF => ?_
         ·repeat rw [sq]
          refine pI hF (fun h40 hF => ?_) (fun h40 hF => ?_)
          ·try simp [go_sem, g]
           exact pT (hj32 i26) (Rn_some hF)
          ·try simp [go_sem, g]
           first | exact pT (hj32 s25) (Rn_some hF) | exact pT (hj32 _) (Rn_some hF)
         ·try simp [go_sem, g]
          refine pwg_F hF (fun h39 hF => ?_) fun h39 hF => ?_
          ·try simp [go_sem, g, h39]
           exact pT (hj36 (s25 == i14)) (Rn_some hF)
          ·try simp [go_sem, g, h39]
           exact pT (hj36 false) (Rn_some hF)
  ·try simp [go_sem, g]
   refine pC hF [.sh] c_spec_l2Good (fun z4 hF => ?_)
   try simp [go_sem, g]
   refine pwg_F hF (fun h5 hF => ?_) fun h5 hF => ?_
   ·try simp [go_sem, g, h5]
    exact pT (hj1 true) (Rn_some hF)
   ·try simp [go_sem, g, h5]
    refine pC hF [.sh, .sh] c_spec_gExps (fun z6 hF => ?_)
    try simp [go_sem, g, h5]
    refine pwg_F hF (fun h7 hF => ?_) fun h7 hF => ?_
    ·try simp [go_sem, g, h7]
     exact pT (hj1 true) (Rn_some hF)
    ·try simp [go_sem, g, h7]
     refine pC hF [.sh, .sh] c_spec_eGood (fun z8 hF => ?_)
     try simp [go_sem, g, h7]
     exact pT (hj1 (!z8)) (Rn_some hF)
noncomputable def F_spec_DrawFalseEqualCount (a0 : (List Int)) : Option (Int × Int) :=
  (F_spec_l1Cur_among__io0_mv1 a0 0 0 [2, 3, 5, 7, 11, 23, 1, 4, 29]).bind fun z1 =>
  (F_spec_l1Cur_among__io0_mv1 z1.2.1 z1.2.2.1 z1.2.2.2 [1, 2, 3, 4, 5, 0, 6]).bind fun z2 =>
  some (z1.1, z2.1)
theorem c_spec_DrawFalseEqualCount : ∀ {a0} {r}, F_spec_DrawFalseEqualCount a0 = some r → PCalls Try.prog 25 [(.sh, .sl false 1 (a0.map row_u8))] (Eo (.tup [.int .i64 r.1, .int .i64 r.2]) [.junk]) := by
  intro a0 r hr
  apply pF 14 [] [] [7] [.tmp 2, .tmp 3] hr cl25 Try.func25
  intro Φ hΦ hF g
  unfold F_spec_DrawFalseEqualCount at hF
  iterate 2 (try simp [go_sem, g]; refine pw_wk ?_)
  try simp [go_sem, g]
  refine pC hF [.io, .mv] c_spec_l1Cur_among__io0_mv1 (fun z1 hF => ?_)
  try simp [go_sem, g]
  refine pC hF [.io, .mv] c_spec_l1Cur_among__io0_mv1 (fun z2 hF => ?_)
  try simp [go_sem, g]
  refine pw_wkK [2, 3] (by simp [go_sem, g]; rfl) ?_
  cases hΦ _ (Rn_some hF)
  try simp [go_sem, g]
noncomputable def F_impl_FalseEqualCount (a0 : Int) (a1 : Int) : Option (Int × Bool) :=
  ((if decide (23 < a0) = true then (
  some true) else (
  (F_impl_isPrime a0).bind fun z5 =>
  if (!z5) = true then (
  some true) else (
  (F_impl_within a1 1 5).bind fun z7 =>
  some (!z7))) : Option (Bool)).bind fun x3 =>
  if x3 = true then (
  some (0, false)) else (
  ((wloop (σ := Int × Int × Int) (fun s12 =>
  if decide (s12.2.2 < a1) = true then (
  ((if decide (0 < s12.2.2) = true then (
  some (i64.wrap (s12.2.1 - s12.1))) else (
  some s12.1) : Option (Int)).bind fun x20 =>
  some (.go (x20, i64.wrap (s12.2.1 * (i64.wrap (a0 - 1))), i64.wrap (s12.2.2 + 1))))) else (
  some (.out s12.1))) (0, 1, 0) : Option (Int)).bind fun x11 =>
  some (x11, true))))
theorem c_impl_FalseEqualCount : ∀ {a0} {a1} {r}, F_impl_FalseEqualCount a0 a1 = some r → PCalls Try.prog 26 [(.sh, .int .i64 a0), (.sh, .int .i64 a1)] (Eo (.tup [.int .i64 r.1, .bool r.2]) [.junk, .junk]) := by
  intro a0 a1 r hr
  apply pF 36 [] [] [] [.tmp 4, .tmp 5] hr cl26 Try.func26
  intro Φ hΦ hF g
  unfold F_impl_FalseEqualCount at hF
  try simp [go_sem, g]
  refine pw_wk ?_
  repeat rw [sq]
  refine pJ hF (fun x3 => [(0, .v (.int .i64 a0)), (1, .v (.int .i64 a1)), (20, .v (.bool x3))]) (fun x3 hF => ?_) fun _ hj1 hF => ?_
  ·repeat rw [sq]
   refine pI hF (fun h8 hF => ?_) (fun h8 hF => ?_)
   ·cases hΦ _ (Rn_some hF)
    try simp [go_sem, g]
    refine pw_wk ?_
    try simp [go_sem, g]
   ·iterate 3 (try simp [go_sem, g]; refine pw_wk ?_)
    repeat rw [sq]
    refine pJ hF (fun x11 => [(6, .v (.int .i64 x11))]) (fun x11 hF => ?_) fun _ hj9 hF => ?_
    ·cases hΦ _ (Rn_some hF)
     try simp [go_sem, g]
     refine pw_wk ?_
     try simp [go_sem, g]
    ·repeat rw [sq]
     rw [pw_block]
     obtain ⟨b22, hb23, hψ16⟩ := hF
     refine pL hb23 (fun s12 => [(0, .v (.int .i64 a0)), (6, .v (.int .i64 s12.1)), (7, .v (.int .i64 s12.2.1)), (21, .v (.int .i64 a1)), (22, .v (.int .i64 s12.2.2))]) (fun s12 _ _ ho14 hg15 hF => ?_)
     try simp [go_sem, g]
     refine pw_wk ?_
     repeat rw [sq]
     refine pI hF (fun h17 hF => ?_) (fun h17 hF => ?_)
     ·try simp [go_sem, g]
      refine pw_wk ?_
      repeat rw [sq]
      rw [pw_block]
      try simp [go_sem, g]
      refine pw_wk ?_
      try simp [go_sem, g]
      refine pw_wkK [0, 6, 7, 21, 22, 26] (by simp [go_sem, g]; rfl) ?_
      repeat rw [sq]
      refine pJ hF (fun x20 => [(0, .v (.int .i64 a0)), (6, .v (.int .i64 x20)), (7, .v (.int .i64 s12.2.1)), (21, .v (.int .i64 a1)), (22, .v (.int .i64 s12.2.2))]) (fun x20 hF => ?_) fun _ hj18 hF => ?_
      ·try simp [go_sem, g]
       refine pw_wk ?_
       try simp [go_sem, g]
       exact pT (hg15 (x20, i64.wrap (s12.2.1 * (i64.wrap (a0 - 1))), i64.wrap (s12.2.2 + 1))) (Rn_some hF)
      ·repeat rw [sq]
       refine pI hF (fun h21 hF => ?_) (fun h21 hF => ?_)
       ·try simp [go_sem, g]
        exact pT (hj18 (i64.wrap (s12.2.1 - s12.1))) (Rn_some hF)
       ·try simp [go_sem, g]
        exact pT (hj18 s12.1) (Rn_some hF)
     ·try simp [go_sem, g]
      cases ho14 _ (Rn_some hF)
      exact pT (hj9 s12.1) hψ16
  ·try simp [go_sem, g]
   refine pwg_F hF (fun h4 hF => ?_) fun h4 hF => ?_
   ·try simp [go_sem, g, h4]
    exact pT (hj1 true) (Rn_some hF)
   ·try simp [go_sem, g, h4]
    refine pC hF [.sh] c_impl_isPrime (fun z5 hF => ?_)
    try simp [go_sem, g, h4]
    refine pwg_F hF (fun h6 hF => ?_) fun h6 hF => ?_
    ·try simp [go_sem, g, h6]
     exact pT (hj1 true) (Rn_some hF)
    ·try simp [go_sem, g, h6]
     refine pC hF [.sh, .sh, .sh] c_impl_within (fun z7 hF => ?_)
     try simp [go_sem, g, h6]
     exact pT (hj1 (!z7)) (Rn_some hF)
noncomputable def F_spec_FalseEqualCount (a0 : Int) (a1 : Int) : Option (Int × Bool) :=
  (((F_spec_l1In a0 2 23).bind fun z4 =>
  if (!z4) = true then (
  some true) else (
  (F_spec_nPrime a0).bind fun z6 =>
  if (!z6) = true then (
  some true) else (
  (F_spec_l1In a1 1 5).bind fun z8 =>
  some (!z8))) : Option (Bool)).bind fun x3 =>
  if x3 = true then (
  some (0, false)) else (
  gd (0 ≤ a0 ∧ a0 ≤ a0 ∧ 8 * a0 ≤ 140737488355328 ∧ a0 ≤ 4611686018427387904) <|
  (some (List.replicate a0.toNat 0)).bind fun x10 =>
  (ix x10 0).bind fun x13 =>
  ((wloop (σ := Int × (List Int)) (fun s17 =>
  if decide (0 < s17.1) = true then (
  gd (0 ≤ a0 ∧ a0 ≤ a0 ∧ 8 * a0 ≤ 140737488355328 ∧ a0 ≤ 4611686018427387904) <|
  (some (List.replicate a0.toNat 0)).bind fun x23 =>
  ((rloop (σ := (List Int)) (fun i57 s56 =>
  (((ix s17.2 i57).bind fun x66 =>
  wloop (σ := (List Int) × Int) (fun s74 =>
  if decide (s74.2 < a0) = true then (
  gd (a0 ≠ 0) <|
  (ix s74.1 ((i64.wrap (i57 + s74.2)).tmod a0)).bind fun x80 =>
  some (.go (s74.1.set (((i64.wrap (i57 + s74.2)).tmod a0).toNat) (i64.wrap (x80 + x66)), i64.wrap (s74.2 + 1)))) else (
  some (.out s74.1))) (s56, 1) : Option ((List Int))).bind fun x65 =>
  some (.go x65))) (fun s56 => s56) (s17.2.length) 0 x23 : Option ((List Int))).bind fun x28 =>
  some (.go (i64.wrap (s17.1 - 1), x28)))) else (
  some (.out s17.2))) (a1, x10.set 0 1) : Option ((List Int))).bind fun x16 =>
  (ix x16 0).bind fun x89 =>
  some (x89, true))))
theorem c_spec_FalseEqualCount : ∀ {a0} {a1} {r}, F_spec_FalseEqualCount a0 a1 = some r → PCalls Try.prog 27 [(.sh, .int .i64 a0), (.sh, .int .i64 a1)] (Eo (.tup [.int .i64 r.1, .bool r.2]) [.junk, .junk]) := by
  intro a0 a1 r hr
  apply pF 62 [] [] [] [.tmp 4, .tmp 5] hr cl27 Try.func27
  intro Φ hΦ hF g
  unfold F_spec_FalseEqualCount at hF
  try simp [go_sem, g]
  refine pw_wk ?_
  repeat rw [sq]
  refine pJ hF (fun x3 => [(0, .v (.int .i64 a0)), (1, .v (.int .i64 a1)), (23, .v (.bool x3))]) (fun x3 hF => ?_) fun _ hj1 hF => ?_
  ·repeat rw [sq]
   refine pI hF (fun h9 hF => ?_) (fun h9 hF => ?_)
   ·cases hΦ _ (Rn_some hF)
    try simp [go_sem, g]
    refine pw_wk ?_
    try simp [go_sem, g]
   ·obtain ⟨g, hF⟩ := Rg g hF
    obtain ⟨x10, e11, hF⟩ := Rn_bind hF
    have g12 : List.replicate a0.toNat ([.int .i64 0] : List PV) = x10.map row_i64 := by injection e11 with e11; rw [← e11]; simp [go_sem]
    obtain ⟨x13, g, hF⟩ := Rxn g 0 hF
    iterate 3 (try simp [go_sem, g, g12]; refine pw_wk ?_)
    repeat rw [sq]
    refine pJ hF (fun x16 => [(6, .v (.sl true 1 (x16.map row_i64)))]) (fun x16 hF => ?_) fun _ hj14 hF => ?_
    ·obtain ⟨x89, g, hF⟩ := Rxn g 0 hF
     try simp [go_sem, g]
     refine pw_wkK [4, 5] (by simp [go_sem, g]; rfl) ?_
     cases hΦ _ (Rn_some hF)
     try simp [go_sem, g]
    ·repeat rw [sq]
     rw [pw_block]
     obtain ⟨b87, hb88, hψ21⟩ := hF
     refine pL hb88 (fun s17 => [(0, .v (.int .i64 a0)), (1, .v (.int .i64 s17.1)), (6, .v (.sl true 1 (s17.2.map row_i64)))]) (fun s17 _ _ ho19 hg20 hF => ?_)
     try simp [go_sem, g]
     refine pw_wkK [0, 1, 6, 29] (by simp [go_sem, g]; rfl) ?_
     repeat rw [sq]
     refine pI hF (fun h22 hF => ?_) (fun h22 hF => ?_)
     ·try simp [go_sem, g]
      refine pw_wk ?_
      repeat rw [sq]
      rw [pw_block]
      obtain ⟨g, hF⟩ := Rg g hF
      obtain ⟨x23, e24, hF⟩ := Rn_bind hF
      have g25 : List.replicate a0.toNat ([.int .i64 0] : List PV) = x23.map row_i64 := by injection e24 with e24; rw [← e24]; simp [go_sem]
      iterate 2 (try simp [go_sem, g, g25]; try intros; refine pw_wk ?_)
      repeat rw [sq]
      refine pJ hF (fun x28 => [(0, .v (.int .i64 a0)), (1, .v (.int .i64 s17.1)), (7, .v (.sl true 1 (x28.map row_i64)))]) (fun x28 hF => ?_) fun _ hj26 hF => ?_
      ·try simp [go_sem, g]
       refine pw_wk ?_
       try simp [go_sem, g]
       exact pT (hg20 (i64.wrap (s17.1 - 1), x28)) (Rn_some hF)
      ·repeat rw [sq]
       rw [pw_block]
       obtain ⟨b83, hb84, hψ60⟩ := hF
       refine pR hb84 (fun i57 s56 => [(0, .v (.int .i64 a0)), (1, .v (.int .i64 s17.1)), (6, .v (.sl true 1 (s17.2.map row_i64))), (7, .v (.sl true 1 (s56.map row_i64))), (34, .rf 6 []), (35, .v (.int .i64 (s17.2.length : Int))), (36, .v (.int .i64 i57))]) (fun s56 _ hN85 => ?_) (fun i57 s56 _ _ hi61 hi62 ho58 hg59 hF => ?_)
       ·subst hN85
        try simp [go_sem]
        refine pw_wk ?_
        repeat rw [sq]
        refine pw_cond_f (by simp [go_sem]) ?_
        try simp [go_sem]
        exact pT (hj26 s56) hψ60 (by simp [go_sem])
       ·try simp [go_sem, g]
        refine pw_wk ?_
        repeat rw [sq]
        refine pw_cond_t (by simp [go_sem, g, hi61, hi62]) ?_
        try simp [go_sem, g]
        refine pw_wk ?_
        repeat rw [sq]
        refine pJ hF (fun x65 => [(0, .v (.int .i64 a0)), (1, .v (.int .i64 s17.1)), (6, .v (.sl true 1 (s17.2.map row_i64))), (7, .v (.sl true 1 (x65.map row_i64))), (34, .rf 6 []), (35, .v (.int .i64 (s17.2.length : Int))), (36, .v (.int .i64 i57))]) (fun x65 hF => ?_) fun _ hj63 hF => ?_
        ·try simp [go_sem, g]
         exact pT (hg59 x65) (Rn_some hF) (by simp [go_sem, g, wr_i hi61 hi62 (by assumption)])
        ·repeat rw [sq]
         rw [pw_block]
         obtain ⟨x66, g, hF⟩ := Rx g hF
         try simp [go_sem, g]
         refine pw_wkK [0, 1, 6, 7, 8, 9, 34, 35, 36] (by simp [go_sem, g]; rfl) ?_
         try simp [go_sem, g]
         refine pw_wk ?_
         repeat rw [sq]
         rw [pw_block]
         obtain ⟨b81, hb82, hψ78⟩ := hF
         refine pL hb82 (fun s74 => [(0, .v (.int .i64 a0)), (1, .v (.int .i64 s17.1)), (6, .v (.sl true 1 (s17.2.map row_i64))), (7, .v (.sl true 1 (s74.1.map row_i64))), (8, .v (.int .i64 i57)), (9, .v (.int .i64 x66)), (10, .v (.int .i64 s74.2)), (34, .rf 6 []), (35, .v (.int .i64 (s17.2.length : Int))), (36, .v (.int .i64 i57))]) (fun s74 _ _ ho76 hg77 hF => ?_)
         try simp [go_sem, g]
         refine pw_wk ?_
         repeat rw [sq]
         refine pI hF (fun h79 hF => ?_) (fun h79 hF => ?_)
         ·try simp [go_sem, g]
          refine pw_wk ?_
          repeat rw [sq]
          rw [pw_block]
          obtain ⟨g, hF⟩ := Rz g hF
          obtain ⟨x80, g, hF⟩ := Rx g hF
          try simp [go_sem, g]
          refine pw_wkK [0, 1, 6, 7, 8, 9, 10, 34, 35, 36] (by simp [go_sem, g]; rfl) ?_
          try simp [go_sem, g]
          exact pT (hg77 (s74.1.set (((i64.wrap (i57 + s74.2)).tmod a0).toNat) (i64.wrap (x80 + x66)), i64.wrap (s74.2 + 1))) (Rn_some hF)
         ·try simp [go_sem, g]
          cases ho76 _ (Rn_some hF)
          exact pT (hj63 s74.1) hψ78
     ·try simp [go_sem, g]
      cases ho19 _ (Rn_some hF)
      exact pT (hj14 s17.2) hψ21
  ·try simp [go_sem, g]
   refine pC hF [.sh, .sh, .sh] c_spec_l1In (fun z4 hF => ?_)
   try simp [go_sem, g]
   refine pwg_F hF (fun h5 hF => ?_) fun h5 hF => ?_
   ·try simp [go_sem, g, h5]
    exact pT (hj1 true) (Rn_some hF)
   ·try simp [go_sem, g, h5]
    refine pC hF [.sh] c_spec_nPrime (fun z6 hF => ?_)
    try simp [go_sem, g, h5]
    refine pwg_F hF (fun h7 hF => ?_) fun h7 hF => ?_
    ·try simp [go_sem, g, h7]
     exact pT (hj1 true) (Rn_some hF)
    ·try simp [go_sem, g, h7]
     refine pC hF [.sh, .sh, .sh] c_spec_l1In (fun z8 hF => ?_)
     try simp [go_sem, g, h7]
     exact pT (hj1 (!z8)) (Rn_some hF)
def D13_6 : List DE := [⟨0, [0], [], none, false, false, false⟩, ⟨1, [5], [], none, false, false, false⟩, ⟨2, [16, 17], [], none, false, false, false⟩, ⟨3, [18], [], none, false, false, false⟩, ⟨4, [1], [], none, false, false, false⟩, ⟨5, [5], [], none, false, false, false⟩, ⟨6, [20, 21], [], none, false, false, false⟩, ⟨7, [22], [], none, false, false, false⟩, ⟨8, [19, 23], [], none, false, false, false⟩]
noncomputable def F_laws_qInts (a0 : (List Int)) (a1 : (List Int)) : Option (Bool) :=
  if ((a0.length : Int) != (a1.length : Int)) = true then (
  some false) else (
  ((rloop (σ := Unit) (fun i6 s5 =>
  (ix a0 i6).bind fun x12 =>
  (ix a1 i6).bind fun x13 =>
  if (x12 != x13) = true then (
  some (.out (.inr false))) else (
  some (.go ()))) (fun s5 => .inl ()) (a0.length) 0 () : Option (Unit ⊕ Bool)).bind (Sum.elim (fun x4 =>
  some true) some)))
theorem c_laws_qInts : ∀ {a0} {a1} {r}, F_laws_qInts a0 a1 = some r → PCalls Try.prog 13 [(.sh, .sl false 1 (a0.map row_i64)), (.sh, .sl false 1 (a1.map row_i64))] (Eo (.bool r) [.junk, .junk]) := by
  intro a0 a1 r hr
  apply pF 26 [] [] [] [.tmp 4] hr cl13 Try.func13
  intro Φ hΦ hF g
  unfold F_laws_qInts at hF
  iterate 2 (try simp [go_sem, g]; try intros; refine pw_wk ?_)
  repeat rw [sq]
  refine pI hF (fun h1 hF => ?_) (fun h1 hF => ?_)
  ·cases hΦ _ (Rn_some hF)
   try simp [go_sem, g]
   refine pw_wk ?_
   try simp [go_sem, g]
  ·iterate 2 (try simp [go_sem, g]; try intros; refine pw_wk ?_)
   repeat rw [sq]
   refine pJs hF (fun x4 => []) (fun x4 hF => ?_) fun _ hj2 hr3 hF => ?_
   ·try simp [go_sem, g]
    refine pw_wkK [4] (by simp [go_sem, g]; rfl) ?_
    cases hΦ _ (Rn_some hF)
    try simp [go_sem, g]
   ·repeat rw [sq]
    rw [pw_block]
    obtain ⟨b15, hb16, hψ9⟩ := hF
    refine pR hb16 (fun i6 s5 => [(0, .v (.sl false 1 (a0.map row_i64))), (1, .v (.sl false 1 (a1.map row_i64))), (12, .v (.int .i64 (a0.length : Int))), (13, .v (.int .i64 i6))]) (fun s5 _ hN17 => ?_) (fun i6 s5 _ _ hi10 hi11 ho7 hg8 hF => ?_)
    ·subst hN17
     try simp [go_sem]
     refine pw_wk ?_
     repeat rw [sq]
     refine pw_cond_f (by simp [go_sem]) ?_
     try simp [go_sem]
     exact pT (hj2 ()) hψ9 (by simp [go_sem])
    ·try simp [go_sem, g]
     refine pw_wkK [0, 1, 12, 13, 14] (by simp [go_sem, g]; rfl) ?_
     repeat rw [sq]
     refine pw_cond_t (by simp [go_sem, g, hi10, hi11]) ?_
     try simp [go_sem, g]
     refine pw_wk ?_
     repeat rw [sq]
     rw [pw_block]
     try simp [go_sem, g]
     refine pw_wk ?_
     repeat rw [sq]
     refine pw_draw D13_6 follows (by kernel_rfl) rfl ?_
     try simp only [go_sem, D13_6]
     obtain ⟨x12, g, hF⟩ := Rx g hF
     obtain ⟨x13, g, hF⟩ := Rx g hF
     try simp [go_sem, g]
     refine pw_wkK [0, 1, 12, 13, 24] (by simp [go_sem, g]; rfl) ?_
     repeat rw [sq]
     refine pI hF (fun h14 hF => ?_) (fun h14 hF => ?_)
     ·cases ho7 _ (Rn_some hF)
      cases hΦ _ (hr3 _ hψ9)
      try simp [go_sem, g]
      refine pw_wk ?_
      try simp [go_sem, g]
     ·try simp [go_sem, g]
      refine pw_wk ?_
      try simp [go_sem, g]
      exact pT (hg8 ()) (Rn_some hF) (by simp [go_sem, g, wr_i hi10 hi11 (by assumption)])
noncomputable def F_slices_Clone_impl_ViewCount_impl_ViewCount (a0 : (List ViewCount)) : Option (List ViewCount) :=
  gd (a0.length * 32 ≤ 140737488355328 ∧ a0.length ≤ 4611686018427387904) <|
  some a0
theorem c_slices_Clone_impl_ViewCount_impl_ViewCount {a0 : (List ViewCount)} {r : (List ViewCount)} (hr : F_slices_Clone_impl_ViewCount_impl_ViewCount a0 = some r) : PCalls Try.prog 108 [(.sh, .sl false 2 (a0.map row_ViewCount_z))] (Eo (.sl true 2 (r.map row_ViewCount_z)) [.junk]) := by
  apply pcalls_lf 8 [] [] [1000000] [.tmp 2] hr cl108 Try.func108 rfl rfl rfl
  · exact ⟨by simp, rfl⟩
  intro Φ hΦ hF
  unfold F_slices_Clone_impl_ViewCount_impl_ViewCount at hF
  obtain ⟨g, hF⟩ := Rn_gd hF
  have h1 := hΦ _ (Rn_some hF)
  subst h1
  try simp [go_sem]
  refine pw_wkL [(0, .v (.sl false 2 (a0.map row_ViewCount_z)))] (by simp [go_sem]) ?_
  try simp [go_sem]
  refine pw1_nil rfl rfl (by simp [go_sem]) rfl (by rfl) fun b hb => ?_
  try simp [go_sem]
  refine pw_wk ?_
  repeat rw [pw_seq]
  cases b
  · refine pw_cond_f (by simp [go_sem]) ?_
    try simp [go_sem]
    refine pw_wk ?_
    try simp [go_sem, g]
    refine pw_wk ?_
    try simp [go_sem, g]
  · have hb0 : a0 = [] := by
      cases a0 with
      | nil => rfl
      | cons x l => exact absurd (hb (by simp)) (by simp)
    subst hb0
    refine pw_cond_t (by simp [go_sem]) ?_
    try simp [go_sem]
    refine pw_wk ?_
    try simp [go_sem]
noncomputable def F_cmp_isNaN_int (a0 : Int) : Option (Bool) :=
  some (a0 != a0)
theorem c_cmp_isNaN_int : ∀ {a0} {r}, F_cmp_isNaN_int a0 = some r → PCalls Try.prog 180 [(.sh, .int .i64 a0)] (Eo (.bool r) [.junk]) := by
  intro a0 r hr
  apply pF 6 [] [] [] [.tmp 2] hr cl180 Try.func180
  intro Φ hΦ hF g
  unfold F_cmp_isNaN_int at hF
  cases hΦ _ (Rn_some hF)
  iterate 2 (try simp [go_sem, g]; refine pw_wk ?_)
  try simp [go_sem, g]
noncomputable def F_cmp_Compare_int (a0 : Int) (a1 : Int) : Option (Int) :=
  (F_cmp_isNaN_int a0).bind fun z1 =>
  (F_cmp_isNaN_int a1).bind fun z2 =>
  if z1 = true then (
  if z2 = true then (
  some 0) else (
  some (-1))) else (
  if z2 = true then (
  some 1) else (
  if decide (a0 < a1) = true then (
  some (-1)) else (
  if decide (a1 < a0) = true then (
  some 1) else (
  some 0))))
theorem c_cmp_Compare_int : ∀ {a0} {a1} {r}, F_cmp_Compare_int a0 a1 = some r → PCalls Try.prog 149 [(.sh, .int .i64 a0), (.sh, .int .i64 a1)] (Eo (.int .i64 r) [.junk, .junk]) := by
  intro a0 a1 r hr
  apply pF 20 [] [] [] [.tmp 4] hr cl149 Try.func149
  intro Φ hΦ hF g
  unfold F_cmp_Compare_int at hF
  try simp [go_sem, g]
  refine pw_wk ?_
  try simp [go_sem, g]
  refine pC hF [.sh] c_cmp_isNaN_int (fun z1 hF => ?_)
  try simp [go_sem, g]
  refine pw_wk ?_
  try simp [go_sem, g]
  refine pC hF [.sh] c_cmp_isNaN_int (fun z2 hF => ?_)
  iterate 2 (try simp [go_sem, g]; refine pw_wk ?_)
  repeat rw [sq]
  refine pI hF (fun h3 hF => ?_) (fun h3 hF => ?_)
  ·try simp [go_sem, g]
   refine pw_wk ?_
   repeat rw [sq]
   refine pI hF (fun h4 hF => ?_) (fun h4 hF => ?_)
   ·try simp [go_sem, g]
    refine pw_wkK [4] (by simp [go_sem, g]; rfl) ?_
    cases hΦ _ (Rn_some hF)
    try simp [go_sem, g]
   ·try simp [go_sem, g]
    refine pw_wk ?_
    try simp [go_sem, g]
    refine pw_wkK [4] (by simp [go_sem, g]; rfl) ?_
    cases hΦ _ (Rn_some hF)
    try simp [go_sem, g]
  ·iterate 2 (try simp [go_sem, g]; refine pw_wk ?_)
   repeat rw [sq]
   refine pI hF (fun h5 hF => ?_) (fun h5 hF => ?_)
   ·try simp [go_sem, g]
    refine pw_wkK [4] (by simp [go_sem, g]; rfl) ?_
    cases hΦ _ (Rn_some hF)
    try simp [go_sem, g]
   ·try simp [go_sem, g]
    refine pw_wk ?_
    try simp [go_sem, g]
    refine pw_wkK [0, 1, 16] (by simp [go_sem, g]; rfl) ?_
    repeat rw [sq]
    refine pI hF (fun h6 hF => ?_) (fun h6 hF => ?_)
    ·cases hΦ _ (Rn_some hF)
     try simp [go_sem, g]
     refine pw_wk ?_
     try simp [go_sem, g]
    ·iterate 2 (try simp [go_sem, g]; refine pw_wk ?_)
     repeat rw [sq]
     refine pI hF (fun h7 hF => ?_) (fun h7 hF => ?_)
     ·cases hΦ _ (Rn_some hF)
      try simp [go_sem, g]
      refine pw_wk ?_
      try simp [go_sem, g]
     ·cases hΦ _ (Rn_some hF)
      iterate 2 (try simp [go_sem, g]; refine pw_wk ?_)
      try simp [go_sem, g]
noncomputable def F_slices_Compare_int_int (a0 : (List Int)) (a1 : (List Int)) : Option (Int) :=
  ((rloop (σ := Unit) (fun i5 s4 =>
  (ix a0 i5).bind fun x11 =>
  if decide ((a1.length : Int) ≤ i5) = true then (
  some (.out (.inr 1))) else (
  (ix a1 i5).bind fun x13 =>
  (F_cmp_Compare_int x11 x13).bind fun z14 =>
  if (z14 != 0) = true then (
  some (.out (.inr z14))) else (
  some (.go ())))) (fun s4 => .inl ()) (a0.length) 0 () : Option (Unit ⊕ Int)).bind (Sum.elim (fun x3 =>
  if decide ((a0.length : Int) < (a1.length : Int)) = true then (
  some (-1)) else (
  some 0)) some))
theorem c_slices_Compare_int_int : ∀ {a0} {a1} {r}, F_slices_Compare_int_int a0 a1 = some r → PCalls Try.prog 103 [(.sh, .sl false 1 (a0.map row_i64)), (.sh, .sl false 1 (a1.map row_i64))] (Eo (.int .i64 r) [.junk, .junk]) := by
  intro a0 a1 r hr
  apply pF 36 [] [] [] [.tmp 4] hr cl103 Try.func103
  intro Φ hΦ hF g
  unfold F_slices_Compare_int_int at hF
  iterate 2 (try simp [go_sem, g]; try intros; refine pw_wk ?_)
  repeat rw [sq]
  refine pJs hF (fun x3 => [(0, .v (.sl false 1 (a0.map row_i64))), (1, .v (.sl false 1 (a1.map row_i64)))]) (fun x3 hF => ?_) fun _ hj1 hr2 hF => ?_
  ·try simp [go_sem, g]
   try intros
   refine pw_wk ?_
   repeat rw [sq]
   refine pI hF (fun h20 hF => ?_) (fun h20 hF => ?_)
   ·try simp [go_sem, g]
    refine pw_wkK [4] (by simp [go_sem, g]; rfl) ?_
    cases hΦ _ (Rn_some hF)
    try simp [go_sem, g]
   ·try simp [go_sem, g]
    refine pw_wk ?_
    try simp [go_sem, g]
    refine pw_wkK [4] (by simp [go_sem, g]; rfl) ?_
    cases hΦ _ (Rn_some hF)
    try simp [go_sem, g]
  ·repeat rw [sq]
   rw [pw_block]
   obtain ⟨b16, hb17, hψ8⟩ := hF
   refine pR hb17 (fun i5 s4 => [(0, .v (.sl false 1 (a0.map row_i64))), (1, .v (.sl false 1 (a1.map row_i64))), (9, .v (.sl false 1 (a0.map row_i64))), (10, .v (.int .i64 (a0.length : Int))), (11, .v (.int .i64 i5))]) (fun s4 _ hN18 => ?_) (fun i5 s4 _ _ hi9 hi10 ho6 hg7 hF => ?_)
   ·subst hN18
    try simp [go_sem]
    refine pw_wk ?_
    repeat rw [sq]
    refine pw_cond_f (by simp [go_sem]) ?_
    try simp [go_sem]
    exact pT (hj1 ()) hψ8 (by simp [go_sem])
   ·try simp [go_sem, g]
    refine pw_wk ?_
    repeat rw [sq]
    refine pw_cond_t (by simp [go_sem, g, hi9, hi10]) ?_
    try simp [go_sem, g]
    refine pw_wk ?_
    repeat rw [sq]
    rw [pw_block]
    obtain ⟨x11, g, hF⟩ := Rx g hF
    try simp [go_sem, g]
    refine pw_wkK [0, 1, 5, 6, 9, 10, 11] (by simp [go_sem, g]; rfl) ?_
    try simp [go_sem, g]
    try intros
    refine pw_wk ?_
    repeat rw [sq]
    refine pI hF (fun h12 hF => ?_) (fun h12 hF => ?_)
    ·cases ho6 _ (Rn_some hF)
     cases hΦ _ (hr2 _ hψ8)
     try simp [go_sem, g]
     refine pw_wk ?_
     try simp [go_sem, g]
    ·obtain ⟨x13, g, hF⟩ := Rx g hF
     iterate 2 (try simp [go_sem, g]; refine pw_wk ?_)
     try simp [go_sem, g]
     refine pC hF [.sh, .sh] c_cmp_Compare_int (fun z14 hF => ?_)
     try simp [go_sem, g]
     refine pw_wkK [0, 1, 8, 9, 10, 11] (by simp [go_sem, g]; rfl) ?_
     try simp [go_sem, g]
     refine pw_wk ?_
     repeat rw [sq]
     refine pI hF (fun h15 hF => ?_) (fun h15 hF => ?_)
     ·cases ho6 _ (Rn_some hF)
      cases hΦ _ (hr2 _ hψ8)
      try simp [go_sem, g]
      refine pw_wk ?_
      try simp [go_sem, g]
     ·try simp [go_sem, g]
      refine pw_wk ?_
      try simp [go_sem, g]
      exact pT (hg7 ()) (Rn_some hF) (by simp [go_sem, g, wr_i hi9 hi10 (by assumption)])
noncomputable def F_impl_gathered_1 (a0 : ViewCount) (a1 : ViewCount) : Option (Int) :=
  (F_slices_Compare_int_int a0.View a1.View).bind fun z1 =>
  some z1
theorem c_impl_gathered_1 : ∀ {a0} {a1} {r}, F_impl_gathered_1 a0 a1 = some r → PCalls Try.prog 110 [(.sh, .agg [.sl false 1 (a0.View.map row_i64), .int .i64 a0.Times]), (.sh, .agg [.sl false 1 (a1.View.map row_i64), .int .i64 a1.Times])] (Eo (.int .i64 r) [.junk, .junk]) := by
  intro a0 a1 r hr
  apply pF 10 [] [] [] [.tmp 4] hr cl110 Try.func110
  intro Φ hΦ hF g
  unfold F_impl_gathered_1 at hF
  try simp [go_sem, g]
  refine pw_wk ?_
  try simp [go_sem, g]
  refine pC hF [.sh, .sh] c_slices_Compare_int_int (fun z1 hF => ?_)
  cases hΦ _ (Rn_some hF)
  try simp [go_sem, g]
  refine pw_wk ?_
  try simp [go_sem, g]
def D181_4 : List DE := [⟨0, [9], [], none, false, false, false⟩, ⟨1, [1], [], none, false, false, false⟩, ⟨2, [18, 19], [], none, false, false, false⟩, ⟨3, [20], [], none, false, false, false⟩, ⟨4, [3, 21], [], none, false, false, false⟩, ⟨5, [0, 21], [], none, false, false, false⟩, ⟨6, [9, 21], [], none, false, false, false⟩, ⟨7, [23, 24, 21], [], none, false, false, false⟩, ⟨8, [25, 21], [], none, false, false, false⟩, ⟨9, [0, 21], [], none, false, false, false⟩, ⟨10, [9, 21], [], none, false, false, false⟩, ⟨11, [28, 21], [], none, false, false, false⟩, ⟨12, [27, 29, 21], [], none, false, false, false⟩, ⟨13, [30, 21], [], none, false, false, false⟩, ⟨14, [22, 26, 31, 21], [], none, false, true, true⟩, ⟨15, [32, 21], [], none, false, false, false⟩, ⟨16, [21, 33], [], none, false, false, false⟩]
def D181_6 : List DE := [⟨0, [0], [], none, false, false, false⟩, ⟨1, [9], [], none, false, false, false⟩, ⟨2, [0], [], none, false, false, false⟩, ⟨3, [9], [], none, false, false, false⟩, ⟨4, [40], [], none, false, false, false⟩, ⟨5, [0], [], none, false, false, false⟩, ⟨6, [9], [], none, false, false, false⟩, ⟨7, [43], [], none, false, false, false⟩, ⟨8, [42, 44], [], none, false, false, false⟩, ⟨9, [45], [], none, false, false, false⟩, ⟨10, [0], [], none, false, false, false⟩, ⟨11, [9], [], none, false, false, false⟩, ⟨12, [47, 48], [], none, false, false, false⟩, ⟨13, [49], [], none, false, false, false⟩, ⟨14, [37, 38], [], none, false, false, false⟩, ⟨15, [51, 46], [], none, false, false, false⟩, ⟨16, [39, 41], [], none, false, false, false⟩, ⟨17, [52, 50], [], none, false, false, false⟩]
noncomputable def F_slices_insertionSortCmpFunc_impl_ViewCount__io0_impl_gathered_1 (a0 : (List ViewCount)) (a1 : Int) (a2 : Int) : Option ((List ViewCount)) :=
  wloop (σ := (List ViewCount) × Int) (fun s44 =>
  if decide (s44.2 < a2) = true then (
  ((wloop (σ := (List ViewCount) × Int) (fun s69 =>
  ((if decide (a1 < s69.2) = true then (
  (ix s69.1 s69.2).bind fun x78 =>
  (ix s69.1 (i64.wrap (s69.2 - 1))).bind fun x79 =>
  (F_impl_gathered_1 x78 x79).bind fun z80 =>
  some (decide (z80 < 0))) else (
  some false) : Option (Bool)).bind fun x76 =>
  if x76 = true then (
  (ix s69.1 (i64.wrap (s69.2 - 1))).bind fun x82 =>
  (ix s69.1 s69.2).bind fun x83 =>
  (ix (s69.1.set s69.2.toNat x82) (i64.wrap (s69.2 - 1))).bind fun x84 =>
  some (.go ((s69.1.set s69.2.toNat x82).set ((i64.wrap (s69.2 - 1)).toNat) x83, i64.wrap (s69.2 - 1)))) else (
  some (.out s69.1)))) (s44.1, s44.2) : Option ((List ViewCount))).bind fun x52 =>
  some (.go (x52, i64.wrap (s44.2 + 1))))) else (
  some (.out s44.1))) (a0, i64.wrap (a1 + 1))
theorem c_slices_insertionSortCmpFunc_impl_ViewCount__io0_impl_gathered_1 : ∀ {a0} {a1} {a2} {r}, F_slices_insertionSortCmpFunc_impl_ViewCount__io0_impl_gathered_1 a0 a1 a2 = some r → PCalls Try.prog 181 [(.io, .sl true 2 (a0.map row_ViewCount_z)), (.sh, .int .i64 a1), (.sh, .int .i64 a2), (.sh, .func (.func 110) [] [])] (Eo (.junk) [.sl true 2 (r.map row_ViewCount_z), .junk, .junk, .junk]) := by
  intro a0 a1 a2 r hr
  apply pF 53 [0] [] [] [] hr cl181 Try.func181
  intro Φ hΦ hF g
  unfold F_slices_insertionSortCmpFunc_impl_ViewCount__io0_impl_gathered_1 at hF
  try simp [go_sem, g]
  refine pw_wk ?_
  repeat rw [sq]
  rw [pw_block]
  obtain ⟨b87, hb88, hψ48⟩ := hF
  refine pL hb88 (fun s44 => [(0, .v (.sl true 2 (s44.1.map row_ViewCount_z))), (1, .v (.int .i64 a1)), (2, .v (.int .i64 a2)), (3, .v (.func (.func 110) [] [])), (8, .v (.int .i64 s44.2))]) (fun s44 _ _ ho46 hg47 hF => ?_)
  try simp [go_sem, g]
  refine pw_wk ?_
  repeat rw [sq]
  refine pI hF (fun h49 hF => ?_) (fun h49 hF => ?_)
  ·try simp [go_sem, g]
   refine pw_wk ?_
   repeat rw [sq]
   refine pJ hF (fun x52 => [(0, .v (.sl true 2 (x52.map row_ViewCount_z))), (1, .v (.int .i64 a1)), (2, .v (.int .i64 a2)), (3, .v (.func (.func 110) [] [])), (8, .v (.int .i64 s44.2))]) (fun x52 hF => ?_) fun _ hj50 hF => ?_
   ·try simp [go_sem, g]
    exact pT (hg47 (x52, i64.wrap (s44.2 + 1))) (Rn_some hF)
   ·repeat rw [sq]
    rw [pw_block]
    try simp [go_sem, g]
    refine pw_wk ?_
    repeat rw [sq]
    rw [pw_block]
    obtain ⟨b85, hb86, hψ73⟩ := hF
    refine pL hb86 (fun s69 => [(0, .v (.sl true 2 (s69.1.map row_ViewCount_z))), (1, .v (.int .i64 a1)), (2, .v (.int .i64 a2)), (3, .v (.func (.func 110) [] [])), (8, .v (.int .i64 s44.2)), (9, .v (.int .i64 s69.2))]) (fun s69 _ _ ho71 hg72 hF => ?_)
    repeat rw [sq]
    refine pJ hF (fun x76 => [(0, .v (.sl true 2 (s69.1.map row_ViewCount_z))), (1, .v (.int .i64 a1)), (2, .v (.int .i64 a2)), (3, .v (.func (.func 110) [] [])), (8, .v (.int .i64 s44.2)), (9, .v (.int .i64 s69.2)), (34, .v (.bool x76))]) (fun x76 hF => ?_) fun _ hj74 hF => ?_
    ·repeat rw [sq]
     refine pI hF (fun h81 hF => ?_) (fun h81 hF => ?_)
     ·try simp [go_sem, g]
      refine pw_wk ?_
      repeat rw [sq]
      rw [pw_block]
      repeat rw [sq]
      refine pw_draw D181_6 follows (by kernel_rfl) rfl ?_
      try simp only [go_sem, D181_6]
      obtain ⟨x82, g, hF⟩ := Rx g hF
      obtain ⟨x83, g, hF⟩ := Rx g hF
      obtain ⟨x84, g, hF⟩ := Rx g hF
      try simp [go_sem, g]
      refine pw_wkK [0, 1, 2, 3, 8, 9] (by simp [go_sem, g]; rfl) ?_
      try simp [go_sem, g]
      exact pT (hg72 ((s69.1.set s69.2.toNat x82).set ((i64.wrap (s69.2 - 1)).toNat) x83, i64.wrap (s69.2 - 1))) (Rn_some hF)
     ·try simp [go_sem, g]
      cases ho71 _ (Rn_some hF)
      exact pT (hj50 s69.1) hψ73
    ·repeat rw [sq]
     refine pw_draw D181_4 follows (by kernel_rfl) rfl ?_
     try simp only [go_sem, D181_4]
     try simp [go_sem, g]
     refine pwgD_F hF (fun h77 hF => ?_) fun h77 hF => ?_
     ·obtain ⟨x78, g, hF⟩ := Rx g hF
      obtain ⟨x79, g, hF⟩ := Rx g hF
      try simp [go_sem, g, h77]
      refine pC hF [.sh, .sh] c_impl_gathered_1 (fun z80 hF => ?_)
      try simp [go_sem, g, h77]
      exact pT (hj74 (decide (z80 < 0))) (Rn_some hF)
     ·try simp [go_sem, g, h77]
      exact pT (hj74 false) (Rn_some hF)
  ·cases ho46 _ (Rn_some hF)
   cases hΦ _ hψ48
   try simp [go_sem, g]
def D206_3 : List DE := [⟨0, [0], [], none, false, false, false⟩, ⟨1, [1], [], none, false, false, false⟩, ⟨2, [10], [], none, false, false, false⟩, ⟨3, [17, 18], [], none, false, false, false⟩, ⟨4, [0], [], none, false, false, false⟩, ⟨5, [2], [], none, false, false, false⟩, ⟨6, [10], [], none, false, false, false⟩, ⟨7, [21, 22], [], none, false, false, false⟩, ⟨8, [0], [], none, false, false, false⟩, ⟨9, [2], [], none, false, false, false⟩, ⟨10, [10], [], none, false, false, false⟩, ⟨11, [25, 26], [], none, false, false, false⟩, ⟨12, [24, 27], [], none, false, false, false⟩, ⟨13, [28], [], none, false, false, false⟩, ⟨14, [0], [], none, false, false, false⟩, ⟨15, [1], [], none, false, false, false⟩, ⟨16, [10], [], none, false, false, false⟩, ⟨17, [31, 32], [], none, false, false, false⟩, ⟨18, [30, 33], [], none, false, false, false⟩, ⟨19, [34], [], none, false, false, false⟩, ⟨20, [16, 19], [], none, false, false, false⟩, ⟨21, [36, 29], [], none, false, false, false⟩, ⟨22, [20, 23], [], none, false, false, false⟩, ⟨23, [37, 35], [], none, false, false, false⟩]
noncomputable def F_slices_swapRangeCmpFunc_impl_ViewCount__io0_impl_gathered_1 (a0 : (List ViewCount)) (a1 : Int) (a2 : Int) (a3 : Int) : Option ((List ViewCount)) :=
  wloop (σ := (List ViewCount) × Int) (fun s10 =>
  if decide (s10.2 < a3) = true then (
  (ix s10.1 (i64.wrap (a2 + s10.2))).bind fun x16 =>
  (ix s10.1 (i64.wrap (a1 + s10.2))).bind fun x17 =>
  (ix (s10.1.set ((i64.wrap (a1 + s10.2)).toNat) x16) (i64.wrap (a2 + s10.2))).bind fun x18 =>
  some (.go ((s10.1.set ((i64.wrap (a1 + s10.2)).toNat) x16).set ((i64.wrap (a2 + s10.2)).toNat) x17, i64.wrap (s10.2 + 1)))) else (
  some (.out s10.1))) (a0, 0)
theorem c_slices_swapRangeCmpFunc_impl_ViewCount__io0_impl_gathered_1 : ∀ {a0} {a1} {a2} {a3} {r}, F_slices_swapRangeCmpFunc_impl_ViewCount__io0_impl_gathered_1 a0 a1 a2 a3 = some r → PCalls Try.prog 206 [(.io, .sl true 2 (a0.map row_ViewCount_z)), (.sh, .int .i64 a1), (.sh, .int .i64 a2), (.sh, .int .i64 a3), (.sh, .func (.func 110) [] [])] (Eo (.junk) [.sl true 2 (r.map row_ViewCount_z), .junk, .junk, .junk, .junk]) := by
  intro a0 a1 a2 a3 r hr
  apply pF 38 [0] [] [] [] hr cl206 Try.func206
  intro Φ hΦ hF g
  unfold F_slices_swapRangeCmpFunc_impl_ViewCount__io0_impl_gathered_1 at hF
  try simp [go_sem, g]
  refine pw_wk ?_
  repeat rw [sq]
  rw [pw_block]
  obtain ⟨b19, hb20, hψ14⟩ := hF
  refine pL hb20 (fun s10 => [(0, .v (.sl true 2 (s10.1.map row_ViewCount_z))), (1, .v (.int .i64 a1)), (2, .v (.int .i64 a2)), (3, .v (.int .i64 a3)), (10, .v (.int .i64 s10.2))]) (fun s10 _ _ ho12 hg13 hF => ?_)
  try simp [go_sem, g]
  refine pw_wk ?_
  repeat rw [sq]
  refine pI hF (fun h15 hF => ?_) (fun h15 hF => ?_)
  ·try simp [go_sem, g]
   refine pw_wk ?_
   repeat rw [sq]
   rw [pw_block]
   repeat rw [sq]
   refine pw_draw D206_3 follows (by kernel_rfl) rfl ?_
   try simp only [go_sem, D206_3]
   obtain ⟨x16, g, hF⟩ := Rx g hF
   obtain ⟨x17, g, hF⟩ := Rx g hF
   obtain ⟨x18, g, hF⟩ := Rx g hF
   try simp [go_sem, g]
   refine pw_wkK [0, 1, 2, 3, 10] (by simp [go_sem, g]; rfl) ?_
   try simp [go_sem, g]
   exact pT (hg13 ((s10.1.set ((i64.wrap (a1 + s10.2)).toNat) x16).set ((i64.wrap (a2 + s10.2)).toNat) x17, i64.wrap (s10.2 + 1))) (Rn_some hF)
  ·cases ho12 _ (Rn_some hF)
   cases hΦ _ hψ14
   try simp [go_sem, g]
noncomputable def F_slices_rotateCmpFunc_impl_ViewCount__io0_impl_gathered_1 (a0 : (List ViewCount)) (a1 : Int) (a2 : Int) (a3 : Int) : Option ((List ViewCount)) :=
  ((wloop (σ := (List ViewCount) × Int × Int) (fun s13 =>
  if (s13.2.1 != s13.2.2) = true then (
  if decide (s13.2.2 < s13.2.1) = true then (
  (F_slices_swapRangeCmpFunc_impl_ViewCount__io0_impl_gathered_1 s13.1 (i64.wrap (a2 - s13.2.1)) a2 s13.2.2).bind fun z20 =>
  some (.go (z20, i64.wrap (s13.2.1 - s13.2.2), s13.2.2))) else (
  (F_slices_swapRangeCmpFunc_impl_ViewCount__io0_impl_gathered_1 s13.1 (i64.wrap (a2 - s13.2.1)) (i64.wrap ((i64.wrap (a2 + s13.2.2)) - s13.2.1)) s13.2.1).bind fun z21 =>
  some (.go (z21, s13.2.1, i64.wrap (s13.2.2 - s13.2.1))))) else (
  some (.out (s13.1, s13.2.1)))) (a0, i64.wrap (a2 - a1), i64.wrap (a3 - a2)) : Option (((List ViewCount) × Int))).bind fun x3 =>
  (F_slices_swapRangeCmpFunc_impl_ViewCount__io0_impl_gathered_1 x3.1 (i64.wrap (a2 - x3.2)) a2 x3.2).bind fun z24 =>
  some z24)
theorem c_slices_rotateCmpFunc_impl_ViewCount__io0_impl_gathered_1 : ∀ {a0} {a1} {a2} {a3} {r}, F_slices_rotateCmpFunc_impl_ViewCount__io0_impl_gathered_1 a0 a1 a2 a3 = some r → PCalls Try.prog 199 [(.io, .sl true 2 (a0.map row_ViewCount_z)), (.sh, .int .i64 a1), (.sh, .int .i64 a2), (.sh, .int .i64 a3), (.sh, .func (.func 110) [] [])] (Eo (.junk) [.sl true 2 (r.map row_ViewCount_z), .junk, .junk, .junk, .junk]) := by
  intro a0 a1 a2 a3 r hr
  apply pF 58 [0] [] [] [] hr cl199 Try.func199
  intro Φ hΦ hF g
  unfold F_slices_rotateCmpFunc_impl_ViewCount__io0_impl_gathered_1 at hF
  iterate 2 (try simp [go_sem, g]; refine pw_wk ?_)
  repeat rw [sq]
  refine pJ hF (fun x3 => [(0, .v (.sl true 2 (x3.1.map row_ViewCount_z))), (2, .v (.int .i64 a2)), (4, .v (.func (.func 110) [] [])), (10, .v (.int .i64 x3.2))]) (fun x3 hF => ?_) fun _ hj1 hF => ?_
  ·try simp [go_sem, g]
   refine pC hF [.io, .sh, .sh, .sh, .sh] c_slices_swapRangeCmpFunc_impl_ViewCount__io0_impl_gathered_1 (fun z24 hF => ?_)
   cases hΦ _ (Rn_some hF)
   try simp [go_sem, g]
  ·repeat rw [sq]
   rw [pw_block]
   obtain ⟨b22, hb23, hψ17⟩ := hF
   refine pL hb23 (fun s13 => [(0, .v (.sl true 2 (s13.1.map row_ViewCount_z))), (2, .v (.int .i64 a2)), (4, .v (.func (.func 110) [] [])), (10, .v (.int .i64 s13.2.1)), (11, .v (.int .i64 s13.2.2))]) (fun s13 _ _ ho15 hg16 hF => ?_)
   try simp [go_sem, g]
   refine pw_wkK [0, 2, 4, 10, 11, 20] (by simp [go_sem, g]; rfl) ?_
   repeat rw [sq]
   refine pI hF (fun h18 hF => ?_) (fun h18 hF => ?_)
   ·try simp [go_sem, g]
    refine pw_wk ?_
    repeat rw [sq]
    rw [pw_block]
    try simp [go_sem, g]
    refine pw_wk ?_
    repeat rw [sq]
    refine pI hF (fun h19 hF => ?_) (fun h19 hF => ?_)
    ·try simp [go_sem, g]
     refine pC hF [.io, .sh, .sh, .sh, .sh] c_slices_swapRangeCmpFunc_impl_ViewCount__io0_impl_gathered_1 (fun z20 hF => ?_)
     try simp [go_sem, g]
     refine pw_wkK [0, 2, 4, 10, 11] (by simp [go_sem, g]; rfl) ?_
     try simp [go_sem, g]
     exact pT (hg16 (z20, i64.wrap (s13.2.1 - s13.2.2), s13.2.2)) (Rn_some hF)
    ·try simp [go_sem, g]
     refine pC hF [.io, .sh, .sh, .sh, .sh] c_slices_swapRangeCmpFunc_impl_ViewCount__io0_impl_gathered_1 (fun z21 hF => ?_)
     try simp [go_sem, g]
     refine pw_wkK [0, 2, 4, 10, 11] (by simp [go_sem, g]; rfl) ?_
     try simp [go_sem, g]
     exact pT (hg16 (z21, s13.2.1, i64.wrap (s13.2.2 - s13.2.1))) (Rn_some hF)
   ·try simp [go_sem, g]
    cases ho15 _ (Rn_some hF)
    exact pT (hj1 (s13.1, s13.2.1)) hψ17
def D182_11 : List DE := [⟨0, [0], [], none, false, false, false⟩, ⟨1, [13], [], none, false, false, false⟩, ⟨2, [0], [], none, false, false, false⟩, ⟨3, [13], [], none, false, false, false⟩, ⟨4, [64], [], none, false, false, false⟩, ⟨5, [0], [], none, false, false, false⟩, ⟨6, [13], [], none, false, false, false⟩, ⟨7, [67], [], none, false, false, false⟩, ⟨8, [66, 68], [], none, false, false, false⟩, ⟨9, [69], [], none, false, false, false⟩, ⟨10, [0], [], none, false, false, false⟩, ⟨11, [13], [], none, false, false, false⟩, ⟨12, [71, 72], [], none, false, false, false⟩, ⟨13, [73], [], none, false, false, false⟩, ⟨14, [61, 62], [], none, false, false, false⟩, ⟨15, [75, 70], [], none, false, false, false⟩, ⟨16, [63, 65], [], none, false, false, false⟩, ⟨17, [76, 74], [], none, false, false, false⟩]
def D182_17 : List DE := [⟨0, [4], [], none, false, false, false⟩, ⟨1, [0], [], none, false, false, false⟩, ⟨2, [2], [], none, false, false, false⟩, ⟨3, [93, 94], [], none, false, false, false⟩, ⟨4, [95], [], none, false, false, false⟩, ⟨5, [0], [], none, false, false, false⟩, ⟨6, [16], [], none, false, false, false⟩, ⟨7, [97, 98], [], none, false, false, false⟩, ⟨8, [99], [], none, false, false, false⟩, ⟨9, [92, 96, 100], [], none, false, true, true⟩, ⟨10, [101], [], none, false, false, false⟩, ⟨11, [102], [], none, false, false, false⟩]
def D182_23 : List DE := [⟨0, [0], [], none, false, false, false⟩, ⟨1, [17], [], none, false, false, false⟩, ⟨2, [0], [], none, false, false, false⟩, ⟨3, [17], [], none, false, false, false⟩, ⟨4, [116], [], none, false, false, false⟩, ⟨5, [0], [], none, false, false, false⟩, ⟨6, [17], [], none, false, false, false⟩, ⟨7, [119], [], none, false, false, false⟩, ⟨8, [118, 120], [], none, false, false, false⟩, ⟨9, [121], [], none, false, false, false⟩, ⟨10, [0], [], none, false, false, false⟩, ⟨11, [17], [], none, false, false, false⟩, ⟨12, [123, 124], [], none, false, false, false⟩, ⟨13, [125], [], none, false, false, false⟩, ⟨14, [113, 114], [], none, false, false, false⟩, ⟨15, [127, 122], [], none, false, false, false⟩, ⟨16, [115, 117], [], none, false, false, false⟩, ⟨17, [128, 126], [], none, false, false, false⟩]
def D182_35 : List DE := [⟨0, [4], [], none, false, false, false⟩, ⟨1, [0], [], none, false, false, false⟩, ⟨2, [22], [], none, false, false, false⟩, ⟨3, [23], [], none, false, false, false⟩, ⟨4, [160, 161], [], none, false, false, false⟩, ⟨5, [159, 162], [], none, false, false, false⟩, ⟨6, [163], [], none, false, false, false⟩, ⟨7, [0], [], none, false, false, false⟩, ⟨8, [23], [], none, false, false, false⟩, ⟨9, [165, 166], [], none, false, false, false⟩, ⟨10, [167], [], none, false, false, false⟩, ⟨11, [158, 164, 168], [], none, false, true, true⟩, ⟨12, [169], [], none, false, false, false⟩, ⟨13, [170], [], none, false, false, false⟩]
def D182_5 : List DE := [⟨0, [4], [], none, false, false, false⟩, ⟨1, [0], [], none, false, false, false⟩, ⟨2, [12], [], none, false, false, false⟩, ⟨3, [41, 42], [], none, false, false, false⟩, ⟨4, [43], [], none, false, false, false⟩, ⟨5, [0], [], none, false, false, false⟩, ⟨6, [1], [], none, false, false, false⟩, ⟨7, [45, 46], [], none, false, false, false⟩, ⟨8, [47], [], none, false, false, false⟩, ⟨9, [40, 44, 48], [], none, false, true, true⟩, ⟨10, [49], [], none, false, false, false⟩]
noncomputable def F_slices_symMergeCmpFunc_impl_ViewCount__io0_impl_gathered_1_r : Nat → (List ViewCount) → Int → Int → Int → Option ((List ViewCount))
  | 0, _, _, _, _ => none
  | n_ + 1, a0, a1, a2, a3 =>
  if ((i64.wrap (a2 - a1)) == 1) = true then (
  ((wloop (σ := Int × Int) (fun s5 =>
  if decide (s5.1 < s5.2) = true then (
  (ix a0 (i64.wrap ((u64.wrap (i64.wrap (s5.1 + s5.2))).fdiv 2))).bind fun x11 =>
  (ix a0 a1).bind fun x12 =>
  (F_impl_gathered_1 x11 x12).bind fun z13 =>
  if decide (z13 < 0) = true then (
  some (.go (i64.wrap ((i64.wrap ((u64.wrap (i64.wrap (s5.1 + s5.2))).fdiv 2)) + 1), s5.2))) else (
  some (.go (s5.1, i64.wrap ((u64.wrap (i64.wrap (s5.1 + s5.2))).fdiv 2))))) else (
  some (.out s5.1))) (a2, a3) : Option (Int)).bind fun x4 =>
  ((wloop (σ := (List ViewCount) × Int) (fun s29 =>
  if decide (s29.2 < (i64.wrap (x4 - 1))) = true then (
  (ix s29.1 (i64.wrap (s29.2 + 1))).bind fun x35 =>
  (ix s29.1 s29.2).bind fun x36 =>
  (ix (s29.1.set s29.2.toNat x35) (i64.wrap (s29.2 + 1))).bind fun x37 =>
  some (.go ((s29.1.set s29.2.toNat x35).set ((i64.wrap (s29.2 + 1)).toNat) x36, i64.wrap (s29.2 + 1)))) else (
  some (.out s29.1))) (a0, a1) : Option ((List ViewCount))).bind fun x19 =>
  some x19))) else (
  if ((i64.wrap (a3 - a2)) == 1) = true then (
  ((wloop (σ := Int × Int) (fun s44 =>
  if decide (s44.1 < s44.2) = true then (
  (ix a0 a2).bind fun x50 =>
  (ix a0 (i64.wrap ((u64.wrap (i64.wrap (s44.1 + s44.2))).fdiv 2))).bind fun x51 =>
  (F_impl_gathered_1 x50 x51).bind fun z52 =>
  if (!(decide (z52 < 0))) = true then (
  some (.go (i64.wrap ((i64.wrap ((u64.wrap (i64.wrap (s44.1 + s44.2))).fdiv 2)) + 1), s44.2))) else (
  some (.go (s44.1, i64.wrap ((u64.wrap (i64.wrap (s44.1 + s44.2))).fdiv 2))))) else (
  some (.out s44.1))) (a1, a2) : Option (Int)).bind fun x43 =>
  ((wloop (σ := (List ViewCount) × Int) (fun s68 =>
  if decide (x43 < s68.2) = true then (
  (ix s68.1 (i64.wrap (s68.2 - 1))).bind fun x74 =>
  (ix s68.1 s68.2).bind fun x75 =>
  (ix (s68.1.set s68.2.toNat x74) (i64.wrap (s68.2 - 1))).bind fun x76 =>
  some (.go ((s68.1.set s68.2.toNat x74).set ((i64.wrap (s68.2 - 1)).toNat) x75, i64.wrap (s68.2 - 1)))) else (
  some (.out s68.1))) (a0, a2) : Option ((List ViewCount))).bind fun x58 =>
  some x58))) else (
  ((if decide ((i64.wrap ((u64.wrap (i64.wrap (a1 + a3))).fdiv 2)) < a2) = true then (
  some (i64.wrap ((i64.wrap ((i64.wrap ((u64.wrap (i64.wrap (a1 + a3))).fdiv 2)) + a2)) - a3), i64.wrap ((u64.wrap (i64.wrap (a1 + a3))).fdiv 2))) else (
  some (a1, a2)) : Option ((Int × Int))).bind fun x81 =>
  ((wloop (σ := Int × Int) (fun s86 =>
  if decide (s86.1 < s86.2) = true then (
  (ix a0 (i64.wrap ((i64.wrap ((i64.wrap ((i64.wrap ((u64.wrap (i64.wrap (a1 + a3))).fdiv 2)) + a2)) - 1)) - (i64.wrap ((u64.wrap (i64.wrap (s86.1 + s86.2))).fdiv 2))))).bind fun x92 =>
  (ix a0 (i64.wrap ((u64.wrap (i64.wrap (s86.1 + s86.2))).fdiv 2))).bind fun x93 =>
  (F_impl_gathered_1 x92 x93).bind fun z94 =>
  if (!(decide (z94 < 0))) = true then (
  some (.go (i64.wrap ((i64.wrap ((u64.wrap (i64.wrap (s86.1 + s86.2))).fdiv 2)) + 1), s86.2))) else (
  some (.go (s86.1, i64.wrap ((u64.wrap (i64.wrap (s86.1 + s86.2))).fdiv 2))))) else (
  some (.out s86.1))) (x81.1, x81.2) : Option (Int)).bind fun x85 =>
  ((if decide (x85 < a2) = true then (
  some (decide (a2 < (i64.wrap ((i64.wrap ((i64.wrap ((u64.wrap (i64.wrap (a1 + a3))).fdiv 2)) + a2)) - x85))))) else (
  some false) : Option (Bool)).bind fun x100 =>
  ((if x100 = true then (
  (F_slices_rotateCmpFunc_impl_ViewCount__io0_impl_gathered_1 a0 x85 a2 (i64.wrap ((i64.wrap ((i64.wrap ((u64.wrap (i64.wrap (a1 + a3))).fdiv 2)) + a2)) - x85))).bind fun z106 =>
  some z106) else (
  some a0) : Option ((List ViewCount))).bind fun x104 =>
  ((if decide (a1 < x85) = true then (
  some (decide (x85 < (i64.wrap ((u64.wrap (i64.wrap (a1 + a3))).fdiv 2))))) else (
  some false) : Option (Bool)).bind fun x109 =>
  ((if x109 = true then (
  (F_slices_symMergeCmpFunc_impl_ViewCount__io0_impl_gathered_1_r n_ x104 a1 x85 (i64.wrap ((u64.wrap (i64.wrap (a1 + a3))).fdiv 2))).bind fun z115 =>
  some z115) else (
  some x104) : Option ((List ViewCount))).bind fun x113 =>
  ((if decide ((i64.wrap ((u64.wrap (i64.wrap (a1 + a3))).fdiv 2)) < (i64.wrap ((i64.wrap ((i64.wrap ((u64.wrap (i64.wrap (a1 + a3))).fdiv 2)) + a2)) - x85))) = true then (
  some (decide ((i64.wrap ((i64.wrap ((i64.wrap ((u64.wrap (i64.wrap (a1 + a3))).fdiv 2)) + a2)) - x85)) < a3))) else (
  some false) : Option (Bool)).bind fun x118 =>
  if x118 = true then (
  (F_slices_symMergeCmpFunc_impl_ViewCount__io0_impl_gathered_1_r n_ x113 (i64.wrap ((u64.wrap (i64.wrap (a1 + a3))).fdiv 2)) (i64.wrap ((i64.wrap ((i64.wrap ((u64.wrap (i64.wrap (a1 + a3))).fdiv 2)) + a2)) - x85)) a3).bind fun z121 =>
  some z121) else (
  some x113))))))))))
noncomputable def F_slices_symMergeCmpFunc_impl_ViewCount__io0_impl_gathered_1 (a0 : (List ViewCount)) (a1 : Int) (a2 : Int) (a3 : Int) : Option ((List ViewCount)) := frec fun n_ => F_slices_symMergeCmpFunc_impl_ViewCount__io0_impl_gathered_1_r n_ a0 a1 a2 a3
theorem c_slices_symMergeCmpFunc_impl_ViewCount__io0_impl_gathered_1_r : ∀ {n_ : Nat} {a0 : (List ViewCount)} {a1 : Int} {a2 : Int} {a3 : Int} {r : (List ViewCount)} (hr : F_slices_symMergeCmpFunc_impl_ViewCount__io0_impl_gathered_1_r n_ a0 a1 a2 a3 = some r), PCalls Try.prog 182 [(.io, .sl true 2 (a0.map row_ViewCount_z)), (.sh, .int .i64 a1), (.sh, .int .i64 a2), (.sh, .int .i64 a3), (.sh, .func (.func 110) [] [])] (Eo (.junk) [.sl true 2 (r.map row_ViewCount_z), .junk, .junk, .junk, .junk]) := by
  intro n_
  induction n_ with
  | zero => intro a0 a1 a2 a3 r hr; cases hr
  | succ n_ ih =>
    intro a0 a1 a2 a3 r hr
    apply pF 220 [0] [] [] [] hr cl182 Try.func182
    intro Φ hΦ hF g
    simp only [F_slices_symMergeCmpFunc_impl_ViewCount__io0_impl_gathered_1_r] at hF
    try simp [go_sem, g]
    refine pw_wk ?_
    repeat rw [sq]
    refine pI hF (fun h1 hF => ?_) (fun h1 hF => ?_)
    ·iterate 2 (try simp [go_sem, g]; refine pw_wk ?_)
     repeat rw [sq]
     refine pJ hF (fun x4 => [(0, .v (.sl true 2 (a0.map row_ViewCount_z))), (1, .v (.int .i64 a1)), (10, .v (.int .i64 x4))]) (fun x4 hF => ?_) fun _ hj2 hF => ?_
     ·try simp [go_sem, g]
      refine pw_wkK [0, 10, 13] (by simp [go_sem, g]; rfl) ?_
      repeat rw [sq]
      refine pJ hF (fun x19 => [(0, .v (.sl true 2 (x19.map row_ViewCount_z)))]) (fun x19 hF => ?_) fun _ hj17 hF => ?_
      ·cases hΦ _ (Rn_some hF)
       try simp [go_sem, g]
      ·repeat rw [sq]
       rw [pw_block]
       obtain ⟨b38, hb39, hψ33⟩ := hF
       refine pL hb39 (fun s29 => [(0, .v (.sl true 2 (s29.1.map row_ViewCount_z))), (10, .v (.int .i64 x4)), (13, .v (.int .i64 s29.2))]) (fun s29 _ _ ho31 hg32 hF => ?_)
       try simp [go_sem, g]
       refine pw_wk ?_
       repeat rw [sq]
       refine pI hF (fun h34 hF => ?_) (fun h34 hF => ?_)
       ·try simp [go_sem, g]
        refine pw_wk ?_
        repeat rw [sq]
        rw [pw_block]
        repeat rw [sq]
        refine pw_draw D182_11 follows (by kernel_rfl) rfl ?_
        try simp only [go_sem, D182_11]
        obtain ⟨x35, g, hF⟩ := Rx g hF
        obtain ⟨x36, g, hF⟩ := Rx g hF
        obtain ⟨x37, g, hF⟩ := Rx g hF
        try simp [go_sem, g]
        refine pw_wkK [0, 10, 13] (by simp [go_sem, g]; rfl) ?_
        try simp [go_sem, g]
        exact pT (hg32 ((s29.1.set s29.2.toNat x35).set ((i64.wrap (s29.2 + 1)).toNat) x36, i64.wrap (s29.2 + 1))) (Rn_some hF)
       ·try simp [go_sem, g]
        cases ho31 _ (Rn_some hF)
        exact pT (hj17 s29.1) hψ33
     ·repeat rw [sq]
      rw [pw_block]
      obtain ⟨b15, hb16, hψ9⟩ := hF
      refine pL hb16 (fun s5 => [(0, .v (.sl true 2 (a0.map row_ViewCount_z))), (1, .v (.int .i64 a1)), (4, .v (.func (.func 110) [] [])), (10, .v (.int .i64 s5.1)), (11, .v (.int .i64 s5.2))]) (fun s5 _ _ ho7 hg8 hF => ?_)
      try simp [go_sem, g]
      refine pw_wkK [0, 1, 4, 10, 11, 33] (by simp [go_sem, g]; rfl) ?_
      repeat rw [sq]
      refine pI hF (fun h10 hF => ?_) (fun h10 hF => ?_)
      ·try simp [go_sem, g]
       refine pw_wk ?_
       repeat rw [sq]
       rw [pw_block]
       have g := Ls g 1
       try simp [go_sem, g]
       refine pw_wk ?_
       repeat rw [sq]
       refine pw_draw D182_5 follows (by kernel_rfl) rfl ?_
       try simp only [go_sem, D182_5]
       obtain ⟨x11, g, hF⟩ := Rx g hF
       obtain ⟨x12, g, hF⟩ := Rx g hF
       try simp [go_sem, g]
       refine pC hF [.sh, .sh] c_impl_gathered_1 (fun z13 hF => ?_)
       try simp [go_sem, g]
       refine pw_wkK [0, 1, 4, 10, 11, 12, 50] (by simp [go_sem, g]; rfl) ?_
       repeat rw [sq]
       refine pI hF (fun h14 hF => ?_) (fun h14 hF => ?_)
       ·try simp [go_sem, g]
        exact pT (hg8 (i64.wrap ((i64.wrap ((u64.wrap (i64.wrap (s5.1 + s5.2))).fdiv 2)) + 1), s5.2)) (Rn_some hF)
       ·try simp [go_sem, g]
        exact pT (hg8 (s5.1, i64.wrap ((u64.wrap (i64.wrap (s5.1 + s5.2))).fdiv 2))) (Rn_some hF)
      ·try simp [go_sem, g]
       cases ho7 _ (Rn_some hF)
       exact pT (hj2 s5.1) hψ9
    ·iterate 2 (try simp [go_sem, g]; refine pw_wk ?_)
     repeat rw [sq]
     refine pI hF (fun h40 hF => ?_) (fun h40 hF => ?_)
     ·try simp [go_sem, g]
      refine pw_wkK [0, 2, 4, 14] (by simp [go_sem, g]; rfl) ?_
      try simp [go_sem, g]
      refine pw_wk ?_
      repeat rw [sq]
      refine pJ hF (fun x43 => [(0, .v (.sl true 2 (a0.map row_ViewCount_z))), (2, .v (.int .i64 a2)), (14, .v (.int .i64 x43))]) (fun x43 hF => ?_) fun _ hj41 hF => ?_
      ·try simp [go_sem, g]
       refine pw_wk ?_
       repeat rw [sq]
       refine pJ hF (fun x58 => [(0, .v (.sl true 2 (x58.map row_ViewCount_z)))]) (fun x58 hF => ?_) fun _ hj56 hF => ?_
       ·cases hΦ _ (Rn_some hF)
        try simp [go_sem, g]
       ·repeat rw [sq]
        rw [pw_block]
        obtain ⟨b77, hb78, hψ72⟩ := hF
        refine pL hb78 (fun s68 => [(0, .v (.sl true 2 (s68.1.map row_ViewCount_z))), (14, .v (.int .i64 x43)), (17, .v (.int .i64 s68.2))]) (fun s68 _ _ ho70 hg71 hF => ?_)
        try simp [go_sem, g]
        refine pw_wk ?_
        repeat rw [sq]
        refine pI hF (fun h73 hF => ?_) (fun h73 hF => ?_)
        ·try simp [go_sem, g]
         refine pw_wk ?_
         repeat rw [sq]
         rw [pw_block]
         repeat rw [sq]
         refine pw_draw D182_23 follows (by kernel_rfl) rfl ?_
         try simp only [go_sem, D182_23]
         obtain ⟨x74, g, hF⟩ := Rx g hF
         obtain ⟨x75, g, hF⟩ := Rx g hF
         obtain ⟨x76, g, hF⟩ := Rx g hF
         try simp [go_sem, g]
         refine pw_wkK [0, 14, 17] (by simp [go_sem, g]; rfl) ?_
         try simp [go_sem, g]
         exact pT (hg71 ((s68.1.set s68.2.toNat x74).set ((i64.wrap (s68.2 - 1)).toNat) x75, i64.wrap (s68.2 - 1))) (Rn_some hF)
        ·try simp [go_sem, g]
         cases ho70 _ (Rn_some hF)
         exact pT (hj56 s68.1) hψ72
      ·repeat rw [sq]
       rw [pw_block]
       obtain ⟨b54, hb55, hψ48⟩ := hF
       refine pL hb55 (fun s44 => [(0, .v (.sl true 2 (a0.map row_ViewCount_z))), (2, .v (.int .i64 a2)), (4, .v (.func (.func 110) [] [])), (14, .v (.int .i64 s44.1)), (15, .v (.int .i64 s44.2))]) (fun s44 _ _ ho46 hg47 hF => ?_)
       try simp [go_sem, g]
       refine pw_wk ?_
       repeat rw [sq]
       refine pI hF (fun h49 hF => ?_) (fun h49 hF => ?_)
       ·try simp [go_sem, g]
        refine pw_wk ?_
        repeat rw [sq]
        rw [pw_block]
        have g := Ls g 1
        try simp [go_sem, g]
        refine pw_wkK [0, 2, 4, 14, 15, 16] (by simp [go_sem, g]; rfl) ?_
        repeat rw [sq]
        refine pw_draw D182_17 follows (by kernel_rfl) rfl ?_
        try simp only [go_sem, D182_17]
        obtain ⟨x50, g, hF⟩ := Rx g hF
        obtain ⟨x51, g, hF⟩ := Rx g hF
        try simp [go_sem, g]
        refine pC hF [.sh, .sh] c_impl_gathered_1 (fun z52 hF => ?_)
        try simp [go_sem, g]
        refine pw_wkK [0, 2, 4, 14, 15, 16, 103] (by simp [go_sem, g]; rfl) ?_
        repeat rw [sq]
        refine pI hF (fun h53 hF => ?_) (fun h53 hF => ?_)
        ·try simp [go_sem, g]
         exact pT (hg47 (i64.wrap ((i64.wrap ((u64.wrap (i64.wrap (s44.1 + s44.2))).fdiv 2)) + 1), s44.2)) (Rn_some hF)
        ·try simp [go_sem, g]
         exact pT (hg47 (s44.1, i64.wrap ((u64.wrap (i64.wrap (s44.1 + s44.2))).fdiv 2))) (Rn_some hF)
       ·try simp [go_sem, g]
        cases ho46 _ (Rn_some hF)
        exact pT (hj41 s44.1) hψ48
     ·have g := Ls g 1
      try simp [go_sem, g]
      refine pw_wk ?_
      try simp [go_sem, g]
      refine pw_wkK [0, 1, 2, 3, 4, 18] (by simp [go_sem, g]; rfl) ?_
      iterate 3 (try simp [go_sem, g]; refine pw_wk ?_)
      repeat rw [sq]
      refine pJ hF (fun x81 => [(0, .v (.sl true 2 (a0.map row_ViewCount_z))), (1, .v (.int .i64 a1)), (2, .v (.int .i64 a2)), (3, .v (.int .i64 a3)), (4, .v (.func (.func 110) [] [])), (18, .v (.int .i64 (i64.wrap ((u64.wrap (i64.wrap (a1 + a3))).fdiv 2)))), (19, .v (.int .i64 (i64.wrap ((i64.wrap ((u64.wrap (i64.wrap (a1 + a3))).fdiv 2)) + a2)))), (20, .v (.int .i64 x81.1)), (21, .v (.int .i64 x81.2))]) (fun x81 hF => ?_) fun _ hj79 hF => ?_
      ·try simp [go_sem, g]
       refine pw_wkK [0, 1, 2, 3, 4, 18, 19, 20, 21, 22] (by simp [go_sem, g]; rfl) ?_
       repeat rw [sq]
       refine pJ hF (fun x85 => [(0, .v (.sl true 2 (a0.map row_ViewCount_z))), (1, .v (.int .i64 a1)), (2, .v (.int .i64 a2)), (3, .v (.int .i64 a3)), (4, .v (.func (.func 110) [] [])), (18, .v (.int .i64 (i64.wrap ((u64.wrap (i64.wrap (a1 + a3))).fdiv 2)))), (19, .v (.int .i64 (i64.wrap ((i64.wrap ((u64.wrap (i64.wrap (a1 + a3))).fdiv 2)) + a2)))), (20, .v (.int .i64 x85))]) (fun x85 hF => ?_) fun _ hj83 hF => ?_
       ·try simp [go_sem, g]
        refine pw_wk ?_
        repeat rw [sq]
        refine pJ hF (fun x100 => [(0, .v (.sl true 2 (a0.map row_ViewCount_z))), (1, .v (.int .i64 a1)), (2, .v (.int .i64 a2)), (3, .v (.int .i64 a3)), (4, .v (.func (.func 110) [] [])), (18, .v (.int .i64 (i64.wrap ((u64.wrap (i64.wrap (a1 + a3))).fdiv 2)))), (20, .v (.int .i64 x85)), (24, .v (.int .i64 (i64.wrap ((i64.wrap ((i64.wrap ((u64.wrap (i64.wrap (a1 + a3))).fdiv 2)) + a2)) - x85)))), (185, .v (.bool x100))]) (fun x100 hF => ?_) fun _ hj98 hF => ?_
        ·repeat rw [sq]
         refine pJ hF (fun x104 => [(0, .v (.sl true 2 (x104.map row_ViewCount_z))), (1, .v (.int .i64 a1)), (3, .v (.int .i64 a3)), (4, .v (.func (.func 110) [] [])), (18, .v (.int .i64 (i64.wrap ((u64.wrap (i64.wrap (a1 + a3))).fdiv 2)))), (20, .v (.int .i64 x85)), (24, .v (.int .i64 (i64.wrap ((i64.wrap ((i64.wrap ((u64.wrap (i64.wrap (a1 + a3))).fdiv 2)) + a2)) - x85))))]) (fun x104 hF => ?_) fun _ hj102 hF => ?_
         ·repeat rw [sq]
          refine pJ hF (fun x109 => [(0, .v (.sl true 2 (x104.map row_ViewCount_z))), (1, .v (.int .i64 a1)), (3, .v (.int .i64 a3)), (4, .v (.func (.func 110) [] [])), (18, .v (.int .i64 (i64.wrap ((u64.wrap (i64.wrap (a1 + a3))).fdiv 2)))), (20, .v (.int .i64 x85)), (24, .v (.int .i64 (i64.wrap ((i64.wrap ((i64.wrap ((u64.wrap (i64.wrap (a1 + a3))).fdiv 2)) + a2)) - x85)))), (199, .v (.bool x109))]) (fun x109 hF => ?_) fun _ hj107 hF => ?_
          ·repeat rw [sq]
           refine pJ hF (fun x113 => [(0, .v (.sl true 2 (x113.map row_ViewCount_z))), (3, .v (.int .i64 a3)), (4, .v (.func (.func 110) [] [])), (18, .v (.int .i64 (i64.wrap ((u64.wrap (i64.wrap (a1 + a3))).fdiv 2)))), (24, .v (.int .i64 (i64.wrap ((i64.wrap ((i64.wrap ((u64.wrap (i64.wrap (a1 + a3))).fdiv 2)) + a2)) - x85))))]) (fun x113 hF => ?_) fun _ hj111 hF => ?_
           ·repeat rw [sq]
            refine pJ hF (fun x118 => [(0, .v (.sl true 2 (x113.map row_ViewCount_z))), (3, .v (.int .i64 a3)), (4, .v (.func (.func 110) [] [])), (18, .v (.int .i64 (i64.wrap ((u64.wrap (i64.wrap (a1 + a3))).fdiv 2)))), (24, .v (.int .i64 (i64.wrap ((i64.wrap ((i64.wrap ((u64.wrap (i64.wrap (a1 + a3))).fdiv 2)) + a2)) - x85)))), (213, .v (.bool x118))]) (fun x118 hF => ?_) fun _ hj116 hF => ?_
            ·repeat rw [sq]
             refine pI hF (fun h120 hF => ?_) (fun h120 hF => ?_)
             ·try simp [go_sem, g]
              refine pC hF [.io, .sh, .sh, .sh, .sh] ih (fun z121 hF => ?_)
              cases hΦ _ (Rn_some hF)
              try simp [go_sem, g]
             ·cases hΦ _ (Rn_some hF)
              try simp [go_sem, g]
            ·try simp [go_sem, g]
             refine pwg_F hF (fun h119 hF => ?_) fun h119 hF => ?_
             ·try simp [go_sem, g, h119]
              exact pT (hj116 (decide ((i64.wrap ((i64.wrap ((i64.wrap ((u64.wrap (i64.wrap (a1 + a3))).fdiv 2)) + a2)) - x85)) < a3))) (Rn_some hF)
             ·try simp [go_sem, g, h119]
              exact pT (hj116 false) (Rn_some hF)
           ·repeat rw [sq]
            refine pI hF (fun h114 hF => ?_) (fun h114 hF => ?_)
            ·try simp [go_sem, g]
             refine pC hF [.io, .sh, .sh, .sh, .sh] ih (fun z115 hF => ?_)
             try simp [go_sem, g]
             exact pT (hj111 z115) (Rn_some hF)
            ·try simp [go_sem, g]
             exact pT (hj111 x104) (Rn_some hF)
          ·try simp [go_sem, g]
           refine pwg_F hF (fun h110 hF => ?_) fun h110 hF => ?_
           ·try simp [go_sem, g, h110]
            exact pT (hj107 (decide (x85 < (i64.wrap ((u64.wrap (i64.wrap (a1 + a3))).fdiv 2))))) (Rn_some hF)
           ·try simp [go_sem, g, h110]
            exact pT (hj107 false) (Rn_some hF)
         ·repeat rw [sq]
          refine pI hF (fun h105 hF => ?_) (fun h105 hF => ?_)
          ·try simp [go_sem, g]
           refine pC hF [.io, .sh, .sh, .sh, .sh] c_slices_rotateCmpFunc_impl_ViewCount__io0_impl_gathered_1 (fun z106 hF => ?_)
           try simp [go_sem, g]
           exact pT (hj102 z106) (Rn_some hF)
          ·try simp [go_sem, g]
           exact pT (hj102 a0) (Rn_some hF)
        ·try simp [go_sem, g]
         refine pwg_F hF (fun h101 hF => ?_) fun h101 hF => ?_
         ·try simp [go_sem, g, h101]
          exact pT (hj98 (decide (a2 < (i64.wrap ((i64.wrap ((i64.wrap ((u64.wrap (i64.wrap (a1 + a3))).fdiv 2)) + a2)) - x85))))) (Rn_some hF)
         ·try simp [go_sem, g, h101]
          exact pT (hj98 false) (Rn_some hF)
       ·repeat rw [sq]
        rw [pw_block]
        obtain ⟨b96, hb97, hψ90⟩ := hF
        refine pL hb97 (fun s86 => [(0, .v (.sl true 2 (a0.map row_ViewCount_z))), (1, .v (.int .i64 a1)), (2, .v (.int .i64 a2)), (3, .v (.int .i64 a3)), (4, .v (.func (.func 110) [] [])), (18, .v (.int .i64 (i64.wrap ((u64.wrap (i64.wrap (a1 + a3))).fdiv 2)))), (19, .v (.int .i64 (i64.wrap ((i64.wrap ((u64.wrap (i64.wrap (a1 + a3))).fdiv 2)) + a2)))), (20, .v (.int .i64 s86.1)), (21, .v (.int .i64 s86.2)), (22, .v (.int .i64 (i64.wrap ((i64.wrap ((i64.wrap ((u64.wrap (i64.wrap (a1 + a3))).fdiv 2)) + a2)) - 1))))]) (fun s86 _ _ ho88 hg89 hF => ?_)
        try simp [go_sem, g]
        refine pw_wk ?_
        repeat rw [sq]
        refine pI hF (fun h91 hF => ?_) (fun h91 hF => ?_)
        ·try simp [go_sem, g]
         refine pw_wk ?_
         repeat rw [sq]
         rw [pw_block]
         try simp [go_sem, g]
         refine pw_wkK [0, 1, 2, 3, 4, 18, 19, 20, 21, 22, 23] (by simp [go_sem, g]; rfl) ?_
         repeat rw [sq]
         refine pw_draw D182_35 follows (by kernel_rfl) rfl ?_
         try simp only [go_sem, D182_35]
         obtain ⟨x92, g, hF⟩ := Rx g hF
         obtain ⟨x93, g, hF⟩ := Rx g hF
         try simp [go_sem, g]
         refine pC hF [.sh, .sh] c_impl_gathered_1 (fun z94 hF => ?_)
         try simp [go_sem, g]
         refine pw_wkK [0, 1, 2, 3, 4, 18, 19, 20, 21, 22, 23, 171] (by simp [go_sem, g]; rfl) ?_
         repeat rw [sq]
         refine pI hF (fun h95 hF => ?_) (fun h95 hF => ?_)
         ·try simp [go_sem, g]
          exact pT (hg89 (i64.wrap ((i64.wrap ((u64.wrap (i64.wrap (s86.1 + s86.2))).fdiv 2)) + 1), s86.2)) (Rn_some hF)
         ·try simp [go_sem, g]
          exact pT (hg89 (s86.1, i64.wrap ((u64.wrap (i64.wrap (s86.1 + s86.2))).fdiv 2))) (Rn_some hF)
        ·try simp [go_sem, g]
         cases ho88 _ (Rn_some hF)
         exact pT (hj83 s86.1) hψ90
      ·repeat rw [sq]
       refine pI hF (fun h82 hF => ?_) (fun h82 hF => ?_)
       ·try simp [go_sem, g]
        refine pw_wkK [0, 1, 2, 3, 4, 18, 19, 20] (by simp [go_sem, g]; rfl) ?_
        try simp [go_sem, g]
        exact pT (hj79 (i64.wrap ((i64.wrap ((i64.wrap ((u64.wrap (i64.wrap (a1 + a3))).fdiv 2)) + a2)) - a3), i64.wrap ((u64.wrap (i64.wrap (a1 + a3))).fdiv 2))) (Rn_some hF)
       ·try simp [go_sem, g]
        refine pw_wkK [0, 1, 2, 3, 4, 18, 19, 20] (by simp [go_sem, g]; rfl) ?_
        try simp [go_sem, g]
        exact pT (hj79 (a1, a2)) (Rn_some hF)
theorem c_slices_symMergeCmpFunc_impl_ViewCount__io0_impl_gathered_1 {a0 : (List ViewCount)} {a1 : Int} {a2 : Int} {a3 : Int} {r : (List ViewCount)} (hr : F_slices_symMergeCmpFunc_impl_ViewCount__io0_impl_gathered_1 a0 a1 a2 a3 = some r) : PCalls Try.prog 182 [(.io, .sl true 2 (a0.map row_ViewCount_z)), (.sh, .int .i64 a1), (.sh, .int .i64 a2), (.sh, .int .i64 a3), (.sh, .func (.func 110) [] [])] (Eo (.junk) [.sl true 2 (r.map row_ViewCount_z), .junk, .junk, .junk, .junk]) := by
  obtain ⟨n_, hn⟩ := frec_some hr
  exact c_slices_symMergeCmpFunc_impl_ViewCount__io0_impl_gathered_1_r hn
noncomputable def F_slices_stableCmpFunc_impl_ViewCount__io0_impl_gathered_1 (a0 : (List ViewCount)) (a1 : Int) : Option ((List ViewCount)) :=
  ((wloop (σ := (List ViewCount) × Int × Int) (fun s11 =>
  if decide (s11.2.2 ≤ a1) = true then (
  (F_slices_insertionSortCmpFunc_impl_ViewCount__io0_impl_gathered_1 s11.1 s11.2.1 s11.2.2).bind fun z17 =>
  some (.go (z17, s11.2.2, i64.wrap (s11.2.2 + 20)))) else (
  some (.out (s11.1, s11.2.1)))) (a0, 0, 20) : Option (((List ViewCount) × Int))).bind fun x3 =>
  (F_slices_insertionSortCmpFunc_impl_ViewCount__io0_impl_gathered_1 x3.1 x3.2 a1).bind fun z20 =>
  wloop (σ := (List ViewCount) × Int) (fun s51 =>
  if decide (s51.2 < a1) = true then (
  ((wloop (σ := (List ViewCount) × Int × Int) (fun s67 =>
  if decide (s67.2.2 ≤ a1) = true then (
  (F_slices_symMergeCmpFunc_impl_ViewCount__io0_impl_gathered_1 s67.1 s67.2.1 (i64.wrap (s67.2.1 + s51.2)) s67.2.2).bind fun z73 =>
  some (.go (z73, s67.2.2, i64.wrap (s67.2.2 + (i64.wrap (2 * s51.2)))))) else (
  some (.out (s67.1, s67.2.1)))) (s51.1, 0, i64.wrap (2 * s51.2)) : Option (((List ViewCount) × Int))).bind fun x59 =>
  ((if decide ((i64.wrap (x59.2 + s51.2)) < a1) = true then (
  (F_slices_symMergeCmpFunc_impl_ViewCount__io0_impl_gathered_1 x59.1 x59.2 (i64.wrap (x59.2 + s51.2)) a1).bind fun z80 =>
  some z80) else (
  some x59.1) : Option ((List ViewCount))).bind fun x78 =>
  some (.go (x78, i64.wrap (s51.2 * 2)))))) else (
  some (.out s51.1))) (z20, 20))
theorem c_slices_stableCmpFunc_impl_ViewCount__io0_impl_gathered_1 : ∀ {a0} {a1} {r}, F_slices_stableCmpFunc_impl_ViewCount__io0_impl_gathered_1 a0 a1 = some r → PCalls Try.prog 150 [(.io, .sl true 2 (a0.map row_ViewCount_z)), (.sh, .int .i64 a1), (.sh, .func (.func 110) [] [])] (Eo (.junk) [.sl true 2 (r.map row_ViewCount_z), .junk, .junk]) := by
  intro a0 a1 r hr
  apply pF 63 [0] [] [] [] hr cl150 Try.func150
  intro Φ hΦ hF g
  unfold F_slices_stableCmpFunc_impl_ViewCount__io0_impl_gathered_1 at hF
  iterate 2 (try simp [go_sem, g]; refine pw_wk ?_)
  repeat rw [sq]
  refine pJ hF (fun x3 => [(0, .v (.sl true 2 (x3.1.map row_ViewCount_z))), (1, .v (.int .i64 a1)), (2, .v (.func (.func 110) [] [])), (6, .v (.int .i64 20)), (7, .v (.int .i64 x3.2))]) (fun x3 hF => ?_) fun _ hj1 hF => ?_
  ·try simp [go_sem, g]
   refine pC hF [.io, .sh, .sh, .sh] c_slices_insertionSortCmpFunc_impl_ViewCount__io0_impl_gathered_1 (fun z20 hF => ?_)
   try simp [go_sem, g]
   refine pw_wk ?_
   repeat rw [sq]
   rw [pw_block]
   obtain ⟨b81, hb82, hψ55⟩ := hF
   refine pL hb82 (fun s51 => [(0, .v (.sl true 2 (s51.1.map row_ViewCount_z))), (1, .v (.int .i64 a1)), (2, .v (.func (.func 110) [] [])), (6, .v (.int .i64 s51.2))]) (fun s51 _ _ ho53 hg54 hF => ?_)
   try simp [go_sem, g]
   refine pw_wkK [0, 1, 2, 6, 30] (by simp [go_sem, g]; rfl) ?_
   repeat rw [sq]
   refine pI hF (fun h56 hF => ?_) (fun h56 hF => ?_)
   ·try simp [go_sem, g]
    refine pw_wk ?_
    repeat rw [sq]
    rw [pw_block]
    try simp [go_sem, g]
    refine pw_wk ?_
    repeat rw [sq]
    refine pJ hF (fun x59 => [(0, .v (.sl true 2 (x59.1.map row_ViewCount_z))), (1, .v (.int .i64 a1)), (2, .v (.func (.func 110) [] [])), (6, .v (.int .i64 s51.2)), (7, .v (.int .i64 x59.2))]) (fun x59 hF => ?_) fun _ hj57 hF => ?_
    ·try simp [go_sem, g]
     refine pw_wk ?_
     try simp [go_sem, g]
     refine pw_wkK [0, 1, 2, 6, 7, 9, 54] (by simp [go_sem, g]; rfl) ?_
     repeat rw [sq]
     refine pJ hF (fun x78 => [(0, .v (.sl true 2 (x78.map row_ViewCount_z))), (1, .v (.int .i64 a1)), (2, .v (.func (.func 110) [] [])), (6, .v (.int .i64 s51.2))]) (fun x78 hF => ?_) fun _ hj76 hF => ?_
     ·try simp [go_sem, g]
      exact pT (hg54 (x78, i64.wrap (s51.2 * 2))) (Rn_some hF)
     ·repeat rw [sq]
      refine pI hF (fun h79 hF => ?_) (fun h79 hF => ?_)
      ·try simp [go_sem, g]
       refine pC hF [.io, .sh, .sh, .sh, .sh] c_slices_symMergeCmpFunc_impl_ViewCount__io0_impl_gathered_1 (fun z80 hF => ?_)
       try simp [go_sem, g]
       exact pT (hj76 z80) (Rn_some hF)
      ·try simp [go_sem, g]
       exact pT (hj76 x59.1) (Rn_some hF)
    ·repeat rw [sq]
     rw [pw_block]
     obtain ⟨b74, hb75, hψ71⟩ := hF
     refine pL hb75 (fun s67 => [(0, .v (.sl true 2 (s67.1.map row_ViewCount_z))), (1, .v (.int .i64 a1)), (2, .v (.func (.func 110) [] [])), (6, .v (.int .i64 s51.2)), (7, .v (.int .i64 s67.2.1)), (8, .v (.int .i64 s67.2.2))]) (fun s67 _ _ ho69 hg70 hF => ?_)
     try simp [go_sem, g]
     refine pw_wk ?_
     repeat rw [sq]
     refine pI hF (fun h72 hF => ?_) (fun h72 hF => ?_)
     ·try simp [go_sem, g]
      refine pw_wk ?_
      repeat rw [sq]
      rw [pw_block]
      try simp [go_sem, g]
      refine pC hF [.io, .sh, .sh, .sh, .sh] c_slices_symMergeCmpFunc_impl_ViewCount__io0_impl_gathered_1 (fun z73 hF => ?_)
      try simp [go_sem, g]
      refine pw_wkK [0, 1, 2, 6, 8] (by simp [go_sem, g]; rfl) ?_
      try simp [go_sem, g]
      refine pw_wk ?_
      try simp [go_sem, g]
      exact pT (hg70 (z73, s67.2.2, i64.wrap (s67.2.2 + (i64.wrap (2 * s51.2))))) (Rn_some hF)
     ·try simp [go_sem, g]
      cases ho69 _ (Rn_some hF)
      exact pT (hj57 (s67.1, s67.2.1)) hψ71
   ·cases ho53 _ (Rn_some hF)
    cases hΦ _ hψ55
    try simp [go_sem, g]
  ·repeat rw [sq]
   rw [pw_block]
   obtain ⟨b18, hb19, hψ15⟩ := hF
   refine pL hb19 (fun s11 => [(0, .v (.sl true 2 (s11.1.map row_ViewCount_z))), (1, .v (.int .i64 a1)), (2, .v (.func (.func 110) [] [])), (6, .v (.int .i64 20)), (7, .v (.int .i64 s11.2.1)), (8, .v (.int .i64 s11.2.2))]) (fun s11 _ _ ho13 hg14 hF => ?_)
   try simp [go_sem, g]
   refine pw_wk ?_
   repeat rw [sq]
   refine pI hF (fun h16 hF => ?_) (fun h16 hF => ?_)
   ·try simp [go_sem, g]
    refine pw_wk ?_
    repeat rw [sq]
    rw [pw_block]
    try simp [go_sem, g]
    refine pC hF [.io, .sh, .sh, .sh] c_slices_insertionSortCmpFunc_impl_ViewCount__io0_impl_gathered_1 (fun z17 hF => ?_)
    try simp [go_sem, g]
    refine pw_wkK [0, 1, 2, 6, 8] (by simp [go_sem, g]; rfl) ?_
    try simp [go_sem, g]
    refine pw_wk ?_
    try simp [go_sem, g]
    exact pT (hg14 (z17, s11.2.2, i64.wrap (s11.2.2 + 20))) (Rn_some hF)
   ·try simp [go_sem, g]
    cases ho13 _ (Rn_some hF)
    exact pT (hj1 (s11.1, s11.2.1)) hψ15
noncomputable def F_slices_SortStableFunc_impl_ViewCount_impl_ViewCount__io0_impl_gathered_1 (a0 : (List ViewCount)) : Option ((List ViewCount)) :=
  (F_slices_stableCmpFunc_impl_ViewCount__io0_impl_gathered_1 a0 (a0.length : Int)).bind fun z1 =>
  some z1
theorem c_slices_SortStableFunc_impl_ViewCount_impl_ViewCount__io0_impl_gathered_1 : ∀ {a0} {r}, F_slices_SortStableFunc_impl_ViewCount_impl_ViewCount__io0_impl_gathered_1 a0 = some r → PCalls Try.prog 109 [(.io, .sl true 2 (a0.map row_ViewCount_z)), (.sh, .func (.func 110) [] [])] (Eo (.junk) [.sl true 2 (r.map row_ViewCount_z), .junk]) := by
  intro a0 r hr
  apply pF 9 [0] [] [] [] hr cl109 Try.func109
  intro Φ hΦ hF g
  unfold F_slices_SortStableFunc_impl_ViewCount_impl_ViewCount__io0_impl_gathered_1 at hF
  try simp [go_sem, g]
  try intros
  refine pC hF [.io, .sh, .sh] c_slices_stableCmpFunc_impl_ViewCount__io0_impl_gathered_1 (fun z1 hF => ?_)
  cases hΦ _ (Rn_some hF)
  try simp [go_sem, g]
def D111_6 : List DE := [⟨0, [0], [], none, false, false, false⟩, ⟨1, [5], [], none, false, false, false⟩, ⟨2, [16, 17], [], none, false, false, false⟩, ⟨3, [18], [], none, false, false, false⟩, ⟨4, [1], [], none, false, false, false⟩, ⟨5, [5], [], none, false, false, false⟩, ⟨6, [20, 21], [], none, false, false, false⟩, ⟨7, [22], [], none, false, false, false⟩, ⟨8, [19, 23], [], none, false, false, false⟩]
noncomputable def F_slices_Equal_int_int (a0 : (List Int)) (a1 : (List Int)) : Option (Bool) :=
  if ((a0.length : Int) != (a1.length : Int)) = true then (
  some false) else (
  ((rloop (σ := Unit) (fun i6 s5 =>
  (ix a0 i6).bind fun x12 =>
  (ix a1 i6).bind fun x13 =>
  if (x12 != x13) = true then (
  some (.out (.inr false))) else (
  some (.go ()))) (fun s5 => .inl ()) (a0.length) 0 () : Option (Unit ⊕ Bool)).bind (Sum.elim (fun x4 =>
  some true) some)))
theorem c_slices_Equal_int_int : ∀ {a0} {a1} {r}, F_slices_Equal_int_int a0 a1 = some r → PCalls Try.prog 111 [(.sh, .sl false 1 (a0.map row_i64)), (.sh, .sl false 1 (a1.map row_i64))] (Eo (.bool r) [.junk, .junk]) := by
  intro a0 a1 r hr
  apply pF 26 [] [] [] [.tmp 4] hr cl111 Try.func111
  intro Φ hΦ hF g
  unfold F_slices_Equal_int_int at hF
  iterate 2 (try simp [go_sem, g]; try intros; refine pw_wk ?_)
  repeat rw [sq]
  refine pI hF (fun h1 hF => ?_) (fun h1 hF => ?_)
  ·cases hΦ _ (Rn_some hF)
   try simp [go_sem, g]
   refine pw_wk ?_
   try simp [go_sem, g]
  ·iterate 2 (try simp [go_sem, g]; try intros; refine pw_wk ?_)
   repeat rw [sq]
   refine pJs hF (fun x4 => []) (fun x4 hF => ?_) fun _ hj2 hr3 hF => ?_
   ·try simp [go_sem, g]
    refine pw_wkK [4] (by simp [go_sem, g]; rfl) ?_
    cases hΦ _ (Rn_some hF)
    try simp [go_sem, g]
   ·repeat rw [sq]
    rw [pw_block]
    obtain ⟨b15, hb16, hψ9⟩ := hF
    refine pR hb16 (fun i6 s5 => [(0, .v (.sl false 1 (a0.map row_i64))), (1, .v (.sl false 1 (a1.map row_i64))), (12, .v (.int .i64 (a0.length : Int))), (13, .v (.int .i64 i6))]) (fun s5 _ hN17 => ?_) (fun i6 s5 _ _ hi10 hi11 ho7 hg8 hF => ?_)
    ·subst hN17
     try simp [go_sem]
     refine pw_wk ?_
     repeat rw [sq]
     refine pw_cond_f (by simp [go_sem]) ?_
     try simp [go_sem]
     exact pT (hj2 ()) hψ9 (by simp [go_sem])
    ·try simp [go_sem, g]
     refine pw_wkK [0, 1, 12, 13, 14] (by simp [go_sem, g]; rfl) ?_
     repeat rw [sq]
     refine pw_cond_t (by simp [go_sem, g, hi10, hi11]) ?_
     try simp [go_sem, g]
     refine pw_wk ?_
     repeat rw [sq]
     rw [pw_block]
     try simp [go_sem, g]
     refine pw_wk ?_
     repeat rw [sq]
     refine pw_draw D111_6 follows (by kernel_rfl) rfl ?_
     try simp only [go_sem, D111_6]
     obtain ⟨x12, g, hF⟩ := Rx g hF
     obtain ⟨x13, g, hF⟩ := Rx g hF
     try simp [go_sem, g]
     refine pw_wkK [0, 1, 12, 13, 24] (by simp [go_sem, g]; rfl) ?_
     repeat rw [sq]
     refine pI hF (fun h14 hF => ?_) (fun h14 hF => ?_)
     ·cases ho7 _ (Rn_some hF)
      cases hΦ _ (hr3 _ hψ9)
      try simp [go_sem, g]
      refine pw_wk ?_
      try simp [go_sem, g]
     ·try simp [go_sem, g]
      refine pw_wk ?_
      try simp [go_sem, g]
      exact pT (hg8 ()) (Rn_some hF) (by simp [go_sem, g, wr_i hi10 hi11 (by assumption)])
noncomputable def F_slices_Clone_int_int (a0 : (List Int)) : Option (List Int) :=
  gd (a0.length * 8 ≤ 140737488355328 ∧ a0.length ≤ 4611686018427387904) <|
  some a0
theorem c_slices_Clone_int_int {a0 : (List Int)} {r : (List Int)} (hr : F_slices_Clone_int_int a0 = some r) : PCalls Try.prog 98 [(.sh, .sl false 1 (a0.map row_i64))] (Eo (.sl true 1 (r.map row_i64)) [.junk]) := by
  apply pcalls_lf 8 [] [] [1000000] [.tmp 2] hr cl98 Try.func98 rfl rfl rfl
  · exact ⟨by simp, rfl⟩
  intro Φ hΦ hF
  unfold F_slices_Clone_int_int at hF
  obtain ⟨g, hF⟩ := Rn_gd hF
  have h1 := hΦ _ (Rn_some hF)
  subst h1
  try simp [go_sem]
  refine pw_wkL [(0, .v (.sl false 1 (a0.map row_i64)))] (by simp [go_sem]) ?_
  try simp [go_sem]
  refine pw1_nil rfl rfl (by simp [go_sem]) rfl (by rfl) fun b hb => ?_
  try simp [go_sem]
  refine pw_wk ?_
  repeat rw [pw_seq]
  cases b
  · refine pw_cond_f (by simp [go_sem]) ?_
    try simp [go_sem]
    refine pw_wk ?_
    try simp [go_sem, g]
    refine pw_wk ?_
    try simp [go_sem, g]
  · have hb0 : a0 = [] := by
      cases a0 with
      | nil => rfl
      | cons x l => exact absurd (hb (by simp)) (by simp)
    subst hb0
    refine pw_cond_t (by simp [go_sem]) ?_
    try simp [go_sem]
    refine pw_wk ?_
    try simp [go_sem]
def D45_7 : List DE := [⟨0, [5], [5], none, false, false, false⟩, ⟨1, [16], [5], some 16, false, false, false⟩, ⟨2, [17], [], none, false, false, false⟩, ⟨3, [18], [], none, false, false, false⟩, ⟨4, [19], [], none, false, false, false⟩, ⟨5, [5, 20], [5], none, false, false, false⟩, ⟨6, [21, 20], [5], some 21, false, false, false⟩, ⟨7, [3, 20], [], none, false, false, false⟩, ⟨8, [23, 20], [], none, false, false, false⟩, ⟨9, [22, 24, 20], [], none, false, true, true⟩, ⟨10, [25, 20], [], none, false, false, false⟩, ⟨11, [20, 26], [], none, false, false, false⟩, ⟨12, [27], [], none, false, false, false⟩, ⟨13, [4, 28], [], none, false, false, false⟩, ⟨14, [29, 28], [], none, false, false, false⟩, ⟨15, [30, 28], [], none, false, false, false⟩, ⟨16, [0, 31], [], none, false, false, false⟩, ⟨17, [4, 31], [], none, false, false, false⟩, ⟨18, [33, 31], [], none, false, false, false⟩, ⟨19, [32, 34, 31], [], none, false, false, false⟩, ⟨20, [35, 31], [], none, false, false, false⟩, ⟨21, [36, 31], [], none, false, false, false⟩, ⟨22, [5, 31], [5], none, false, false, false⟩, ⟨23, [38, 31], [5], some 38, false, false, false⟩, ⟨24, [37, 39, 31], [], none, false, true, true⟩, ⟨25, [40, 31], [], none, false, false, false⟩, ⟨26, [31, 41, 28], [], none, false, false, false⟩, ⟨27, [28, 42], [], none, false, false, false⟩]
noncomputable def F_impl_isCount (a0 : (List ViewCount)) : Option (Bool) :=
  if decide (3000 < (a0.length : Int)) = true then (
  some false) else (
  ((rloop (σ := Int) (fun i6 s5 =>
  (ix a0 i6).bind fun x12 =>
  ((if decide (24 < (x12.View.length : Int)) = true then (
  some true) else (
  (F_impl_within x12.Times 1 (i64.wrap (1000000 - s5))).bind fun z17 =>
  if (!z17) = true then (
  some true) else (
  if decide (0 < i6) = true then (
  (ix a0 (i64.wrap (i6 - 1))).bind fun x20 =>
  (F_slices_Compare_int_int x20.View x12.View).bind fun z21 =>
  some (decide (0 ≤ z21))) else (
  some false))) : Option (Bool)).bind fun x15 =>
  if x15 = true then (
  some (.out (.inr false))) else (
  some (.go (i64.wrap (s5 + x12.Times)))))) (fun s5 => .inl ()) (a0.length) 0 0 : Option (Unit ⊕ Bool)).bind (Sum.elim (fun x4 =>
  some true) some)))
end Go.Pm
