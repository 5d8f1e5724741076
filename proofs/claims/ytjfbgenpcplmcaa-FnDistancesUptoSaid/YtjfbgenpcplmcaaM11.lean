/-
  Plain functions and their walks. Written by wip/tools/lift.py.
-/
import Derived.Test.YtjfbgenpcplmcaaPS
namespace Go.Pm
open Go.Am IntKind
open Go.Proofs
set_option maxRecDepth 100000
attribute [local irreducible] pw pwx pw1 pwg qv qz qf
attribute [-simp] List.map_set
set_option linter.unusedSimpArgs false
set_option linter.unusedVariables false
structure ViewCount where
  View : (List Int)
  Times : Int
structure l1Cur where
  code : (List Int)
  at_ : Int
  seed : Int
def row_u8 (x : Int) : List PV := [.int .u8 x]
@[go_sem] theorem row_u8_eq {x : Int} : row_u8 x = [.int .u8 x] := (rfl)
@[go_sem] theorem row_u8_drop {l : List Int} : List.map (List.map drop ∘ row_u8) l = l.map row_u8 := by refine List.map_congr_left fun x _ => ?_; simp [go_sem]
@[go_sem] theorem row_u8_drop' {l : List Int} : List.map (List.map drop) (l.map row_u8) = l.map row_u8 := by rw [List.map_map]; exact row_u8_drop
@[go_sem] theorem row_u8_set {l : List Int} {i : Nat} {a : Int} : (l.map row_u8).set i [.int .u8 a] = (l.set i a).map row_u8 := by rw [List.map_set]; rfl
def row_i64 (x : Int) : List PV := [.int .i64 x]
@[go_sem] theorem row_i64_eq {x : Int} : row_i64 x = [.int .i64 x] := (rfl)
@[go_sem] theorem row_i64_drop {l : List Int} : List.map (List.map drop ∘ row_i64) l = l.map row_i64 := by refine List.map_congr_left fun x _ => ?_; simp [go_sem]
@[go_sem] theorem row_i64_drop' {l : List Int} : List.map (List.map drop) (l.map row_i64) = l.map row_i64 := by rw [List.map_map]; exact row_i64_drop
@[go_sem] theorem row_i64_set {l : List Int} {i : Nat} {a : Int} : (l.map row_i64).set i [.int .i64 a] = (l.set i a).map row_i64 := by rw [List.map_set]; rfl
def row_zi64 (x : (List Int)) : List PV := [.sl false 1 (x.map row_i64)]
@[go_sem] theorem row_zi64_eq {x : (List Int)} : row_zi64 x = [.sl false 1 (x.map row_i64)] := (rfl)
@[go_sem] theorem row_zi64_drop {l : List (List Int)} : List.map (List.map drop ∘ row_zi64) l = l.map row_zi64 := by refine List.map_congr_left fun x _ => ?_; simp [go_sem]
@[go_sem] theorem row_zi64_drop' {l : List (List Int)} : List.map (List.map drop) (l.map row_zi64) = l.map row_zi64 := by rw [List.map_map]; exact row_zi64_drop
@[go_sem] theorem row_zi64_set {l : List (List Int)} {i : Nat} {a : (List Int)} : (l.map row_zi64).set i [.sl false 1 (a.map row_i64)] = (l.set i a).map row_zi64 := by rw [List.map_set]; rfl
def row_oi64 (x : (List Int)) : List PV := [.sl true 1 (x.map row_i64)]
@[go_sem] theorem row_oi64_eq {x : (List Int)} : row_oi64 x = [.sl true 1 (x.map row_i64)] := (rfl)
@[go_sem] theorem row_oi64_drop {l : List (List Int)} : List.map (List.map drop ∘ row_oi64) l = l.map row_zi64 := by refine List.map_congr_left fun x _ => ?_; simp [go_sem]
@[go_sem] theorem row_oi64_drop' {l : List (List Int)} : List.map (List.map drop) (l.map row_oi64) = l.map row_zi64 := by rw [List.map_map]; exact row_oi64_drop
@[go_sem] theorem row_oi64_set {l : List (List Int)} {i : Nat} {a : (List Int)} : (l.map row_oi64).set i [.sl true 1 (a.map row_i64)] = (l.set i a).map row_oi64 := by rw [List.map_set]; rfl
def row_ViewCount_z (x : ViewCount) : List PV := [.sl false 1 (x.View.map row_i64), .int .i64 x.Times]
@[go_sem] theorem row_ViewCount_z_eq {x : ViewCount} : row_ViewCount_z x = [.sl false 1 (x.View.map row_i64), .int .i64 x.Times] := (rfl)
@[go_sem] theorem row_ViewCount_z_drop {l : List ViewCount} : List.map (List.map drop ∘ row_ViewCount_z) l = l.map row_ViewCount_z := by refine List.map_congr_left fun x _ => ?_; simp [go_sem]
@[go_sem] theorem row_ViewCount_z_drop' {l : List ViewCount} : List.map (List.map drop) (l.map row_ViewCount_z) = l.map row_ViewCount_z := by rw [List.map_map]; exact row_ViewCount_z_drop
@[go_sem] theorem row_ViewCount_z_set {l : List ViewCount} {i : Nat} {View : (List Int)} {Times : Int} : (l.map row_ViewCount_z).set i [.sl false 1 (View.map row_i64), .int .i64 Times] = (l.set i (ViewCount.mk View Times)).map row_ViewCount_z := by rw [List.map_set]; rfl
def row_zViewCount_z (x : (List ViewCount)) : List PV := [.sl false 2 (x.map row_ViewCount_z)]
@[go_sem] theorem row_zViewCount_z_eq {x : (List ViewCount)} : row_zViewCount_z x = [.sl false 2 (x.map row_ViewCount_z)] := (rfl)
@[go_sem] theorem row_zViewCount_z_drop {l : List (List ViewCount)} : List.map (List.map drop ∘ row_zViewCount_z) l = l.map row_zViewCount_z := by refine List.map_congr_left fun x _ => ?_; simp [go_sem]
@[go_sem] theorem row_zViewCount_z_drop' {l : List (List ViewCount)} : List.map (List.map drop) (l.map row_zViewCount_z) = l.map row_zViewCount_z := by rw [List.map_map]; exact row_zViewCount_z_drop
@[go_sem] theorem row_zViewCount_z_set {l : List (List ViewCount)} {i : Nat} {a : (List ViewCount)} : (l.map row_zViewCount_z).set i [.sl false 2 (a.map row_ViewCount_z)] = (l.set i a).map row_zViewCount_z := by rw [List.map_set]; rfl
def row_ViewCount_o (x : ViewCount) : List PV := [.sl true 1 (x.View.map row_i64), .int .i64 x.Times]
@[go_sem] theorem row_ViewCount_o_eq {x : ViewCount} : row_ViewCount_o x = [.sl true 1 (x.View.map row_i64), .int .i64 x.Times] := (rfl)
@[go_sem] theorem row_ViewCount_o_drop {l : List ViewCount} : List.map (List.map drop ∘ row_ViewCount_o) l = l.map row_ViewCount_z := by refine List.map_congr_left fun x _ => ?_; simp [go_sem]
@[go_sem] theorem row_ViewCount_o_drop' {l : List ViewCount} : List.map (List.map drop) (l.map row_ViewCount_o) = l.map row_ViewCount_z := by rw [List.map_map]; exact row_ViewCount_o_drop
@[go_sem] theorem row_ViewCount_o_set {l : List ViewCount} {i : Nat} {View : (List Int)} {Times : Int} : (l.map row_ViewCount_o).set i [.sl true 1 (View.map row_i64), .int .i64 Times] = (l.set i (ViewCount.mk View Times)).map row_ViewCount_o := by rw [List.map_set]; rfl
def D148_2 : List DE := [⟨0, [0], [], none, false, false, false⟩, ⟨1, [4], [], none, false, false, false⟩, ⟨2, [5], [], none, false, false, false⟩, ⟨3, [6], [], none, false, false, false⟩, ⟨4, [0], [], none, false, false, false⟩, ⟨5, [8], [], none, false, false, false⟩, ⟨6, [9], [], none, false, false, false⟩, ⟨7, [10], [], none, false, false, false⟩, ⟨8, [11], [], none, false, false, false⟩, ⟨9, [7, 12], [], none, false, false, false⟩]
def D148_3 : List DE := [⟨0, [0], [], none, false, false, false⟩, ⟨1, [14], [], none, false, false, false⟩, ⟨2, [15], [], none, false, false, false⟩, ⟨3, [16], [], none, false, false, false⟩, ⟨4, [0], [], none, false, false, false⟩, ⟨5, [18], [], none, false, false, false⟩, ⟨6, [19], [], none, false, false, false⟩, ⟨7, [20], [], none, false, false, false⟩, ⟨8, [17, 21], [], none, false, false, false⟩, ⟨9, [22], [], none, false, false, false⟩, ⟨10, [23], [], none, false, false, false⟩, ⟨11, [24], [], none, false, false, false⟩]
def D148_6 : List DE := [⟨0, [0], [], none, false, false, false⟩, ⟨1, [44], [], none, false, false, false⟩, ⟨2, [45], [], none, false, false, false⟩, ⟨3, [46], [], none, false, false, false⟩, ⟨4, [0], [], none, false, false, false⟩, ⟨5, [48], [], none, false, false, false⟩, ⟨6, [49], [], none, false, false, false⟩, ⟨7, [50], [], none, false, false, false⟩, ⟨8, [51], [], none, false, false, false⟩, ⟨9, [47, 52], [], none, false, false, false⟩]
noncomputable def F_spec_l1Cur_next__io0 (a0c0 : (List Int)) (a0c1 : Int) (a0c2 : Int) : Option (Int × ((List Int) × Int × Int)) :=
  ((if decide (a0c1 < (a0c0.length : Int)) = true then (
  (ix a0c0 a0c1).bind fun x5 =>
  some (i64.wrap x5)) else (
  some 0) : Option (Int)).bind fun x3 =>
  if decide ((i64.wrap (a0c1 + 1)) ≤ (a0c0.length : Int)) = true then (
  some (x3, (a0c0, i64.wrap (a0c1 + 1), u64.wrap ((u64.wrap ((u64.wrap (a0c2 * 6364136223846793005)) + (u64.wrap x3))) + 1442695040888963407)))) else (
  some (i64.wrap (u64.wrap ((BitVec.ofInt u64.bits ((u64.wrap ((u64.wrap ((u64.wrap (a0c2 * 6364136223846793005)) + (u64.wrap x3))) + 1442695040888963407)).fdiv 1099511627776) &&& BitVec.ofInt u64.bits 255).toNat)), (a0c0, i64.wrap (a0c1 + 1), u64.wrap ((u64.wrap ((u64.wrap (a0c2 * 6364136223846793005)) + (u64.wrap x3))) + 1442695040888963407)))))
theorem c_spec_l1Cur_next__io0 : ∀ {a0c0} {a0c1} {a0c2} {r}, F_spec_l1Cur_next__io0 a0c0 a0c1 a0c2 = some r → PCalls Try.prog 148 [(.io, .bx [.sl false 1 (a0c0.map row_u8), .int .i64 a0c1, .int .u64 a0c2])] (Eo (.int .i64 r.1) [.bx [.sl false 1 (r.2.1.map row_u8), .int .i64 r.2.2.1, .int .u64 r.2.2.2]]) := by
  intro a0c0 a0c1 a0c2 r hr
  apply pF 62 [0] [] [] [.tmp 2] hr cl148 Try.func148
  intro Φ hΦ hF g
  unfold F_spec_l1Cur_next__io0 at hF
  iterate 2 (try simp [go_sem, g]; refine pw_wk ?_)
  repeat rw [sq]
  refine pw_draw D148_2 follows (by kernel_rfl) rfl ?_
  try simp only [go_sem, D148_2]
  try simp [go_sem, g]
  try intros
  refine pw_wkK [0, 3, 13] (by simp [go_sem, g]; rfl) ?_
  repeat rw [sq]
  refine pJ hF (fun x3 => [(0, .v (.bx [.sl false 1 (a0c0.map row_u8), .int .i64 a0c1, .int .u64 a0c2])), (3, .v (.int .i64 x3))]) (fun x3 hF => ?_) fun _ hj1 hF => ?_
  ·try simp [go_sem, g]
   refine pw_wk ?_
   try simp [go_sem, g]
   refine pw_wkK [0, 3] (by simp [go_sem, g]; rfl) ?_
   repeat rw [sq]
   refine pw_draw D148_6 follows (by kernel_rfl) rfl ?_
   try simp only [go_sem, D148_6]
   try simp [go_sem, g]
   try intros
   refine pw_wkK [0, 3, 53] (by simp [go_sem, g]; rfl) ?_
   repeat rw [sq]
   refine pI hF (fun h6 hF => ?_) (fun h6 hF => ?_)
   ·cases hΦ _ (Rn_some hF)
    try simp [go_sem, g]
    refine pw_wk ?_
    try simp [go_sem, g]
   ·have g := Ls g 40
    cases hΦ _ (Rn_some hF)
    iterate 2 (try simp [go_sem, g]; refine pw_wk ?_)
    try simp [go_sem, g]
  ·repeat rw [sq]
   refine pI hF (fun h4 hF => ?_) (fun h4 hF => ?_)
   ·repeat rw [sq]
    refine pw_draw D148_3 follows (by kernel_rfl) rfl ?_
    try simp only [go_sem, D148_3]
    obtain ⟨x5, g, hF⟩ := Rx g hF
    try simp [go_sem, g]
    exact pT (hj1 (i64.wrap x5)) (Rn_some hF)
   ·try simp [go_sem, g]
    exact pT (hj1 0) (Rn_some hF)
noncomputable def F_spec_l1Cur_pick__io0 (a0c0 : (List Int)) (a0c1 : Int) (a0c2 : Int) (a1 : Int) : Option (Int × ((List Int) × Int × Int)) :=
  if decide (a1 ≤ 1) = true then (
  some (0, (a0c0, a0c1, a0c2))) else (
  (F_spec_l1Cur_next__io0 a0c0 a0c1 a0c2).bind fun z2 =>
  ((if decide (200 < a1) = true then (
  (F_spec_l1Cur_next__io0 z2.2.1 z2.2.2.1 z2.2.2.2).bind fun z7 =>
  some ((z7.2.1, z7.2.2.1, z7.2.2.2), i64.wrap ((i64.wrap (z2.1 * 256)) + z7.1))) else (
  some ((z2.2.1, z2.2.2.1, z2.2.2.2), z2.1)) : Option ((((List Int) × Int × Int) × Int))).bind fun x5 =>
  gd (a1 ≠ 0) <|
  some (x5.2.tmod a1, (x5.1.1, x5.1.2.1, x5.1.2.2))))
theorem c_spec_l1Cur_pick__io0 : ∀ {a0c0} {a0c1} {a0c2} {a1} {r}, F_spec_l1Cur_pick__io0 a0c0 a0c1 a0c2 a1 = some r → PCalls Try.prog 102 [(.io, .bx [.sl false 1 (a0c0.map row_u8), .int .i64 a0c1, .int .u64 a0c2]), (.sh, .int .i64 a1)] (Eo (.int .i64 r.1) [.bx [.sl false 1 (r.2.1.map row_u8), .int .i64 r.2.2.1, .int .u64 r.2.2.2], .junk]) := by
  intro a0c0 a0c1 a0c2 a1 r hr
  apply pF 20 [0] [] [] [.tmp 4] hr cl102 Try.func102
  intro Φ hΦ hF g
  unfold F_spec_l1Cur_pick__io0 at hF
  iterate 2 (try simp [go_sem, g]; refine pw_wk ?_)
  repeat rw [sq]
  refine pI hF (fun h1 hF => ?_) (fun h1 hF => ?_)
  ·cases hΦ _ (Rn_some hF)
   try simp [go_sem, g]
   refine pw_wk ?_
   try simp [go_sem, g]
  ·try simp [go_sem, g]
   refine pw_wk ?_
   try simp [go_sem, g]
   refine pC hF [.io] c_spec_l1Cur_next__io0 (fun z2 hF => ?_)
   iterate 2 (try simp [go_sem, g]; refine pw_wk ?_)
   repeat rw [sq]
   refine pJ hF (fun x5 => [(0, .v (.bx [.sl false 1 (x5.1.1.map row_u8), .int .i64 x5.1.2.1, .int .u64 x5.1.2.2])), (1, .v (.int .i64 a1)), (5, .v (.int .i64 x5.2))]) (fun x5 hF => ?_) fun _ hj3 hF => ?_
   ·obtain ⟨g, hF⟩ := Rz g hF
    try simp [go_sem, g]
    refine pw_wkK [0, 4] (by simp [go_sem, g]; rfl) ?_
    cases hΦ _ (Rn_some hF)
    try simp [go_sem, g]
   ·repeat rw [sq]
    refine pI hF (fun h6 hF => ?_) (fun h6 hF => ?_)
    ·try simp [go_sem, g]
     refine pC hF [.io] c_spec_l1Cur_next__io0 (fun z7 hF => ?_)
     try simp [go_sem, g]
     exact pT (hj3 ((z7.2.1, z7.2.2.1, z7.2.2.2), i64.wrap ((i64.wrap (z2.1 * 256)) + z7.1))) (Rn_some hF)
    ·try simp [go_sem, g]
     exact pT (hj3 ((z2.2.1, z2.2.2.1, z2.2.2.2), z2.1)) (Rn_some hF)
noncomputable def F_spec_l1Cur_one__io0 (a0c0 : (List Int)) (a0c1 : Int) (a0c2 : Int) (a1 : Int) : Option (Bool × ((List Int) × Int × Int)) :=
  (F_spec_l1Cur_pick__io0 a0c0 a0c1 a0c2 a1).bind fun z1 =>
  some ((z1.1 == 0), (z1.2.1, z1.2.2.1, z1.2.2.2))
theorem c_spec_l1Cur_one__io0 : ∀ {a0c0} {a0c1} {a0c2} {a1} {r}, F_spec_l1Cur_one__io0 a0c0 a0c1 a0c2 a1 = some r → PCalls Try.prog 44 [(.io, .bx [.sl false 1 (a0c0.map row_u8), .int .i64 a0c1, .int .u64 a0c2]), (.sh, .int .i64 a1)] (Eo (.bool r.1) [.bx [.sl false 1 (r.2.1.map row_u8), .int .i64 r.2.2.1, .int .u64 r.2.2.2], .junk]) := by
  intro a0c0 a0c1 a0c2 a1 r hr
  apply pF 9 [0] [] [] [.tmp 4] hr cl44 Try.func44
  intro Φ hΦ hF g
  unfold F_spec_l1Cur_one__io0 at hF
  try simp [go_sem, g]
  refine pw_wk ?_
  try simp [go_sem, g]
  refine pC hF [.io, .sh] c_spec_l1Cur_pick__io0 (fun z1 hF => ?_)
  cases hΦ _ (Rn_some hF)
  try simp [go_sem, g]
  refine pw_wk ?_
  try simp [go_sem, g]
noncomputable def F_spec_l1Cur_views__io0 (a0c0 : (List Int)) (a0c1 : Int) (a0c2 : Int) : Option ((List (List Int)) × ((List Int) × Int × Int)) :=
  (F_spec_l1Cur_pick__io0 a0c0 a0c1 a0c2 9).bind fun z1 =>
  ((wloop (σ := ((List Int) × Int × Int) × (List (List Int)) × Int) (fun s57 =>
  if decide (0 < s57.2.2) = true then (
  (F_spec_l1Cur_pick__io0 s57.1.1 s57.1.2.1 s57.1.2.2 3).bind fun z63 =>
  ((wloop (σ := ((List Int) × Int × Int) × (List Int) × Int) (fun s74 =>
  if decide (0 < s74.2.2) = true then (
  (F_spec_l1Cur_pick__io0 s74.1.1 s74.1.2.1 s74.1.2.2 3).bind fun z80 =>
  gd ((s74.2.1.length + 1) * 8 ≤ 140737488355328 ∧ s74.2.1.length + 1 ≤ 4611686018427387904) <|
  some (.go ((z80.2.1, z80.2.2.1, z80.2.2.2), s74.2.1 ++ [z80.1], i64.wrap (s74.2.2 - 1)))) else (
  some (.out ((s74.1.1, s74.1.2.1, s74.1.2.2), s74.2.1)))) ((z63.2.1, z63.2.2.1, z63.2.2.2), [], z63.1) : Option ((((List Int) × Int × Int) × (List Int)))).bind fun x66 =>
  gd ((s57.2.1.length + 1) * 24 ≤ 140737488355328 ∧ s57.2.1.length + 1 ≤ 4611686018427387904) <|
  some (.go ((x66.1.1, x66.1.2.1, x66.1.2.2), s57.2.1 ++ [x66.2], i64.wrap (s57.2.2 - 1))))) else (
  some (.out ((s57.1.1, s57.1.2.1, s57.1.2.2), s57.2.1)))) ((z1.2.1, z1.2.2.1, z1.2.2.2), [], z1.1) : Option ((((List Int) × Int × Int) × (List (List Int))))).bind fun x4 =>
  (F_spec_l1Cur_one__io0 x4.1.1 x4.1.2.1 x4.1.2.2 24).bind fun z85 =>
  ((if z85.1 = true then (
  (F_spec_l1Cur_pick__io0 z85.2.1 z85.2.2.1 z85.2.2.2 2).bind fun z90 =>
  gd (0 ≤ (i64.wrap (24 + z90.1)) ∧ (i64.wrap (24 + z90.1)) ≤ (i64.wrap (24 + z90.1)) ∧ 8 * (i64.wrap (24 + z90.1)) ≤ 140737488355328 ∧ (i64.wrap (24 + z90.1)) ≤ 4611686018427387904) <|
  (some (List.replicate ((i64.wrap (24 + z90.1)).toNat) 0)).bind fun x91 =>
  gd ((x4.2.length + 1) * 24 ≤ 140737488355328 ∧ x4.2.length + 1 ≤ 4611686018427387904) <|
  some ((z90.2.1, z90.2.2.1, z90.2.2.2), x4.2 ++ [x91])) else (
  some ((z85.2.1, z85.2.2.1, z85.2.2.2), x4.2)) : Option ((((List Int) × Int × Int) × (List (List Int))))).bind fun x88 =>
  some (x88.2, (x88.1.1, x88.1.2.1, x88.1.2.2))))
theorem c_spec_l1Cur_views__io0 : ∀ {a0c0} {a0c1} {a0c2} {r}, F_spec_l1Cur_views__io0 a0c0 a0c1 a0c2 = some r → PCalls Try.prog 58 [(.io, .bx [.sl false 1 (a0c0.map row_u8), .int .i64 a0c1, .int .u64 a0c2])] (Eo (.sl true 1 (r.1.map row_oi64)) [.bx [.sl false 1 (r.2.1.map row_u8), .int .i64 r.2.2.1, .int .u64 r.2.2.2]]) := by
  intro a0c0 a0c1 a0c2 r hr
  apply pF 38 [0] [] [] [.tmp 2] hr cl58 Try.func58
  intro Φ hΦ hF g
  unfold F_spec_l1Cur_views__io0 at hF
  iterate 2 (try simp [go_sem, g]; refine pw_wk ?_)
  try simp [go_sem, g]
  refine pC hF [.io, .sh] c_spec_l1Cur_pick__io0 (fun z1 hF => ?_)
  try simp [go_sem, g]
  refine pw_wk ?_
  repeat rw [sq]
  refine pJ hF (fun x4 => [(0, .v (.bx [.sl false 1 (x4.1.1.map row_u8), .int .i64 x4.1.2.1, .int .u64 x4.1.2.2])), (3, .v (.sl true 1 (x4.2.map row_oi64)))]) (fun x4 hF => ?_) fun _ hj2 hF => ?_
  ·try simp [go_sem, g]
   refine pC hF [.io, .sh] c_spec_l1Cur_one__io0 (fun z85 hF => ?_)
   try simp [go_sem, g]
   refine pw_wk ?_
   repeat rw [sq]
   refine pJ hF (fun x88 => [(0, .v (.bx [.sl false 1 (x88.1.1.map row_u8), .int .i64 x88.1.2.1, .int .u64 x88.1.2.2])), (3, .v (.sl true 1 (x88.2.map row_oi64)))]) (fun x88 hF => ?_) fun _ hj86 hF => ?_
   ·cases hΦ _ (Rn_some hF)
    try simp [go_sem, g]
    refine pw_wk ?_
    try simp [go_sem, g]
   ·repeat rw [sq]
    refine pI hF (fun h89 hF => ?_) (fun h89 hF => ?_)
    ·try simp [go_sem, g]
     refine pC hF [.io, .sh] c_spec_l1Cur_pick__io0 (fun z90 hF => ?_)
     obtain ⟨g, hF⟩ := Rg g hF
     obtain ⟨x91, e92, hF⟩ := Rn_bind hF
     have g93 : List.replicate ((i64.wrap (24 + z90.1)).toNat) ([.int .i64 0] : List PV) = x91.map row_i64 := by injection e92 with e92; rw [← e92]; simp [go_sem]
     obtain ⟨g, hF⟩ := Rg g hF
     try simp [go_sem, g, g93]
     exact pT (hj86 ((z90.2.1, z90.2.2.1, z90.2.2.2), x4.2 ++ [x91])) (Rn_some hF)
    ·try simp [go_sem, g]
     exact pT (hj86 ((z85.2.1, z85.2.2.1, z85.2.2.2), x4.2)) (Rn_some hF)
  ·repeat rw [sq]
   rw [pw_block]
   obtain ⟨b83, hb84, hψ61⟩ := hF
   refine pL hb84 (fun s57 => [(0, .v (.bx [.sl false 1 (s57.1.1.map row_u8), .int .i64 s57.1.2.1, .int .u64 s57.1.2.2])), (3, .v (.sl true 1 (s57.2.1.map row_oi64))), (4, .v (.int .i64 s57.2.2))]) (fun s57 _ _ ho59 hg60 hF => ?_)
   try simp [go_sem, g]
   refine pw_wk ?_
   repeat rw [sq]
   refine pI hF (fun h62 hF => ?_) (fun h62 hF => ?_)
   ·try simp [go_sem, g]
    refine pw_wk ?_
    repeat rw [sq]
    rw [pw_block]
    try simp [go_sem, g]
    refine pw_wk ?_
    try simp [go_sem, g]
    refine pC hF [.io, .sh] c_spec_l1Cur_pick__io0 (fun z63 hF => ?_)
    try simp [go_sem, g]
    refine pw_wkK [0, 3, 4, 5, 6] (by simp [go_sem, g]; rfl) ?_
    repeat rw [sq]
    refine pJ hF (fun x66 => [(0, .v (.bx [.sl false 1 (x66.1.1.map row_u8), .int .i64 x66.1.2.1, .int .u64 x66.1.2.2])), (3, .v (.sl true 1 (s57.2.1.map row_oi64))), (4, .v (.int .i64 s57.2.2)), (5, .v (.sl true 1 (x66.2.map row_i64)))]) (fun x66 hF => ?_) fun _ hj64 hF => ?_
    ·obtain ⟨g, hF⟩ := Rg g hF
     try simp [go_sem, g]
     refine pw_wk ?_
     try simp [go_sem, g]
     exact pT (hg60 ((x66.1.1, x66.1.2.1, x66.1.2.2), s57.2.1 ++ [x66.2], i64.wrap (s57.2.2 - 1))) (Rn_some hF)
    ·repeat rw [sq]
     rw [pw_block]
     obtain ⟨b81, hb82, hψ78⟩ := hF
     refine pL hb82 (fun s74 => [(0, .v (.bx [.sl false 1 (s74.1.1.map row_u8), .int .i64 s74.1.2.1, .int .u64 s74.1.2.2])), (3, .v (.sl true 1 (s57.2.1.map row_oi64))), (4, .v (.int .i64 s57.2.2)), (5, .v (.sl true 1 (s74.2.1.map row_i64))), (6, .v (.int .i64 s74.2.2))]) (fun s74 _ _ ho76 hg77 hF => ?_)
     try simp [go_sem, g]
     refine pw_wk ?_
     repeat rw [sq]
     refine pI hF (fun h79 hF => ?_) (fun h79 hF => ?_)
     ·try simp [go_sem, g]
      refine pw_wk ?_
      repeat rw [sq]
      rw [pw_block]
      try simp [go_sem, g]
      refine pC hF [.io, .sh] c_spec_l1Cur_pick__io0 (fun z80 hF => ?_)
      obtain ⟨g, hF⟩ := Rg g hF
      try simp [go_sem, g]
      refine pw_wk ?_
      try simp [go_sem, g]
      exact pT (hg77 ((z80.2.1, z80.2.2.1, z80.2.2.2), s74.2.1 ++ [z80.1], i64.wrap (s74.2.2 - 1))) (Rn_some hF)
     ·try simp [go_sem, g]
      cases ho76 _ (Rn_some hF)
      exact pT (hj64 ((s74.1.1, s74.1.2.1, s74.1.2.2), s74.2.1)) hψ78
   ·try simp [go_sem, g]
    cases ho59 _ (Rn_some hF)
    exact pT (hj2 ((s57.1.1, s57.1.2.1, s57.1.2.2), s57.2.1)) hψ61
def D106_6 : List DE := [⟨0, [0], [], none, false, false, false⟩, ⟨1, [5], [], none, false, false, false⟩, ⟨2, [15, 16], [], none, false, false, false⟩, ⟨3, [17], [], none, false, false, false⟩, ⟨4, [1], [], none, false, false, false⟩, ⟨5, [5], [], none, false, false, false⟩, ⟨6, [19, 20], [], none, false, false, false⟩, ⟨7, [21], [], none, false, false, false⟩, ⟨8, [18, 22], [], none, false, false, false⟩]
def D106_7 : List DE := [⟨0, [0], [], none, false, false, false⟩, ⟨1, [5], [], none, false, false, false⟩, ⟨2, [24, 25], [], none, false, false, false⟩, ⟨3, [26], [], none, false, false, false⟩, ⟨4, [1], [], none, false, false, false⟩, ⟨5, [5], [], none, false, false, false⟩, ⟨6, [28, 29], [], none, false, false, false⟩, ⟨7, [30], [], none, false, false, false⟩, ⟨8, [27, 31], [], none, false, false, false⟩, ⟨9, [32], [], none, false, false, false⟩]
noncomputable def F_spec_wLess (a0 : (List Int)) (a1 : (List Int)) : Option (Bool) :=
  ((rloop (σ := Unit) (fun i5 s4 =>
  if (i5 == (a1.length : Int)) = true then (
  some (.out (.inr false))) else (
  (ix a0 i5).bind fun x12 =>
  (ix a1 i5).bind fun x13 =>
  if (x12 != x13) = true then (
  some (.out (.inr (decide (x12 < x13))))) else (
  some (.go ())))) (fun s4 => .inl ()) (a0.length) 0 () : Option (Unit ⊕ Bool)).bind (Sum.elim (fun x3 =>
  some (decide ((a0.length : Int) < (a1.length : Int)))) some))
theorem c_spec_wLess : ∀ {a0} {a1} {r}, F_spec_wLess a0 a1 = some r → PCalls Try.prog 106 [(.sh, .sl false 1 (a0.map row_i64)), (.sh, .sl false 1 (a1.map row_i64))] (Eo (.bool r) [.junk, .junk]) := by
  intro a0 a1 r hr
  apply pF 39 [] [] [] [.tmp 4] hr cl106 Try.func106
  intro Φ hΦ hF g
  unfold F_spec_wLess at hF
  iterate 2 (try simp [go_sem, g]; try intros; refine pw_wk ?_)
  repeat rw [sq]
  refine pJs hF (fun x3 => [(0, .v (.sl false 1 (a0.map row_i64))), (1, .v (.sl false 1 (a1.map row_i64)))]) (fun x3 hF => ?_) fun _ hj1 hr2 hF => ?_
  ·try simp [go_sem, g]
   try intros
   refine pw_wkK [4] (by simp [go_sem, g]; rfl) ?_
   cases hΦ _ (Rn_some hF)
   try simp [go_sem, g]
  ·repeat rw [sq]
   rw [pw_block]
   obtain ⟨b15, hb16, hψ8⟩ := hF
   refine pR hb16 (fun i5 s4 => [(0, .v (.sl false 1 (a0.map row_i64))), (1, .v (.sl false 1 (a1.map row_i64))), (7, .v (.int .i64 (a0.length : Int))), (8, .v (.int .i64 i5))]) (fun s4 _ hN17 => ?_) (fun i5 s4 _ _ hi9 hi10 ho6 hg7 hF => ?_)
   ·subst hN17
    try simp [go_sem]
    refine pw_wk ?_
    repeat rw [sq]
    refine pw_cond_f (by simp [go_sem]) ?_
    try simp [go_sem]
    exact pT (hj1 ()) hψ8 (by simp [go_sem])
   ·try simp [go_sem, g]
    refine pw_wk ?_
    repeat rw [sq]
    refine pw_cond_t (by simp [go_sem, g, hi9, hi10]) ?_
    try simp [go_sem, g]
    refine pw_wk ?_
    repeat rw [sq]
    rw [pw_block]
    try simp [go_sem, g]
    try intros
    refine pw_wk ?_
    try simp [go_sem, g]
    try intros
    refine pw_wkK [0, 1, 5, 7, 8, 14] (by simp [go_sem, g]; rfl) ?_
    repeat rw [sq]
    refine pI hF (fun h11 hF => ?_) (fun h11 hF => ?_)
    ·cases ho6 _ (Rn_some hF)
     cases hΦ _ (hr2 _ hψ8)
     try simp [go_sem, g]
     refine pw_wk ?_
     try simp [go_sem, g]
    ·try simp [go_sem, g]
     refine pw_wk ?_
     repeat rw [sq]
     refine pw_draw D106_6 follows (by kernel_rfl) rfl ?_
     try simp only [go_sem, D106_6]
     obtain ⟨x12, g, hF⟩ := Rx g hF
     obtain ⟨x13, g, hF⟩ := Rx g hF
     try simp [go_sem, g]
     refine pw_wk ?_
     repeat rw [sq]
     refine pI hF (fun h14 hF => ?_) (fun h14 hF => ?_)
     ·repeat rw [sq]
      refine pw_draw D106_7 follows (by kernel_rfl) rfl ?_
      try simp only [go_sem, D106_7]
      try simp [go_sem, g]
      refine pw_wkK [4] (by simp [go_sem, g]; rfl) ?_
      cases ho6 _ (Rn_some hF)
      cases hΦ _ (hr2 _ hψ8)
      try simp [go_sem, g]
     ·try simp [go_sem, g]
      refine pw_wk ?_
      try simp [go_sem, g]
      exact pT (hg7 ()) (Rn_some hF) (by simp [go_sem, g, wr_i hi9 hi10 (by assumption)])
def D107_6 : List DE := [⟨0, [0], [], none, false, false, false⟩, ⟨1, [5], [], none, false, false, false⟩, ⟨2, [16, 17], [], none, false, false, false⟩, ⟨3, [18], [], none, false, false, false⟩, ⟨4, [1], [], none, false, false, false⟩, ⟨5, [5], [], none, false, false, false⟩, ⟨6, [20, 21], [], none, false, false, false⟩, ⟨7, [22], [], none, false, false, false⟩, ⟨8, [19, 23], [], none, false, false, false⟩]
noncomputable def F_spec_l1Same (a0 : (List Int)) (a1 : (List Int)) : Option (Bool) :=
  if ((a0.length : Int) != (a1.length : Int)) = true then (
  some false) else (
  ((rloop (σ := Unit) (fun i6 s5 =>
  (ix a0 i6).bind fun x12 =>
  (ix a1 i6).bind fun x13 =>
  if (x12 != x13) = true then (
  some (.out (.inr false))) else (
  some (.go ()))) (fun s5 => .inl ()) (a0.length) 0 () : Option (Unit ⊕ Bool)).bind (Sum.elim (fun x4 =>
  some true) some)))
theorem c_spec_l1Same : ∀ {a0} {a1} {r}, F_spec_l1Same a0 a1 = some r → PCalls Try.prog 107 [(.sh, .sl false 1 (a0.map row_i64)), (.sh, .sl false 1 (a1.map row_i64))] (Eo (.bool r) [.junk, .junk]) := by
  intro a0 a1 r hr
  apply pF 26 [] [] [] [.tmp 4] hr cl107 Try.func107
  intro Φ hΦ hF g
  unfold F_spec_l1Same at hF
  iterate 2 (try simp [go_sem, g]; try intros; refine pw_wk ?_)
  repeat rw [sq]
  refine pI hF (fun h1 hF => ?_) (fun h1 hF => ?_)
  ·cases hΦ _ (Rn_some hF)
   try simp [go_sem, g]
   refine pw_wk ?_
   try simp [go_sem, g]
  ·iterate 2 (try simp [go_sem, g]; try intros; refine pw_wk ?_)
   repeat rw [sq]
   refine pJs hF (fun x4 => []) (fun x4 hF => ?_) fun _ hj2 hr3 hF => ?_
   ·try simp [go_sem, g]
    refine pw_wkK [4] (by simp [go_sem, g]; rfl) ?_
    cases hΦ _ (Rn_some hF)
    try simp [go_sem, g]
   ·repeat rw [sq]
    rw [pw_block]
    obtain ⟨b15, hb16, hψ9⟩ := hF
    refine pR hb16 (fun i6 s5 => [(0, .v (.sl false 1 (a0.map row_i64))), (1, .v (.sl false 1 (a1.map row_i64))), (12, .v (.int .i64 (a0.length : Int))), (13, .v (.int .i64 i6))]) (fun s5 _ hN17 => ?_) (fun i6 s5 _ _ hi10 hi11 ho7 hg8 hF => ?_)
    ·subst hN17
     try simp [go_sem]
     refine pw_wk ?_
     repeat rw [sq]
     refine pw_cond_f (by simp [go_sem]) ?_
     try simp [go_sem]
     exact pT (hj2 ()) hψ9 (by simp [go_sem])
    ·try simp [go_sem, g]
     refine pw_wkK [0, 1, 12, 13, 14] (by simp [go_sem, g]; rfl) ?_
     repeat rw [sq]
     refine pw_cond_t (by simp [go_sem, g, hi10, hi11]) ?_
     try simp [go_sem, g]
     refine pw_wk ?_
     repeat rw [sq]
     rw [pw_block]
     try simp [go_sem, g]
     refine pw_wk ?_
     repeat rw [sq]
     refine pw_draw D107_6 follows (by kernel_rfl) rfl ?_
     try simp only [go_sem, D107_6]
     obtain ⟨x12, g, hF⟩ := Rx g hF
     obtain ⟨x13, g, hF⟩ := Rx g hF
     try simp [go_sem, g]
     refine pw_wkK [0, 1, 12, 13, 24] (by simp [go_sem, g]; rfl) ?_
     repeat rw [sq]
     refine pI hF (fun h14 hF => ?_) (fun h14 hF => ?_)
     ·cases ho7 _ (Rn_some hF)
      cases hΦ _ (hr3 _ hψ9)
      try simp [go_sem, g]
      refine pw_wk ?_
      try simp [go_sem, g]
     ·try simp [go_sem, g]
      refine pw_wk ?_
      try simp [go_sem, g]
      exact pT (hg8 ()) (Rn_some hF) (by simp [go_sem, g, wr_i hi10 hi11 (by assumption)])
noncomputable def F_spec_l1Own (a0 : (List Int)) : Option ((List Int)) :=
  gd (a0.length * 8 ≤ 140737488355328 ∧ a0.length ≤ 4611686018427387904) <|
  some a0
theorem c_spec_l1Own : ∀ {a0} {r}, F_spec_l1Own a0 = some r → PCalls Try.prog 90 [(.sh, .sl false 1 (a0.map row_i64))] (Eo (.sl true 1 (r.map row_i64)) [.junk]) := by
  intro a0 r hr
  apply pF 6 [] [] [] [.tmp 2] hr cl90 Try.func90
  intro Φ hΦ hF g
  unfold F_spec_l1Own at hF
  obtain ⟨g, hF⟩ := Rg g hF
  cases hΦ _ (Rn_some hF)
  iterate 2 (try simp [go_sem, g]; refine pw_wk ?_)
  try simp [go_sem, g]
def D60_8 : List DE := [⟨0, [0], [], none, false, false, false⟩, ⟨1, [7], [], none, false, false, false⟩, ⟨2, [0], [], none, false, false, false⟩, ⟨3, [7], [], none, false, false, false⟩, ⟨4, [45, 46], [], none, false, false, false⟩, ⟨5, [47], [], none, false, false, false⟩, ⟨6, [48], [], none, false, false, false⟩, ⟨7, [0], [], none, false, false, false⟩, ⟨8, [7], [], none, false, false, false⟩, ⟨9, [50, 51], [], none, false, false, false⟩, ⟨10, [52], [], none, false, false, false⟩, ⟨11, [53], [], none, false, false, false⟩, ⟨12, [2], [], none, false, false, false⟩, ⟨13, [54, 55], [], none, false, false, false⟩, ⟨14, [49, 56], [], none, false, false, false⟩, ⟨15, [43, 44], [], none, false, false, false⟩, ⟨16, [58, 57], [], none, false, false, false⟩]
noncomputable def F_spec_wAdd__mv0 (a0 : (List ViewCount)) (a1 : (List Int)) (a2 : Int) : Option ((List ViewCount)) :=
  ((wloop (σ := Int × Int) (fun s4 =>
  if decide (s4.1 < s4.2) = true then (
  (ix a0 (i64.wrap ((i64.wrap (s4.1 + s4.2)).tdiv 2))).bind fun x10 =>
  (F_spec_wLess x10.View a1).bind fun z11 =>
  if z11 = true then (
  some (.go (i64.wrap ((i64.wrap ((i64.wrap (s4.1 + s4.2)).tdiv 2)) + 1), s4.2))) else (
  some (.go (s4.1, i64.wrap ((i64.wrap (s4.1 + s4.2)).tdiv 2))))) else (
  some (.out s4.1))) (0, (a0.length : Int)) : Option (Int)).bind fun x3 =>
  ((if decide (x3 < (a0.length : Int)) = true then (
  (ix a0 x3).bind fun x19 =>
  (F_spec_l1Same x19.View a1).bind fun z20 =>
  some z20) else (
  some false) : Option (Bool)).bind fun x17 =>
  if x17 = true then (
  (ix a0 x3).bind fun x22 =>
  some (a0.set x3.toNat (ViewCount.mk x22.View (i64.wrap (x22.Times + a2))))) else (
  gd ((a0.length + 1) * 32 ≤ 140737488355328 ∧ a0.length + 1 ≤ 4611686018427387904) <|
  ((wloop (σ := (List ViewCount) × Int) (fun s34 =>
  if decide (x3 < s34.2) = true then (
  (ix s34.1 (i64.wrap (s34.2 - 1))).bind fun x40 =>
  (ix s34.1 s34.2).bind fun x41 =>
  some (.go (s34.1.set s34.2.toNat x40, i64.wrap (s34.2 - 1)))) else (
  some (.out s34.1))) (a0 ++ [(ViewCount.mk [] 0)], i64.wrap (((a0 ++ [(ViewCount.mk [] 0)]).length : Int) - 1)) : Option ((List ViewCount))).bind fun x25 =>
  (F_spec_l1Own a1).bind fun z44 =>
  (ix x25 x3).bind fun x45 =>
  some (x25.set x3.toNat (ViewCount.mk z44 a2))))))
theorem c_spec_wAdd__mv0 : ∀ {a0} {a1} {a2} {r}, F_spec_wAdd__mv0 a0 a1 a2 = some r → PCalls Try.prog 60 [(.mv, .sl true 2 (a0.map row_ViewCount_z)), (.sh, .sl false 1 (a1.map row_i64)), (.sh, .int .i64 a2)] (Eo (.sl true 2 (r.map row_ViewCount_z)) [.junk, .junk, .junk]) := by
  intro a0 a1 a2 r hr
  apply pF 88 [] [61, 85] [] [.tmp 6] hr cl60 Try.func60
  intro Φ hΦ hF g
  unfold F_spec_wAdd__mv0 at hF
  iterate 2 (try simp [go_sem, g]; try intros; refine pw_wk ?_)
  repeat rw [sq]
  refine pJ hF (fun x3 => [(0, .v (.sl true 2 (a0.map row_ViewCount_z))), (1, .v (.sl false 1 (a1.map row_i64))), (2, .v (.int .i64 a2)), (7, .v (.int .i64 x3))]) (fun x3 hF => ?_) fun _ hj1 hF => ?_
  ·repeat rw [sq]
   refine pJ hF (fun x17 => [(0, .v (.sl true 2 (a0.map row_ViewCount_z))), (1, .v (.sl false 1 (a1.map row_i64))), (2, .v (.int .i64 a2)), (7, .v (.int .i64 x3)), (42, .v (.bool x17))]) (fun x17 hF => ?_) fun _ hj15 hF => ?_
   ·repeat rw [sq]
    refine pI hF (fun h21 hF => ?_) (fun h21 hF => ?_)
    ·repeat rw [sq]
     refine pw_draw D60_8 follows (by kernel_rfl) rfl ?_
     try simp only [go_sem, D60_8]
     obtain ⟨x22, g, hF⟩ := Rx g hF
     try simp [go_sem, g]
     refine pw_wkK [0] (by simp [go_sem, g]; rfl) ?_
     cases hΦ _ (Rn_some hF)
     try simp [go_sem, g]
     refine pw_wk ?_
     try simp [go_sem, g]
    ·obtain ⟨g, hF⟩ := Rg g hF
     try simp [go_sem, g]
     refine pw_wk ?_
     try simp [go_sem, g]
     refine pw_wkK [0, 1, 2, 7] (by simp [go_sem, g]; rfl) ?_
     try simp [go_sem, g]
     try intros
     refine pw_wk ?_
     repeat rw [sq]
     refine pJ hF (fun x25 => [(0, .v (.sl true 2 (x25.map row_ViewCount_z))), (1, .v (.sl false 1 (a1.map row_i64))), (2, .v (.int .i64 a2)), (7, .v (.int .i64 x3))]) (fun x25 hF => ?_) fun _ hj23 hF => ?_
     ·try simp [go_sem, g]
      refine pC hF [.sh] c_spec_l1Own (fun z44 hF => ?_)
      obtain ⟨x45, g, hF⟩ := Rx g hF
      try simp [go_sem, g]
      refine pw_wkK [0] (by simp [go_sem, g]; rfl) ?_
      cases hΦ _ (Rn_some hF)
      try simp [go_sem, g]
      refine pw_wk ?_
      try simp [go_sem, g]
     ·repeat rw [sq]
      rw [pw_block]
      obtain ⟨b42, hb43, hψ38⟩ := hF
      refine pL hb43 (fun s34 => [(0, .v (.sl true 2 (s34.1.map row_ViewCount_z))), (1, .v (.sl false 1 (a1.map row_i64))), (2, .v (.int .i64 a2)), (7, .v (.int .i64 x3)), (10, .v (.int .i64 s34.2))]) (fun s34 _ _ ho36 hg37 hF => ?_)
      try simp [go_sem, g]
      refine pw_wk ?_
      repeat rw [sq]
      refine pI hF (fun h39 hF => ?_) (fun h39 hF => ?_)
      ·try simp [go_sem, g]
       refine pw_wk ?_
       repeat rw [sq]
       rw [pw_block]
       obtain ⟨x40, g, hF⟩ := Rx g hF
       obtain ⟨x41, g, hF⟩ := Rx g hF
       try simp [go_sem, g]
       refine pw_wkK [0, 1, 2, 7, 10] (by simp [go_sem, g]; rfl) ?_
       try simp [go_sem, g]
       exact pT (hg37 (s34.1.set s34.2.toNat x40, i64.wrap (s34.2 - 1))) (Rn_some hF)
      ·try simp [go_sem, g]
       cases ho36 _ (Rn_some hF)
       exact pT (hj23 s34.1) hψ38
   ·try simp [go_sem, g]
    try intros
    refine pwg_F hF (fun h18 hF => ?_) fun h18 hF => ?_
    ·obtain ⟨x19, g, hF⟩ := Rx g hF
     try simp [go_sem, g, h18]
     refine pC hF [.sh, .sh] c_spec_l1Same (fun z20 hF => ?_)
     try simp [go_sem, g, h18]
     exact pT (hj15 z20) (Rn_some hF)
    ·try simp [go_sem, g, h18]
     exact pT (hj15 false) (Rn_some hF)
  ·repeat rw [sq]
   rw [pw_block]
   obtain ⟨b13, hb14, hψ8⟩ := hF
   refine pL hb14 (fun s4 => [(0, .v (.sl true 2 (a0.map row_ViewCount_z))), (1, .v (.sl false 1 (a1.map row_i64))), (2, .v (.int .i64 a2)), (7, .v (.int .i64 s4.1)), (8, .v (.int .i64 s4.2))]) (fun s4 _ _ ho6 hg7 hF => ?_)
   try simp [go_sem, g]
   refine pw_wk ?_
   repeat rw [sq]
   refine pI hF (fun h9 hF => ?_) (fun h9 hF => ?_)
   ·try simp [go_sem, g]
    refine pw_wk ?_
    repeat rw [sq]
    rw [pw_block]
    have g := Ld g 2
    try simp [go_sem, g]
    refine pw_wkK [0, 1, 2, 7, 8, 9] (by simp [go_sem, g]; rfl) ?_
    obtain ⟨x10, g, hF⟩ := Rx g hF
    try simp [go_sem, g]
    refine pC hF [.sh, .sh] c_spec_wLess (fun z11 hF => ?_)
    try simp [go_sem, g]
    refine pw_wk ?_
    repeat rw [sq]
    refine pI hF (fun h12 hF => ?_) (fun h12 hF => ?_)
    ·try simp [go_sem, g]
     exact pT (hg7 (i64.wrap ((i64.wrap ((i64.wrap (s4.1 + s4.2)).tdiv 2)) + 1), s4.2)) (Rn_some hF)
    ·try simp [go_sem, g]
     exact pT (hg7 (s4.1, i64.wrap ((i64.wrap (s4.1 + s4.2)).tdiv 2))) (Rn_some hF)
   ·try simp [go_sem, g]
    cases ho6 _ (Rn_some hF)
    exact pT (hj1 s4.1) hψ8
noncomputable def F_spec_l1In (a0 : Int) (a1 : Int) (a2 : Int) : Option (Bool) :=
  ((if decide (a1 ≤ a0) = true then (
  some (decide (a0 ≤ a2))) else (
  some false) : Option (Bool)).bind fun x3 =>
  some x3)
theorem c_spec_l1In : ∀ {a0} {a1} {a2} {r}, F_spec_l1In a0 a1 a2 = some r → PCalls Try.prog 84 [(.sh, .int .i64 a0), (.sh, .int .i64 a1), (.sh, .int .i64 a2)] (Eo (.bool r) [.junk, .junk, .junk]) := by
  intro a0 a1 a2 r hr
  apply pF 15 [] [] [] [.tmp 6] hr cl84 Try.func84
  intro Φ hΦ hF g
  unfold F_spec_l1In at hF
  try simp [go_sem, g]
  refine pw_wk ?_
  repeat rw [sq]
  refine pJ hF (fun x3 => [(6, .v (.bool x3))]) (fun x3 hF => ?_) fun _ hj1 hF => ?_
  ·cases hΦ _ (Rn_some hF)
   try simp [go_sem, g]
  ·try simp [go_sem, g]
   refine pwg_F hF (fun h4 hF => ?_) fun h4 hF => ?_
   ·try simp [go_sem, g, h4]
    exact pT (hj1 (decide (a0 ≤ a2))) (Rn_some hF)
   ·try simp [go_sem, g, h4]
    exact pT (hj1 false) (Rn_some hF)
noncomputable def F_spec_wSum (a0 : (List ViewCount)) : Option (Int) :=
  ((rloop (σ := Int) (fun i5 s4 =>
  (ix a0 i5).bind fun x11 =>
  some (.go (i64.wrap (s4 + x11.Times)))) (fun s4 => s4) (a0.length) 0 0 : Option (Int)).bind fun x3 =>
  some x3)
theorem c_spec_wSum : ∀ {a0} {r}, F_spec_wSum a0 = some r → PCalls Try.prog 50 [(.sh, .sl false 2 (a0.map row_ViewCount_z))] (Eo (.int .i64 r) [.junk]) := by
  intro a0 r hr
  apply pF 18 [] [] [] [.tmp 2] hr cl50 Try.func50
  intro Φ hΦ hF g
  unfold F_spec_wSum at hF
  iterate 3 (try simp [go_sem, g]; try intros; refine pw_wk ?_)
  repeat rw [sq]
  refine pJ hF (fun x3 => [(3, .v (.int .i64 x3))]) (fun x3 hF => ?_) fun _ hj1 hF => ?_
  ·cases hΦ _ (Rn_some hF)
   try simp [go_sem, g]
   refine pw_wk ?_
   try simp [go_sem, g]
  ·repeat rw [sq]
   rw [pw_block]
   obtain ⟨b12, hb13, hψ8⟩ := hF
   refine pR hb13 (fun i5 s4 => [(3, .v (.int .i64 s4)), (6, .v (.sl false 2 (a0.map row_ViewCount_z))), (7, .v (.int .i64 (a0.length : Int))), (8, .v (.int .i64 i5))]) (fun s4 _ hN14 => ?_) (fun i5 s4 _ _ hi9 hi10 ho6 hg7 hF => ?_)
   ·subst hN14
    try simp [go_sem]
    refine pw_wk ?_
    repeat rw [sq]
    refine pw_cond_f (by simp [go_sem]) ?_
    try simp [go_sem]
    exact pT (hj1 s4) hψ8 (by simp [go_sem])
   ·try simp [go_sem, g]
    refine pw_wk ?_
    repeat rw [sq]
    refine pw_cond_t (by simp [go_sem, g, hi9, hi10]) ?_
    try simp [go_sem, g]
    refine pw_wk ?_
    repeat rw [sq]
    rw [pw_block]
    obtain ⟨x11, g, hF⟩ := Rx g hF
    try simp [go_sem, g]
    refine pw_wkK [3, 5, 6, 7, 8] (by simp [go_sem, g]; rfl) ?_
    try simp [go_sem, g]
    refine pw_wk ?_
    try simp [go_sem, g]
    exact pT (hg7 (i64.wrap (s4 + x11.Times))) (Rn_some hF) (by simp [go_sem, g, wr_i hi9 hi10 (by assumption)])
def D49_6 : List DE := [⟨0, [4], [4], none, false, false, false⟩, ⟨1, [15], [4], some 15, false, false, false⟩, ⟨2, [16], [], none, false, true, true⟩, ⟨3, [17], [], none, false, false, false⟩, ⟨4, [18], [], none, false, false, false⟩, ⟨5, [4, 19], [4], none, false, false, false⟩, ⟨6, [20, 19], [4], some 20, false, false, false⟩, ⟨7, [21, 19], [], none, false, false, false⟩, ⟨8, [22, 19], [], none, false, false, false⟩, ⟨9, [19, 23], [], none, false, false, false⟩, ⟨10, [24], [], none, false, false, false⟩, ⟨11, [3, 25], [], none, false, false, false⟩, ⟨12, [26, 25], [], none, false, false, false⟩, ⟨13, [27, 25], [], none, false, false, false⟩, ⟨14, [0, 28], [], none, false, false, false⟩, ⟨15, [3, 28], [], none, false, false, false⟩, ⟨16, [30, 28], [], none, false, false, false⟩, ⟨17, [29, 31, 28], [], none, false, false, false⟩, ⟨18, [32, 28], [], none, false, false, false⟩, ⟨19, [33, 28], [], none, false, false, false⟩, ⟨20, [4, 28], [4], none, false, false, false⟩, ⟨21, [35, 28], [4], some 35, false, false, false⟩, ⟨22, [34, 36, 28], [], none, false, true, true⟩, ⟨23, [37, 28], [], none, false, false, false⟩, ⟨24, [28, 38, 25], [], none, false, false, false⟩, ⟨25, [25, 39], [], none, false, false, false⟩]
noncomputable def F_spec_wGood (a0 : (List ViewCount)) : Option (Bool) :=
  if decide (3000 < (a0.length : Int)) = true then (
  some false) else (
  ((rloop (σ := Unit) (fun i6 s5 =>
  (ix a0 i6).bind fun x12 =>
  (((F_spec_l1In x12.Times 1 1000000).bind fun z16 =>
  if (!z16) = true then (
  some true) else (
  if decide (24 < (x12.View.length : Int)) = true then (
  some true) else (
  if decide (0 < i6) = true then (
  (ix a0 (i64.wrap (i6 - 1))).bind fun x20 =>
  (F_spec_wLess x20.View x12.View).bind fun z21 =>
  some (!z21)) else (
  some false))) : Option (Bool)).bind fun x15 =>
  if x15 = true then (
  some (.out (.inr false))) else (
  some (.go ())))) (fun s5 => .inl ()) (a0.length) 0 () : Option (Unit ⊕ Bool)).bind (Sum.elim (fun x4 =>
  (F_spec_wSum a0).bind fun z27 =>
  some (decide (z27 ≤ 1000000))) some)))
theorem c_spec_wGood : ∀ {a0} {r}, F_spec_wGood a0 = some r → PCalls Try.prog 49 [(.sh, .sl false 2 (a0.map row_ViewCount_z))] (Eo (.bool r) [.junk]) := by
  intro a0 r hr
  apply pF 45 [] [] [] [.tmp 2] hr cl49 Try.func49
  intro Φ hΦ hF g
  unfold F_spec_wGood at hF
  iterate 2 (try simp [go_sem, g]; try intros; refine pw_wk ?_)
  repeat rw [sq]
  refine pI hF (fun h1 hF => ?_) (fun h1 hF => ?_)
  ·cases hΦ _ (Rn_some hF)
   try simp [go_sem, g]
   refine pw_wk ?_
   try simp [go_sem, g]
  ·iterate 2 (try simp [go_sem, g]; try intros; refine pw_wk ?_)
   repeat rw [sq]
   refine pJs hF (fun x4 => [(0, .v (.sl false 2 (a0.map row_ViewCount_z)))]) (fun x4 hF => ?_) fun _ hj2 hr3 hF => ?_
   ·try simp [go_sem, g]
    refine pC hF [.sh] c_spec_wSum (fun z27 hF => ?_)
    try simp [go_sem, g]
    refine pw_wkK [2] (by simp [go_sem, g]; rfl) ?_
    cases hΦ _ (Rn_some hF)
    try simp [go_sem, g]
   ·repeat rw [sq]
    rw [pw_block]
    obtain ⟨b23, hb24, hψ9⟩ := hF
    refine pR hb24 (fun i6 s5 => [(0, .v (.sl false 2 (a0.map row_ViewCount_z))), (8, .v (.sl false 2 (a0.map row_ViewCount_z))), (9, .v (.int .i64 (a0.length : Int))), (10, .v (.int .i64 i6))]) (fun s5 _ hN25 => ?_) (fun i6 s5 _ _ hi10 hi11 ho7 hg8 hF => ?_)
    ·subst hN25
     try simp [go_sem]
     refine pw_wk ?_
     repeat rw [sq]
     refine pw_cond_f (by simp [go_sem]) ?_
     try simp [go_sem]
     exact pT (hj2 ()) hψ9 (by simp [go_sem])
    ·try simp [go_sem, g]
     refine pw_wk ?_
     repeat rw [sq]
     refine pw_cond_t (by simp [go_sem, g, hi10, hi11]) ?_
     try simp [go_sem, g]
     refine pw_wk ?_
     repeat rw [sq]
     rw [pw_block]
     obtain ⟨x12, g, hF⟩ := Rx g hF
     try simp [go_sem, g]
     refine pw_wkK [0, 3, 4, 8, 9, 10] (by simp [go_sem, g]; rfl) ?_
     repeat rw [sq]
     refine pJ hF (fun x15 => [(0, .v (.sl false 2 (a0.map row_ViewCount_z))), (8, .v (.sl false 2 (a0.map row_ViewCount_z))), (9, .v (.int .i64 (a0.length : Int))), (10, .v (.int .i64 i6)), (40, .v (.bool x15))]) (fun x15 hF => ?_) fun _ hj13 hF => ?_
     ·repeat rw [sq]
      refine pI hF (fun h22 hF => ?_) (fun h22 hF => ?_)
      ·cases ho7 _ (Rn_some hF)
       cases hΦ _ (hr3 _ hψ9)
       try simp [go_sem, g]
       refine pw_wk ?_
       try simp [go_sem, g]
      ·try simp [go_sem, g]
       refine pw_wk ?_
       try simp [go_sem, g]
       exact pT (hg8 ()) (Rn_some hF) (by simp [go_sem, g, wr_i hi10 hi11 (by assumption)])
     ·repeat rw [sq]
      refine pw_draw D49_6 follows (by kernel_rfl) rfl ?_
      try simp only [go_sem, D49_6]
      try simp [go_sem, g]
      refine pC hF [.sh, .sh, .sh] c_spec_l1In (fun z16 hF => ?_)
      try simp [go_sem, g]
      refine pwgD_F hF (fun h17 hF => ?_) fun h17 hF => ?_
      ·try simp [go_sem, g, h17]
       exact pT (hj13 true) (Rn_some hF)
      ·try simp [go_sem, g, h17]
       try intros
       refine pwgD_F hF (fun h18 hF => ?_) fun h18 hF => ?_
       ·try simp [go_sem, g, h18]
        exact pT (hj13 true) (Rn_some hF)
       ·try simp [go_sem, g, h18]
        refine pwgD_F hF (fun h19 hF => ?_) fun h19 hF => ?_
        ·obtain ⟨x20, g, hF⟩ := Rx g hF
         try simp [go_sem, g, h19]
         refine pC hF [.sh, .sh] c_spec_wLess (fun z21 hF => ?_)
         try simp [go_sem, g, h19, h18]
         exact pT (hj13 (!z21)) (Rn_some hF)
        ·try simp [go_sem, g, h19, h18]
         exact pT (hj13 false) (Rn_some hF)
noncomputable def F_spec_wIf__mv0 (a0 : (List ViewCount)) : Option ((List ViewCount) × Bool) :=
  (F_spec_wGood a0).bind fun z1 =>
  if (!z1) = true then (
  some ([], false)) else (
  some (a0, true))
theorem c_spec_wIf__mv0 : ∀ {a0} {r}, F_spec_wIf__mv0 a0 = some r → PCalls Try.prog 56 [(.mv, .sl true 2 (a0.map row_ViewCount_z))] (Eo (.tup [.sl true 2 (r.1.map row_ViewCount_z), .bool r.2]) [.junk]) := by
  intro a0 r hr
  apply pF 8 [] [] [] [.tmp 2, .tmp 3] hr cl56 Try.func56
  intro Φ hΦ hF g
  unfold F_spec_wIf__mv0 at hF
  try simp [go_sem, g]
  refine pw_wk ?_
  try simp [go_sem, g]
  refine pC hF [.sh] c_spec_wGood (fun z1 hF => ?_)
  try simp [go_sem, g]
  refine pw_wk ?_
  repeat rw [sq]
  refine pI hF (fun h2 hF => ?_) (fun h2 hF => ?_)
  ·cases hΦ _ (Rn_some hF)
   try simp [go_sem, g]
   refine pw_wk ?_
   try simp [go_sem, g]
  ·cases hΦ _ (Rn_some hF)
   iterate 2 (try simp [go_sem, g]; refine pw_wk ?_)
   try simp [go_sem, g]
noncomputable def F_spec_CountViews_own (a0 : (List (List Int))) : Option ((List ViewCount) × Bool) :=
  if decide (3000 < (a0.length : Int)) = true then (
  some ([], false)) else (
  ((rloop (σ := (List ViewCount)) (fun i6 s5 =>
  (ix a0 i6).bind fun x12 =>
  (F_spec_wAdd__mv0 s5 x12 1).bind fun z13 =>
  some (.go z13)) (fun s5 => s5) (a0.length) 0 [] : Option ((List ViewCount))).bind fun x4 =>
  (F_spec_wIf__mv0 x4).bind fun z18 =>
  some (z18.1, z18.2)))
theorem c_spec_CountViews_own : ∀ {a0} {r}, F_spec_CountViews_own a0 = some r → PCalls Try.prog 16 [(.sh, .sl false 1 (a0.map row_zi64))] (Eo (.tup [.sl true 2 (r.1.map row_ViewCount_z), .bool r.2]) [.junk]) := by
  intro a0 r hr
  apply pF 24 [] [] [] [.tmp 2, .tmp 3] hr cl16 Try.func16
  intro Φ hΦ hF g
  unfold F_spec_CountViews_own at hF
  iterate 2 (try simp [go_sem, g]; try intros; refine pw_wk ?_)
  repeat rw [sq]
  refine pI hF (fun h1 hF => ?_) (fun h1 hF => ?_)
  ·cases hΦ _ (Rn_some hF)
   try simp [go_sem, g]
   refine pw_wk ?_
   try simp [go_sem, g]
  ·iterate 3 (try simp [go_sem, g]; try intros; refine pw_wk ?_)
   repeat rw [sq]
   refine pJ hF (fun x4 => [(4, .v (.sl true 2 (x4.map row_ViewCount_z)))]) (fun x4 hF => ?_) fun _ hj2 hF => ?_
   ·try simp [go_sem, g]
    refine pC hF [.mv] c_spec_wIf__mv0 (fun z18 hF => ?_)
    try simp [go_sem, g]
    refine pw_wkK [2, 3] (by simp [go_sem, g]; rfl) ?_
    cases hΦ _ (Rn_some hF)
    try simp [go_sem, g]
   ·repeat rw [sq]
    rw [pw_block]
    obtain ⟨b14, hb15, hψ9⟩ := hF
    refine pR hb15 (fun i6 s5 => [(4, .v (.sl true 2 (s5.map row_ViewCount_z))), (10, .v (.sl false 1 (a0.map row_zi64))), (11, .v (.int .i64 (a0.length : Int))), (12, .v (.int .i64 i6))]) (fun s5 _ hN16 => ?_) (fun i6 s5 _ _ hi10 hi11 ho7 hg8 hF => ?_)
    ·subst hN16
     try simp [go_sem]
     refine pw_wk ?_
     repeat rw [sq]
     refine pw_cond_f (by simp [go_sem]) ?_
     try simp [go_sem]
     exact pT (hj2 s5) hψ9 (by simp [go_sem])
    ·try simp [go_sem, g]
     refine pw_wkK [4, 10, 11, 12, 13] (by simp [go_sem, g]; rfl) ?_
     repeat rw [sq]
     refine pw_cond_t (by simp [go_sem, g, hi10, hi11]) ?_
     try simp [go_sem, g]
     refine pw_wk ?_
     repeat rw [sq]
     rw [pw_block]
     obtain ⟨x12, g, hF⟩ := Rx g hF
     try simp [go_sem, g]
     refine pw_wk ?_
     try simp [go_sem, g]
     refine pC hF [.mv, .sh, .sh] c_spec_wAdd__mv0 (fun z13 hF => ?_)
     try simp [go_sem, g]
     refine pw_wk ?_
     try simp [go_sem, g]
     exact pT (hg8 z13) (Rn_some hF) (by simp [go_sem, g, wr_i hi10 hi11 (by assumption)])
noncomputable def F_spec_l1Cur_among__io0 (a0c0 : (List Int)) (a0c1 : Int) (a0c2 : Int) (a1 : (List Int)) : Option (Int × ((List Int) × Int × Int)) :=
  (F_spec_l1Cur_pick__io0 a0c0 a0c1 a0c2 (a1.length : Int)).bind fun z1 =>
  (ix a1 z1.1).bind fun x2 =>
  some (x2, (z1.2.1, z1.2.2.1, z1.2.2.2))
theorem c_spec_l1Cur_among__io0 : ∀ {a0c0} {a0c1} {a0c2} {a1} {r}, F_spec_l1Cur_among__io0 a0c0 a0c1 a0c2 a1 = some r → PCalls Try.prog 82 [(.io, .bx [.sl false 1 (a0c0.map row_u8), .int .i64 a0c1, .int .u64 a0c2]), (.sh, .sl false 1 (a1.map row_i64))] (Eo (.int .i64 r.1) [.bx [.sl false 1 (r.2.1.map row_u8), .int .i64 r.2.2.1, .int .u64 r.2.2.2], .junk]) := by
  intro a0c0 a0c1 a0c2 a1 r hr
  apply pF 12 [0] [] [] [.tmp 4] hr cl82 Try.func82
  intro Φ hΦ hF g
  unfold F_spec_l1Cur_among__io0 at hF
  try simp [go_sem, g]
  try intros
  refine pw_wk ?_
  try simp [go_sem, g]
  try intros
  refine pC hF [.io, .sh] c_spec_l1Cur_pick__io0 (fun z1 hF => ?_)
  obtain ⟨x2, g, hF⟩ := Rx g hF
  cases hΦ _ (Rn_some hF)
  try simp [go_sem, g]
  refine pw_wk ?_
  try simp [go_sem, g]
noncomputable def F_spec_l1Cur_among__io0_mv1 (a0c0 : (List Int)) (a0c1 : Int) (a0c2 : Int) (a1 : (List Int)) : Option (Int × ((List Int) × Int × Int)) :=
  (F_spec_l1Cur_pick__io0 a0c0 a0c1 a0c2 (a1.length : Int)).bind fun z1 =>
  (ix a1 z1.1).bind fun x2 =>
  some (x2, (z1.2.1, z1.2.2.1, z1.2.2.2))
theorem c_spec_l1Cur_among__io0_mv1 : ∀ {a0c0} {a0c1} {a0c2} {a1} {r}, F_spec_l1Cur_among__io0_mv1 a0c0 a0c1 a0c2 a1 = some r → PCalls Try.prog 82 [(.io, .bx [.sl false 1 (a0c0.map row_u8), .int .i64 a0c1, .int .u64 a0c2]), (.mv, .sl true 1 (a1.map row_i64))] (Eo (.int .i64 r.1) [.bx [.sl false 1 (r.2.1.map row_u8), .int .i64 r.2.2.1, .int .u64 r.2.2.2], .junk]) := by
  intro a0c0 a0c1 a0c2 a1 r hr
  apply pF 12 [0] [] [] [.tmp 4] hr cl82 Try.func82
  intro Φ hΦ hF g
  unfold F_spec_l1Cur_among__io0_mv1 at hF
  try simp [go_sem, g]
  try intros
  refine pw_wk ?_
  try simp [go_sem, g]
  try intros
  refine pC hF [.io, .sh] c_spec_l1Cur_pick__io0 (fun z1 hF => ?_)
  obtain ⟨x2, g, hF⟩ := Rx g hF
  cases hΦ _ (Rn_some hF)
  try simp [go_sem, g]
  refine pw_wk ?_
  try simp [go_sem, g]
def D43_5x1 : List DE := [⟨0, [3], [], none, false, false, false⟩, ⟨1, [5], [], none, false, false, false⟩, ⟨2, [17, 18], [], none, false, false, false⟩, ⟨3, [19], [], none, false, false, false⟩, ⟨4, [20], [], none, false, false, false⟩, ⟨5, [0], [], none, false, false, false⟩, ⟨6, [22], [], none, false, true, true⟩, ⟨7, [21, 23], [], none, false, false, false⟩, ⟨8, [17, 18], [], none, false, false, false⟩, ⟨9, [25], [], none, false, false, false⟩, ⟨10, [26, 24], [], none, false, false, false⟩]
def D43_5x2 : List DE := [⟨0, [3], [], none, false, false, false⟩, ⟨1, [5], [], none, false, false, false⟩, ⟨2, [17, 18], [], none, false, false, false⟩, ⟨3, [19], [], none, false, false, false⟩, ⟨5, [0], [], none, false, false, false⟩, ⟨6, [22], [], none, false, true, true⟩, ⟨4, [20], [], none, false, false, false⟩, ⟨7, [21, 23], [], none, false, false, false⟩, ⟨8, [17, 18], [], none, false, false, false⟩, ⟨9, [25], [], none, false, false, false⟩, ⟨10, [26, 24], [], none, false, false, false⟩]
noncomputable def F_spec_l1Cur_viewCounts__io0 (a0c0 : (List Int)) (a0c1 : Int) (a0c2 : Int) : Option ((List ViewCount) × ((List Int) × Int × Int)) :=
  (F_spec_l1Cur_views__io0 a0c0 a0c1 a0c2).bind fun z1 =>
  (F_spec_CountViews_own z1.1).bind fun z2 =>
  ((rloop (σ := ((List Int) × Int × Int) × (List ViewCount)) (fun i16 s15 =>
  (ix s15.2 i16).bind fun x22 =>
  (F_spec_l1Cur_pick__io0 s15.1.1 s15.1.2.1 s15.1.2.2 3).bind fun z23 =>
  some (.go ((z23.2.1, z23.2.2.1, z23.2.2.2), s15.2.set i16.toNat (ViewCount.mk x22.View (i64.wrap (x22.Times + z23.1)))))) (fun s15 => ((s15.1.1, s15.1.2.1, s15.1.2.2), s15.2)) (z2.1.length) 0 ((z1.2.1, z1.2.2.1, z1.2.2.2), z2.1) : Option ((((List Int) × Int × Int) × (List ViewCount)))).bind fun x5 =>
  (F_spec_l1Cur_pick__io0 x5.1.1 x5.1.2.1 x5.1.2.2 20).bind fun z28 =>
  ((if (z28.1 == 0) = true then (
  if decide (0 < (x5.2.length : Int)) = true then (
  (F_spec_l1Cur_pick__io0 z28.2.1 z28.2.2.1 z28.2.2.2 (x5.2.length : Int)).bind fun z34 =>
  (F_spec_l1Cur_among__io0_mv1 z34.2.1 z34.2.2.1 z34.2.2.2 [0, (-1), 1000000, 1000001]).bind fun z35 =>
  (ix x5.2 z34.1).bind fun x36 =>
  some ((z35.2.1, z35.2.2.1, z35.2.2.2), x5.2.set z34.1.toNat (ViewCount.mk x36.View z35.1))) else (
  some ((z28.2.1, z28.2.2.1, z28.2.2.2), x5.2))) else (
  if (z28.1 == 1) = true then (
  if decide (1 < (x5.2.length : Int)) = true then (
  (ix x5.2 1).bind fun x39 =>
  (ix x5.2 0).bind fun x40 =>
  some ((z28.2.1, z28.2.2.1, z28.2.2.2), x5.2.set 0 x39)) else (
  some ((z28.2.1, z28.2.2.1, z28.2.2.2), x5.2))) else (
  some ((z28.2.1, z28.2.2.1, z28.2.2.2), x5.2))) : Option ((((List Int) × Int × Int) × (List ViewCount)))).bind fun x31 =>
  some (x31.2, (x31.1.1, x31.1.2.1, x31.1.2.2))))
theorem c_spec_l1Cur_viewCounts__io0 : ∀ {a0c0} {a0c1} {a0c2} {r}, F_spec_l1Cur_viewCounts__io0 a0c0 a0c1 a0c2 = some r → PCalls Try.prog 43 [(.io, .bx [.sl false 1 (a0c0.map row_u8), .int .i64 a0c1, .int .u64 a0c2])] (Eo (.sl true 2 (r.1.map row_ViewCount_z)) [.bx [.sl false 1 (r.2.1.map row_u8), .int .i64 r.2.2.1, .int .u64 r.2.2.2]]) := by
  intro a0c0 a0c1 a0c2 r hr
  apply pF 56 [0] [8] [] [.tmp 2] hr cl43 Try.func43
  intro Φ hΦ hF g
  unfold F_spec_l1Cur_viewCounts__io0 at hF
  try simp [go_sem, g]
  refine pw_wk ?_
  try simp [go_sem, g]
  refine pC hF [.io] c_spec_l1Cur_views__io0 (fun z1 hF => ?_)
  try simp [go_sem, g]
  refine pC hF [.sh] c_spec_CountViews_own (fun z2 hF => ?_)
  try simp [go_sem, g]
  try intros
  refine pw_wk ?_
  try simp [go_sem, g]
  try intros
  refine pw_wkK [0, 3, 13, 14] (by simp [go_sem, g]; rfl) ?_
  repeat rw [sq]
  refine pJ hF (fun x5 => [(0, .v (.bx [.sl false 1 (x5.1.1.map row_u8), .int .i64 x5.1.2.1, .int .u64 x5.1.2.2])), (3, .v (.sl true 2 (x5.2.map row_ViewCount_z)))]) (fun x5 hF => ?_) fun _ hj3 hF => ?_
  ·try simp [go_sem, g]
   refine pC hF [.io, .sh] c_spec_l1Cur_pick__io0 (fun z28 hF => ?_)
   try simp [go_sem, g]
   refine pw_wk ?_
   repeat rw [sq]
   refine pJ hF (fun x31 => [(0, .v (.bx [.sl false 1 (x31.1.1.map row_u8), .int .i64 x31.1.2.1, .int .u64 x31.1.2.2])), (3, .v (.sl true 2 (x31.2.map row_ViewCount_z)))]) (fun x31 hF => ?_) fun _ hj29 hF => ?_
   ·cases hΦ _ (Rn_some hF)
    try simp [go_sem, g]
    refine pw_wk ?_
    try simp [go_sem, g]
   ·repeat rw [sq]
    rw [pw_block]
    try simp [go_sem, g]
    refine pw_wk ?_
    repeat rw [sq]
    refine pI hF (fun h32 hF => ?_) (fun h32 hF => ?_)
    ·try simp [go_sem, g]
     try intros
     refine pw_wk ?_
     repeat rw [sq]
     refine pI hF (fun h33 hF => ?_) (fun h33 hF => ?_)
     ·try simp [go_sem, g]
      try intros
      refine pC hF [.io, .sh] c_spec_l1Cur_pick__io0 (fun z34 hF => ?_)
      try simp [go_sem, g]
      refine pC hF [.io, .mv] c_spec_l1Cur_among__io0_mv1 (fun z35 hF => ?_)
      obtain ⟨x36, g, hF⟩ := Rx g hF
      try simp [go_sem, g]
      exact pT (hj29 ((z35.2.1, z35.2.2.1, z35.2.2.2), x5.2.set z34.1.toNat (ViewCount.mk x36.View z35.1))) (Rn_some hF)
     ·try simp [go_sem, g]
      exact pT (hj29 ((z28.2.1, z28.2.2.1, z28.2.2.2), x5.2)) (Rn_some hF)
    ·try simp [go_sem, g]
     refine pw_wk ?_
     repeat rw [sq]
     refine pI hF (fun h37 hF => ?_) (fun h37 hF => ?_)
     ·try simp [go_sem, g]
      try intros
      refine pw_wk ?_
      repeat rw [sq]
      refine pI hF (fun h38 hF => ?_) (fun h38 hF => ?_)
      ·obtain ⟨x39, g, hF⟩ := Rxn g 1 hF
       obtain ⟨x40, g, hF⟩ := Rxn g 0 hF
       try simp [go_sem, g]
       exact pT (hj29 ((z28.2.1, z28.2.2.1, z28.2.2.2), x5.2.set 0 x39)) (Rn_some hF)
      ·try simp [go_sem, g]
       exact pT (hj29 ((z28.2.1, z28.2.2.1, z28.2.2.2), x5.2)) (Rn_some hF)
     ·try simp [go_sem, g]
      exact pT (hj29 ((z28.2.1, z28.2.2.1, z28.2.2.2), x5.2)) (Rn_some hF)
  ·repeat rw [sq]
   rw [pw_block]
   obtain ⟨b24, hb25, hψ19⟩ := hF
   refine pR hb25 (fun i16 s15 => [(0, .v (.bx [.sl false 1 (s15.1.1.map row_u8), .int .i64 s15.1.2.1, .int .u64 s15.1.2.2])), (3, .v (.sl true 2 (s15.2.map row_ViewCount_z))), (13, .v (.int .i64 (z2.1.length : Int))), (14, .v (.int .i64 i16))]) (fun s15 _ hN26 => ?_) (fun i16 s15 _ _ hi20 hi21 ho17 hg18 hF => ?_)
   ·subst hN26
    try simp [go_sem]
    refine pw_wk ?_
    repeat rw [sq]
    refine pw_cond_f (by simp [go_sem]) ?_
    try simp [go_sem]
    exact pT (hj3 ((s15.1.1, s15.1.2.1, s15.1.2.2), s15.2)) hψ19 (by simp [go_sem])
   ·try simp [go_sem, g]
    refine pw_wk ?_
    repeat rw [sq]
    refine pw_cond_t (by simp [go_sem, g, hi20, hi21]) ?_
    try simp [go_sem, g]
    refine pw_wk ?_
    repeat rw [sq]
    rw [pw_block]
    try simp [go_sem, g]
    refine pw_wk ?_
    repeat rw [sq]
    refine pw_draw2 4 6 D43_5x1 D43_5x2 follows (by decide) (by kernel_rfl) (by kernel_rfl) rfl rfl ?_ ?_
    ·try simp only [go_sem, D43_5x1]
     obtain ⟨x22, g, hF⟩ := Rx g hF
     try simp [go_sem, g]
     refine pC hF [.io, .sh] c_spec_l1Cur_pick__io0 (fun z23 hF => ?_)
     try simp [go_sem, g]
     refine pw_wkK [0, 3, 13, 14] (by simp [go_sem, g]; rfl) ?_
     try simp [go_sem, g]
     exact pT (hg18 ((z23.2.1, z23.2.2.1, z23.2.2.2), s15.2.set i16.toNat (ViewCount.mk x22.View (i64.wrap (x22.Times + z23.1))))) (Rn_some hF) (by simp [go_sem, g, wr_i hi20 hi21 (by assumption)])
    ·try simp only [go_sem, D43_5x2]
     obtain ⟨x22, g, hF⟩ := Rx g hF
     try simp [go_sem, g]
     refine pC hF [.io, .sh] c_spec_l1Cur_pick__io0 (fun z23 hF => ?_)
     try simp [go_sem, g]
     refine pw_wkK [0, 3, 13, 14] (by simp [go_sem, g]; rfl) ?_
     try simp [go_sem, g]
     exact pT (hg18 ((z23.2.1, z23.2.2.1, z23.2.2.2), s15.2.set i16.toNat (ViewCount.mk x22.View (i64.wrap (x22.Times + z23.1))))) (Rn_some hF) (by simp [go_sem, g, wr_i hi20 hi21 (by assumption)])
noncomputable def F_spec_DrawDistanceOf (a0 : (List Int)) : Option ((List ViewCount) × (List ViewCount)) :=
  (F_spec_l1Cur_viewCounts__io0 a0 0 0).bind fun z1 =>
  (F_spec_l1Cur_one__io0 z1.2.1 z1.2.2.1 z1.2.2.2 6).bind fun z2 =>
  if z2.1 = true then (
  some (z1.1, z1.1)) else (
  (F_spec_l1Cur_viewCounts__io0 z2.2.1 z2.2.2.1 z2.2.2.2).bind fun z4 =>
  some (z1.1, z4.1))
theorem c_spec_DrawDistanceOf : ∀ {a0} {r}, F_spec_DrawDistanceOf a0 = some r → PCalls Try.prog 7 [(.sh, .sl false 1 (a0.map row_u8))] (Eo (.tup [.sl false 2 (r.1.map row_ViewCount_z), .sl false 2 (r.2.map row_ViewCount_z)]) [.junk]) := by
  intro a0 r hr
  apply pF 18 [] [3, 10] [8] [.tmp 2, .tmp 3] hr cl7 Try.func7
  intro Φ hΦ hF g
  unfold F_spec_DrawDistanceOf at hF
  iterate 2 (try simp [go_sem, g]; refine pw_wk ?_)
  try simp [go_sem, g]
  refine pC hF [.io] c_spec_l1Cur_viewCounts__io0 (fun z1 hF => ?_)
  try simp [go_sem, g]
  refine pw_wk ?_
  try simp [go_sem, g]
  refine pC hF [.io, .sh] c_spec_l1Cur_one__io0 (fun z2 hF => ?_)
  try simp [go_sem, g]
  refine pw_wkK [4, 5, 12] (by simp [go_sem, g]; rfl) ?_
  repeat rw [sq]
  refine pI hF (fun h3 hF => ?_) (fun h3 hF => ?_)
  ·cases hΦ _ (Rn_some hF)
   try simp [go_sem, g]
   refine pw_wk ?_
   try simp [go_sem, g]
  ·try simp [go_sem, g]
   refine pw_wk ?_
   try simp [go_sem, g]
   refine pC hF [.io] c_spec_l1Cur_viewCounts__io0 (fun z4 hF => ?_)
   cases hΦ _ (Rn_some hF)
   try simp [go_sem, g]
   refine pw_wk ?_
   try simp [go_sem, g]
noncomputable def F_impl_within (a0 : Int) (a1 : Int) (a2 : Int) : Option (Bool) :=
  ((if decide (a1 ≤ a0) = true then (
  some (decide (a0 ≤ a2))) else (
  some false) : Option (Bool)).bind fun x3 =>
  some x3)
theorem c_impl_within : ∀ {a0} {a1} {a2} {r}, F_impl_within a0 a1 a2 = some r → PCalls Try.prog 73 [(.sh, .int .i64 a0), (.sh, .int .i64 a1), (.sh, .int .i64 a2)] (Eo (.bool r) [.junk, .junk, .junk]) := by
  intro a0 a1 a2 r hr
  apply pF 15 [] [] [] [.tmp 6] hr cl73 Try.func73
  intro Φ hΦ hF g
  unfold F_impl_within at hF
  try simp [go_sem, g]
  refine pw_wk ?_
  repeat rw [sq]
  refine pJ hF (fun x3 => [(6, .v (.bool x3))]) (fun x3 hF => ?_) fun _ hj1 hF => ?_
  ·cases hΦ _ (Rn_some hF)
   try simp [go_sem, g]
  ·try simp [go_sem, g]
   refine pwg_F hF (fun h4 hF => ?_) fun h4 hF => ?_
   ·try simp [go_sem, g, h4]
    exact pT (hj1 (decide (a0 ≤ a2))) (Rn_some hF)
   ·try simp [go_sem, g, h4]
    exact pT (hj1 false) (Rn_some hF)
noncomputable def F_cmp_isNaN_int (a0 : Int) : Option (Bool) :=
  some (a0 != a0)
theorem c_cmp_isNaN_int : ∀ {a0} {r}, F_cmp_isNaN_int a0 = some r → PCalls Try.prog 180 [(.sh, .int .i64 a0)] (Eo (.bool r) [.junk]) := by
  intro a0 r hr
  apply pF 6 [] [] [] [.tmp 2] hr cl180 Try.func180
  intro Φ hΦ hF g
  unfold F_cmp_isNaN_int at hF
  cases hΦ _ (Rn_some hF)
  iterate 2 (try simp [go_sem, g]; refine pw_wk ?_)
  try simp [go_sem, g]
noncomputable def F_cmp_Compare_int (a0 : Int) (a1 : Int) : Option (Int) :=
  (F_cmp_isNaN_int a0).bind fun z1 =>
  (F_cmp_isNaN_int a1).bind fun z2 =>
  if z1 = true then (
  if z2 = true then (
  some 0) else (
  some (-1))) else (
  if z2 = true then (
  some 1) else (
  if decide (a0 < a1) = true then (
  some (-1)) else (
  if decide (a1 < a0) = true then (
  some 1) else (
  some 0))))
theorem c_cmp_Compare_int : ∀ {a0} {a1} {r}, F_cmp_Compare_int a0 a1 = some r → PCalls Try.prog 149 [(.sh, .int .i64 a0), (.sh, .int .i64 a1)] (Eo (.int .i64 r) [.junk, .junk]) := by
  intro a0 a1 r hr
  apply pF 20 [] [] [] [.tmp 4] hr cl149 Try.func149
  intro Φ hΦ hF g
  unfold F_cmp_Compare_int at hF
  try simp [go_sem, g]
  refine pw_wk ?_
  try simp [go_sem, g]
  refine pC hF [.sh] c_cmp_isNaN_int (fun z1 hF => ?_)
  try simp [go_sem, g]
  refine pw_wk ?_
  try simp [go_sem, g]
  refine pC hF [.sh] c_cmp_isNaN_int (fun z2 hF => ?_)
  iterate 2 (try simp [go_sem, g]; refine pw_wk ?_)
  repeat rw [sq]
  refine pI hF (fun h3 hF => ?_) (fun h3 hF => ?_)
  ·try simp [go_sem, g]
   refine pw_wk ?_
   repeat rw [sq]
   refine pI hF (fun h4 hF => ?_) (fun h4 hF => ?_)
   ·try simp [go_sem, g]
    refine pw_wkK [4] (by simp [go_sem, g]; rfl) ?_
    cases hΦ _ (Rn_some hF)
    try simp [go_sem, g]
   ·try simp [go_sem, g]
    refine pw_wk ?_
    try simp [go_sem, g]
    refine pw_wkK [4] (by simp [go_sem, g]; rfl) ?_
    cases hΦ _ (Rn_some hF)
    try simp [go_sem, g]
  ·iterate 2 (try simp [go_sem, g]; refine pw_wk ?_)
   repeat rw [sq]
   refine pI hF (fun h5 hF => ?_) (fun h5 hF => ?_)
   ·try simp [go_sem, g]
    refine pw_wkK [4] (by simp [go_sem, g]; rfl) ?_
    cases hΦ _ (Rn_some hF)
    try simp [go_sem, g]
   ·try simp [go_sem, g]
    refine pw_wk ?_
    try simp [go_sem, g]
    refine pw_wkK [0, 1, 16] (by simp [go_sem, g]; rfl) ?_
    repeat rw [sq]
    refine pI hF (fun h6 hF => ?_) (fun h6 hF => ?_)
    ·cases hΦ _ (Rn_some hF)
     try simp [go_sem, g]
     refine pw_wk ?_
     try simp [go_sem, g]
    ·iterate 2 (try simp [go_sem, g]; refine pw_wk ?_)
     repeat rw [sq]
     refine pI hF (fun h7 hF => ?_) (fun h7 hF => ?_)
     ·cases hΦ _ (Rn_some hF)
      try simp [go_sem, g]
      refine pw_wk ?_
      try simp [go_sem, g]
     ·cases hΦ _ (Rn_some hF)
      iterate 2 (try simp [go_sem, g]; refine pw_wk ?_)
      try simp [go_sem, g]
noncomputable def F_slices_Compare_int_int (a0 : (List Int)) (a1 : (List Int)) : Option (Int) :=
  ((rloop (σ := Unit) (fun i5 s4 =>
  (ix a0 i5).bind fun x11 =>
  if decide ((a1.length : Int) ≤ i5) = true then (
  some (.out (.inr 1))) else (
  (ix a1 i5).bind fun x13 =>
  (F_cmp_Compare_int x11 x13).bind fun z14 =>
  if (z14 != 0) = true then (
  some (.out (.inr z14))) else (
  some (.go ())))) (fun s4 => .inl ()) (a0.length) 0 () : Option (Unit ⊕ Int)).bind (Sum.elim (fun x3 =>
  if decide ((a0.length : Int) < (a1.length : Int)) = true then (
  some (-1)) else (
  some 0)) some))
theorem c_slices_Compare_int_int : ∀ {a0} {a1} {r}, F_slices_Compare_int_int a0 a1 = some r → PCalls Try.prog 103 [(.sh, .sl false 1 (a0.map row_i64)), (.sh, .sl false 1 (a1.map row_i64))] (Eo (.int .i64 r) [.junk, .junk]) := by
  intro a0 a1 r hr
  apply pF 36 [] [] [] [.tmp 4] hr cl103 Try.func103
  intro Φ hΦ hF g
  unfold F_slices_Compare_int_int at hF
  iterate 2 (try simp [go_sem, g]; try intros; refine pw_wk ?_)
  repeat rw [sq]
  refine pJs hF (fun x3 => [(0, .v (.sl false 1 (a0.map row_i64))), (1, .v (.sl false 1 (a1.map row_i64)))]) (fun x3 hF => ?_) fun _ hj1 hr2 hF => ?_
  ·try simp [go_sem, g]
   try intros
   refine pw_wk ?_
   repeat rw [sq]
   refine pI hF (fun h20 hF => ?_) (fun h20 hF => ?_)
   ·try simp [go_sem, g]
    refine pw_wkK [4] (by simp [go_sem, g]; rfl) ?_
    cases hΦ _ (Rn_some hF)
    try simp [go_sem, g]
   ·try simp [go_sem, g]
    refine pw_wk ?_
    try simp [go_sem, g]
    refine pw_wkK [4] (by simp [go_sem, g]; rfl) ?_
    cases hΦ _ (Rn_some hF)
    try simp [go_sem, g]
  ·repeat rw [sq]
   rw [pw_block]
   obtain ⟨b16, hb17, hψ8⟩ := hF
   refine pR hb17 (fun i5 s4 => [(0, .v (.sl false 1 (a0.map row_i64))), (1, .v (.sl false 1 (a1.map row_i64))), (9, .v (.sl false 1 (a0.map row_i64))), (10, .v (.int .i64 (a0.length : Int))), (11, .v (.int .i64 i5))]) (fun s4 _ hN18 => ?_) (fun i5 s4 _ _ hi9 hi10 ho6 hg7 hF => ?_)
   ·subst hN18
    try simp [go_sem]
    refine pw_wk ?_
    repeat rw [sq]
    refine pw_cond_f (by simp [go_sem]) ?_
    try simp [go_sem]
    exact pT (hj1 ()) hψ8 (by simp [go_sem])
   ·try simp [go_sem, g]
    refine pw_wk ?_
    repeat rw [sq]
    refine pw_cond_t (by simp [go_sem, g, hi9, hi10]) ?_
    try simp [go_sem, g]
    refine pw_wk ?_
    repeat rw [sq]
    rw [pw_block]
    obtain ⟨x11, g, hF⟩ := Rx g hF
    try simp [go_sem, g]
    refine pw_wkK [0, 1, 5, 6, 9, 10, 11] (by simp [go_sem, g]; rfl) ?_
    try simp [go_sem, g]
    try intros
    refine pw_wk ?_
    repeat rw [sq]
    refine pI hF (fun h12 hF => ?_) (fun h12 hF => ?_)
    ·cases ho6 _ (Rn_some hF)
     cases hΦ _ (hr2 _ hψ8)
     try simp [go_sem, g]
     refine pw_wk ?_
     try simp [go_sem, g]
    ·obtain ⟨x13, g, hF⟩ := Rx g hF
     iterate 2 (try simp [go_sem, g]; refine pw_wk ?_)
     try simp [go_sem, g]
     refine pC hF [.sh, .sh] c_cmp_Compare_int (fun z14 hF => ?_)
     try simp [go_sem, g]
     refine pw_wkK [0, 1, 8, 9, 10, 11] (by simp [go_sem, g]; rfl) ?_
     try simp [go_sem, g]
     refine pw_wk ?_
     repeat rw [sq]
     refine pI hF (fun h15 hF => ?_) (fun h15 hF => ?_)
     ·cases ho6 _ (Rn_some hF)
      cases hΦ _ (hr2 _ hψ8)
      try simp [go_sem, g]
      refine pw_wk ?_
      try simp [go_sem, g]
     ·try simp [go_sem, g]
      refine pw_wk ?_
      try simp [go_sem, g]
      exact pT (hg7 ()) (Rn_some hF) (by simp [go_sem, g, wr_i hi9 hi10 (by assumption)])
def D45_7 : List DE := [⟨0, [5], [5], none, false, false, false⟩, ⟨1, [16], [5], some 16, false, false, false⟩, ⟨2, [17], [], none, false, false, false⟩, ⟨3, [18], [], none, false, false, false⟩, ⟨4, [19], [], none, false, false, false⟩, ⟨5, [5, 20], [5], none, false, false, false⟩, ⟨6, [21, 20], [5], some 21, false, false, false⟩, ⟨7, [3, 20], [], none, false, false, false⟩, ⟨8, [23, 20], [], none, false, false, false⟩, ⟨9, [22, 24, 20], [], none, false, true, true⟩, ⟨10, [25, 20], [], none, false, false, false⟩, ⟨11, [20, 26], [], none, false, false, false⟩, ⟨12, [27], [], none, false, false, false⟩, ⟨13, [4, 28], [], none, false, false, false⟩, ⟨14, [29, 28], [], none, false, false, false⟩, ⟨15, [30, 28], [], none, false, false, false⟩, ⟨16, [0, 31], [], none, false, false, false⟩, ⟨17, [4, 31], [], none, false, false, false⟩, ⟨18, [33, 31], [], none, false, false, false⟩, ⟨19, [32, 34, 31], [], none, false, false, false⟩, ⟨20, [35, 31], [], none, false, false, false⟩, ⟨21, [36, 31], [], none, false, false, false⟩, ⟨22, [5, 31], [5], none, false, false, false⟩, ⟨23, [38, 31], [5], some 38, false, false, false⟩, ⟨24, [37, 39, 31], [], none, false, true, true⟩, ⟨25, [40, 31], [], none, false, false, false⟩, ⟨26, [31, 41, 28], [], none, false, false, false⟩, ⟨27, [28, 42], [], none, false, false, false⟩]
noncomputable def F_impl_isCount (a0 : (List ViewCount)) : Option (Bool) :=
  if decide (3000 < (a0.length : Int)) = true then (
  some false) else (
  ((rloop (σ := Int) (fun i6 s5 =>
  (ix a0 i6).bind fun x12 =>
  ((if decide (24 < (x12.View.length : Int)) = true then (
  some true) else (
  (F_impl_within x12.Times 1 (i64.wrap (1000000 - s5))).bind fun z17 =>
  if (!z17) = true then (
  some true) else (
  if decide (0 < i6) = true then (
  (ix a0 (i64.wrap (i6 - 1))).bind fun x20 =>
  (F_slices_Compare_int_int x20.View x12.View).bind fun z21 =>
  some (decide (0 ≤ z21))) else (
  some false))) : Option (Bool)).bind fun x15 =>
  if x15 = true then (
  some (.out (.inr false))) else (
  some (.go (i64.wrap (s5 + x12.Times)))))) (fun s5 => .inl ()) (a0.length) 0 0 : Option (Unit ⊕ Bool)).bind (Sum.elim (fun x4 =>
  some true) some)))
theorem c_impl_isCount : ∀ {a0} {r}, F_impl_isCount a0 = some r → PCalls Try.prog 45 [(.sh, .sl false 2 (a0.map row_ViewCount_z))] (Eo (.bool r) [.junk]) := by
  intro a0 r hr
  apply pF 49 [] [] [] [.tmp 2] hr cl45 Try.func45
  intro Φ hΦ hF g
  unfold F_impl_isCount at hF
  iterate 2 (try simp [go_sem, g]; try intros; refine pw_wk ?_)
  repeat rw [sq]
  refine pI hF (fun h1 hF => ?_) (fun h1 hF => ?_)
  ·cases hΦ _ (Rn_some hF)
   try simp [go_sem, g]
   refine pw_wk ?_
   try simp [go_sem, g]
  ·iterate 3 (try simp [go_sem, g]; try intros; refine pw_wk ?_)
   repeat rw [sq]
   refine pJs hF (fun x4 => []) (fun x4 hF => ?_) fun _ hj2 hr3 hF => ?_
   ·cases hΦ _ (Rn_some hF)
    try simp [go_sem, g]
    refine pw_wk ?_
    try simp [go_sem, g]
   ·repeat rw [sq]
    rw [pw_block]
    obtain ⟨b23, hb24, hψ9⟩ := hF
    refine pR hb24 (fun i6 s5 => [(0, .v (.sl false 2 (a0.map row_ViewCount_z))), (3, .v (.int .i64 s5)), (9, .v (.sl false 2 (a0.map row_ViewCount_z))), (10, .v (.int .i64 (a0.length : Int))), (11, .v (.int .i64 i6))]) (fun s5 _ hN25 => ?_) (fun i6 s5 _ _ hi10 hi11 ho7 hg8 hF => ?_)
    ·subst hN25
     try simp [go_sem]
     refine pw_wk ?_
     repeat rw [sq]
     refine pw_cond_f (by simp [go_sem]) ?_
     try simp [go_sem]
     exact pT (hj2 ()) hψ9 (by simp [go_sem])
    ·try simp [go_sem, g]
     refine pw_wk ?_
     repeat rw [sq]
     refine pw_cond_t (by simp [go_sem, g, hi10, hi11]) ?_
     try simp [go_sem, g]
     refine pw_wk ?_
     repeat rw [sq]
     rw [pw_block]
     obtain ⟨x12, g, hF⟩ := Rx g hF
     try simp [go_sem, g]
     refine pw_wkK [0, 3, 4, 5, 9, 10, 11] (by simp [go_sem, g]; rfl) ?_
     repeat rw [sq]
     refine pJ hF (fun x15 => [(0, .v (.sl false 2 (a0.map row_ViewCount_z))), (3, .v (.int .i64 s5)), (5, .bl [.sl false 1 (x12.View.map row_i64), .int .i64 x12.Times]), (9, .v (.sl false 2 (a0.map row_ViewCount_z))), (10, .v (.int .i64 (a0.length : Int))), (11, .v (.int .i64 i6)), (43, .v (.bool x15))]) (fun x15 hF => ?_) fun _ hj13 hF => ?_
     ·repeat rw [sq]
      refine pI hF (fun h22 hF => ?_) (fun h22 hF => ?_)
      ·cases ho7 _ (Rn_some hF)
       cases hΦ _ (hr3 _ hψ9)
       try simp [go_sem, g]
       refine pw_wk ?_
       try simp [go_sem, g]
      ·iterate 2 (try simp [go_sem, g]; refine pw_wk ?_)
       try simp [go_sem, g]
       exact pT (hg8 (i64.wrap (s5 + x12.Times))) (Rn_some hF) (by simp [go_sem, g, wr_i hi10 hi11 (by assumption)])
     ·repeat rw [sq]
      refine pw_draw D45_7 follows (by kernel_rfl) rfl ?_
      try simp only [go_sem, D45_7]
      try simp [go_sem, g]
      try intros
      refine pwgD_F hF (fun h16 hF => ?_) fun h16 hF => ?_
      ·try simp [go_sem, g, h16]
       exact pT (hj13 true) (Rn_some hF)
      ·try simp [go_sem, g, h16]
       refine pC hF [.sh, .sh, .sh] c_impl_within (fun z17 hF => ?_)
       try simp [go_sem, g, h16]
       refine pwgD_F hF (fun h18 hF => ?_) fun h18 hF => ?_
       ·try simp [go_sem, g, h18]
        exact pT (hj13 true) (Rn_some hF)
       ·try simp [go_sem, g, h18]
        refine pwgD_F hF (fun h19 hF => ?_) fun h19 hF => ?_
        ·obtain ⟨x20, g, hF⟩ := Rx g hF
         try simp [go_sem, g, h19]
         refine pC hF [.sh, .sh] c_slices_Compare_int_int (fun z21 hF => ?_)
         try simp [go_sem, g, h19, h18]
         exact pT (hj13 (decide (0 ≤ z21))) (Rn_some hF)
        ·try simp [go_sem, g, h19, h18]
         exact pT (hj13 false) (Rn_some hF)
noncomputable def F_impl_total (a0 : (List ViewCount)) : Option (Int) :=
  ((rloop (σ := Int) (fun i5 s4 =>
  (ix a0 i5).bind fun x11 =>
  some (.go (i64.wrap (s4 + x11.Times)))) (fun s4 => s4) (a0.length) 0 0 : Option (Int)).bind fun x3 =>
  some x3)
theorem c_impl_total : ∀ {a0} {r}, F_impl_total a0 = some r → PCalls Try.prog 46 [(.sh, .sl false 2 (a0.map row_ViewCount_z))] (Eo (.int .i64 r) [.junk]) := by
  intro a0 r hr
  apply pF 18 [] [] [] [.tmp 2] hr cl46 Try.func46
  intro Φ hΦ hF g
  unfold F_impl_total at hF
  iterate 3 (try simp [go_sem, g]; try intros; refine pw_wk ?_)
  repeat rw [sq]
  refine pJ hF (fun x3 => [(3, .v (.int .i64 x3))]) (fun x3 hF => ?_) fun _ hj1 hF => ?_
  ·cases hΦ _ (Rn_some hF)
   try simp [go_sem, g]
   refine pw_wk ?_
   try simp [go_sem, g]
  ·repeat rw [sq]
   rw [pw_block]
   obtain ⟨b12, hb13, hψ8⟩ := hF
   refine pR hb13 (fun i5 s4 => [(3, .v (.int .i64 s4)), (6, .v (.sl false 2 (a0.map row_ViewCount_z))), (7, .v (.int .i64 (a0.length : Int))), (8, .v (.int .i64 i5))]) (fun s4 _ hN14 => ?_) (fun i5 s4 _ _ hi9 hi10 ho6 hg7 hF => ?_)
   ·subst hN14
    try simp [go_sem]
    refine pw_wk ?_
    repeat rw [sq]
    refine pw_cond_f (by simp [go_sem]) ?_
    try simp [go_sem]
    exact pT (hj1 s4) hψ8 (by simp [go_sem])
   ·try simp [go_sem, g]
    refine pw_wk ?_
    repeat rw [sq]
    refine pw_cond_t (by simp [go_sem, g, hi9, hi10]) ?_
    try simp [go_sem, g]
    refine pw_wk ?_
    repeat rw [sq]
    rw [pw_block]
    obtain ⟨x11, g, hF⟩ := Rx g hF
    try simp [go_sem, g]
    refine pw_wkK [3, 5, 6, 7, 8] (by simp [go_sem, g]; rfl) ?_
    try simp [go_sem, g]
    refine pw_wk ?_
    try simp [go_sem, g]
    exact pT (hg7 (i64.wrap (s4 + x11.Times))) (Rn_some hF) (by simp [go_sem, g, wr_i hi9 hi10 (by assumption)])
noncomputable def F_impl_timesOf_1 (a0 : ViewCount) (a1 : (List Int)) : Option (Int) :=
  (F_slices_Compare_int_int a0.View a1).bind fun z1 =>
  some z1
theorem c_impl_timesOf_1 : ∀ {a0} {a1} {r}, F_impl_timesOf_1 a0 a1 = some r → PCalls Try.prog 105 [(.sh, .agg [.sl false 1 (a0.View.map row_i64), .int .i64 a0.Times]), (.sh, .sl false 1 (a1.map row_i64))] (Eo (.int .i64 r) [.junk, .junk]) := by
  intro a0 a1 r hr
  apply pF 9 [] [] [] [.tmp 4] hr cl105 Try.func105
  intro Φ hΦ hF g
  unfold F_impl_timesOf_1 at hF
  try simp [go_sem, g]
  refine pw_wk ?_
  try simp [go_sem, g]
  refine pC hF [.sh, .sh] c_slices_Compare_int_int (fun z1 hF => ?_)
  cases hΦ _ (Rn_some hF)
  try simp [go_sem, g]
  refine pw_wk ?_
  try simp [go_sem, g]
noncomputable def F_slices_BinarySearchFunc_impl_ViewCount_impl_ViewCount_int__impl_timesOf_1 (a0 : (List ViewCount)) (a1 : (List Int)) : Option (Int × Bool) :=
  ((wloop (σ := Int × Int) (fun s4 =>
  if decide (s4.1 < s4.2) = true then (
  (ix a0 (i64.wrap ((u64.wrap (i64.wrap (s4.1 + s4.2))).fdiv 2))).bind fun x10 =>
  (F_impl_timesOf_1 x10 a1).bind fun z11 =>
  if decide (z11 < 0) = true then (
  some (.go (i64.wrap ((i64.wrap ((u64.wrap (i64.wrap (s4.1 + s4.2))).fdiv 2)) + 1), s4.2))) else (
  some (.go (s4.1, i64.wrap ((u64.wrap (i64.wrap (s4.1 + s4.2))).fdiv 2))))) else (
  some (.out s4.1))) (0, (a0.length : Int)) : Option (Int)).bind fun x3 =>
  ((if decide (x3 < (a0.length : Int)) = true then (
  (ix a0 x3).bind fun x19 =>
  (F_impl_timesOf_1 x19 a1).bind fun z20 =>
  some (z20 == 0)) else (
  some false) : Option (Bool)).bind fun x17 =>
  some (x3, x17)))
theorem c_slices_BinarySearchFunc_impl_ViewCount_impl_ViewCount_int__impl_timesOf_1 : ∀ {a0} {a1} {r}, F_slices_BinarySearchFunc_impl_ViewCount_impl_ViewCount_int__impl_timesOf_1 a0 a1 = some r → PCalls Try.prog 104 [(.sh, .sl false 2 (a0.map row_ViewCount_z)), (.sh, .sl false 1 (a1.map row_i64)), (.sh, .func (.func 105) [] [])] (Eo (.tup [.int .i64 r.1, .bool r.2]) [.junk, .junk, .junk]) := by
  intro a0 a1 r hr
  apply pF 49 [] [] [] [.tmp 6, .tmp 7] hr cl104 Try.func104
  intro Φ hΦ hF g
  unfold F_slices_BinarySearchFunc_impl_ViewCount_impl_ViewCount_int__impl_timesOf_1 at hF
  iterate 3 (try simp [go_sem, g]; try intros; refine pw_wk ?_)
  repeat rw [sq]
  refine pJ hF (fun x3 => [(0, .v (.sl false 2 (a0.map row_ViewCount_z))), (1, .v (.sl false 1 (a1.map row_i64))), (2, .v (.func (.func 105) [] [])), (8, .v (.int .i64 (a0.length : Int))), (9, .v (.int .i64 x3))]) (fun x3 hF => ?_) fun _ hj1 hF => ?_
  ·repeat rw [sq]
   refine pJ hF (fun x17 => [(6, .v (.int .i64 x3)), (7, .v (.bool x17))]) (fun x17 hF => ?_) fun _ hj15 hF => ?_
   ·cases hΦ _ (Rn_some hF)
    try simp [go_sem, g]
   ·try simp [go_sem, g]
    refine pwg_F hF (fun h18 hF => ?_) fun h18 hF => ?_
    ·obtain ⟨x19, g, hF⟩ := Rx g hF
     try simp [go_sem, g, h18]
     refine pC hF [.sh, .sh] c_impl_timesOf_1 (fun z20 hF => ?_)
     try simp [go_sem, g, h18]
     exact pT (hj15 (z20 == 0)) (Rn_some hF)
    ·try simp [go_sem, g, h18]
     exact pT (hj15 false) (Rn_some hF)
  ·repeat rw [sq]
   rw [pw_block]
   obtain ⟨b13, hb14, hψ8⟩ := hF
   refine pL hb14 (fun s4 => [(0, .v (.sl false 2 (a0.map row_ViewCount_z))), (1, .v (.sl false 1 (a1.map row_i64))), (2, .v (.func (.func 105) [] [])), (8, .v (.int .i64 (a0.length : Int))), (9, .v (.int .i64 s4.1)), (10, .v (.int .i64 s4.2))]) (fun s4 _ _ ho6 hg7 hF => ?_)
   try simp [go_sem, g]
   refine pw_wkK [0, 1, 2, 8, 9, 10, 17] (by simp [go_sem, g]; rfl) ?_
   repeat rw [sq]
   refine pI hF (fun h9 hF => ?_) (fun h9 hF => ?_)
   ·try simp [go_sem, g]
    refine pw_wk ?_
    repeat rw [sq]
    rw [pw_block]
    have g := Ls g 1
    obtain ⟨x10, g, hF⟩ := Rx g hF
    try simp [go_sem, g]
    refine pw_wk ?_
    try simp [go_sem, g]
    refine pC hF [.sh, .sh] c_impl_timesOf_1 (fun z11 hF => ?_)
    try simp [go_sem, g]
    refine pw_wkK [0, 1, 2, 8, 9, 10, 11, 31] (by simp [go_sem, g]; rfl) ?_
    repeat rw [sq]
    refine pI hF (fun h12 hF => ?_) (fun h12 hF => ?_)
    ·try simp [go_sem, g]
     exact pT (hg7 (i64.wrap ((i64.wrap ((u64.wrap (i64.wrap (s4.1 + s4.2))).fdiv 2)) + 1), s4.2)) (Rn_some hF)
    ·try simp [go_sem, g]
     exact pT (hg7 (s4.1, i64.wrap ((u64.wrap (i64.wrap (s4.1 + s4.2))).fdiv 2))) (Rn_some hF)
   ·try simp [go_sem, g]
    cases ho6 _ (Rn_some hF)
    exact pT (hj1 s4.1) hψ8
noncomputable def F_impl_timesOf (a0 : (List ViewCount)) (a1 : (List Int)) : Option (Int) :=
  (F_slices_BinarySearchFunc_impl_ViewCount_impl_ViewCount_int__impl_timesOf_1 a0 a1).bind fun z1 =>
  if (!z1.2) = true then (
  some 0) else (
  (ix a0 z1.1).bind fun x3 =>
  some x3.Times)
theorem c_impl_timesOf : ∀ {a0} {a1} {r}, F_impl_timesOf a0 a1 = some r → PCalls Try.prog 47 [(.sh, .sl false 2 (a0.map row_ViewCount_z)), (.sh, .sl false 1 (a1.map row_i64))] (Eo (.int .i64 r) [.junk, .junk]) := by
  intro a0 a1 r hr
  apply pF 20 [] [] [] [.tmp 4] hr cl47 Try.func47
  intro Φ hΦ hF g
  unfold F_impl_timesOf at hF
  try simp [go_sem, g]
  refine pw_wk ?_
  try simp [go_sem, g]
  refine pC hF [.sh, .sh, .sh] c_slices_BinarySearchFunc_impl_ViewCount_impl_ViewCount_int__impl_timesOf_1 (fun z1 hF => ?_)
  try simp [go_sem, g]
  refine pw_wk ?_
  try simp [go_sem, g]
  refine pw_wkK [0, 5, 14] (by simp [go_sem, g]; rfl) ?_
  repeat rw [sq]
  refine pI hF (fun h2 hF => ?_) (fun h2 hF => ?_)
  ·cases hΦ _ (Rn_some hF)
   try simp [go_sem, g]
   refine pw_wk ?_
   try simp [go_sem, g]
  ·obtain ⟨x3, g, hF⟩ := Rx g hF
   cases hΦ _ (Rn_some hF)
   iterate 2 (try simp [go_sem, g]; refine pw_wk ?_)
   try simp [go_sem, g]
def D48_3 : List DE := [⟨0, [7], [], none, false, false, false⟩, ⟨1, [6], [], none, false, false, false⟩, ⟨2, [7], [], none, false, false, false⟩, ⟨3, [13, 14], [], none, false, false, false⟩, ⟨4, [12], [], none, false, false, false⟩, ⟨5, [15], [], none, false, false, false⟩]
def D48_4 : List DE := [⟨0, [0], [], none, false, false, false⟩, ⟨1, [6], [], none, false, false, false⟩, ⟨2, [16, 17], [], none, false, false, false⟩, ⟨3, [1], [], none, false, false, false⟩, ⟨4, [6], [], none, false, false, false⟩, ⟨5, [19, 20], [], none, false, false, false⟩, ⟨6, [18], [], none, false, false, false⟩, ⟨7, [21], [], none, false, false, false⟩]
noncomputable def F_impl_reduced (a0 : Int) (a1 : Int) : Option (Int × Int) :=
  ((wloop (σ := Int × Int) (fun s4 =>
  if (s4.2 != 0) = true then (
  gd (s4.2 ≠ 0) <|
  some (.go (s4.2, s4.1.tmod s4.2))) else (
  some (.out s4.1))) (a0, a1) : Option (Int)).bind fun x3 =>
  gd (x3 ≠ 0) <|
  gd (x3 ≠ 0) <|
  some (i64.wrap (a0.tdiv x3), i64.wrap (a1.tdiv x3)))
theorem c_impl_reduced : ∀ {a0} {a1} {r}, F_impl_reduced a0 a1 = some r → PCalls Try.prog 48 [(.sh, .int .i64 a0), (.sh, .int .i64 a1)] (Eo (.tup [.int .i64 r.1, .int .i64 r.2]) [.junk, .junk]) := by
  intro a0 a1 r hr
  apply pF 22 [] [] [] [.tmp 4, .tmp 5] hr cl48 Try.func48
  intro Φ hΦ hF g
  unfold F_impl_reduced at hF
  iterate 2 (try simp [go_sem, g]; refine pw_wk ?_)
  repeat rw [sq]
  refine pJ hF (fun x3 => [(0, .v (.int .i64 a0)), (1, .v (.int .i64 a1)), (6, .v (.int .i64 x3))]) (fun x3 hF => ?_) fun _ hj1 hF => ?_
  ·repeat rw [sq]
   refine pw_draw D48_4 follows (by kernel_rfl) rfl ?_
   try simp only [go_sem, D48_4]
   obtain ⟨g, hF⟩ := Rz g hF
   obtain ⟨g, hF⟩ := Rz g hF
   try simp [go_sem, g]
   refine pw_wkK [4, 5] (by simp [go_sem, g]; rfl) ?_
   cases hΦ _ (Rn_some hF)
   try simp [go_sem, g]
  ·repeat rw [sq]
   rw [pw_block]
   obtain ⟨b10, hb11, hψ8⟩ := hF
   refine pL hb11 (fun s4 => [(0, .v (.int .i64 a0)), (1, .v (.int .i64 a1)), (6, .v (.int .i64 s4.1)), (7, .v (.int .i64 s4.2))]) (fun s4 _ _ ho6 hg7 hF => ?_)
   try simp [go_sem, g]
   refine pw_wk ?_
   repeat rw [sq]
   refine pI hF (fun h9 hF => ?_) (fun h9 hF => ?_)
   ·try simp [go_sem, g]
    refine pw_wk ?_
    repeat rw [sq]
    rw [pw_block]
    repeat rw [sq]
    refine pw_draw D48_3 follows (by kernel_rfl) rfl ?_
    try simp only [go_sem, D48_3]
    obtain ⟨g, hF⟩ := Rz g hF
    try simp [go_sem, g]
    exact pT (hg7 (s4.2, s4.1.tmod s4.2)) (Rn_some hF)
   ·try simp [go_sem, g]
    cases ho6 _ (Rn_some hF)
    exact pT (hj1 s4.1) hψ8
def D8_7 : List DE := [⟨0, [11], [11], none, false, false, false⟩, ⟨1, [45], [11], some 45, false, false, false⟩, ⟨2, [8], [], none, false, false, false⟩, ⟨3, [46, 47], [], none, false, false, false⟩, ⟨4, [1], [], none, false, false, false⟩, ⟨5, [11], [11], none, false, false, false⟩, ⟨6, [50], [11], some 50, false, false, false⟩, ⟨8, [7], [], none, false, false, false⟩, ⟨7, [49, 51], [], none, false, true, true⟩, ⟨9, [52, 53], [], none, false, false, false⟩, ⟨10, [48, 54], [], none, false, false, false⟩, ⟨11, [55], [], none, false, false, false⟩]
noncomputable def F_impl_DistanceOf (a0 : (List ViewCount)) (a1 : (List ViewCount)) : Option (Int × Int × Bool) :=
  (((F_impl_isCount a0).bind fun z4 =>
  if (!z4) = true then (
  some true) else (
  (F_impl_isCount a1).bind fun z6 =>
  if (!z6) = true then (
  some true) else (
  if ((a0.length : Int) == 0) = true then (
  some true) else (
  some ((a1.length : Int) == 0)))) : Option (Bool)).bind fun x3 =>
  if x3 = true then (
  some (0, 0, false)) else (
  (F_impl_total a0).bind fun z10 =>
  (F_impl_total a1).bind fun z11 =>
  ((rloop (σ := Int) (fun i16 s15 =>
  (ix a0 i16).bind fun x22 =>
  (F_impl_timesOf a1 x22.View).bind fun z23 =>
  some (.go (i64.wrap (s15 + (if (i64.wrap ((i64.wrap (x22.Times * z11)) - (i64.wrap (z23 * z10)))) < (i64.wrap (0 - (i64.wrap ((i64.wrap (x22.Times * z11)) - (i64.wrap (z23 * z10)))))) then (i64.wrap (0 - (i64.wrap ((i64.wrap (x22.Times * z11)) - (i64.wrap (z23 * z10)))))) else (i64.wrap ((i64.wrap (x22.Times * z11)) - (i64.wrap (z23 * z10))))))))) (fun s15 => s15) (a0.length) 0 0 : Option (Int)).bind fun x14 =>
  ((rloop (σ := Int) (fun i32 s31 =>
  (((ix a1 i32).bind fun x41 =>
  (F_impl_timesOf a0 x41.View).bind fun z42 =>
  if (z42 == 0) = true then (
  some (i64.wrap (s31 + (i64.wrap (x41.Times * z10))))) else (
  some s31) : Option (Int)).bind fun x40 =>
  some (.go x40))) (fun s31 => s31) (a1.length) 0 x14 : Option (Int)).bind fun x30 =>
  (F_impl_reduced x30 (i64.wrap ((i64.wrap (2 * z10)) * z11))).bind fun z48 =>
  some (z48.1, z48.2, true)))))
theorem c_impl_DistanceOf : ∀ {a0} {a1} {r}, F_impl_DistanceOf a0 a1 = some r → PCalls Try.prog 8 [(.sh, .sl false 2 (a0.map row_ViewCount_z)), (.sh, .sl false 2 (a1.map row_ViewCount_z))] (Eo (.tup [.int .i64 r.1, .int .i64 r.2.1, .bool r.2.2]) [.junk, .junk]) := by
  intro a0 a1 r hr
  apply pF 92 [] [] [] [.tmp 4, .tmp 5, .tmp 6] hr cl8 Try.func8
  intro Φ hΦ hF g
  unfold F_impl_DistanceOf at hF
  try simp [go_sem, g]
  refine pw_wk ?_
  repeat rw [sq]
  refine pJ hF (fun x3 => [(0, .v (.sl false 2 (a0.map row_ViewCount_z))), (1, .v (.sl false 2 (a1.map row_ViewCount_z))), (34, .v (.bool x3))]) (fun x3 hF => ?_) fun _ hj1 hF => ?_
  ·repeat rw [sq]
   refine pI hF (fun h9 hF => ?_) (fun h9 hF => ?_)
   ·cases hΦ _ (Rn_some hF)
    try simp [go_sem, g]
    refine pw_wk ?_
    try simp [go_sem, g]
   ·try simp [go_sem, g]
    refine pw_wk ?_
    try simp [go_sem, g]
    refine pC hF [.sh] c_impl_total (fun z10 hF => ?_)
    try simp [go_sem, g]
    refine pC hF [.sh] c_impl_total (fun z11 hF => ?_)
    try simp [go_sem, g]
    refine pw_wkK [0, 1, 7, 8, 9] (by simp [go_sem, g]; rfl) ?_
    try simp [go_sem, g]
    try intros
    refine pw_wk ?_
    repeat rw [sq]
    refine pJ hF (fun x14 => [(0, .v (.sl false 2 (a0.map row_ViewCount_z))), (1, .v (.sl false 2 (a1.map row_ViewCount_z))), (7, .v (.int .i64 z10)), (8, .v (.int .i64 z11)), (9, .v (.int .i64 x14))]) (fun x14 hF => ?_) fun _ hj12 hF => ?_
    ·try simp [go_sem, g]
     try intros
     refine pw_wk ?_
     repeat rw [sq]
     refine pJ hF (fun x30 => [(7, .v (.int .i64 z10)), (8, .v (.int .i64 z11)), (9, .v (.int .i64 x30))]) (fun x30 hF => ?_) fun _ hj28 hF => ?_
     ·try simp [go_sem, g]
      refine pC hF [.sh, .sh] c_impl_reduced (fun z48 hF => ?_)
      try simp [go_sem, g]
      refine pw_wkK [15, 16] (by simp [go_sem, g]; rfl) ?_
      cases hΦ _ (Rn_some hF)
      try simp [go_sem, g]
      refine pw_wk ?_
      try simp [go_sem, g]
     ·repeat rw [sq]
      rw [pw_block]
      obtain ⟨b44, hb45, hψ35⟩ := hF
      refine pR hb45 (fun i32 s31 => [(0, .v (.sl false 2 (a0.map row_ViewCount_z))), (7, .v (.int .i64 z10)), (8, .v (.int .i64 z11)), (9, .v (.int .i64 s31)), (63, .v (.sl false 2 (a1.map row_ViewCount_z))), (64, .v (.int .i64 (a1.length : Int))), (65, .v (.int .i64 i32))]) (fun s31 _ hN46 => ?_) (fun i32 s31 _ _ hi36 hi37 ho33 hg34 hF => ?_)
      ·subst hN46
       try simp [go_sem]
       refine pw_wk ?_
       repeat rw [sq]
       refine pw_cond_f (by simp [go_sem]) ?_
       try simp [go_sem]
       exact pT (hj28 s31) hψ35 (by simp [go_sem])
      ·try simp [go_sem, g]
       refine pw_wk ?_
       repeat rw [sq]
       refine pw_cond_t (by simp [go_sem, g, hi36, hi37]) ?_
       try simp [go_sem, g]
       refine pw_wk ?_
       repeat rw [sq]
       refine pJ hF (fun x40 => [(0, .v (.sl false 2 (a0.map row_ViewCount_z))), (7, .v (.int .i64 z10)), (8, .v (.int .i64 z11)), (9, .v (.int .i64 x40)), (63, .v (.sl false 2 (a1.map row_ViewCount_z))), (64, .v (.int .i64 (a1.length : Int))), (65, .v (.int .i64 i32))]) (fun x40 hF => ?_) fun _ hj38 hF => ?_
       ·try simp [go_sem, g]
        exact pT (hg34 x40) (Rn_some hF) (by simp [go_sem, g, wr_i hi36 hi37 (by assumption)])
       ·repeat rw [sq]
        rw [pw_block]
        obtain ⟨x41, g, hF⟩ := Rx g hF
        try simp [go_sem, g]
        refine pw_wkK [0, 7, 8, 9, 14, 63, 64, 65] (by simp [go_sem, g]; rfl) ?_
        try simp [go_sem, g]
        refine pC hF [.sh, .sh] c_impl_timesOf (fun z42 hF => ?_)
        try simp [go_sem, g]
        refine pw_wk ?_
        repeat rw [sq]
        refine pI hF (fun h43 hF => ?_) (fun h43 hF => ?_)
        ·try simp [go_sem, g]
         exact pT (hj38 (i64.wrap (s31 + (i64.wrap (x41.Times * z10))))) (Rn_some hF)
        ·try simp [go_sem, g]
         first | exact pT (hj38 s31) (Rn_some hF) | exact pT (hj38 _) (Rn_some hF)
    ·repeat rw [sq]
     rw [pw_block]
     obtain ⟨b24, hb25, hψ19⟩ := hF
     refine pR hb25 (fun i16 s15 => [(0, .v (.sl false 2 (a0.map row_ViewCount_z))), (1, .v (.sl false 2 (a1.map row_ViewCount_z))), (7, .v (.int .i64 z10)), (8, .v (.int .i64 z11)), (9, .v (.int .i64 s15)), (39, .v (.sl false 2 (a0.map row_ViewCount_z))), (40, .v (.int .i64 (a0.length : Int))), (41, .v (.int .i64 i16))]) (fun s15 _ hN26 => ?_) (fun i16 s15 _ _ hi20 hi21 ho17 hg18 hF => ?_)
     ·subst hN26
      try simp [go_sem]
      refine pw_wk ?_
      repeat rw [sq]
      refine pw_cond_f (by simp [go_sem]) ?_
      try simp [go_sem]
      exact pT (hj12 s15) hψ19 (by simp [go_sem])
     ·try simp [go_sem, g]
      refine pw_wk ?_
      repeat rw [sq]
      refine pw_cond_t (by simp [go_sem, g, hi20, hi21]) ?_
      try simp [go_sem, g]
      refine pw_wk ?_
      repeat rw [sq]
      rw [pw_block]
      obtain ⟨x22, g, hF⟩ := Rx g hF
      try simp [go_sem, g]
      refine pw_wk ?_
      repeat rw [sq]
      refine pw_draw D8_7 follows (by kernel_rfl) rfl ?_
      try simp only [go_sem, D8_7]
      try simp [go_sem, g]
      refine pC hF [.sh, .sh] c_impl_timesOf (fun z23 hF => ?_)
      try simp [go_sem, g]
      refine pw_wkK [0, 1, 7, 8, 9, 12, 39, 40, 41] (by simp [go_sem, g]; rfl) ?_
      try simp [go_sem, g]
      refine pw_wk ?_
      try simp [go_sem, g]
      exact pT (hg18 (i64.wrap (s15 + (if (i64.wrap ((i64.wrap (x22.Times * z11)) - (i64.wrap (z23 * z10)))) < (i64.wrap (0 - (i64.wrap ((i64.wrap (x22.Times * z11)) - (i64.wrap (z23 * z10)))))) then (i64.wrap (0 - (i64.wrap ((i64.wrap (x22.Times * z11)) - (i64.wrap (z23 * z10)))))) else (i64.wrap ((i64.wrap (x22.Times * z11)) - (i64.wrap (z23 * z10)))))))) (Rn_some hF) (by simp [go_sem, g, wr_i hi20 hi21 (by assumption)])
  ·try simp [go_sem, g]
   refine pC hF [.sh] c_impl_isCount (fun z4 hF => ?_)
   try simp [go_sem, g]
   refine pwg_F hF (fun h5 hF => ?_) fun h5 hF => ?_
   ·try simp [go_sem, g, h5]
    exact pT (hj1 true) (Rn_some hF)
   ·try simp [go_sem, g, h5]
    refine pC hF [.sh] c_impl_isCount (fun z6 hF => ?_)
    try simp [go_sem, g, h5]
    refine pwg_F hF (fun h7 hF => ?_) fun h7 hF => ?_
    ·try simp [go_sem, g, h7]
     exact pT (hj1 true) (Rn_some hF)
    ·try simp [go_sem, g, h7]
     try intros
     refine pwg_F hF (fun h8 hF => ?_) fun h8 hF => ?_
     ·try simp [go_sem, g, h8]
      exact pT (hj1 true) (Rn_some hF)
     ·try simp [go_sem, g, h8]
      try intros
      exact pT (hj1 ((a1.length : Int) == 0)) (Rn_some hF)
noncomputable def F_spec_wTimes (a0 : (List ViewCount)) (a1 : (List Int)) : Option (Int) :=
  ((rloop (σ := Unit) (fun i5 s4 =>
  (ix a0 i5).bind fun x11 =>
  (F_spec_l1Same x11.View a1).bind fun z12 =>
  if z12 = true then (
  some (.out (.inr x11.Times))) else (
  some (.go ()))) (fun s4 => .inl ()) (a0.length) 0 () : Option (Unit ⊕ Int)).bind (Sum.elim (fun x3 =>
  some 0) some))
theorem c_spec_wTimes : ∀ {a0} {a1} {r}, F_spec_wTimes a0 a1 = some r → PCalls Try.prog 51 [(.sh, .sl false 2 (a0.map row_ViewCount_z)), (.sh, .sl false 1 (a1.map row_i64))] (Eo (.int .i64 r) [.junk, .junk]) := by
  intro a0 a1 r hr
  apply pF 20 [] [] [] [.tmp 4] hr cl51 Try.func51
  intro Φ hΦ hF g
  unfold F_spec_wTimes at hF
  iterate 2 (try simp [go_sem, g]; try intros; refine pw_wk ?_)
  repeat rw [sq]
  refine pJs hF (fun x3 => []) (fun x3 hF => ?_) fun _ hj1 hr2 hF => ?_
  ·cases hΦ _ (Rn_some hF)
   try simp [go_sem, g]
   refine pw_wk ?_
   try simp [go_sem, g]
  ·repeat rw [sq]
   rw [pw_block]
   obtain ⟨b14, hb15, hψ8⟩ := hF
   refine pR hb15 (fun i5 s4 => [(1, .v (.sl false 1 (a1.map row_i64))), (7, .v (.sl false 2 (a0.map row_ViewCount_z))), (8, .v (.int .i64 (a0.length : Int))), (9, .v (.int .i64 i5))]) (fun s4 _ hN16 => ?_) (fun i5 s4 _ _ hi9 hi10 ho6 hg7 hF => ?_)
   ·subst hN16
    try simp [go_sem]
    refine pw_wk ?_
    repeat rw [sq]
    refine pw_cond_f (by simp [go_sem]) ?_
    try simp [go_sem]
    exact pT (hj1 ()) hψ8 (by simp [go_sem])
   ·try simp [go_sem, g]
    refine pw_wk ?_
    repeat rw [sq]
    refine pw_cond_t (by simp [go_sem, g, hi9, hi10]) ?_
    try simp [go_sem, g]
    refine pw_wk ?_
    repeat rw [sq]
    rw [pw_block]
    obtain ⟨x11, g, hF⟩ := Rx g hF
    try simp [go_sem, g]
    refine pw_wk ?_
    try simp [go_sem, g]
    refine pC hF [.sh, .sh] c_spec_l1Same (fun z12 hF => ?_)
    try simp [go_sem, g]
    refine pw_wkK [1, 6, 7, 8, 9, 16] (by simp [go_sem, g]; rfl) ?_
    repeat rw [sq]
    refine pI hF (fun h13 hF => ?_) (fun h13 hF => ?_)
    ·cases ho6 _ (Rn_some hF)
     cases hΦ _ (hr2 _ hψ8)
     try simp [go_sem, g]
     refine pw_wk ?_
     try simp [go_sem, g]
    ·try simp [go_sem, g]
     refine pw_wk ?_
     try simp [go_sem, g]
     exact pT (hg7 ()) (Rn_some hF) (by simp [go_sem, g, wr_i hi9 hi10 (by assumption)])
noncomputable def F_spec_l1Most (a0 : Int) (a1 : Int) : Option (Int) :=
  if decide (a1 < a0) = true then (
  some a0) else (
  some a1)
theorem c_spec_l1Most : ∀ {a0} {a1} {r}, F_spec_l1Most a0 a1 = some r → PCalls Try.prog 52 [(.sh, .int .i64 a0), (.sh, .int .i64 a1)] (Eo (.int .i64 r) [.junk, .junk]) := by
  intro a0 a1 r hr
  apply pF 10 [] [] [] [.tmp 4] hr cl52 Try.func52
  intro Φ hΦ hF g
  unfold F_spec_l1Most at hF
  iterate 2 (try simp [go_sem, g]; refine pw_wk ?_)
  repeat rw [sq]
  refine pI hF (fun h1 hF => ?_) (fun h1 hF => ?_)
  ·cases hΦ _ (Rn_some hF)
   try simp [go_sem, g]
   refine pw_wk ?_
   try simp [go_sem, g]
  ·cases hΦ _ (Rn_some hF)
   iterate 2 (try simp [go_sem, g]; refine pw_wk ?_)
   try simp [go_sem, g]
noncomputable def F_spec_nGcd (a0 : Int) (a1 : Int) : Option (Int) :=
  ((wloop (σ := Int × Int) (fun s4 =>
  if (s4.2 != 0) = true then (
  gd (s4.2 ≠ 0) <|
  some (.go (s4.2, s4.1.tmod s4.2))) else (
  some (.out s4.1))) (a0, a1) : Option (Int)).bind fun x3 =>
  some x3)
theorem c_spec_nGcd : ∀ {a0} {a1} {r}, F_spec_nGcd a0 a1 = some r → PCalls Try.prog 53 [(.sh, .int .i64 a0), (.sh, .int .i64 a1)] (Eo (.int .i64 r) [.junk, .junk]) := by
  intro a0 a1 r hr
  apply pF 14 [] [] [] [.tmp 4] hr cl53 Try.func53
  intro Φ hΦ hF g
  unfold F_spec_nGcd at hF
  try simp [go_sem, g]
  refine pw_wk ?_
  repeat rw [sq]
  refine pJ hF (fun x3 => [(0, .v (.int .i64 x3))]) (fun x3 hF => ?_) fun _ hj1 hF => ?_
  ·cases hΦ _ (Rn_some hF)
   try simp [go_sem, g]
   refine pw_wk ?_
   try simp [go_sem, g]
  ·repeat rw [sq]
   rw [pw_block]
   obtain ⟨b10, hb11, hψ8⟩ := hF
   refine pL hb11 (fun s4 => [(0, .v (.int .i64 s4.1)), (1, .v (.int .i64 s4.2))]) (fun s4 _ _ ho6 hg7 hF => ?_)
   try simp [go_sem, g]
   refine pw_wk ?_
   repeat rw [sq]
   refine pI hF (fun h9 hF => ?_) (fun h9 hF => ?_)
   ·try simp [go_sem, g]
    refine pw_wk ?_
    repeat rw [sq]
    rw [pw_block]
    obtain ⟨g, hF⟩ := Rz g hF
    iterate 2 (try simp [go_sem, g]; refine pw_wk ?_)
    try simp [go_sem, g]
    exact pT (hg7 (s4.2, s4.1.tmod s4.2)) (Rn_some hF)
   ·try simp [go_sem, g]
    cases ho6 _ (Rn_some hF)
    exact pT (hj1 s4.1) hψ8
def D9_18 : List DE := [⟨0, [9], [], none, false, false, false⟩, ⟨1, [15], [], none, false, false, false⟩, ⟨2, [86, 87], [], none, false, false, false⟩, ⟨3, [7], [], none, false, false, false⟩, ⟨4, [89], [], none, false, false, false⟩, ⟨5, [8], [], none, false, false, false⟩, ⟨6, [90, 91], [], none, false, false, false⟩, ⟨7, [15], [], none, false, false, false⟩, ⟨8, [92, 93], [], none, false, false, false⟩, ⟨9, [88], [], none, false, false, false⟩, ⟨10, [94], [], none, false, false, false⟩, ⟨11, [], [], none, false, false, false⟩]
def D9_8 : List DE := [⟨0, [11], [11], none, false, false, false⟩, ⟨1, [44], [11], some 44, false, false, false⟩, ⟨2, [8], [], none, false, false, false⟩, ⟨3, [45, 46], [], none, false, false, false⟩, ⟨4, [1], [], none, false, false, false⟩, ⟨5, [11], [11], none, false, false, false⟩, ⟨6, [49], [11], some 49, false, false, false⟩, ⟨8, [7], [], none, false, false, false⟩, ⟨7, [48, 50], [], none, false, true, true⟩, ⟨9, [51, 52], [], none, false, false, false⟩, ⟨10, [47, 53], [], none, false, false, false⟩, ⟨11, [54], [], none, false, false, false⟩]
noncomputable def F_spec_DistanceOf (a0 : (List ViewCount)) (a1 : (List ViewCount)) : Option (Int × Int × Bool) :=
  (((F_spec_wGood a0).bind fun z4 =>
  if (!z4) = true then (
  some true) else (
  (F_spec_wGood a1).bind fun z6 =>
  if (!z6) = true then (
  some true) else (
  if ((a0.length : Int) == 0) = true then (
  some true) else (
  some ((a1.length : Int) == 0)))) : Option (Bool)).bind fun x3 =>
  if x3 = true then (
  some (0, 0, false)) else (
  (F_spec_wSum a0).bind fun z10 =>
  (F_spec_wSum a1).bind fun z11 =>
  ((rloop (σ := Int) (fun i16 s15 =>
  (ix a0 i16).bind fun x22 =>
  (F_spec_wTimes a1 x22.View).bind fun z23 =>
  (F_spec_l1Most (i64.wrap ((i64.wrap (x22.Times * z11)) - (i64.wrap (z23 * z10)))) (i64.wrap (0 - (i64.wrap ((i64.wrap (x22.Times * z11)) - (i64.wrap (z23 * z10))))))).bind fun z24 =>
  some (.go (i64.wrap (s15 + z24)))) (fun s15 => s15) (a0.length) 0 0 : Option (Int)).bind fun x14 =>
  ((rloop (σ := Int) (fun i33 s32 =>
  (((ix a1 i33).bind fun x42 =>
  (F_spec_wTimes a0 x42.View).bind fun z43 =>
  if (z43 == 0) = true then (
  some (i64.wrap (s32 + (i64.wrap (x42.Times * z10))))) else (
  some s32) : Option (Int)).bind fun x41 =>
  some (.go x41))) (fun s32 => s32) (a1.length) 0 x14 : Option (Int)).bind fun x31 =>
  (F_spec_nGcd x31 (i64.wrap ((i64.wrap (2 * z10)) * z11))).bind fun z49 =>
  gd (z49 ≠ 0) <|
  gd (z49 ≠ 0) <|
  some (i64.wrap (x31.tdiv z49), i64.wrap ((i64.wrap ((i64.wrap (2 * z10)) * z11)).tdiv z49), true)))))
theorem c_spec_DistanceOf : ∀ {a0} {a1} {r}, F_spec_DistanceOf a0 a1 = some r → PCalls Try.prog 9 [(.sh, .sl false 2 (a0.map row_ViewCount_z)), (.sh, .sl false 2 (a1.map row_ViewCount_z))] (Eo (.tup [.int .i64 r.1, .int .i64 r.2.1, .bool r.2.2]) [.junk, .junk]) := by
  intro a0 a1 r hr
  apply pF 95 [] [] [] [.tmp 4, .tmp 5, .tmp 6] hr cl9 Try.func9
  intro Φ hΦ hF g
  unfold F_spec_DistanceOf at hF
  try simp [go_sem, g]
  refine pw_wk ?_
  repeat rw [sq]
  refine pJ hF (fun x3 => [(0, .v (.sl false 2 (a0.map row_ViewCount_z))), (1, .v (.sl false 2 (a1.map row_ViewCount_z))), (33, .v (.bool x3))]) (fun x3 hF => ?_) fun _ hj1 hF => ?_
  ·repeat rw [sq]
   refine pI hF (fun h9 hF => ?_) (fun h9 hF => ?_)
   ·cases hΦ _ (Rn_some hF)
    try simp [go_sem, g]
    refine pw_wk ?_
    try simp [go_sem, g]
   ·try simp [go_sem, g]
    refine pw_wk ?_
    try simp [go_sem, g]
    refine pC hF [.sh] c_spec_wSum (fun z10 hF => ?_)
    try simp [go_sem, g]
    refine pC hF [.sh] c_spec_wSum (fun z11 hF => ?_)
    try simp [go_sem, g]
    refine pw_wk ?_
    try simp [go_sem, g]
    refine pw_wkK [0, 1, 7, 8, 9] (by simp [go_sem, g]; rfl) ?_
    try simp [go_sem, g]
    try intros
    refine pw_wk ?_
    repeat rw [sq]
    refine pJ hF (fun x14 => [(0, .v (.sl false 2 (a0.map row_ViewCount_z))), (1, .v (.sl false 2 (a1.map row_ViewCount_z))), (7, .v (.int .i64 z10)), (8, .v (.int .i64 z11)), (9, .v (.int .i64 x14))]) (fun x14 hF => ?_) fun _ hj12 hF => ?_
    ·try simp [go_sem, g]
     try intros
     refine pw_wk ?_
     repeat rw [sq]
     refine pJ hF (fun x31 => [(7, .v (.int .i64 z10)), (8, .v (.int .i64 z11)), (9, .v (.int .i64 x31))]) (fun x31 hF => ?_) fun _ hj29 hF => ?_
     ·try simp [go_sem, g]
      refine pC hF [.sh, .sh] c_spec_nGcd (fun z49 hF => ?_)
      try simp [go_sem, g]
      refine pw_wkK [7, 8, 9, 15] (by simp [go_sem, g]; rfl) ?_
      repeat rw [sq]
      refine pw_draw D9_18 follows (by kernel_rfl) rfl ?_
      try simp only [go_sem, D9_18]
      obtain ⟨g, hF⟩ := Rz g hF
      obtain ⟨g, hF⟩ := Rz g hF
      try simp [go_sem, g]
      refine pw_wkK [4, 5, 6] (by simp [go_sem, g]; rfl) ?_
      cases hΦ _ (Rn_some hF)
      try simp [go_sem, g]
     ·repeat rw [sq]
      rw [pw_block]
      obtain ⟨b45, hb46, hψ36⟩ := hF
      refine pR hb46 (fun i33 s32 => [(0, .v (.sl false 2 (a0.map row_ViewCount_z))), (7, .v (.int .i64 z10)), (8, .v (.int .i64 z11)), (9, .v (.int .i64 s32)), (62, .v (.sl false 2 (a1.map row_ViewCount_z))), (63, .v (.int .i64 (a1.length : Int))), (64, .v (.int .i64 i33))]) (fun s32 _ hN47 => ?_) (fun i33 s32 _ _ hi37 hi38 ho34 hg35 hF => ?_)
      ·subst hN47
       try simp [go_sem]
       refine pw_wk ?_
       repeat rw [sq]
       refine pw_cond_f (by simp [go_sem]) ?_
       try simp [go_sem]
       exact pT (hj29 s32) hψ36 (by simp [go_sem])
      ·try simp [go_sem, g]
       refine pw_wk ?_
       repeat rw [sq]
       refine pw_cond_t (by simp [go_sem, g, hi37, hi38]) ?_
       try simp [go_sem, g]
       refine pw_wk ?_
       repeat rw [sq]
       refine pJ hF (fun x41 => [(0, .v (.sl false 2 (a0.map row_ViewCount_z))), (7, .v (.int .i64 z10)), (8, .v (.int .i64 z11)), (9, .v (.int .i64 x41)), (62, .v (.sl false 2 (a1.map row_ViewCount_z))), (63, .v (.int .i64 (a1.length : Int))), (64, .v (.int .i64 i33))]) (fun x41 hF => ?_) fun _ hj39 hF => ?_
       ·try simp [go_sem, g]
        exact pT (hg35 x41) (Rn_some hF) (by simp [go_sem, g, wr_i hi37 hi38 (by assumption)])
       ·repeat rw [sq]
        rw [pw_block]
        obtain ⟨x42, g, hF⟩ := Rx g hF
        try simp [go_sem, g]
        refine pw_wkK [0, 7, 8, 9, 14, 62, 63, 64] (by simp [go_sem, g]; rfl) ?_
        try simp [go_sem, g]
        refine pC hF [.sh, .sh] c_spec_wTimes (fun z43 hF => ?_)
        try simp [go_sem, g]
        refine pw_wk ?_
        repeat rw [sq]
        refine pI hF (fun h44 hF => ?_) (fun h44 hF => ?_)
        ·try simp [go_sem, g]
         exact pT (hj39 (i64.wrap (s32 + (i64.wrap (x42.Times * z10))))) (Rn_some hF)
        ·try simp [go_sem, g]
         first | exact pT (hj39 s32) (Rn_some hF) | exact pT (hj39 _) (Rn_some hF)
    ·repeat rw [sq]
     rw [pw_block]
     obtain ⟨b25, hb26, hψ19⟩ := hF
     refine pR hb26 (fun i16 s15 => [(0, .v (.sl false 2 (a0.map row_ViewCount_z))), (1, .v (.sl false 2 (a1.map row_ViewCount_z))), (7, .v (.int .i64 z10)), (8, .v (.int .i64 z11)), (9, .v (.int .i64 s15)), (38, .v (.sl false 2 (a0.map row_ViewCount_z))), (39, .v (.int .i64 (a0.length : Int))), (40, .v (.int .i64 i16))]) (fun s15 _ hN27 => ?_) (fun i16 s15 _ _ hi20 hi21 ho17 hg18 hF => ?_)
     ·subst hN27
      try simp [go_sem]
      refine pw_wk ?_
      repeat rw [sq]
      refine pw_cond_f (by simp [go_sem]) ?_
      try simp [go_sem]
      exact pT (hj12 s15) hψ19 (by simp [go_sem])
     ·try simp [go_sem, g]
      refine pw_wk ?_
      repeat rw [sq]
      refine pw_cond_t (by simp [go_sem, g, hi20, hi21]) ?_
      try simp [go_sem, g]
      refine pw_wk ?_
      repeat rw [sq]
      rw [pw_block]
      obtain ⟨x22, g, hF⟩ := Rx g hF
      try simp [go_sem, g]
      refine pw_wk ?_
      repeat rw [sq]
      refine pw_draw D9_8 follows (by kernel_rfl) rfl ?_
      try simp only [go_sem, D9_8]
      try simp [go_sem, g]
      refine pC hF [.sh, .sh] c_spec_wTimes (fun z23 hF => ?_)
      try simp [go_sem, g]
      refine pw_wkK [0, 1, 7, 8, 9, 12, 38, 39, 40] (by simp [go_sem, g]; rfl) ?_
      try simp [go_sem, g]
      refine pC hF [.sh, .sh] c_spec_l1Most (fun z24 hF => ?_)
      try simp [go_sem, g]
      refine pw_wk ?_
      try simp [go_sem, g]
      exact pT (hg18 (i64.wrap (s15 + z24))) (Rn_some hF) (by simp [go_sem, g, wr_i hi20 hi21 (by assumption)])
  ·try simp [go_sem, g]
   refine pC hF [.sh] c_spec_wGood (fun z4 hF => ?_)
   try simp [go_sem, g]
   refine pwg_F hF (fun h5 hF => ?_) fun h5 hF => ?_
   ·try simp [go_sem, g, h5]
    exact pT (hj1 true) (Rn_some hF)
   ·try simp [go_sem, g, h5]
    refine pC hF [.sh] c_spec_wGood (fun z6 hF => ?_)
    try simp [go_sem, g, h5]
    refine pwg_F hF (fun h7 hF => ?_) fun h7 hF => ?_
    ·try simp [go_sem, g, h7]
     exact pT (hj1 true) (Rn_some hF)
    ·try simp [go_sem, g, h7]
     try intros
     refine pwg_F hF (fun h8 hF => ?_) fun h8 hF => ?_
     ·try simp [go_sem, g, h8]
      exact pT (hj1 true) (Rn_some hF)
     ·try simp [go_sem, g, h8]
      try intros
      exact pT (hj1 ((a1.length : Int) == 0)) (Rn_some hF)
noncomputable def F_spec_DrawMergeCounts (a0 : (List Int)) : Option ((List ViewCount) × (List ViewCount)) :=
  (F_spec_DrawDistanceOf a0).bind fun z1 =>
  some (z1.1, z1.2)
theorem c_spec_DrawMergeCounts : ∀ {a0} {r}, F_spec_DrawMergeCounts a0 = some r → PCalls Try.prog 10 [(.sh, .sl false 1 (a0.map row_u8))] (Eo (.tup [.sl false 2 (r.1.map row_ViewCount_z), .sl false 2 (r.2.map row_ViewCount_z)]) [.junk]) := by
  intro a0 r hr
  apply pF 8 [] [] [] [.tmp 2, .tmp 3] hr cl10 Try.func10
  intro Φ hΦ hF g
  unfold F_spec_DrawMergeCounts at hF
  try simp [go_sem, g]
  refine pw_wk ?_
  try simp [go_sem, g]
  refine pC hF [.sh] c_spec_DrawDistanceOf (fun z1 hF => ?_)
  cases hΦ _ (Rn_some hF)
  try simp [go_sem, g]
  refine pw_wk ?_
  try simp [go_sem, g]
theorem gr112 : GrowC Try.prog 112 23 := by
  intro n H e b es by_ z e1 e2 h0 h1 h2 h3 h4 h5
  refine acalls_intro cl112 Try.func112 rfl rfl (by simp [Try.f112]) fun hw => ?_
  have hn : ¬ n < 0 := by omega
  have hw1 : i64.wrap n = n := wrI (by omega)
  have hw0 : i64.wrap 0 = 0 := wrI (by omega)
  have ei : (intTy Try.prog 3).isSome = true := by kernel_rfl
  by_cases hp : 0 < n
  · have hne : n ≠ 0 := by omega
    have h5' := h5
    simp [okConst] at h5'
    simp [Try.f112, awp, aops, aop, ahp, aplain, plainOps, matl, mat, plainV, putO, athen, FR.put, FR.init, rdv, rda, binV, binInt, okConst, Am.lenV, sliceV, sliceBnds, bnd, bndM, aend, resL, resV, resT, hn, e1, e2, ei, hw1, hw0, hp, h1, h2, h3, h4, hne]
    exact h5'
  · have hz : n = 0 := by omega
    subst hz
    simp [Try.f112, awp, aops, aop, ahp, aplain, plainOps, matl, mat, plainV, putO, athen, FR.put, FR.init, rdv, rda, binV, binInt, okConst, Am.lenV, sliceV, sliceBnds, bnd, bndM, aend, resL, resV, resT, hn, e1, e2, hw1, hw0, hp]
noncomputable def F_slices_Concat_impl_ViewCount_impl_ViewCount (a0 : (List (List ViewCount))) : Option ((List ViewCount)) :=
  ((rloop (σ := Int) (fun i5 s4 =>
  (ix a0 i5).bind fun x11 =>
  if decide ((i64.wrap (s4 + (x11.length : Int))) < 0) = true then (
  none) else (
  some (.go (i64.wrap (s4 + (x11.length : Int)))))) (fun s4 => s4) (a0.length) 0 0 : Option (Int)).bind fun x3 =>
  gd (0 ≤ x3 ∧ 32 * x3 ≤ 140737488355328 ∧ x3 ≤ 4611686018427387904) <|
  ((rloop (σ := (List ViewCount)) (fun i22 s21 =>
  (ix a0 i22).bind fun x28 =>
  gd ((s21.length + x28.length) * 32 ≤ 140737488355328 ∧ s21.length + x28.length ≤ 4611686018427387904) <|
  some (.go (s21 ++ x28))) (fun s21 => s21) (a0.length) 0 [] : Option ((List ViewCount))).bind fun x20 =>
  some x20))
theorem c_slices_Concat_impl_ViewCount_impl_ViewCount : ∀ {a0} {r}, F_slices_Concat_impl_ViewCount_impl_ViewCount a0 = some r → PCalls Try.prog 55 [(.sh, .sl false 1 (a0.map row_zViewCount_z))] (Eo (.sl true 2 (r.map row_ViewCount_z)) [.junk]) := by
  intro a0 r hr
  apply pF 36 [] [] [] [.tmp 2] hr cl55 Try.func55
  intro Φ hΦ hF g
  unfold F_slices_Concat_impl_ViewCount_impl_ViewCount at hF
  iterate 3 (try simp [go_sem, g]; try intros; refine pw_wk ?_)
  repeat rw [sq]
  refine pJ hF (fun x3 => [(0, .v (.sl false 1 (a0.map row_zViewCount_z))), (3, .v (.int .i64 x3))]) (fun x3 hF => ?_) fun _ hj1 hF => ?_
  ·obtain ⟨g17, hF⟩ := Rn_gd hF
   try simp [go_sem, g]
   refine pw_grow gr112 ez23 (by simp [go_sem, g]) g17 ?_
   try simp [go_sem, g]
   try intros
   refine pw_wk ?_
   try simp [go_sem, g]
   try intros
   refine pw_wkK [6, 25, 26, 27] (by simp [go_sem, g]; rfl) ?_
   repeat rw [sq]
   refine pJ hF (fun x20 => [(6, .v (.sl true 2 (x20.map row_ViewCount_z)))]) (fun x20 hF => ?_) fun _ hj18 hF => ?_
   ·cases hΦ _ (Rn_some hF)
    try simp [go_sem, g]
    refine pw_wk ?_
    try simp [go_sem, g]
   ·repeat rw [sq]
    rw [pw_block]
    obtain ⟨b29, hb30, hψ25⟩ := hF
    refine pR hb30 (fun i22 s21 => [(6, .v (.sl true 2 (s21.map row_ViewCount_z))), (25, .v (.sl false 1 (a0.map row_zViewCount_z))), (26, .v (.int .i64 (a0.length : Int))), (27, .v (.int .i64 i22))]) (fun s21 _ hN31 => ?_) (fun i22 s21 _ _ hi26 hi27 ho23 hg24 hF => ?_)
    ·subst hN31
     try simp [go_sem]
     refine pw_wk ?_
     repeat rw [sq]
     refine pw_cond_f (by simp [go_sem]) ?_
     try simp [go_sem]
     exact pT (hj18 s21) hψ25 (by simp [go_sem])
    ·try simp [go_sem, g]
     refine pw_wk ?_
     repeat rw [sq]
     refine pw_cond_t (by simp [go_sem, g, hi26, hi27]) ?_
     try simp [go_sem, g]
     refine pw_wk ?_
     repeat rw [sq]
     rw [pw_block]
     obtain ⟨x28, g, hF⟩ := Rx g hF
     obtain ⟨g, hF⟩ := Rg g hF
     iterate 2 (try simp [go_sem, g]; refine pw_wk ?_)
     try simp [go_sem, g]
     exact pT (hg24 (s21 ++ x28)) (Rn_some hF) (by simp [go_sem, g, wr_i hi26 hi27 (by assumption)])
  ·repeat rw [sq]
   rw [pw_block]
   obtain ⟨b13, hb14, hψ8⟩ := hF
   refine pR hb14 (fun i5 s4 => [(0, .v (.sl false 1 (a0.map row_zViewCount_z))), (3, .v (.int .i64 s4)), (9, .v (.sl false 1 (a0.map row_zViewCount_z))), (10, .v (.int .i64 (a0.length : Int))), (11, .v (.int .i64 i5))]) (fun s4 _ hN15 => ?_) (fun i5 s4 _ _ hi9 hi10 ho6 hg7 hF => ?_)
   ·subst hN15
    try simp [go_sem]
    refine pw_wk ?_
    repeat rw [sq]
    refine pw_cond_f (by simp [go_sem]) ?_
    try simp [go_sem]
    exact pT (hj1 s4) hψ8 (by simp [go_sem])
   ·try simp [go_sem, g]
    refine pw_wk ?_
    repeat rw [sq]
    refine pw_cond_t (by simp [go_sem, g, hi9, hi10]) ?_
    try simp [go_sem, g]
    refine pw_wk ?_
    repeat rw [sq]
    rw [pw_block]
    obtain ⟨x11, g, hF⟩ := Rx g hF
    try simp [go_sem, g]
    try intros
    refine pw_wk ?_
    try simp [go_sem, g]
    try intros
    refine pw_wkK [0, 3, 9, 10, 11] (by simp [go_sem, g]; rfl) ?_
    try simp [go_sem, g]
    refine pw_wk ?_
    repeat rw [sq]
    refine pI hF (fun h12 hF => ?_) (fun h12 hF => ?_)
    ·exact (Rn_none hF).elim
    ·try simp [go_sem, g]
     refine pw_wk ?_
     try simp [go_sem, g]
     exact pT (hg7 (i64.wrap (s4 + (x11.length : Int)))) (Rn_some hF) (by simp [go_sem, g, wr_i hi9 hi10 (by assumption)])
noncomputable def F_slices_Concat_impl_ViewCount_impl_ViewCount__mv0 (a0 : (List (List ViewCount))) : Option ((List ViewCount)) :=
  ((rloop (σ := Int) (fun i5 s4 =>
  (ix a0 i5).bind fun x11 =>
  if decide ((i64.wrap (s4 + (x11.length : Int))) < 0) = true then (
  none) else (
  some (.go (i64.wrap (s4 + (x11.length : Int)))))) (fun s4 => s4) (a0.length) 0 0 : Option (Int)).bind fun x3 =>
  gd (0 ≤ x3 ∧ 32 * x3 ≤ 140737488355328 ∧ x3 ≤ 4611686018427387904) <|
  ((rloop (σ := (List ViewCount)) (fun i22 s21 =>
  (ix a0 i22).bind fun x28 =>
  gd ((s21.length + x28.length) * 32 ≤ 140737488355328 ∧ s21.length + x28.length ≤ 4611686018427387904) <|
  some (.go (s21 ++ x28))) (fun s21 => s21) (a0.length) 0 [] : Option ((List ViewCount))).bind fun x20 =>
  some x20))
theorem c_slices_Concat_impl_ViewCount_impl_ViewCount__mv0 : ∀ {a0} {r}, F_slices_Concat_impl_ViewCount_impl_ViewCount__mv0 a0 = some r → PCalls Try.prog 55 [(.mv, .sl true 1 (a0.map row_zViewCount_z))] (Eo (.sl true 2 (r.map row_ViewCount_z)) [.junk]) := by
  intro a0 r hr
  apply pF 36 [] [] [] [.tmp 2] hr cl55 Try.func55
  intro Φ hΦ hF g
  unfold F_slices_Concat_impl_ViewCount_impl_ViewCount__mv0 at hF
  iterate 3 (try simp [go_sem, g]; try intros; refine pw_wk ?_)
  repeat rw [sq]
  refine pJ hF (fun x3 => [(0, .v (.sl true 1 (a0.map row_zViewCount_z))), (3, .v (.int .i64 x3))]) (fun x3 hF => ?_) fun _ hj1 hF => ?_
  ·obtain ⟨g17, hF⟩ := Rn_gd hF
   try simp [go_sem, g]
   refine pw_grow gr112 ez23 (by simp [go_sem, g]) g17 ?_
   try simp [go_sem, g]
   try intros
   refine pw_wk ?_
   try simp [go_sem, g]
   try intros
   refine pw_wkK [0, 6, 25, 26, 27] (by simp [go_sem, g]; rfl) ?_
   repeat rw [sq]
   refine pJ hF (fun x20 => [(6, .v (.sl true 2 (x20.map row_ViewCount_z)))]) (fun x20 hF => ?_) fun _ hj18 hF => ?_
   ·cases hΦ _ (Rn_some hF)
    try simp [go_sem, g]
    refine pw_wk ?_
    try simp [go_sem, g]
   ·repeat rw [sq]
    rw [pw_block]
    obtain ⟨b29, hb30, hψ25⟩ := hF
    refine pR hb30 (fun i22 s21 => [(0, .v (.sl true 1 (a0.map row_zViewCount_z))), (6, .v (.sl true 2 (s21.map row_ViewCount_z))), (25, .rf 0 []), (26, .v (.int .i64 (a0.length : Int))), (27, .v (.int .i64 i22))]) (fun s21 _ hN31 => ?_) (fun i22 s21 _ _ hi26 hi27 ho23 hg24 hF => ?_)
    ·subst hN31
     try simp [go_sem]
     refine pw_wk ?_
     repeat rw [sq]
     refine pw_cond_f (by simp [go_sem]) ?_
     try simp [go_sem]
     exact pT (hj18 s21) hψ25 (by simp [go_sem])
    ·try simp [go_sem, g]
     refine pw_wk ?_
     repeat rw [sq]
     refine pw_cond_t (by simp [go_sem, g, hi26, hi27]) ?_
     try simp [go_sem, g]
     refine pw_wk ?_
     repeat rw [sq]
     rw [pw_block]
     obtain ⟨x28, g, hF⟩ := Rx g hF
     obtain ⟨g, hF⟩ := Rg g hF
     iterate 2 (try simp [go_sem, g]; refine pw_wk ?_)
     try simp [go_sem, g]
     exact pT (hg24 (s21 ++ x28)) (Rn_some hF) (by simp [go_sem, g, wr_i hi26 hi27 (by assumption)])
  ·repeat rw [sq]
   rw [pw_block]
   obtain ⟨b13, hb14, hψ8⟩ := hF
   refine pR hb14 (fun i5 s4 => [(0, .v (.sl true 1 (a0.map row_zViewCount_z))), (3, .v (.int .i64 s4)), (9, .rf 0 []), (10, .v (.int .i64 (a0.length : Int))), (11, .v (.int .i64 i5))]) (fun s4 _ hN15 => ?_) (fun i5 s4 _ _ hi9 hi10 ho6 hg7 hF => ?_)
   ·subst hN15
    try simp [go_sem]
    refine pw_wk ?_
    repeat rw [sq]
    refine pw_cond_f (by simp [go_sem]) ?_
    try simp [go_sem]
    exact pT (hj1 s4) hψ8 (by simp [go_sem])
   ·try simp [go_sem, g]
    refine pw_wk ?_
    repeat rw [sq]
    refine pw_cond_t (by simp [go_sem, g, hi9, hi10]) ?_
    try simp [go_sem, g]
    refine pw_wk ?_
    repeat rw [sq]
    rw [pw_block]
    obtain ⟨x11, g, hF⟩ := Rx g hF
    try simp [go_sem, g]
    try intros
    refine pw_wk ?_
    try simp [go_sem, g]
    try intros
    refine pw_wkK [0, 3, 9, 10, 11] (by simp [go_sem, g]; rfl) ?_
    try simp [go_sem, g]
    refine pw_wk ?_
    repeat rw [sq]
    refine pI hF (fun h12 hF => ?_) (fun h12 hF => ?_)
    ·exact (Rn_none hF).elim
    ·try simp [go_sem, g]
     refine pw_wk ?_
     try simp [go_sem, g]
     exact pT (hg7 (i64.wrap (s4 + (x11.length : Int)))) (Rn_some hF) (by simp [go_sem, g, wr_i hi9 hi10 (by assumption)])
noncomputable def F_slices_Clone_impl_ViewCount_impl_ViewCount (a0 : (List ViewCount)) : Option (List ViewCount) :=
  gd (a0.length * 32 ≤ 140737488355328 ∧ a0.length ≤ 4611686018427387904) <|
  some a0
theorem c_slices_Clone_impl_ViewCount_impl_ViewCount {a0 : (List ViewCount)} {r : (List ViewCount)} (hr : F_slices_Clone_impl_ViewCount_impl_ViewCount a0 = some r) : PCalls Try.prog 108 [(.sh, .sl false 2 (a0.map row_ViewCount_z))] (Eo (.sl true 2 (r.map row_ViewCount_z)) [.junk]) := by
  apply pcalls_lf 8 [] [] [1000000] [.tmp 2] hr cl108 Try.func108 rfl rfl rfl
  · exact ⟨by simp, rfl⟩
  intro Φ hΦ hF
  unfold F_slices_Clone_impl_ViewCount_impl_ViewCount at hF
  obtain ⟨g, hF⟩ := Rn_gd hF
  have h1 := hΦ _ (Rn_some hF)
  subst h1
  try simp [go_sem]
  refine pw_wkL [(0, .v (.sl false 2 (a0.map row_ViewCount_z)))] (by simp [go_sem]) ?_
  try simp [go_sem]
  refine pw1_nil rfl rfl (by simp [go_sem]) rfl (by rfl) fun b hb => ?_
  try simp [go_sem]
  refine pw_wk ?_
  repeat rw [pw_seq]
  cases b
  · refine pw_cond_f (by simp [go_sem]) ?_
    try simp [go_sem]
    refine pw_wk ?_
    try simp [go_sem, g]
    refine pw_wk ?_
    try simp [go_sem, g]
  · have hb0 : a0 = [] := by
      cases a0 with
      | nil => rfl
      | cons x l => exact absurd (hb (by simp)) (by simp)
    subst hb0
    refine pw_cond_t (by simp [go_sem]) ?_
    try simp [go_sem]
    refine pw_wk ?_
    try simp [go_sem]
noncomputable def F_impl_gathered_1 (a0 : ViewCount) (a1 : ViewCount) : Option (Int) :=
  (F_slices_Compare_int_int a0.View a1.View).bind fun z1 =>
  some z1
theorem c_impl_gathered_1 : ∀ {a0} {a1} {r}, F_impl_gathered_1 a0 a1 = some r → PCalls Try.prog 110 [(.sh, .agg [.sl false 1 (a0.View.map row_i64), .int .i64 a0.Times]), (.sh, .agg [.sl false 1 (a1.View.map row_i64), .int .i64 a1.Times])] (Eo (.int .i64 r) [.junk, .junk]) := by
  intro a0 a1 r hr
  apply pF 10 [] [] [] [.tmp 4] hr cl110 Try.func110
  intro Φ hΦ hF g
  unfold F_impl_gathered_1 at hF
  try simp [go_sem, g]
  refine pw_wk ?_
  try simp [go_sem, g]
  refine pC hF [.sh, .sh] c_slices_Compare_int_int (fun z1 hF => ?_)
  cases hΦ _ (Rn_some hF)
  try simp [go_sem, g]
  refine pw_wk ?_
  try simp [go_sem, g]
def D181_4 : List DE := [⟨0, [9], [], none, false, false, false⟩, ⟨1, [1], [], none, false, false, false⟩, ⟨2, [18, 19], [], none, false, false, false⟩, ⟨3, [20], [], none, false, false, false⟩, ⟨4, [3, 21], [], none, false, false, false⟩, ⟨5, [0, 21], [], none, false, false, false⟩, ⟨6, [9, 21], [], none, false, false, false⟩, ⟨7, [23, 24, 21], [], none, false, false, false⟩, ⟨8, [25, 21], [], none, false, false, false⟩, ⟨9, [0, 21], [], none, false, false, false⟩, ⟨10, [9, 21], [], none, false, false, false⟩, ⟨11, [28, 21], [], none, false, false, false⟩, ⟨12, [27, 29, 21], [], none, false, false, false⟩, ⟨13, [30, 21], [], none, false, false, false⟩, ⟨14, [22, 26, 31, 21], [], none, false, true, true⟩, ⟨15, [32, 21], [], none, false, false, false⟩, ⟨16, [21, 33], [], none, false, false, false⟩]
def D181_6 : List DE := [⟨0, [0], [], none, false, false, false⟩, ⟨1, [9], [], none, false, false, false⟩, ⟨2, [0], [], none, false, false, false⟩, ⟨3, [9], [], none, false, false, false⟩, ⟨4, [40], [], none, false, false, false⟩, ⟨5, [0], [], none, false, false, false⟩, ⟨6, [9], [], none, false, false, false⟩, ⟨7, [43], [], none, false, false, false⟩, ⟨8, [42, 44], [], none, false, false, false⟩, ⟨9, [45], [], none, false, false, false⟩, ⟨10, [0], [], none, false, false, false⟩, ⟨11, [9], [], none, false, false, false⟩, ⟨12, [47, 48], [], none, false, false, false⟩, ⟨13, [49], [], none, false, false, false⟩, ⟨14, [37, 38], [], none, false, false, false⟩, ⟨15, [51, 46], [], none, false, false, false⟩, ⟨16, [39, 41], [], none, false, false, false⟩, ⟨17, [52, 50], [], none, false, false, false⟩]
noncomputable def F_slices_insertionSortCmpFunc_impl_ViewCount__io0_impl_gathered_1 (a0 : (List ViewCount)) (a1 : Int) (a2 : Int) : Option ((List ViewCount)) :=
  wloop (σ := (List ViewCount) × Int) (fun s44 =>
  if decide (s44.2 < a2) = true then (
  ((wloop (σ := (List ViewCount) × Int) (fun s69 =>
  ((if decide (a1 < s69.2) = true then (
  (ix s69.1 s69.2).bind fun x78 =>
  (ix s69.1 (i64.wrap (s69.2 - 1))).bind fun x79 =>
  (F_impl_gathered_1 x78 x79).bind fun z80 =>
  some (decide (z80 < 0))) else (
  some false) : Option (Bool)).bind fun x76 =>
  if x76 = true then (
  (ix s69.1 (i64.wrap (s69.2 - 1))).bind fun x82 =>
  (ix s69.1 s69.2).bind fun x83 =>
  (ix (s69.1.set s69.2.toNat x82) (i64.wrap (s69.2 - 1))).bind fun x84 =>
  some (.go ((s69.1.set s69.2.toNat x82).set ((i64.wrap (s69.2 - 1)).toNat) x83, i64.wrap (s69.2 - 1)))) else (
  some (.out s69.1)))) (s44.1, s44.2) : Option ((List ViewCount))).bind fun x52 =>
  some (.go (x52, i64.wrap (s44.2 + 1))))) else (
  some (.out s44.1))) (a0, i64.wrap (a1 + 1))
theorem c_slices_insertionSortCmpFunc_impl_ViewCount__io0_impl_gathered_1 : ∀ {a0} {a1} {a2} {r}, F_slices_insertionSortCmpFunc_impl_ViewCount__io0_impl_gathered_1 a0 a1 a2 = some r → PCalls Try.prog 181 [(.io, .sl true 2 (a0.map row_ViewCount_z)), (.sh, .int .i64 a1), (.sh, .int .i64 a2), (.sh, .func (.func 110) [] [])] (Eo (.junk) [.sl true 2 (r.map row_ViewCount_z), .junk, .junk, .junk]) := by
  intro a0 a1 a2 r hr
  apply pF 53 [0] [] [] [] hr cl181 Try.func181
  intro Φ hΦ hF g
  unfold F_slices_insertionSortCmpFunc_impl_ViewCount__io0_impl_gathered_1 at hF
  try simp [go_sem, g]
  refine pw_wk ?_
  repeat rw [sq]
  rw [pw_block]
  obtain ⟨b87, hb88, hψ48⟩ := hF
  refine pL hb88 (fun s44 => [(0, .v (.sl true 2 (s44.1.map row_ViewCount_z))), (1, .v (.int .i64 a1)), (2, .v (.int .i64 a2)), (3, .v (.func (.func 110) [] [])), (8, .v (.int .i64 s44.2))]) (fun s44 _ _ ho46 hg47 hF => ?_)
  try simp [go_sem, g]
  refine pw_wk ?_
  repeat rw [sq]
  refine pI hF (fun h49 hF => ?_) (fun h49 hF => ?_)
  ·try simp [go_sem, g]
   refine pw_wk ?_
   repeat rw [sq]
   refine pJ hF (fun x52 => [(0, .v (.sl true 2 (x52.map row_ViewCount_z))), (1, .v (.int .i64 a1)), (2, .v (.int .i64 a2)), (3, .v (.func (.func 110) [] [])), (8, .v (.int .i64 s44.2))]) (fun x52 hF => ?_) fun _ hj50 hF => ?_
   ·try simp [go_sem, g]
    exact pT (hg47 (x52, i64.wrap (s44.2 + 1))) (Rn_some hF)
   ·repeat rw [sq]
    rw [pw_block]
    try simp [go_sem, g]
    refine pw_wk ?_
    repeat rw [sq]
    rw [pw_block]
    obtain ⟨b85, hb86, hψ73⟩ := hF
    refine pL hb86 (fun s69 => [(0, .v (.sl true 2 (s69.1.map row_ViewCount_z))), (1, .v (.int .i64 a1)), (2, .v (.int .i64 a2)), (3, .v (.func (.func 110) [] [])), (8, .v (.int .i64 s44.2)), (9, .v (.int .i64 s69.2))]) (fun s69 _ _ ho71 hg72 hF => ?_)
    repeat rw [sq]
    refine pJ hF (fun x76 => [(0, .v (.sl true 2 (s69.1.map row_ViewCount_z))), (1, .v (.int .i64 a1)), (2, .v (.int .i64 a2)), (3, .v (.func (.func 110) [] [])), (8, .v (.int .i64 s44.2)), (9, .v (.int .i64 s69.2)), (34, .v (.bool x76))]) (fun x76 hF => ?_) fun _ hj74 hF => ?_
    ·repeat rw [sq]
     refine pI hF (fun h81 hF => ?_) (fun h81 hF => ?_)
     ·try simp [go_sem, g]
      refine pw_wk ?_
      repeat rw [sq]
      rw [pw_block]
      repeat rw [sq]
      refine pw_draw D181_6 follows (by kernel_rfl) rfl ?_
      try simp only [go_sem, D181_6]
      obtain ⟨x82, g, hF⟩ := Rx g hF
      obtain ⟨x83, g, hF⟩ := Rx g hF
      obtain ⟨x84, g, hF⟩ := Rx g hF
      try simp [go_sem, g]
      refine pw_wkK [0, 1, 2, 3, 8, 9] (by simp [go_sem, g]; rfl) ?_
      try simp [go_sem, g]
      exact pT (hg72 ((s69.1.set s69.2.toNat x82).set ((i64.wrap (s69.2 - 1)).toNat) x83, i64.wrap (s69.2 - 1))) (Rn_some hF)
     ·try simp [go_sem, g]
      cases ho71 _ (Rn_some hF)
      exact pT (hj50 s69.1) hψ73
    ·repeat rw [sq]
     refine pw_draw D181_4 follows (by kernel_rfl) rfl ?_
     try simp only [go_sem, D181_4]
     try simp [go_sem, g]
     refine pwgD_F hF (fun h77 hF => ?_) fun h77 hF => ?_
     ·obtain ⟨x78, g, hF⟩ := Rx g hF
      obtain ⟨x79, g, hF⟩ := Rx g hF
      try simp [go_sem, g, h77]
      refine pC hF [.sh, .sh] c_impl_gathered_1 (fun z80 hF => ?_)
      try simp [go_sem, g, h77]
      exact pT (hj74 (decide (z80 < 0))) (Rn_some hF)
     ·try simp [go_sem, g, h77]
      exact pT (hj74 false) (Rn_some hF)
  ·cases ho46 _ (Rn_some hF)
   cases hΦ _ hψ48
   try simp [go_sem, g]
def D206_3 : List DE := [⟨0, [0], [], none, false, false, false⟩, ⟨1, [1], [], none, false, false, false⟩, ⟨2, [10], [], none, false, false, false⟩, ⟨3, [17, 18], [], none, false, false, false⟩, ⟨4, [0], [], none, false, false, false⟩, ⟨5, [2], [], none, false, false, false⟩, ⟨6, [10], [], none, false, false, false⟩, ⟨7, [21, 22], [], none, false, false, false⟩, ⟨8, [0], [], none, false, false, false⟩, ⟨9, [2], [], none, false, false, false⟩, ⟨10, [10], [], none, false, false, false⟩, ⟨11, [25, 26], [], none, false, false, false⟩, ⟨12, [24, 27], [], none, false, false, false⟩, ⟨13, [28], [], none, false, false, false⟩, ⟨14, [0], [], none, false, false, false⟩, ⟨15, [1], [], none, false, false, false⟩, ⟨16, [10], [], none, false, false, false⟩, ⟨17, [31, 32], [], none, false, false, false⟩, ⟨18, [30, 33], [], none, false, false, false⟩, ⟨19, [34], [], none, false, false, false⟩, ⟨20, [16, 19], [], none, false, false, false⟩, ⟨21, [36, 29], [], none, false, false, false⟩, ⟨22, [20, 23], [], none, false, false, false⟩, ⟨23, [37, 35], [], none, false, false, false⟩]
noncomputable def F_slices_swapRangeCmpFunc_impl_ViewCount__io0_impl_gathered_1 (a0 : (List ViewCount)) (a1 : Int) (a2 : Int) (a3 : Int) : Option ((List ViewCount)) :=
  wloop (σ := (List ViewCount) × Int) (fun s10 =>
  if decide (s10.2 < a3) = true then (
  (ix s10.1 (i64.wrap (a2 + s10.2))).bind fun x16 =>
  (ix s10.1 (i64.wrap (a1 + s10.2))).bind fun x17 =>
  (ix (s10.1.set ((i64.wrap (a1 + s10.2)).toNat) x16) (i64.wrap (a2 + s10.2))).bind fun x18 =>
  some (.go ((s10.1.set ((i64.wrap (a1 + s10.2)).toNat) x16).set ((i64.wrap (a2 + s10.2)).toNat) x17, i64.wrap (s10.2 + 1)))) else (
  some (.out s10.1))) (a0, 0)
theorem c_slices_swapRangeCmpFunc_impl_ViewCount__io0_impl_gathered_1 : ∀ {a0} {a1} {a2} {a3} {r}, F_slices_swapRangeCmpFunc_impl_ViewCount__io0_impl_gathered_1 a0 a1 a2 a3 = some r → PCalls Try.prog 206 [(.io, .sl true 2 (a0.map row_ViewCount_z)), (.sh, .int .i64 a1), (.sh, .int .i64 a2), (.sh, .int .i64 a3), (.sh, .func (.func 110) [] [])] (Eo (.junk) [.sl true 2 (r.map row_ViewCount_z), .junk, .junk, .junk, .junk]) := by
  intro a0 a1 a2 a3 r hr
  apply pF 38 [0] [] [] [] hr cl206 Try.func206
  intro Φ hΦ hF g
  unfold F_slices_swapRangeCmpFunc_impl_ViewCount__io0_impl_gathered_1 at hF
  try simp [go_sem, g]
  refine pw_wk ?_
  repeat rw [sq]
  rw [pw_block]
  obtain ⟨b19, hb20, hψ14⟩ := hF
  refine pL hb20 (fun s10 => [(0, .v (.sl true 2 (s10.1.map row_ViewCount_z))), (1, .v (.int .i64 a1)), (2, .v (.int .i64 a2)), (3, .v (.int .i64 a3)), (10, .v (.int .i64 s10.2))]) (fun s10 _ _ ho12 hg13 hF => ?_)
  try simp [go_sem, g]
  refine pw_wk ?_
  repeat rw [sq]
  refine pI hF (fun h15 hF => ?_) (fun h15 hF => ?_)
  ·try simp [go_sem, g]
   refine pw_wk ?_
   repeat rw [sq]
   rw [pw_block]
   repeat rw [sq]
   refine pw_draw D206_3 follows (by kernel_rfl) rfl ?_
   try simp only [go_sem, D206_3]
   obtain ⟨x16, g, hF⟩ := Rx g hF
   obtain ⟨x17, g, hF⟩ := Rx g hF
   obtain ⟨x18, g, hF⟩ := Rx g hF
   try simp [go_sem, g]
   refine pw_wkK [0, 1, 2, 3, 10] (by simp [go_sem, g]; rfl) ?_
   try simp [go_sem, g]
   exact pT (hg13 ((s10.1.set ((i64.wrap (a1 + s10.2)).toNat) x16).set ((i64.wrap (a2 + s10.2)).toNat) x17, i64.wrap (s10.2 + 1))) (Rn_some hF)
  ·cases ho12 _ (Rn_some hF)
   cases hΦ _ hψ14
   try simp [go_sem, g]
noncomputable def F_slices_rotateCmpFunc_impl_ViewCount__io0_impl_gathered_1 (a0 : (List ViewCount)) (a1 : Int) (a2 : Int) (a3 : Int) : Option ((List ViewCount)) :=
  ((wloop (σ := (List ViewCount) × Int × Int) (fun s13 =>
  if (s13.2.1 != s13.2.2) = true then (
  if decide (s13.2.2 < s13.2.1) = true then (
  (F_slices_swapRangeCmpFunc_impl_ViewCount__io0_impl_gathered_1 s13.1 (i64.wrap (a2 - s13.2.1)) a2 s13.2.2).bind fun z20 =>
  some (.go (z20, i64.wrap (s13.2.1 - s13.2.2), s13.2.2))) else (
  (F_slices_swapRangeCmpFunc_impl_ViewCount__io0_impl_gathered_1 s13.1 (i64.wrap (a2 - s13.2.1)) (i64.wrap ((i64.wrap (a2 + s13.2.2)) - s13.2.1)) s13.2.1).bind fun z21 =>
  some (.go (z21, s13.2.1, i64.wrap (s13.2.2 - s13.2.1))))) else (
  some (.out (s13.1, s13.2.1)))) (a0, i64.wrap (a2 - a1), i64.wrap (a3 - a2)) : Option (((List ViewCount) × Int))).bind fun x3 =>
  (F_slices_swapRangeCmpFunc_impl_ViewCount__io0_impl_gathered_1 x3.1 (i64.wrap (a2 - x3.2)) a2 x3.2).bind fun z24 =>
  some z24)
theorem c_slices_rotateCmpFunc_impl_ViewCount__io0_impl_gathered_1 : ∀ {a0} {a1} {a2} {a3} {r}, F_slices_rotateCmpFunc_impl_ViewCount__io0_impl_gathered_1 a0 a1 a2 a3 = some r → PCalls Try.prog 199 [(.io, .sl true 2 (a0.map row_ViewCount_z)), (.sh, .int .i64 a1), (.sh, .int .i64 a2), (.sh, .int .i64 a3), (.sh, .func (.func 110) [] [])] (Eo (.junk) [.sl true 2 (r.map row_ViewCount_z), .junk, .junk, .junk, .junk]) := by
  intro a0 a1 a2 a3 r hr
  apply pF 58 [0] [] [] [] hr cl199 Try.func199
  intro Φ hΦ hF g
  unfold F_slices_rotateCmpFunc_impl_ViewCount__io0_impl_gathered_1 at hF
  iterate 2 (try simp [go_sem, g]; refine pw_wk ?_)
  repeat rw [sq]
  refine pJ hF (fun x3 => [(0, .v (.sl true 2 (x3.1.map row_ViewCount_z))), (2, .v (.int .i64 a2)), (4, .v (.func (.func 110) [] [])), (10, .v (.int .i64 x3.2))]) (fun x3 hF => ?_) fun _ hj1 hF => ?_
  ·try simp [go_sem, g]
   refine pC hF [.io, .sh, .sh, .sh, .sh] c_slices_swapRangeCmpFunc_impl_ViewCount__io0_impl_gathered_1 (fun z24 hF => ?_)
   cases hΦ _ (Rn_some hF)
   try simp [go_sem, g]
  ·repeat rw [sq]
   rw [pw_block]
   obtain ⟨b22, hb23, hψ17⟩ := hF
   refine pL hb23 (fun s13 => [(0, .v (.sl true 2 (s13.1.map row_ViewCount_z))), (2, .v (.int .i64 a2)), (4, .v (.func (.func 110) [] [])), (10, .v (.int .i64 s13.2.1)), (11, .v (.int .i64 s13.2.2))]) (fun s13 _ _ ho15 hg16 hF => ?_)
   try simp [go_sem, g]
   refine pw_wkK [0, 2, 4, 10, 11, 20] (by simp [go_sem, g]; rfl) ?_
   repeat rw [sq]
   refine pI hF (fun h18 hF => ?_) (fun h18 hF => ?_)
   ·try simp [go_sem, g]
    refine pw_wk ?_
    repeat rw [sq]
    rw [pw_block]
    try simp [go_sem, g]
    refine pw_wk ?_
    repeat rw [sq]
    refine pI hF (fun h19 hF => ?_) (fun h19 hF => ?_)
    ·try simp [go_sem, g]
     refine pC hF [.io, .sh, .sh, .sh, .sh] c_slices_swapRangeCmpFunc_impl_ViewCount__io0_impl_gathered_1 (fun z20 hF => ?_)
     try simp [go_sem, g]
     refine pw_wkK [0, 2, 4, 10, 11] (by simp [go_sem, g]; rfl) ?_
     try simp [go_sem, g]
     exact pT (hg16 (z20, i64.wrap (s13.2.1 - s13.2.2), s13.2.2)) (Rn_some hF)
    ·try simp [go_sem, g]
     refine pC hF [.io, .sh, .sh, .sh, .sh] c_slices_swapRangeCmpFunc_impl_ViewCount__io0_impl_gathered_1 (fun z21 hF => ?_)
     try simp [go_sem, g]
     refine pw_wkK [0, 2, 4, 10, 11] (by simp [go_sem, g]; rfl) ?_
     try simp [go_sem, g]
     exact pT (hg16 (z21, s13.2.1, i64.wrap (s13.2.2 - s13.2.1))) (Rn_some hF)
   ·try simp [go_sem, g]
    cases ho15 _ (Rn_some hF)
    exact pT (hj1 (s13.1, s13.2.1)) hψ17
def D182_11 : List DE := [⟨0, [0], [], none, false, false, false⟩, ⟨1, [13], [], none, false, false, false⟩, ⟨2, [0], [], none, false, false, false⟩, ⟨3, [13], [], none, false, false, false⟩, ⟨4, [64], [], none, false, false, false⟩, ⟨5, [0], [], none, false, false, false⟩, ⟨6, [13], [], none, false, false, false⟩, ⟨7, [67], [], none, false, false, false⟩, ⟨8, [66, 68], [], none, false, false, false⟩, ⟨9, [69], [], none, false, false, false⟩, ⟨10, [0], [], none, false, false, false⟩, ⟨11, [13], [], none, false, false, false⟩, ⟨12, [71, 72], [], none, false, false, false⟩, ⟨13, [73], [], none, false, false, false⟩, ⟨14, [61, 62], [], none, false, false, false⟩, ⟨15, [75, 70], [], none, false, false, false⟩, ⟨16, [63, 65], [], none, false, false, false⟩, ⟨17, [76, 74], [], none, false, false, false⟩]
def D182_17 : List DE := [⟨0, [4], [], none, false, false, false⟩, ⟨1, [0], [], none, false, false, false⟩, ⟨2, [2], [], none, false, false, false⟩, ⟨3, [93, 94], [], none, false, false, false⟩, ⟨4, [95], [], none, false, false, false⟩, ⟨5, [0], [], none, false, false, false⟩, ⟨6, [16], [], none, false, false, false⟩, ⟨7, [97, 98], [], none, false, false, false⟩, ⟨8, [99], [], none, false, false, false⟩, ⟨9, [92, 96, 100], [], none, false, true, true⟩, ⟨10, [101], [], none, false, false, false⟩, ⟨11, [102], [], none, false, false, false⟩]
def D182_23 : List DE := [⟨0, [0], [], none, false, false, false⟩, ⟨1, [17], [], none, false, false, false⟩, ⟨2, [0], [], none, false, false, false⟩, ⟨3, [17], [], none, false, false, false⟩, ⟨4, [116], [], none, false, false, false⟩, ⟨5, [0], [], none, false, false, false⟩, ⟨6, [17], [], none, false, false, false⟩, ⟨7, [119], [], none, false, false, false⟩, ⟨8, [118, 120], [], none, false, false, false⟩, ⟨9, [121], [], none, false, false, false⟩, ⟨10, [0], [], none, false, false, false⟩, ⟨11, [17], [], none, false, false, false⟩, ⟨12, [123, 124], [], none, false, false, false⟩, ⟨13, [125], [], none, false, false, false⟩, ⟨14, [113, 114], [], none, false, false, false⟩, ⟨15, [127, 122], [], none, false, false, false⟩, ⟨16, [115, 117], [], none, false, false, false⟩, ⟨17, [128, 126], [], none, false, false, false⟩]
def D182_35 : List DE := [⟨0, [4], [], none, false, false, false⟩, ⟨1, [0], [], none, false, false, false⟩, ⟨2, [22], [], none, false, false, false⟩, ⟨3, [23], [], none, false, false, false⟩, ⟨4, [160, 161], [], none, false, false, false⟩, ⟨5, [159, 162], [], none, false, false, false⟩, ⟨6, [163], [], none, false, false, false⟩, ⟨7, [0], [], none, false, false, false⟩, ⟨8, [23], [], none, false, false, false⟩, ⟨9, [165, 166], [], none, false, false, false⟩, ⟨10, [167], [], none, false, false, false⟩, ⟨11, [158, 164, 168], [], none, false, true, true⟩, ⟨12, [169], [], none, false, false, false⟩, ⟨13, [170], [], none, false, false, false⟩]
def D182_5 : List DE := [⟨0, [4], [], none, false, false, false⟩, ⟨1, [0], [], none, false, false, false⟩, ⟨2, [12], [], none, false, false, false⟩, ⟨3, [41, 42], [], none, false, false, false⟩, ⟨4, [43], [], none, false, false, false⟩, ⟨5, [0], [], none, false, false, false⟩, ⟨6, [1], [], none, false, false, false⟩, ⟨7, [45, 46], [], none, false, false, false⟩, ⟨8, [47], [], none, false, false, false⟩, ⟨9, [40, 44, 48], [], none, false, true, true⟩, ⟨10, [49], [], none, false, false, false⟩]
noncomputable def F_slices_symMergeCmpFunc_impl_ViewCount__io0_impl_gathered_1_r : Nat → (List ViewCount) → Int → Int → Int → Option ((List ViewCount))
  | 0, _, _, _, _ => none
  | n_ + 1, a0, a1, a2, a3 =>
  if ((i64.wrap (a2 - a1)) == 1) = true then (
  ((wloop (σ := Int × Int) (fun s5 =>
  if decide (s5.1 < s5.2) = true then (
  (ix a0 (i64.wrap ((u64.wrap (i64.wrap (s5.1 + s5.2))).fdiv 2))).bind fun x11 =>
  (ix a0 a1).bind fun x12 =>
  (F_impl_gathered_1 x11 x12).bind fun z13 =>
  if decide (z13 < 0) = true then (
  some (.go (i64.wrap ((i64.wrap ((u64.wrap (i64.wrap (s5.1 + s5.2))).fdiv 2)) + 1), s5.2))) else (
  some (.go (s5.1, i64.wrap ((u64.wrap (i64.wrap (s5.1 + s5.2))).fdiv 2))))) else (
  some (.out s5.1))) (a2, a3) : Option (Int)).bind fun x4 =>
  ((wloop (σ := (List ViewCount) × Int) (fun s29 =>
  if decide (s29.2 < (i64.wrap (x4 - 1))) = true then (
  (ix s29.1 (i64.wrap (s29.2 + 1))).bind fun x35 =>
  (ix s29.1 s29.2).bind fun x36 =>
  (ix (s29.1.set s29.2.toNat x35) (i64.wrap (s29.2 + 1))).bind fun x37 =>
  some (.go ((s29.1.set s29.2.toNat x35).set ((i64.wrap (s29.2 + 1)).toNat) x36, i64.wrap (s29.2 + 1)))) else (
  some (.out s29.1))) (a0, a1) : Option ((List ViewCount))).bind fun x19 =>
  some x19))) else (
  if ((i64.wrap (a3 - a2)) == 1) = true then (
  ((wloop (σ := Int × Int) (fun s44 =>
  if decide (s44.1 < s44.2) = true then (
  (ix a0 a2).bind fun x50 =>
  (ix a0 (i64.wrap ((u64.wrap (i64.wrap (s44.1 + s44.2))).fdiv 2))).bind fun x51 =>
  (F_impl_gathered_1 x50 x51).bind fun z52 =>
  if (!(decide (z52 < 0))) = true then (
  some (.go (i64.wrap ((i64.wrap ((u64.wrap (i64.wrap (s44.1 + s44.2))).fdiv 2)) + 1), s44.2))) else (
  some (.go (s44.1, i64.wrap ((u64.wrap (i64.wrap (s44.1 + s44.2))).fdiv 2))))) else (
  some (.out s44.1))) (a1, a2) : Option (Int)).bind fun x43 =>
  ((wloop (σ := (List ViewCount) × Int) (fun s68 =>
  if decide (x43 < s68.2) = true then (
  (ix s68.1 (i64.wrap (s68.2 - 1))).bind fun x74 =>
  (ix s68.1 s68.2).bind fun x75 =>
  (ix (s68.1.set s68.2.toNat x74) (i64.wrap (s68.2 - 1))).bind fun x76 =>
  some (.go ((s68.1.set s68.2.toNat x74).set ((i64.wrap (s68.2 - 1)).toNat) x75, i64.wrap (s68.2 - 1)))) else (
  some (.out s68.1))) (a0, a2) : Option ((List ViewCount))).bind fun x58 =>
  some x58))) else (
  ((if decide ((i64.wrap ((u64.wrap (i64.wrap (a1 + a3))).fdiv 2)) < a2) = true then (
  some (i64.wrap ((i64.wrap ((i64.wrap ((u64.wrap (i64.wrap (a1 + a3))).fdiv 2)) + a2)) - a3), i64.wrap ((u64.wrap (i64.wrap (a1 + a3))).fdiv 2))) else (
  some (a1, a2)) : Option ((Int × Int))).bind fun x81 =>
  ((wloop (σ := Int × Int) (fun s86 =>
  if decide (s86.1 < s86.2) = true then (
  (ix a0 (i64.wrap ((i64.wrap ((i64.wrap ((i64.wrap ((u64.wrap (i64.wrap (a1 + a3))).fdiv 2)) + a2)) - 1)) - (i64.wrap ((u64.wrap (i64.wrap (s86.1 + s86.2))).fdiv 2))))).bind fun x92 =>
  (ix a0 (i64.wrap ((u64.wrap (i64.wrap (s86.1 + s86.2))).fdiv 2))).bind fun x93 =>
  (F_impl_gathered_1 x92 x93).bind fun z94 =>
  if (!(decide (z94 < 0))) = true then (
  some (.go (i64.wrap ((i64.wrap ((u64.wrap (i64.wrap (s86.1 + s86.2))).fdiv 2)) + 1), s86.2))) else (
  some (.go (s86.1, i64.wrap ((u64.wrap (i64.wrap (s86.1 + s86.2))).fdiv 2))))) else (
  some (.out s86.1))) (x81.1, x81.2) : Option (Int)).bind fun x85 =>
  ((if decide (x85 < a2) = true then (
  some (decide (a2 < (i64.wrap ((i64.wrap ((i64.wrap ((u64.wrap (i64.wrap (a1 + a3))).fdiv 2)) + a2)) - x85))))) else (
  some false) : Option (Bool)).bind fun x100 =>
  ((if x100 = true then (
  (F_slices_rotateCmpFunc_impl_ViewCount__io0_impl_gathered_1 a0 x85 a2 (i64.wrap ((i64.wrap ((i64.wrap ((u64.wrap (i64.wrap (a1 + a3))).fdiv 2)) + a2)) - x85))).bind fun z106 =>
  some z106) else (
  some a0) : Option ((List ViewCount))).bind fun x104 =>
  ((if decide (a1 < x85) = true then (
  some (decide (x85 < (i64.wrap ((u64.wrap (i64.wrap (a1 + a3))).fdiv 2))))) else (
  some false) : Option (Bool)).bind fun x109 =>
  ((if x109 = true then (
  (F_slices_symMergeCmpFunc_impl_ViewCount__io0_impl_gathered_1_r n_ x104 a1 x85 (i64.wrap ((u64.wrap (i64.wrap (a1 + a3))).fdiv 2))).bind fun z115 =>
  some z115) else (
  some x104) : Option ((List ViewCount))).bind fun x113 =>
  ((if decide ((i64.wrap ((u64.wrap (i64.wrap (a1 + a3))).fdiv 2)) < (i64.wrap ((i64.wrap ((i64.wrap ((u64.wrap (i64.wrap (a1 + a3))).fdiv 2)) + a2)) - x85))) = true then (
  some (decide ((i64.wrap ((i64.wrap ((i64.wrap ((u64.wrap (i64.wrap (a1 + a3))).fdiv 2)) + a2)) - x85)) < a3))) else (
  some false) : Option (Bool)).bind fun x118 =>
  if x118 = true then (
  (F_slices_symMergeCmpFunc_impl_ViewCount__io0_impl_gathered_1_r n_ x113 (i64.wrap ((u64.wrap (i64.wrap (a1 + a3))).fdiv 2)) (i64.wrap ((i64.wrap ((i64.wrap ((u64.wrap (i64.wrap (a1 + a3))).fdiv 2)) + a2)) - x85)) a3).bind fun z121 =>
  some z121) else (
  some x113))))))))))
noncomputable def F_slices_symMergeCmpFunc_impl_ViewCount__io0_impl_gathered_1 (a0 : (List ViewCount)) (a1 : Int) (a2 : Int) (a3 : Int) : Option ((List ViewCount)) := frec fun n_ => F_slices_symMergeCmpFunc_impl_ViewCount__io0_impl_gathered_1_r n_ a0 a1 a2 a3
theorem c_slices_symMergeCmpFunc_impl_ViewCount__io0_impl_gathered_1_r : ∀ {n_ : Nat} {a0 : (List ViewCount)} {a1 : Int} {a2 : Int} {a3 : Int} {r : (List ViewCount)} (hr : F_slices_symMergeCmpFunc_impl_ViewCount__io0_impl_gathered_1_r n_ a0 a1 a2 a3 = some r), PCalls Try.prog 182 [(.io, .sl true 2 (a0.map row_ViewCount_z)), (.sh, .int .i64 a1), (.sh, .int .i64 a2), (.sh, .int .i64 a3), (.sh, .func (.func 110) [] [])] (Eo (.junk) [.sl true 2 (r.map row_ViewCount_z), .junk, .junk, .junk, .junk]) := by
  intro n_
  induction n_ with
  | zero => intro a0 a1 a2 a3 r hr; cases hr
  | succ n_ ih =>
    intro a0 a1 a2 a3 r hr
    apply pF 220 [0] [] [] [] hr cl182 Try.func182
    intro Φ hΦ hF g
    simp only [F_slices_symMergeCmpFunc_impl_ViewCount__io0_impl_gathered_1_r] at hF
    try simp [go_sem, g]
    refine pw_wk ?_
    repeat rw [sq]
    refine pI hF (fun h1 hF => ?_) (fun h1 hF => ?_)
    ·iterate 2 (try simp [go_sem, g]; refine pw_wk ?_)
     repeat rw [sq]
     refine pJ hF (fun x4 => [(0, .v (.sl true 2 (a0.map row_ViewCount_z))), (1, .v (.int .i64 a1)), (10, .v (.int .i64 x4))]) (fun x4 hF => ?_) fun _ hj2 hF => ?_
     ·try simp [go_sem, g]
      refine pw_wkK [0, 10, 13] (by simp [go_sem, g]; rfl) ?_
      repeat rw [sq]
      refine pJ hF (fun x19 => [(0, .v (.sl true 2 (x19.map row_ViewCount_z)))]) (fun x19 hF => ?_) fun _ hj17 hF => ?_
      ·cases hΦ _ (Rn_some hF)
       try simp [go_sem, g]
      ·repeat rw [sq]
       rw [pw_block]
       obtain ⟨b38, hb39, hψ33⟩ := hF
       refine pL hb39 (fun s29 => [(0, .v (.sl true 2 (s29.1.map row_ViewCount_z))), (10, .v (.int .i64 x4)), (13, .v (.int .i64 s29.2))]) (fun s29 _ _ ho31 hg32 hF => ?_)
       try simp [go_sem, g]
       refine pw_wk ?_
       repeat rw [sq]
       refine pI hF (fun h34 hF => ?_) (fun h34 hF => ?_)
       ·try simp [go_sem, g]
        refine pw_wk ?_
        repeat rw [sq]
        rw [pw_block]
        repeat rw [sq]
        refine pw_draw D182_11 follows (by kernel_rfl) rfl ?_
        try simp only [go_sem, D182_11]
        obtain ⟨x35, g, hF⟩ := Rx g hF
        obtain ⟨x36, g, hF⟩ := Rx g hF
        obtain ⟨x37, g, hF⟩ := Rx g hF
        try simp [go_sem, g]
        refine pw_wkK [0, 10, 13] (by simp [go_sem, g]; rfl) ?_
        try simp [go_sem, g]
        exact pT (hg32 ((s29.1.set s29.2.toNat x35).set ((i64.wrap (s29.2 + 1)).toNat) x36, i64.wrap (s29.2 + 1))) (Rn_some hF)
       ·try simp [go_sem, g]
        cases ho31 _ (Rn_some hF)
        exact pT (hj17 s29.1) hψ33
     ·repeat rw [sq]
      rw [pw_block]
      obtain ⟨b15, hb16, hψ9⟩ := hF
      refine pL hb16 (fun s5 => [(0, .v (.sl true 2 (a0.map row_ViewCount_z))), (1, .v (.int .i64 a1)), (4, .v (.func (.func 110) [] [])), (10, .v (.int .i64 s5.1)), (11, .v (.int .i64 s5.2))]) (fun s5 _ _ ho7 hg8 hF => ?_)
      try simp [go_sem, g]
      refine pw_wkK [0, 1, 4, 10, 11, 33] (by simp [go_sem, g]; rfl) ?_
      repeat rw [sq]
      refine pI hF (fun h10 hF => ?_) (fun h10 hF => ?_)
      ·try simp [go_sem, g]
       refine pw_wk ?_
       repeat rw [sq]
       rw [pw_block]
       have g := Ls g 1
       try simp [go_sem, g]
       refine pw_wk ?_
       repeat rw [sq]
       refine pw_draw D182_5 follows (by kernel_rfl) rfl ?_
       try simp only [go_sem, D182_5]
       obtain ⟨x11, g, hF⟩ := Rx g hF
       obtain ⟨x12, g, hF⟩ := Rx g hF
       try simp [go_sem, g]
       refine pC hF [.sh, .sh] c_impl_gathered_1 (fun z13 hF => ?_)
       try simp [go_sem, g]
       refine pw_wkK [0, 1, 4, 10, 11, 12, 50] (by simp [go_sem, g]; rfl) ?_
       repeat rw [sq]
       refine pI hF (fun h14 hF => ?_) (fun h14 hF => ?_)
       ·try simp [go_sem, g]
        exact pT (hg8 (i64.wrap ((i64.wrap ((u64.wrap (i64.wrap (s5.1 + s5.2))).fdiv 2)) + 1), s5.2)) (Rn_some hF)
       ·try simp [go_sem, g]
        exact pT (hg8 (s5.1, i64.wrap ((u64.wrap (i64.wrap (s5.1 + s5.2))).fdiv 2))) (Rn_some hF)
      ·try simp [go_sem, g]
       cases ho7 _ (Rn_some hF)
       exact pT (hj2 s5.1) hψ9
    ·iterate 2 (try simp [go_sem, g]; refine pw_wk ?_)
     repeat rw [sq]
     refine pI hF (fun h40 hF => ?_) (fun h40 hF => ?_)
     ·try simp [go_sem, g]
      refine pw_wkK [0, 2, 4, 14] (by simp [go_sem, g]; rfl) ?_
      try simp [go_sem, g]
      refine pw_wk ?_
      repeat rw [sq]
      refine pJ hF (fun x43 => [(0, .v (.sl true 2 (a0.map row_ViewCount_z))), (2, .v (.int .i64 a2)), (14, .v (.int .i64 x43))]) (fun x43 hF => ?_) fun _ hj41 hF => ?_
      ·try simp [go_sem, g]
       refine pw_wk ?_
       repeat rw [sq]
       refine pJ hF (fun x58 => [(0, .v (.sl true 2 (x58.map row_ViewCount_z)))]) (fun x58 hF => ?_) fun _ hj56 hF => ?_
       ·cases hΦ _ (Rn_some hF)
        try simp [go_sem, g]
       ·repeat rw [sq]
        rw [pw_block]
        obtain ⟨b77, hb78, hψ72⟩ := hF
        refine pL hb78 (fun s68 => [(0, .v (.sl true 2 (s68.1.map row_ViewCount_z))), (14, .v (.int .i64 x43)), (17, .v (.int .i64 s68.2))]) (fun s68 _ _ ho70 hg71 hF => ?_)
        try simp [go_sem, g]
        refine pw_wk ?_
        repeat rw [sq]
        refine pI hF (fun h73 hF => ?_) (fun h73 hF => ?_)
        ·try simp [go_sem, g]
         refine pw_wk ?_
         repeat rw [sq]
         rw [pw_block]
         repeat rw [sq]
         refine pw_draw D182_23 follows (by kernel_rfl) rfl ?_
         try simp only [go_sem, D182_23]
         obtain ⟨x74, g, hF⟩ := Rx g hF
         obtain ⟨x75, g, hF⟩ := Rx g hF
         obtain ⟨x76, g, hF⟩ := Rx g hF
         try simp [go_sem, g]
         refine pw_wkK [0, 14, 17] (by simp [go_sem, g]; rfl) ?_
         try simp [go_sem, g]
         exact pT (hg71 ((s68.1.set s68.2.toNat x74).set ((i64.wrap (s68.2 - 1)).toNat) x75, i64.wrap (s68.2 - 1))) (Rn_some hF)
        ·try simp [go_sem, g]
         cases ho70 _ (Rn_some hF)
         exact pT (hj56 s68.1) hψ72
      ·repeat rw [sq]
       rw [pw_block]
       obtain ⟨b54, hb55, hψ48⟩ := hF
       refine pL hb55 (fun s44 => [(0, .v (.sl true 2 (a0.map row_ViewCount_z))), (2, .v (.int .i64 a2)), (4, .v (.func (.func 110) [] [])), (14, .v (.int .i64 s44.1)), (15, .v (.int .i64 s44.2))]) (fun s44 _ _ ho46 hg47 hF => ?_)
       try simp [go_sem, g]
       refine pw_wk ?_
       repeat rw [sq]
       refine pI hF (fun h49 hF => ?_) (fun h49 hF => ?_)
       ·try simp [go_sem, g]
        refine pw_wk ?_
        repeat rw [sq]
        rw [pw_block]
        have g := Ls g 1
        try simp [go_sem, g]
        refine pw_wkK [0, 2, 4, 14, 15, 16] (by simp [go_sem, g]; rfl) ?_
        repeat rw [sq]
        refine pw_draw D182_17 follows (by kernel_rfl) rfl ?_
        try simp only [go_sem, D182_17]
        obtain ⟨x50, g, hF⟩ := Rx g hF
        obtain ⟨x51, g, hF⟩ := Rx g hF
        try simp [go_sem, g]
        refine pC hF [.sh, .sh] c_impl_gathered_1 (fun z52 hF => ?_)
        try simp [go_sem, g]
        refine pw_wkK [0, 2, 4, 14, 15, 16, 103] (by simp [go_sem, g]; rfl) ?_
        repeat rw [sq]
        refine pI hF (fun h53 hF => ?_) (fun h53 hF => ?_)
        ·try simp [go_sem, g]
         exact pT (hg47 (i64.wrap ((i64.wrap ((u64.wrap (i64.wrap (s44.1 + s44.2))).fdiv 2)) + 1), s44.2)) (Rn_some hF)
        ·try simp [go_sem, g]
         exact pT (hg47 (s44.1, i64.wrap ((u64.wrap (i64.wrap (s44.1 + s44.2))).fdiv 2))) (Rn_some hF)
       ·try simp [go_sem, g]
        cases ho46 _ (Rn_some hF)
        exact pT (hj41 s44.1) hψ48
     ·have g := Ls g 1
      try simp [go_sem, g]
      refine pw_wk ?_
      try simp [go_sem, g]
      refine pw_wkK [0, 1, 2, 3, 4, 18] (by simp [go_sem, g]; rfl) ?_
      iterate 3 (try simp [go_sem, g]; refine pw_wk ?_)
      repeat rw [sq]
      refine pJ hF (fun x81 => [(0, .v (.sl true 2 (a0.map row_ViewCount_z))), (1, .v (.int .i64 a1)), (2, .v (.int .i64 a2)), (3, .v (.int .i64 a3)), (4, .v (.func (.func 110) [] [])), (18, .v (.int .i64 (i64.wrap ((u64.wrap (i64.wrap (a1 + a3))).fdiv 2)))), (19, .v (.int .i64 (i64.wrap ((i64.wrap ((u64.wrap (i64.wrap (a1 + a3))).fdiv 2)) + a2)))), (20, .v (.int .i64 x81.1)), (21, .v (.int .i64 x81.2))]) (fun x81 hF => ?_) fun _ hj79 hF => ?_
      ·try simp [go_sem, g]
       refine pw_wkK [0, 1, 2, 3, 4, 18, 19, 20, 21, 22] (by simp [go_sem, g]; rfl) ?_
       repeat rw [sq]
       refine pJ hF (fun x85 => [(0, .v (.sl true 2 (a0.map row_ViewCount_z))), (1, .v (.int .i64 a1)), (2, .v (.int .i64 a2)), (3, .v (.int .i64 a3)), (4, .v (.func (.func 110) [] [])), (18, .v (.int .i64 (i64.wrap ((u64.wrap (i64.wrap (a1 + a3))).fdiv 2)))), (19, .v (.int .i64 (i64.wrap ((i64.wrap ((u64.wrap (i64.wrap (a1 + a3))).fdiv 2)) + a2)))), (20, .v (.int .i64 x85))]) (fun x85 hF => ?_) fun _ hj83 hF => ?_
       ·try simp [go_sem, g]
        refine pw_wk ?_
        repeat rw [sq]
        refine pJ hF (fun x100 => [(0, .v (.sl true 2 (a0.map row_ViewCount_z))), (1, .v (.int .i64 a1)), (2, .v (.int .i64 a2)), (3, .v (.int .i64 a3)), (4, .v (.func (.func 110) [] [])), (18, .v (.int .i64 (i64.wrap ((u64.wrap (i64.wrap (a1 + a3))).fdiv 2)))), (20, .v (.int .i64 x85)), (24, .v (.int .i64 (i64.wrap ((i64.wrap ((i64.wrap ((u64.wrap (i64.wrap (a1 + a3))).fdiv 2)) + a2)) - x85)))), (185, .v (.bool x100))]) (fun x100 hF => ?_) fun _ hj98 hF => ?_
        ·repeat rw [sq]
         refine pJ hF (fun x104 => [(0, .v (.sl true 2 (x104.map row_ViewCount_z))), (1, .v (.int .i64 a1)), (3, .v (.int .i64 a3)), (4, .v (.func (.func 110) [] [])), (18, .v (.int .i64 (i64.wrap ((u64.wrap (i64.wrap (a1 + a3))).fdiv 2)))), (20, .v (.int .i64 x85)), (24, .v (.int .i64 (i64.wrap ((i64.wrap ((i64.wrap ((u64.wrap (i64.wrap (a1 + a3))).fdiv 2)) + a2)) - x85))))]) (fun x104 hF => ?_) fun _ hj102 hF => ?_
         ·repeat rw [sq]
          refine pJ hF (fun x109 => [(0, .v (.sl true 2 (x104.map row_ViewCount_z))), (1, .v (.int .i64 a1)), (3, .v (.int .i64 a3)), (4, .v (.func (.func 110) [] [])), (18, .v (.int .i64 (i64.wrap ((u64.wrap (i64.wrap (a1 + a3))).fdiv 2)))), (20, .v (.int .i64 x85)), (24, .v (.int .i64 (i64.wrap ((i64.wrap ((i64.wrap ((u64.wrap (i64.wrap (a1 + a3))).fdiv 2)) + a2)) - x85)))), (199, .v (.bool x109))]) (fun x109 hF => ?_) fun _ hj107 hF => ?_
          ·repeat rw [sq]
           refine pJ hF (fun x113 => [(0, .v (.sl true 2 (x113.map row_ViewCount_z))), (3, .v (.int .i64 a3)), (4, .v (.func (.func 110) [] [])), (18, .v (.int .i64 (i64.wrap ((u64.wrap (i64.wrap (a1 + a3))).fdiv 2)))), (24, .v (.int .i64 (i64.wrap ((i64.wrap ((i64.wrap ((u64.wrap (i64.wrap (a1 + a3))).fdiv 2)) + a2)) - x85))))]) (fun x113 hF => ?_) fun _ hj111 hF => ?_
           ·repeat rw [sq]
            refine pJ hF (fun x118 => [(0, .v (.sl true 2 (x113.map row_ViewCount_z))), (3, .v (.int .i64 a3)), (4, .v (.func (.func 110) [] [])), (18, .v (.int .i64 (i64.wrap ((u64.wrap (i64.wrap (a1 + a3))).fdiv 2)))), (24, .v (.int .i64 (i64.wrap ((i64.wrap ((i64.wrap ((u64.wrap (i64.wrap (a1 + a3))).fdiv 2)) + a2)) - x85)))), (213, .v (.bool x118))]) (fun x118 hF => ?_) fun _ hj116 hF => ?_
            ·repeat rw [sq]
             refine pI hF (fun h120 hF => ?_) (fun h120 hF => ?_)
             ·try simp [go_sem, g]
              refine pC hF [.io, .sh, .sh, .sh, .sh] ih (fun z121 hF => ?_)
              cases hΦ _ (Rn_some hF)
              try simp [go_sem, g]
             ·cases hΦ _ (Rn_some hF)
              try simp [go_sem, g]
            ·try simp [go_sem, g]
             refine pwg_F hF (fun h119 hF => ?_) fun h119 hF => ?_
             ·try simp [go_sem, g, h119]
              exact pT (hj116 (decide ((i64.wrap ((i64.wrap ((i64.wrap ((u64.wrap (i64.wrap (a1 + a3))).fdiv 2)) + a2)) - x85)) < a3))) (Rn_some hF)
             ·try simp [go_sem, g, h119]
              exact pT (hj116 false) (Rn_some hF)
           ·repeat rw [sq]
            refine pI hF (fun h114 hF => ?_) (fun h114 hF => ?_)
            ·try simp [go_sem, g]
             refine pC hF [.io, .sh, .sh, .sh, .sh] ih (fun z115 hF => ?_)
             try simp [go_sem, g]
             exact pT (hj111 z115) (Rn_some hF)
            ·try simp [go_sem, g]
             exact pT (hj111 x104) (Rn_some hF)
          ·try simp [go_sem, g]
           refine pwg_F hF (fun h110 hF => ?_) fun h110 hF => ?_
           ·try simp [go_sem, g, h110]
            exact pT (hj107 (decide (x85 < (i64.wrap ((u64.wrap (i64.wrap (a1 + a3))).fdiv 2))))) (Rn_some hF)
           ·try simp [go_sem, g, h110]
            exact pT (hj107 false) (Rn_some hF)
         ·repeat rw [sq]
          refine pI hF (fun h105 hF => ?_) (fun h105 hF => ?_)
          ·try simp [go_sem, g]
           refine pC hF [.io, .sh, .sh, .sh, .sh] c_slices_rotateCmpFunc_impl_ViewCount__io0_impl_gathered_1 (fun z106 hF => ?_)
           try simp [go_sem, g]
           exact pT (hj102 z106) (Rn_some hF)
          ·try simp [go_sem, g]
           exact pT (hj102 a0) (Rn_some hF)
        ·try simp [go_sem, g]
         refine pwg_F hF (fun h101 hF => ?_) fun h101 hF => ?_
         ·try simp [go_sem, g, h101]
          exact pT (hj98 (decide (a2 < (i64.wrap ((i64.wrap ((i64.wrap ((u64.wrap (i64.wrap (a1 + a3))).fdiv 2)) + a2)) - x85))))) (Rn_some hF)
         ·try simp [go_sem, g, h101]
          exact pT (hj98 false) (Rn_some hF)
       ·repeat rw [sq]
        rw [pw_block]
        obtain ⟨b96, hb97, hψ90⟩ := hF
        refine pL hb97 (fun s86 => [(0, .v (.sl true 2 (a0.map row_ViewCount_z))), (1, .v (.int .i64 a1)), (2, .v (.int .i64 a2)), (3, .v (.int .i64 a3)), (4, .v (.func (.func 110) [] [])), (18, .v (.int .i64 (i64.wrap ((u64.wrap (i64.wrap (a1 + a3))).fdiv 2)))), (19, .v (.int .i64 (i64.wrap ((i64.wrap ((u64.wrap (i64.wrap (a1 + a3))).fdiv 2)) + a2)))), (20, .v (.int .i64 s86.1)), (21, .v (.int .i64 s86.2)), (22, .v (.int .i64 (i64.wrap ((i64.wrap ((i64.wrap ((u64.wrap (i64.wrap (a1 + a3))).fdiv 2)) + a2)) - 1))))]) (fun s86 _ _ ho88 hg89 hF => ?_)
        try simp [go_sem, g]
        refine pw_wk ?_
        repeat rw [sq]
        refine pI hF (fun h91 hF => ?_) (fun h91 hF => ?_)
        ·try simp [go_sem, g]
         refine pw_wk ?_
         repeat rw [sq]
         rw [pw_block]
         try simp [go_sem, g]
         refine pw_wkK [0, 1, 2, 3, 4, 18, 19, 20, 21, 22, 23] (by simp [go_sem, g]; rfl) ?_
         repeat rw [sq]
         refine pw_draw D182_35 follows (by kernel_rfl) rfl ?_
         try simp only [go_sem, D182_35]
         obtain ⟨x92, g, hF⟩ := Rx g hF
         obtain ⟨x93, g, hF⟩ := Rx g hF
         try simp [go_sem, g]
         refine pC hF [.sh, .sh] c_impl_gathered_1 (fun z94 hF => ?_)
         try simp [go_sem, g]
         refine pw_wkK [0, 1, 2, 3, 4, 18, 19, 20, 21, 22, 23, 171] (by simp [go_sem, g]; rfl) ?_
         repeat rw [sq]
         refine pI hF (fun h95 hF => ?_) (fun h95 hF => ?_)
         ·try simp [go_sem, g]
          exact pT (hg89 (i64.wrap ((i64.wrap ((u64.wrap (i64.wrap (s86.1 + s86.2))).fdiv 2)) + 1), s86.2)) (Rn_some hF)
         ·try simp [go_sem, g]
          exact pT (hg89 (s86.1, i64.wrap ((u64.wrap (i64.wrap (s86.1 + s86.2))).fdiv 2))) (Rn_some hF)
        ·try simp [go_sem, g]
         cases ho88 _ (Rn_some hF)
         exact pT (hj83 s86.1) hψ90
      ·repeat rw [sq]
       refine pI hF (fun h82 hF => ?_) (fun h82 hF => ?_)
       ·try simp [go_sem, g]
        refine pw_wkK [0, 1, 2, 3, 4, 18, 19, 20] (by simp [go_sem, g]; rfl) ?_
        try simp [go_sem, g]
        exact pT (hj79 (i64.wrap ((i64.wrap ((i64.wrap ((u64.wrap (i64.wrap (a1 + a3))).fdiv 2)) + a2)) - a3), i64.wrap ((u64.wrap (i64.wrap (a1 + a3))).fdiv 2))) (Rn_some hF)
       ·try simp [go_sem, g]
        refine pw_wkK [0, 1, 2, 3, 4, 18, 19, 20] (by simp [go_sem, g]; rfl) ?_
        try simp [go_sem, g]
        exact pT (hj79 (a1, a2)) (Rn_some hF)
theorem c_slices_symMergeCmpFunc_impl_ViewCount__io0_impl_gathered_1 {a0 : (List ViewCount)} {a1 : Int} {a2 : Int} {a3 : Int} {r : (List ViewCount)} (hr : F_slices_symMergeCmpFunc_impl_ViewCount__io0_impl_gathered_1 a0 a1 a2 a3 = some r) : PCalls Try.prog 182 [(.io, .sl true 2 (a0.map row_ViewCount_z)), (.sh, .int .i64 a1), (.sh, .int .i64 a2), (.sh, .int .i64 a3), (.sh, .func (.func 110) [] [])] (Eo (.junk) [.sl true 2 (r.map row_ViewCount_z), .junk, .junk, .junk, .junk]) := by
  obtain ⟨n_, hn⟩ := frec_some hr
  exact c_slices_symMergeCmpFunc_impl_ViewCount__io0_impl_gathered_1_r hn
noncomputable def F_slices_stableCmpFunc_impl_ViewCount__io0_impl_gathered_1 (a0 : (List ViewCount)) (a1 : Int) : Option ((List ViewCount)) :=
  ((wloop (σ := (List ViewCount) × Int × Int) (fun s11 =>
  if decide (s11.2.2 ≤ a1) = true then (
  (F_slices_insertionSortCmpFunc_impl_ViewCount__io0_impl_gathered_1 s11.1 s11.2.1 s11.2.2).bind fun z17 =>
  some (.go (z17, s11.2.2, i64.wrap (s11.2.2 + 20)))) else (
  some (.out (s11.1, s11.2.1)))) (a0, 0, 20) : Option (((List ViewCount) × Int))).bind fun x3 =>
  (F_slices_insertionSortCmpFunc_impl_ViewCount__io0_impl_gathered_1 x3.1 x3.2 a1).bind fun z20 =>
  wloop (σ := (List ViewCount) × Int) (fun s51 =>
  if decide (s51.2 < a1) = true then (
  ((wloop (σ := (List ViewCount) × Int × Int) (fun s67 =>
  if decide (s67.2.2 ≤ a1) = true then (
  (F_slices_symMergeCmpFunc_impl_ViewCount__io0_impl_gathered_1 s67.1 s67.2.1 (i64.wrap (s67.2.1 + s51.2)) s67.2.2).bind fun z73 =>
  some (.go (z73, s67.2.2, i64.wrap (s67.2.2 + (i64.wrap (2 * s51.2)))))) else (
  some (.out (s67.1, s67.2.1)))) (s51.1, 0, i64.wrap (2 * s51.2)) : Option (((List ViewCount) × Int))).bind fun x59 =>
  ((if decide ((i64.wrap (x59.2 + s51.2)) < a1) = true then (
  (F_slices_symMergeCmpFunc_impl_ViewCount__io0_impl_gathered_1 x59.1 x59.2 (i64.wrap (x59.2 + s51.2)) a1).bind fun z80 =>
  some z80) else (
  some x59.1) : Option ((List ViewCount))).bind fun x78 =>
  some (.go (x78, i64.wrap (s51.2 * 2)))))) else (
  some (.out s51.1))) (z20, 20))
theorem c_slices_stableCmpFunc_impl_ViewCount__io0_impl_gathered_1 : ∀ {a0} {a1} {r}, F_slices_stableCmpFunc_impl_ViewCount__io0_impl_gathered_1 a0 a1 = some r → PCalls Try.prog 150 [(.io, .sl true 2 (a0.map row_ViewCount_z)), (.sh, .int .i64 a1), (.sh, .func (.func 110) [] [])] (Eo (.junk) [.sl true 2 (r.map row_ViewCount_z), .junk, .junk]) := by
  intro a0 a1 r hr
  apply pF 63 [0] [] [] [] hr cl150 Try.func150
  intro Φ hΦ hF g
  unfold F_slices_stableCmpFunc_impl_ViewCount__io0_impl_gathered_1 at hF
  iterate 2 (try simp [go_sem, g]; refine pw_wk ?_)
  repeat rw [sq]
  refine pJ hF (fun x3 => [(0, .v (.sl true 2 (x3.1.map row_ViewCount_z))), (1, .v (.int .i64 a1)), (2, .v (.func (.func 110) [] [])), (6, .v (.int .i64 20)), (7, .v (.int .i64 x3.2))]) (fun x3 hF => ?_) fun _ hj1 hF => ?_
  ·try simp [go_sem, g]
   refine pC hF [.io, .sh, .sh, .sh] c_slices_insertionSortCmpFunc_impl_ViewCount__io0_impl_gathered_1 (fun z20 hF => ?_)
   try simp [go_sem, g]
   refine pw_wk ?_
   repeat rw [sq]
   rw [pw_block]
   obtain ⟨b81, hb82, hψ55⟩ := hF
   refine pL hb82 (fun s51 => [(0, .v (.sl true 2 (s51.1.map row_ViewCount_z))), (1, .v (.int .i64 a1)), (2, .v (.func (.func 110) [] [])), (6, .v (.int .i64 s51.2))]) (fun s51 _ _ ho53 hg54 hF => ?_)
   try simp [go_sem, g]
   refine pw_wkK [0, 1, 2, 6, 30] (by simp [go_sem, g]; rfl) ?_
   repeat rw [sq]
   refine pI hF (fun h56 hF => ?_) (fun h56 hF => ?_)
   ·try simp [go_sem, g]
    refine pw_wk ?_
    repeat rw [sq]
    rw [pw_block]
    try simp [go_sem, g]
    refine pw_wk ?_
    repeat rw [sq]
    refine pJ hF (fun x59 => [(0, .v (.sl true 2 (x59.1.map row_ViewCount_z))), (1, .v (.int .i64 a1)), (2, .v (.func (.func 110) [] [])), (6, .v (.int .i64 s51.2)), (7, .v (.int .i64 x59.2))]) (fun x59 hF => ?_) fun _ hj57 hF => ?_
    ·try simp [go_sem, g]
     refine pw_wk ?_
     try simp [go_sem, g]
     refine pw_wkK [0, 1, 2, 6, 7, 9, 54] (by simp [go_sem, g]; rfl) ?_
     repeat rw [sq]
     refine pJ hF (fun x78 => [(0, .v (.sl true 2 (x78.map row_ViewCount_z))), (1, .v (.int .i64 a1)), (2, .v (.func (.func 110) [] [])), (6, .v (.int .i64 s51.2))]) (fun x78 hF => ?_) fun _ hj76 hF => ?_
     ·try simp [go_sem, g]
      exact pT (hg54 (x78, i64.wrap (s51.2 * 2))) (Rn_some hF)
     ·repeat rw [sq]
      refine pI hF (fun h79 hF => ?_) (fun h79 hF => ?_)
      ·try simp [go_sem, g]
       refine pC hF [.io, .sh, .sh, .sh, .sh] c_slices_symMergeCmpFunc_impl_ViewCount__io0_impl_gathered_1 (fun z80 hF => ?_)
       try simp [go_sem, g]
       exact pT (hj76 z80) (Rn_some hF)
      ·try simp [go_sem, g]
       exact pT (hj76 x59.1) (Rn_some hF)
    ·repeat rw [sq]
     rw [pw_block]
     obtain ⟨b74, hb75, hψ71⟩ := hF
     refine pL hb75 (fun s67 => [(0, .v (.sl true 2 (s67.1.map row_ViewCount_z))), (1, .v (.int .i64 a1)), (2, .v (.func (.func 110) [] [])), (6, .v (.int .i64 s51.2)), (7, .v (.int .i64 s67.2.1)), (8, .v (.int .i64 s67.2.2))]) (fun s67 _ _ ho69 hg70 hF => ?_)
     try simp [go_sem, g]
     refine pw_wk ?_
     repeat rw [sq]
     refine pI hF (fun h72 hF => ?_) (fun h72 hF => ?_)
     ·try simp [go_sem, g]
      refine pw_wk ?_
      repeat rw [sq]
      rw [pw_block]
      try simp [go_sem, g]
      refine pC hF [.io, .sh, .sh, .sh, .sh] c_slices_symMergeCmpFunc_impl_ViewCount__io0_impl_gathered_1 (fun z73 hF => ?_)
      try simp [go_sem, g]
      refine pw_wkK [0, 1, 2, 6, 8] (by simp [go_sem, g]; rfl) ?_
      try simp [go_sem, g]
      refine pw_wk ?_
      try simp [go_sem, g]
      exact pT (hg70 (z73, s67.2.2, i64.wrap (s67.2.2 + (i64.wrap (2 * s51.2))))) (Rn_some hF)
     ·try simp [go_sem, g]
      cases ho69 _ (Rn_some hF)
      exact pT (hj57 (s67.1, s67.2.1)) hψ71
   ·cases ho53 _ (Rn_some hF)
    cases hΦ _ hψ55
    try simp [go_sem, g]
  ·repeat rw [sq]
   rw [pw_block]
   obtain ⟨b18, hb19, hψ15⟩ := hF
   refine pL hb19 (fun s11 => [(0, .v (.sl true 2 (s11.1.map row_ViewCount_z))), (1, .v (.int .i64 a1)), (2, .v (.func (.func 110) [] [])), (6, .v (.int .i64 20)), (7, .v (.int .i64 s11.2.1)), (8, .v (.int .i64 s11.2.2))]) (fun s11 _ _ ho13 hg14 hF => ?_)
   try simp [go_sem, g]
   refine pw_wk ?_
   repeat rw [sq]
   refine pI hF (fun h16 hF => ?_) (fun h16 hF => ?_)
   ·try simp [go_sem, g]
    refine pw_wk ?_
    repeat rw [sq]
    rw [pw_block]
    try simp [go_sem, g]
    refine pC hF [.io, .sh, .sh, .sh] c_slices_insertionSortCmpFunc_impl_ViewCount__io0_impl_gathered_1 (fun z17 hF => ?_)
    try simp [go_sem, g]
    refine pw_wkK [0, 1, 2, 6, 8] (by simp [go_sem, g]; rfl) ?_
    try simp [go_sem, g]
    refine pw_wk ?_
    try simp [go_sem, g]
    exact pT (hg14 (z17, s11.2.2, i64.wrap (s11.2.2 + 20))) (Rn_some hF)
   ·try simp [go_sem, g]
    cases ho13 _ (Rn_some hF)
    exact pT (hj1 (s11.1, s11.2.1)) hψ15
noncomputable def F_slices_SortStableFunc_impl_ViewCount_impl_ViewCount__io0_impl_gathered_1 (a0 : (List ViewCount)) : Option ((List ViewCount)) :=
  (F_slices_stableCmpFunc_impl_ViewCount__io0_impl_gathered_1 a0 (a0.length : Int)).bind fun z1 =>
  some z1
theorem c_slices_SortStableFunc_impl_ViewCount_impl_ViewCount__io0_impl_gathered_1 : ∀ {a0} {r}, F_slices_SortStableFunc_impl_ViewCount_impl_ViewCount__io0_impl_gathered_1 a0 = some r → PCalls Try.prog 109 [(.io, .sl true 2 (a0.map row_ViewCount_z)), (.sh, .func (.func 110) [] [])] (Eo (.junk) [.sl true 2 (r.map row_ViewCount_z), .junk]) := by
  intro a0 r hr
  apply pF 9 [0] [] [] [] hr cl109 Try.func109
  intro Φ hΦ hF g
  unfold F_slices_SortStableFunc_impl_ViewCount_impl_ViewCount__io0_impl_gathered_1 at hF
  try simp [go_sem, g]
  try intros
  refine pC hF [.io, .sh, .sh] c_slices_stableCmpFunc_impl_ViewCount__io0_impl_gathered_1 (fun z1 hF => ?_)
  cases hΦ _ (Rn_some hF)
  try simp [go_sem, g]
def D111_6 : List DE := [⟨0, [0], [], none, false, false, false⟩, ⟨1, [5], [], none, false, false, false⟩, ⟨2, [16, 17], [], none, false, false, false⟩, ⟨3, [18], [], none, false, false, false⟩, ⟨4, [1], [], none, false, false, false⟩, ⟨5, [5], [], none, false, false, false⟩, ⟨6, [20, 21], [], none, false, false, false⟩, ⟨7, [22], [], none, false, false, false⟩, ⟨8, [19, 23], [], none, false, false, false⟩]
noncomputable def F_slices_Equal_int_int (a0 : (List Int)) (a1 : (List Int)) : Option (Bool) :=
  if ((a0.length : Int) != (a1.length : Int)) = true then (
  some false) else (
  ((rloop (σ := Unit) (fun i6 s5 =>
  (ix a0 i6).bind fun x12 =>
  (ix a1 i6).bind fun x13 =>
  if (x12 != x13) = true then (
  some (.out (.inr false))) else (
  some (.go ()))) (fun s5 => .inl ()) (a0.length) 0 () : Option (Unit ⊕ Bool)).bind (Sum.elim (fun x4 =>
  some true) some)))
theorem c_slices_Equal_int_int : ∀ {a0} {a1} {r}, F_slices_Equal_int_int a0 a1 = some r → PCalls Try.prog 111 [(.sh, .sl false 1 (a0.map row_i64)), (.sh, .sl false 1 (a1.map row_i64))] (Eo (.bool r) [.junk, .junk]) := by
  intro a0 a1 r hr
  apply pF 26 [] [] [] [.tmp 4] hr cl111 Try.func111
  intro Φ hΦ hF g
  unfold F_slices_Equal_int_int at hF
  iterate 2 (try simp [go_sem, g]; try intros; refine pw_wk ?_)
  repeat rw [sq]
  refine pI hF (fun h1 hF => ?_) (fun h1 hF => ?_)
  ·cases hΦ _ (Rn_some hF)
   try simp [go_sem, g]
   refine pw_wk ?_
   try simp [go_sem, g]
  ·iterate 2 (try simp [go_sem, g]; try intros; refine pw_wk ?_)
   repeat rw [sq]
   refine pJs hF (fun x4 => []) (fun x4 hF => ?_) fun _ hj2 hr3 hF => ?_
   ·try simp [go_sem, g]
    refine pw_wkK [4] (by simp [go_sem, g]; rfl) ?_
    cases hΦ _ (Rn_some hF)
    try simp [go_sem, g]
   ·repeat rw [sq]
    rw [pw_block]
    obtain ⟨b15, hb16, hψ9⟩ := hF
    refine pR hb16 (fun i6 s5 => [(0, .v (.sl false 1 (a0.map row_i64))), (1, .v (.sl false 1 (a1.map row_i64))), (12, .v (.int .i64 (a0.length : Int))), (13, .v (.int .i64 i6))]) (fun s5 _ hN17 => ?_) (fun i6 s5 _ _ hi10 hi11 ho7 hg8 hF => ?_)
    ·subst hN17
     try simp [go_sem]
     refine pw_wk ?_
     repeat rw [sq]
     refine pw_cond_f (by simp [go_sem]) ?_
     try simp [go_sem]
     exact pT (hj2 ()) hψ9 (by simp [go_sem])
    ·try simp [go_sem, g]
     refine pw_wkK [0, 1, 12, 13, 14] (by simp [go_sem, g]; rfl) ?_
     repeat rw [sq]
     refine pw_cond_t (by simp [go_sem, g, hi10, hi11]) ?_
     try simp [go_sem, g]
     refine pw_wk ?_
     repeat rw [sq]
     rw [pw_block]
     try simp [go_sem, g]
     refine pw_wk ?_
     repeat rw [sq]
     refine pw_draw D111_6 follows (by kernel_rfl) rfl ?_
     try simp only [go_sem, D111_6]
     obtain ⟨x12, g, hF⟩ := Rx g hF
     obtain ⟨x13, g, hF⟩ := Rx g hF
     try simp [go_sem, g]
     refine pw_wkK [0, 1, 12, 13, 24] (by simp [go_sem, g]; rfl) ?_
     repeat rw [sq]
     refine pI hF (fun h14 hF => ?_) (fun h14 hF => ?_)
     ·cases ho7 _ (Rn_some hF)
      cases hΦ _ (hr3 _ hψ9)
      try simp [go_sem, g]
      refine pw_wk ?_
      try simp [go_sem, g]
     ·try simp [go_sem, g]
      refine pw_wk ?_
      try simp [go_sem, g]
      exact pT (hg8 ()) (Rn_some hF) (by simp [go_sem, g, wr_i hi10 hi11 (by assumption)])
noncomputable def F_slices_Clone_int_int (a0 : (List Int)) : Option (List Int) :=
  gd (a0.length * 8 ≤ 140737488355328 ∧ a0.length ≤ 4611686018427387904) <|
  some a0
theorem c_slices_Clone_int_int {a0 : (List Int)} {r : (List Int)} (hr : F_slices_Clone_int_int a0 = some r) : PCalls Try.prog 98 [(.sh, .sl false 1 (a0.map row_i64))] (Eo (.sl true 1 (r.map row_i64)) [.junk]) := by
  apply pcalls_lf 8 [] [] [1000000] [.tmp 2] hr cl98 Try.func98 rfl rfl rfl
  · exact ⟨by simp, rfl⟩
  intro Φ hΦ hF
  unfold F_slices_Clone_int_int at hF
  obtain ⟨g, hF⟩ := Rn_gd hF
  have h1 := hΦ _ (Rn_some hF)
  subst h1
  try simp [go_sem]
  refine pw_wkL [(0, .v (.sl false 1 (a0.map row_i64)))] (by simp [go_sem]) ?_
  try simp [go_sem]
  refine pw1_nil rfl rfl (by simp [go_sem]) rfl (by rfl) fun b hb => ?_
  try simp [go_sem]
  refine pw_wk ?_
  repeat rw [pw_seq]
  cases b
  · refine pw_cond_f (by simp [go_sem]) ?_
    try simp [go_sem]
    refine pw_wk ?_
    try simp [go_sem, g]
    refine pw_wk ?_
    try simp [go_sem, g]
  · have hb0 : a0 = [] := by
      cases a0 with
      | nil => rfl
      | cons x l => exact absurd (hb (by simp)) (by simp)
    subst hb0
    refine pw_cond_t (by simp [go_sem]) ?_
    try simp [go_sem]
    refine pw_wk ?_
    try simp [go_sem]
def D54_10 : List DE := [⟨0, [5], [], none, false, false, false⟩, ⟨1, [7], [7], none, false, false, false⟩, ⟨2, [46], [7], some 46, false, false, false⟩, ⟨4, [7], [7], none, false, false, false⟩, ⟨5, [49], [7], some 49, false, false, false⟩, ⟨3, [47], [], none, false, true, true⟩, ⟨6, [48, 50], [], none, false, false, false⟩, ⟨7, [51], [], none, false, false, false⟩, ⟨8, [45, 52], [], none, true, false, false⟩, ⟨9, [53], [], none, false, false, false⟩]
def D54_8 : List DE := [⟨0, [8], [], none, false, false, false⟩, ⟨1, [23], [], none, false, false, false⟩, ⟨2, [24], [], none, false, false, false⟩, ⟨3, [5, 25], [], none, false, false, false⟩, ⟨4, [8, 25], [], none, false, false, false⟩, ⟨5, [26, 27, 25], [], none, false, false, false⟩, ⟨6, [28, 25], [], none, false, false, false⟩, ⟨7, [29, 25], [], none, false, false, false⟩, ⟨8, [7, 25], [7], none, false, false, false⟩, ⟨9, [31, 25], [7], some 31, false, false, false⟩, ⟨10, [30, 32, 25], [], none, false, true, true⟩, ⟨11, [25, 33], [], none, false, false, false⟩]
def D54_9 : List DE := [⟨0, [5], [], none, false, false, false⟩, ⟨1, [8], [], none, false, false, false⟩, ⟨2, [35, 36], [], none, false, false, false⟩, ⟨3, [37], [], none, false, false, false⟩, ⟨4, [38], [], none, false, false, false⟩, ⟨5, [7], [7], none, false, false, false⟩, ⟨6, [40], [7], some 40, false, false, false⟩, ⟨7, [39, 41], [], none, false, false, false⟩, ⟨8, [35, 36], [], none, false, false, false⟩, ⟨9, [43], [], none, false, false, false⟩, ⟨10, [44, 42], [], none, false, false, false⟩]
noncomputable def F_impl_gathered (a0 : (List ViewCount)) : Option ((List ViewCount) × Bool) :=
  (F_slices_Clone_impl_ViewCount_impl_ViewCount a0).bind fun z1 =>
  (F_slices_SortStableFunc_impl_ViewCount_impl_ViewCount__io0_impl_gathered_1 z1).bind fun z2 =>
  ((rloop (σ := (List ViewCount)) (fun i27 s26 =>
  (((ix z2 i27).bind fun x36 =>
  ((if decide (0 ≤ (i64.wrap ((s26.length : Int) - 1))) = true then (
  (ix s26 (i64.wrap ((s26.length : Int) - 1))).bind fun x41 =>
  (F_slices_Equal_int_int x41.View x36.View).bind fun z42 =>
  some z42) else (
  some false) : Option (Bool)).bind fun x39 =>
  if x39 = true then (
  (ix s26 (i64.wrap ((s26.length : Int) - 1))).bind fun x44 =>
  some (s26.set ((i64.wrap ((s26.length : Int) - 1)).toNat) (ViewCount.mk x44.View (i64.wrap (x44.Times + x36.Times))))) else (
  (F_slices_Clone_int_int x36.View).bind fun z45 =>
  gd ((s26.length + 1) * 32 ≤ 140737488355328 ∧ s26.length + 1 ≤ 4611686018427387904) <|
  some (s26 ++ [(ViewCount.mk z45 x36.Times)]))) : Option ((List ViewCount))).bind fun x35 =>
  some (.go x35))) (fun s26 => s26) (z2.length) 0 [] : Option ((List ViewCount))).bind fun x5 =>
  (F_impl_isCount x5).bind fun z50 =>
  if (!z50) = true then (
  some ([], false)) else (
  some (x5, true)))
theorem c_impl_gathered : ∀ {a0} {r}, F_impl_gathered a0 = some r → PCalls Try.prog 54 [(.sh, .sl false 2 (a0.map row_ViewCount_z))] (Eo (.tup [.sl true 2 (r.1.map row_ViewCount_o), .bool r.2]) [.junk]) := by
  intro a0 r hr
  apply pF 59 [] [] [] [.tmp 2, .tmp 3] hr cl54 Try.func54
  intro Φ hΦ hF g
  unfold F_impl_gathered at hF
  try simp [go_sem, g]
  refine pw_wk ?_
  try simp [go_sem, g]
  refine pC hF [.sh] c_slices_Clone_impl_ViewCount_impl_ViewCount (fun z1 hF => ?_)
  try simp [go_sem, g]
  refine pw_wk ?_
  try simp [go_sem, g]
  refine pC hF [.io, .sh] c_slices_SortStableFunc_impl_ViewCount_impl_ViewCount__io0_impl_gathered_1 (fun z2 hF => ?_)
  iterate 2 (try simp [go_sem, g]; try intros; refine pw_wk ?_)
  try simp [go_sem, g]
  try intros
  refine pw_wkK [4, 5, 14, 15, 16] (by simp [go_sem, g]; rfl) ?_
  repeat rw [sq]
  refine pJ hF (fun x5 => [(5, .v (.sl true 2 (x5.map row_ViewCount_o)))]) (fun x5 hF => ?_) fun _ hj3 hF => ?_
  ·try simp [go_sem, g]
   refine pC hF [.sh] c_impl_isCount (fun z50 hF => ?_)
   try simp [go_sem, g]
   refine pw_wk ?_
   repeat rw [sq]
   refine pI hF (fun h51 hF => ?_) (fun h51 hF => ?_)
   ·cases hΦ _ (Rn_some hF)
    try simp [go_sem, g]
    refine pw_wk ?_
    try simp [go_sem, g]
   ·cases hΦ _ (Rn_some hF)
    iterate 2 (try simp [go_sem, g]; refine pw_wk ?_)
    try simp [go_sem, g]
  ·repeat rw [sq]
   rw [pw_block]
   obtain ⟨b46, hb47, hψ30⟩ := hF
   refine pR hb47 (fun i27 s26 => [(4, .v (.sl true 2 (z2.map row_ViewCount_z))), (5, .v (.sl true 2 (s26.map row_ViewCount_o))), (14, .rf 4 []), (15, .v (.int .i64 (z2.length : Int))), (16, .v (.int .i64 i27))]) (fun s26 _ hN48 => ?_) (fun i27 s26 _ _ hi31 hi32 ho28 hg29 hF => ?_)
   ·subst hN48
    try simp [go_sem]
    refine pw_wk ?_
    repeat rw [sq]
    refine pw_cond_f (by simp [go_sem]) ?_
    try simp [go_sem]
    exact pT (hj3 s26) hψ30 (by simp [go_sem])
   ·try simp [go_sem, g]
    refine pw_wk ?_
    repeat rw [sq]
    refine pw_cond_t (by simp [go_sem, g, hi31, hi32]) ?_
    try simp [go_sem, g]
    refine pw_wk ?_
    repeat rw [sq]
    refine pJ hF (fun x35 => [(4, .v (.sl true 2 (z2.map row_ViewCount_z))), (5, .v (.sl true 2 (x35.map row_ViewCount_o))), (14, .rf 4 []), (15, .v (.int .i64 (z2.length : Int))), (16, .v (.int .i64 i27))]) (fun x35 hF => ?_) fun _ hj33 hF => ?_
    ·try simp [go_sem, g]
     exact pT (hg29 x35) (Rn_some hF) (by simp [go_sem, g, wr_i hi31 hi32 (by assumption)])
    ·repeat rw [sq]
     rw [pw_block]
     obtain ⟨x36, g, hF⟩ := Rx g hF
     iterate 2 (try simp [go_sem, g]; try intros; refine pw_wk ?_)
     repeat rw [sq]
     refine pJ hF (fun x39 => [(4, .v (.sl true 2 (z2.map row_ViewCount_z))), (5, .v (.sl true 2 (s26.map row_ViewCount_o))), (7, .bl [.sl false 1 (x36.View.map row_i64), .int .i64 x36.Times]), (8, .v (.int .i64 (i64.wrap ((s26.length : Int) - 1)))), (14, .rf 4 []), (15, .v (.int .i64 (z2.length : Int))), (16, .v (.int .i64 i27)), (34, .v (.bool x39))]) (fun x39 hF => ?_) fun _ hj37 hF => ?_
     ·repeat rw [sq]
      refine pI hF (fun h43 hF => ?_) (fun h43 hF => ?_)
      ·repeat rw [sq]
       refine pw_draw D54_9 follows (by kernel_rfl) rfl ?_
       try simp only [go_sem, D54_9]
       obtain ⟨x44, g, hF⟩ := Rx g hF
       try simp [go_sem, g]
       exact pT (hj33 (s26.set ((i64.wrap ((s26.length : Int) - 1)).toNat) (ViewCount.mk x44.View (i64.wrap (x44.Times + x36.Times))))) (Rn_some hF)
      ·repeat rw [sq]
       refine pw_draw D54_10 follows (by kernel_rfl) rfl ?_
       try simp only [go_sem, D54_10]
       try simp [go_sem, g]
       refine pC hF [.sh] c_slices_Clone_int_int (fun z45 hF => ?_)
       obtain ⟨g, hF⟩ := Rg g hF
       try simp [go_sem, g]
       exact pT (hj33 (s26 ++ [(ViewCount.mk z45 x36.Times)])) (Rn_some hF)
     ·repeat rw [sq]
      refine pw_draw D54_8 follows (by kernel_rfl) rfl ?_
      try simp only [go_sem, D54_8]
      try simp [go_sem, g]
      refine pwgD_F hF (fun h40 hF => ?_) fun h40 hF => ?_
      ·obtain ⟨x41, g, hF⟩ := Rx g hF
       try simp [go_sem, g, h40]
       refine pC hF [.sh, .sh] c_slices_Equal_int_int (fun z42 hF => ?_)
       try simp [go_sem, g, h40]
       exact pT (hj37 z42) (Rn_some hF)
      ·try simp [go_sem, g, h40]
       exact pT (hj37 false) (Rn_some hF)
noncomputable def F_impl_MergeCounts (a0 : (List ViewCount)) (a1 : (List ViewCount)) : Option ((List ViewCount) × Bool) :=
  (((F_impl_isCount a0).bind fun z4 =>
  if (!z4) = true then (
  some true) else (
  (F_impl_isCount a1).bind fun z6 =>
  some (!z6)) : Option (Bool)).bind fun x3 =>
  if x3 = true then (
  some ([], false)) else (
  (F_slices_Concat_impl_ViewCount_impl_ViewCount__mv0 [a0, a1]).bind fun z8 =>
  (F_impl_gathered z8).bind fun z9 =>
  some (z9.1, z9.2)))
theorem c_impl_MergeCounts : ∀ {a0} {a1} {r}, F_impl_MergeCounts a0 a1 = some r → PCalls Try.prog 11 [(.sh, .sl false 2 (a0.map row_ViewCount_z)), (.sh, .sl false 2 (a1.map row_ViewCount_z))] (Eo (.tup [.sl true 2 (r.1.map row_ViewCount_o), .bool r.2]) [.junk, .junk]) := by
  intro a0 a1 r hr
  apply pF 21 [] [] [] [.tmp 4, .tmp 5] hr cl11 Try.func11
  intro Φ hΦ hF g
  unfold F_impl_MergeCounts at hF
  try simp [go_sem, g]
  refine pw_wk ?_
  repeat rw [sq]
  refine pJ hF (fun x3 => [(0, .v (.sl false 2 (a0.map row_ViewCount_z))), (1, .v (.sl false 2 (a1.map row_ViewCount_z))), (13, .v (.bool x3))]) (fun x3 hF => ?_) fun _ hj1 hF => ?_
  ·repeat rw [sq]
   refine pI hF (fun h7 hF => ?_) (fun h7 hF => ?_)
   ·cases hΦ _ (Rn_some hF)
    try simp [go_sem, g]
    refine pw_wk ?_
    try simp [go_sem, g]
   ·try simp [go_sem, g]
    refine pw_wk ?_
    try simp [go_sem, g]
    refine pC hF [.mv] c_slices_Concat_impl_ViewCount_impl_ViewCount__mv0 (fun z8 hF => ?_)
    try simp [go_sem, g]
    refine pC hF [.sh] c_impl_gathered (fun z9 hF => ?_)
    try simp [go_sem, g]
    refine pw_wkK [4, 5] (by simp [go_sem, g]; rfl) ?_
    cases hΦ _ (Rn_some hF)
    try simp [go_sem, g]
  ·try simp [go_sem, g]
   refine pC hF [.sh] c_impl_isCount (fun z4 hF => ?_)
   try simp [go_sem, g]
   refine pwg_F hF (fun h5 hF => ?_) fun h5 hF => ?_
   ·try simp [go_sem, g, h5]
    exact pT (hj1 true) (Rn_some hF)
   ·try simp [go_sem, g, h5]
    refine pC hF [.sh] c_impl_isCount (fun z6 hF => ?_)
    try simp [go_sem, g, h5]
    exact pT (hj1 (!z6)) (Rn_some hF)
noncomputable def F_spec_wMerge (a0 : (List ViewCount)) (a1 : (List ViewCount)) : Option ((List ViewCount)) :=
  ((rloop (σ := (List ViewCount)) (fun i5 s4 =>
  (ix a0 i5).bind fun x11 =>
  (F_spec_wAdd__mv0 s4 x11.View x11.Times).bind fun z12 =>
  some (.go z12)) (fun s4 => s4) (a0.length) 0 [] : Option ((List ViewCount))).bind fun x3 =>
  ((rloop (σ := (List ViewCount)) (fun i21 s20 =>
  (ix a1 i21).bind fun x27 =>
  (F_spec_wAdd__mv0 s20 x27.View x27.Times).bind fun z28 =>
  some (.go z28)) (fun s20 => s20) (a1.length) 0 x3 : Option ((List ViewCount))).bind fun x19 =>
  some x19))
theorem c_spec_wMerge : ∀ {a0} {a1} {r}, F_spec_wMerge a0 a1 = some r → PCalls Try.prog 57 [(.sh, .sl false 2 (a0.map row_ViewCount_z)), (.sh, .sl false 2 (a1.map row_ViewCount_z))] (Eo (.sl true 2 (r.map row_ViewCount_z)) [.junk, .junk]) := by
  intro a0 a1 r hr
  apply pF 37 [] [] [] [.tmp 4] hr cl57 Try.func57
  intro Φ hΦ hF g
  unfold F_spec_wMerge at hF
  iterate 3 (try simp [go_sem, g]; try intros; refine pw_wk ?_)
  repeat rw [sq]
  refine pJ hF (fun x3 => [(1, .v (.sl false 2 (a1.map row_ViewCount_z))), (5, .v (.sl true 2 (x3.map row_ViewCount_z)))]) (fun x3 hF => ?_) fun _ hj1 hF => ?_
  ·try simp [go_sem, g]
   try intros
   refine pw_wk ?_
   repeat rw [sq]
   refine pJ hF (fun x19 => [(5, .v (.sl true 2 (x19.map row_ViewCount_z)))]) (fun x19 hF => ?_) fun _ hj17 hF => ?_
   ·try simp [go_sem, g]
    refine pw_wkK [4] (by simp [go_sem, g]; rfl) ?_
    cases hΦ _ (Rn_some hF)
    try simp [go_sem, g]
   ·repeat rw [sq]
    rw [pw_block]
    obtain ⟨b29, hb30, hψ24⟩ := hF
    refine pR hb30 (fun i21 s20 => [(5, .v (.sl true 2 (s20.map row_ViewCount_z))), (23, .v (.sl false 2 (a1.map row_ViewCount_z))), (24, .v (.int .i64 (a1.length : Int))), (25, .v (.int .i64 i21))]) (fun s20 _ hN31 => ?_) (fun i21 s20 _ _ hi25 hi26 ho22 hg23 hF => ?_)
    ·subst hN31
     try simp [go_sem]
     refine pw_wk ?_
     repeat rw [sq]
     refine pw_cond_f (by simp [go_sem]) ?_
     try simp [go_sem]
     exact pT (hj17 s20) hψ24 (by simp [go_sem])
    ·try simp [go_sem, g]
     refine pw_wk ?_
     repeat rw [sq]
     refine pw_cond_t (by simp [go_sem, g, hi25, hi26]) ?_
     try simp [go_sem, g]
     refine pw_wk ?_
     repeat rw [sq]
     rw [pw_block]
     obtain ⟨x27, g, hF⟩ := Rx g hF
     try simp [go_sem, g]
     refine pw_wkK [5, 9, 23, 24, 25] (by simp [go_sem, g]; rfl) ?_
     try simp [go_sem, g]
     refine pC hF [.mv, .sh, .sh] c_spec_wAdd__mv0 (fun z28 hF => ?_)
     try simp [go_sem, g]
     refine pw_wk ?_
     try simp [go_sem, g]
     exact pT (hg23 z28) (Rn_some hF) (by simp [go_sem, g, wr_i hi25 hi26 (by assumption)])
  ·repeat rw [sq]
   rw [pw_block]
   obtain ⟨b13, hb14, hψ8⟩ := hF
   refine pR hb14 (fun i5 s4 => [(1, .v (.sl false 2 (a1.map row_ViewCount_z))), (5, .v (.sl true 2 (s4.map row_ViewCount_z))), (10, .v (.sl false 2 (a0.map row_ViewCount_z))), (11, .v (.int .i64 (a0.length : Int))), (12, .v (.int .i64 i5))]) (fun s4 _ hN15 => ?_) (fun i5 s4 _ _ hi9 hi10 ho6 hg7 hF => ?_)
   ·subst hN15
    try simp [go_sem]
    refine pw_wk ?_
    repeat rw [sq]
    refine pw_cond_f (by simp [go_sem]) ?_
    try simp [go_sem]
    exact pT (hj1 s4) hψ8 (by simp [go_sem])
   ·try simp [go_sem, g]
    refine pw_wk ?_
    repeat rw [sq]
    refine pw_cond_t (by simp [go_sem, g, hi9, hi10]) ?_
    try simp [go_sem, g]
    refine pw_wk ?_
    repeat rw [sq]
    rw [pw_block]
    obtain ⟨x11, g, hF⟩ := Rx g hF
    try simp [go_sem, g]
    refine pw_wkK [1, 5, 7, 10, 11, 12] (by simp [go_sem, g]; rfl) ?_
    try simp [go_sem, g]
    refine pC hF [.mv, .sh, .sh] c_spec_wAdd__mv0 (fun z12 hF => ?_)
    try simp [go_sem, g]
    refine pw_wk ?_
    try simp [go_sem, g]
    exact pT (hg7 z12) (Rn_some hF) (by simp [go_sem, g, wr_i hi9 hi10 (by assumption)])
noncomputable def F_spec_wIf (a0 : (List ViewCount)) : Option ((List ViewCount) × Bool) :=
  (F_spec_wGood a0).bind fun z1 =>
  if (!z1) = true then (
  some ([], false)) else (
  some (a0, true))
theorem c_spec_wIf : ∀ {a0} {r}, F_spec_wIf a0 = some r → PCalls Try.prog 56 [(.sh, .sl false 2 (a0.map row_ViewCount_z))] (Eo (.tup [.sl false 2 (r.1.map row_ViewCount_z), .bool r.2]) [.junk]) := by
  intro a0 r hr
  apply pF 8 [] [2] [] [.tmp 2, .tmp 3] hr cl56 Try.func56
  intro Φ hΦ hF g
  unfold F_spec_wIf at hF
  try simp [go_sem, g]
  refine pw_wk ?_
  try simp [go_sem, g]
  refine pC hF [.sh] c_spec_wGood (fun z1 hF => ?_)
  try simp [go_sem, g]
  refine pw_wk ?_
  repeat rw [sq]
  refine pI hF (fun h2 hF => ?_) (fun h2 hF => ?_)
  ·cases hΦ _ (Rn_some hF)
   try simp [go_sem, g]
   refine pw_wk ?_
   try simp [go_sem, g]
  ·cases hΦ _ (Rn_some hF)
   iterate 2 (try simp [go_sem, g]; refine pw_wk ?_)
   try simp [go_sem, g]
noncomputable def F_spec_MergeCounts (a0 : (List ViewCount)) (a1 : (List ViewCount)) : Option ((List ViewCount) × Bool) :=
  (((F_spec_wGood a0).bind fun z4 =>
  if (!z4) = true then (
  some true) else (
  (F_spec_wGood a1).bind fun z6 =>
  some (!z6)) : Option (Bool)).bind fun x3 =>
  if x3 = true then (
  some ([], false)) else (
  (F_spec_wMerge a0 a1).bind fun z8 =>
  (F_spec_wIf z8).bind fun z9 =>
  some (z9.1, z9.2)))
theorem c_spec_MergeCounts : ∀ {a0} {a1} {r}, F_spec_MergeCounts a0 a1 = some r → PCalls Try.prog 12 [(.sh, .sl false 2 (a0.map row_ViewCount_z)), (.sh, .sl false 2 (a1.map row_ViewCount_z))] (Eo (.tup [.sl false 2 (r.1.map row_ViewCount_z), .bool r.2]) [.junk, .junk]) := by
  intro a0 a1 r hr
  apply pF 20 [] [4, 16] [] [.tmp 4, .tmp 5] hr cl12 Try.func12
  intro Φ hΦ hF g
  unfold F_spec_MergeCounts at hF
  try simp [go_sem, g]
  refine pw_wk ?_
  repeat rw [sq]
  refine pJ hF (fun x3 => [(0, .v (.sl false 2 (a0.map row_ViewCount_z))), (1, .v (.sl false 2 (a1.map row_ViewCount_z))), (13, .v (.bool x3))]) (fun x3 hF => ?_) fun _ hj1 hF => ?_
  ·repeat rw [sq]
   refine pI hF (fun h7 hF => ?_) (fun h7 hF => ?_)
   ·cases hΦ _ (Rn_some hF)
    try simp [go_sem, g]
    refine pw_wk ?_
    try simp [go_sem, g]
   ·try simp [go_sem, g]
    refine pw_wk ?_
    try simp [go_sem, g]
    refine pC hF [.sh, .sh] c_spec_wMerge (fun z8 hF => ?_)
    try simp [go_sem, g]
    refine pC hF [.sh] c_spec_wIf (fun z9 hF => ?_)
    try simp [go_sem, g]
    refine pw_wkK [4, 5] (by simp [go_sem, g]; rfl) ?_
    cases hΦ _ (Rn_some hF)
    try simp [go_sem, g]
  ·try simp [go_sem, g]
   refine pC hF [.sh] c_spec_wGood (fun z4 hF => ?_)
   try simp [go_sem, g]
   refine pwg_F hF (fun h5 hF => ?_) fun h5 hF => ?_
   ·try simp [go_sem, g, h5]
    exact pT (hj1 true) (Rn_some hF)
   ·try simp [go_sem, g, h5]
    refine pC hF [.sh] c_spec_wGood (fun z6 hF => ?_)
    try simp [go_sem, g, h5]
    exact pT (hj1 (!z6)) (Rn_some hF)
def D13_6 : List DE := [⟨0, [0], [], none, false, false, false⟩, ⟨1, [5], [], none, false, false, false⟩, ⟨2, [16, 17], [], none, false, false, false⟩, ⟨3, [18], [], none, false, false, false⟩, ⟨4, [1], [], none, false, false, false⟩, ⟨5, [5], [], none, false, false, false⟩, ⟨6, [20, 21], [], none, false, false, false⟩, ⟨7, [22], [], none, false, false, false⟩, ⟨8, [19, 23], [], none, false, false, false⟩]
noncomputable def F_laws_qInts (a0 : (List Int)) (a1 : (List Int)) : Option (Bool) :=
  if ((a0.length : Int) != (a1.length : Int)) = true then (
  some false) else (
  ((rloop (σ := Unit) (fun i6 s5 =>
  (ix a0 i6).bind fun x12 =>
  (ix a1 i6).bind fun x13 =>
  if (x12 != x13) = true then (
  some (.out (.inr false))) else (
  some (.go ()))) (fun s5 => .inl ()) (a0.length) 0 () : Option (Unit ⊕ Bool)).bind (Sum.elim (fun x4 =>
  some true) some)))
theorem c_laws_qInts : ∀ {a0} {a1} {r}, F_laws_qInts a0 a1 = some r → PCalls Try.prog 13 [(.sh, .sl false 1 (a0.map row_i64)), (.sh, .sl false 1 (a1.map row_i64))] (Eo (.bool r) [.junk, .junk]) := by
  intro a0 a1 r hr
  apply pF 26 [] [] [] [.tmp 4] hr cl13 Try.func13
  intro Φ hΦ hF g
  unfold F_laws_qInts at hF
  iterate 2 (try simp [go_sem, g]; try intros; refine pw_wk ?_)
  repeat rw [sq]
  refine pI hF (fun h1 hF => ?_) (fun h1 hF => ?_)
  ·cases hΦ _ (Rn_some hF)
   try simp [go_sem, g]
   refine pw_wk ?_
   try simp [go_sem, g]
  ·iterate 2 (try simp [go_sem, g]; try intros; refine pw_wk ?_)
   repeat rw [sq]
   refine pJs hF (fun x4 => []) (fun x4 hF => ?_) fun _ hj2 hr3 hF => ?_
   ·try simp [go_sem, g]
    refine pw_wkK [4] (by simp [go_sem, g]; rfl) ?_
    cases hΦ _ (Rn_some hF)
    try simp [go_sem, g]
   ·repeat rw [sq]
    rw [pw_block]
    obtain ⟨b15, hb16, hψ9⟩ := hF
    refine pR hb16 (fun i6 s5 => [(0, .v (.sl false 1 (a0.map row_i64))), (1, .v (.sl false 1 (a1.map row_i64))), (12, .v (.int .i64 (a0.length : Int))), (13, .v (.int .i64 i6))]) (fun s5 _ hN17 => ?_) (fun i6 s5 _ _ hi10 hi11 ho7 hg8 hF => ?_)
    ·subst hN17
     try simp [go_sem]
     refine pw_wk ?_
     repeat rw [sq]
     refine pw_cond_f (by simp [go_sem]) ?_
     try simp [go_sem]
     exact pT (hj2 ()) hψ9 (by simp [go_sem])
    ·try simp [go_sem, g]
     refine pw_wkK [0, 1, 12, 13, 14] (by simp [go_sem, g]; rfl) ?_
     repeat rw [sq]
     refine pw_cond_t (by simp [go_sem, g, hi10, hi11]) ?_
     try simp [go_sem, g]
     refine pw_wk ?_
     repeat rw [sq]
     rw [pw_block]
     try simp [go_sem, g]
     refine pw_wk ?_
     repeat rw [sq]
     refine pw_draw D13_6 follows (by kernel_rfl) rfl ?_
     try simp only [go_sem, D13_6]
     obtain ⟨x12, g, hF⟩ := Rx g hF
     obtain ⟨x13, g, hF⟩ := Rx g hF
     try simp [go_sem, g]
     refine pw_wkK [0, 1, 12, 13, 24] (by simp [go_sem, g]; rfl) ?_
     repeat rw [sq]
     refine pI hF (fun h14 hF => ?_) (fun h14 hF => ?_)
     ·cases ho7 _ (Rn_some hF)
      cases hΦ _ (hr3 _ hψ9)
      try simp [go_sem, g]
      refine pw_wk ?_
      try simp [go_sem, g]
     ·try simp [go_sem, g]
      refine pw_wk ?_
      try simp [go_sem, g]
      exact pT (hg8 ()) (Rn_some hF) (by simp [go_sem, g, wr_i hi10 hi11 (by assumption)])
def D3_14 : List DE := [⟨0, [15], [], none, false, false, false⟩, ⟨1, [19], [], none, false, false, false⟩, ⟨2, [98, 99], [], none, false, false, false⟩, ⟨3, [100], [], none, false, false, false⟩, ⟨4, [101], [], none, false, false, false⟩, ⟨5, [17], [], none, false, false, false⟩, ⟨6, [19], [], none, false, false, false⟩, ⟨7, [103, 104], [], none, false, false, false⟩, ⟨8, [105], [], none, false, false, false⟩, ⟨9, [106], [], none, false, false, false⟩, ⟨10, [102, 107], [], none, false, true, true⟩, ⟨11, [108], [], none, false, false, false⟩, ⟨12, [109], [], none, false, false, false⟩, ⟨13, [15, 110], [], none, false, false, false⟩, ⟨14, [19, 110], [], none, false, false, false⟩, ⟨15, [111, 112, 110], [], none, false, false, false⟩, ⟨16, [113, 110], [], none, false, false, false⟩, ⟨17, [114, 110], [], none, false, false, false⟩, ⟨18, [17, 110], [], none, false, false, false⟩, ⟨19, [19, 110], [], none, false, false, false⟩, ⟨20, [116, 117, 110], [], none, false, false, false⟩, ⟨21, [118, 110], [], none, false, false, false⟩, ⟨22, [119, 110], [], none, false, false, false⟩, ⟨23, [115, 120, 110], [], none, false, false, false⟩, ⟨24, [110, 121], [], none, false, false, false⟩]
noncomputable def F_laws_FnDistances (a0 : (List Int)) (a1 : (List Int)) : Option (Bool) :=
  if decide (1048576 < (i64.wrap ((a0.length : Int) + (a1.length : Int)))) = true then (
  some true) else (
  (F_spec_DrawDistanceOf a0).bind fun z2 =>
  (F_impl_DistanceOf z2.1 z2.2).bind fun z3 =>
  (F_spec_DistanceOf z2.1 z2.2).bind fun z4 =>
  (F_spec_DrawMergeCounts a1).bind fun z5 =>
  (F_impl_MergeCounts z5.1 z5.2).bind fun z6 =>
  (F_spec_MergeCounts z5.1 z5.2).bind fun z7 =>
  ((if (z3.2.2 != z4.2.2) = true then (
  some true) else (
  if (z3.1 != z4.1) = true then (
  some true) else (
  if (z3.2.1 != z4.2.1) = true then (
  some true) else (
  if (z6.2 != z7.2) = true then (
  some true) else (
  some ((z6.1.length : Int) != (z7.1.length : Int)))))) : Option (Bool)).bind fun x10 =>
  if x10 = true then (
  some false) else (
  ((rloop (σ := Unit) (fun i20 s19 =>
  (((ix z6.1 i20).bind fun x29 =>
  (ix z7.1 i20).bind fun x30 =>
  (F_laws_qInts x29.View x30.View).bind fun z31 =>
  if (!z31) = true then (
  some true) else (
  some (x29.Times != x30.Times)) : Option (Bool)).bind fun x28 =>
  if x28 = true then (
  some (.out (.inr false))) else (
  some (.go ())))) (fun s19 => .inl ()) (z6.1.length) 0 () : Option (Unit ⊕ Bool)).bind (Sum.elim (fun x18 =>
  if (!z3.2.2) = true then (
  some true) else (
  (F_impl_DistanceOf z2.2 z2.1).bind fun z39 =>
  (F_impl_DistanceOf z2.1 z2.1).bind fun z40 =>
  ((if z39.2.2 = true then (
  if z40.2.2 = true then (
  if (z39.1 == z3.1) = true then (
  if (z39.2.1 == z3.2.1) = true then (
  if (z40.1 == 0) = true then (
  if decide (0 ≤ z3.1) = true then (
  some (decide (z3.1 ≤ z3.2.1))) else (
  some false)) else (
  some false)) else (
  some false)) else (
  some false)) else (
  some false)) else (
  some false) : Option (Bool)).bind fun x43 =>
  some x43))) some)))))
theorem c_laws_FnDistances : ∀ {a0} {a1} {r}, F_laws_FnDistances a0 a1 = some r → PCalls Try.prog 3 [(.sh, .sl false 1 (a0.map row_u8)), (.sh, .sl false 1 (a1.map row_u8))] (Eo (.bool r) [.junk, .junk]) := by
  intro a0 a1 r hr
  apply pF 167 [] [] [] [.tmp 4] hr cl3 Try.func3
  intro Φ hΦ hF g
  unfold F_laws_FnDistances at hF
  iterate 2 (try simp [go_sem, g]; try intros; refine pw_wk ?_)
  repeat rw [sq]
  refine pI hF (fun h1 hF => ?_) (fun h1 hF => ?_)
  ·cases hΦ _ (Rn_some hF)
   try simp [go_sem, g]
   refine pw_wk ?_
   try simp [go_sem, g]
  ·try simp [go_sem, g]
   refine pw_wk ?_
   try simp [go_sem, g]
   refine pC hF [.sh] c_spec_DrawDistanceOf (fun z2 hF => ?_)
   try simp [go_sem, g]
   refine pw_wkK [1, 5, 6] (by simp [go_sem, g]; rfl) ?_
   try simp [go_sem, g]
   refine pC hF [.sh, .sh] c_impl_DistanceOf (fun z3 hF => ?_)
   try simp [go_sem, g]
   refine pw_wkK [1, 5, 6, 7, 8, 9] (by simp [go_sem, g]; rfl) ?_
   try simp [go_sem, g]
   refine pC hF [.sh, .sh] c_spec_DistanceOf (fun z4 hF => ?_)
   try simp [go_sem, g]
   refine pw_wkK [1, 5, 6, 7, 8, 9, 10, 11, 12] (by simp [go_sem, g]; rfl) ?_
   try simp [go_sem, g]
   refine pC hF [.sh] c_spec_DrawMergeCounts (fun z5 hF => ?_)
   try simp [go_sem, g]
   refine pw_wk ?_
   try simp [go_sem, g]
   refine pC hF [.sh, .sh] c_impl_MergeCounts (fun z6 hF => ?_)
   try simp [go_sem, g]
   refine pw_wkK [5, 6, 7, 8, 9, 10, 11, 12, 13, 14, 15, 16] (by simp [go_sem, g]; rfl) ?_
   try simp [go_sem, g]
   refine pC hF [.sh, .sh] c_spec_MergeCounts (fun z7 hF => ?_)
   try simp [go_sem, g]
   refine pw_wk ?_
   repeat rw [sq]
   refine pJ hF (fun x10 => [(5, .v (.sl false 2 (z2.1.map row_ViewCount_z))), (6, .v (.sl false 2 (z2.2.map row_ViewCount_z))), (7, .v (.int .i64 z3.1)), (8, .v (.int .i64 z3.2.1)), (9, .v (.bool z3.2.2)), (15, .v (.sl true 2 (z6.1.map row_ViewCount_o))), (17, .v (.sl false 2 (z7.1.map row_ViewCount_z))), (92, .v (.bool x10))]) (fun x10 hF => ?_) fun _ hj8 hF => ?_
   ·repeat rw [sq]
    refine pI hF (fun h15 hF => ?_) (fun h15 hF => ?_)
    ·cases hΦ _ (Rn_some hF)
     try simp [go_sem, g]
     refine pw_wk ?_
     try simp [go_sem, g]
    ·try simp [go_sem, g]
     try intros
     refine pw_wk ?_
     try simp [go_sem, g]
     try intros
     refine pw_wkK [5, 6, 7, 8, 9, 15, 17, 94, 95] (by simp [go_sem, g]; rfl) ?_
     repeat rw [sq]
     refine pJs hF (fun x18 => [(5, .v (.sl false 2 (z2.1.map row_ViewCount_z))), (6, .v (.sl false 2 (z2.2.map row_ViewCount_z))), (7, .v (.int .i64 z3.1)), (8, .v (.int .i64 z3.2.1)), (9, .v (.bool z3.2.2))]) (fun x18 hF => ?_) fun _ hj16 hr17 hF => ?_
     ·try simp [go_sem, g]
      refine pw_wk ?_
      repeat rw [sq]
      refine pI hF (fun h38 hF => ?_) (fun h38 hF => ?_)
      ·cases hΦ _ (Rn_some hF)
       try simp [go_sem, g]
       refine pw_wk ?_
       try simp [go_sem, g]
      ·try simp [go_sem, g]
       refine pw_wk ?_
       try simp [go_sem, g]
       refine pC hF [.sh, .sh] c_impl_DistanceOf (fun z39 hF => ?_)
       try simp [go_sem, g]
       refine pw_wkK [5, 7, 8, 20, 21, 22] (by simp [go_sem, g]; rfl) ?_
       try simp [go_sem, g]
       refine pC hF [.sh, .sh] c_impl_DistanceOf (fun z40 hF => ?_)
       try simp [go_sem, g]
       refine pw_wkK [7, 8, 20, 21, 22, 23, 25] (by simp [go_sem, g]; rfl) ?_
       repeat rw [sq]
       refine pJ hF (fun x43 => [(4, .v (.bool x43))]) (fun x43 hF => ?_) fun _ hj41 hF => ?_
       ·cases hΦ _ (Rn_some hF)
        try simp [go_sem, g]
       ·try simp [go_sem, g]
        refine pwg_F hF (fun h44 hF => ?_) fun h44 hF => ?_
        ·try simp [go_sem, g, h44]
         refine pwg_F hF (fun h45 hF => ?_) fun h45 hF => ?_
         ·try simp [go_sem, g, h45]
          refine pwg_F hF (fun h46 hF => ?_) fun h46 hF => ?_
          ·try simp [go_sem, g, h46]
           refine pwg_F hF (fun h47 hF => ?_) fun h47 hF => ?_
           ·try simp [go_sem, g, h47]
            refine pwg_F hF (fun h48 hF => ?_) fun h48 hF => ?_
            ·try simp [go_sem, g, h48]
             refine pwg_F hF (fun h49 hF => ?_) fun h49 hF => ?_
             ·try simp [go_sem, g, h49]
              exact pT (hj41 (decide (z3.1 ≤ z3.2.1))) (Rn_some hF)
             ·try simp [go_sem, g, h49]
              exact pT (hj41 false) (Rn_some hF)
            ·try simp [go_sem, g, h48]
             exact pT (hj41 false) (Rn_some hF)
           ·try simp [go_sem, g, h47]
            exact pT (hj41 false) (Rn_some hF)
          ·try simp [go_sem, g, h46]
           exact pT (hj41 false) (Rn_some hF)
         ·try simp [go_sem, g, h45]
          exact pT (hj41 false) (Rn_some hF)
        ·try simp [go_sem, g, h44]
         exact pT (hj41 false) (Rn_some hF)
     ·repeat rw [sq]
      rw [pw_block]
      obtain ⟨b34, hb35, hψ23⟩ := hF
      refine pR hb35 (fun i20 s19 => [(5, .v (.sl false 2 (z2.1.map row_ViewCount_z))), (6, .v (.sl false 2 (z2.2.map row_ViewCount_z))), (7, .v (.int .i64 z3.1)), (8, .v (.int .i64 z3.2.1)), (9, .v (.bool z3.2.2)), (15, .v (.sl true 2 (z6.1.map row_ViewCount_o))), (17, .v (.sl false 2 (z7.1.map row_ViewCount_z))), (94, .v (.int .i64 (z6.1.length : Int))), (95, .v (.int .i64 i20))]) (fun s19 _ hN36 => ?_) (fun i20 s19 _ _ hi24 hi25 ho21 hg22 hF => ?_)
      ·subst hN36
       try simp [go_sem]
       refine pw_wk ?_
       repeat rw [sq]
       refine pw_cond_f (by simp [go_sem]) ?_
       try simp [go_sem]
       exact pT (hj16 ()) hψ23 (by simp [go_sem])
      ·try simp [go_sem, g]
       refine pw_wk ?_
       repeat rw [sq]
       refine pw_cond_t (by simp [go_sem, g, hi24, hi25]) ?_
       try simp [go_sem, g]
       refine pw_wk ?_
       repeat rw [sq]
       rw [pw_block]
       try simp [go_sem, g]
       refine pw_wk ?_
       repeat rw [sq]
       refine pJ hF (fun x28 => [(5, .v (.sl false 2 (z2.1.map row_ViewCount_z))), (6, .v (.sl false 2 (z2.2.map row_ViewCount_z))), (7, .v (.int .i64 z3.1)), (8, .v (.int .i64 z3.2.1)), (9, .v (.bool z3.2.2)), (15, .v (.sl true 2 (z6.1.map row_ViewCount_o))), (17, .v (.sl false 2 (z7.1.map row_ViewCount_z))), (94, .v (.int .i64 (z6.1.length : Int))), (95, .v (.int .i64 i20)), (122, .v (.bool x28))]) (fun x28 hF => ?_) fun _ hj26 hF => ?_
       ·repeat rw [sq]
        refine pI hF (fun h33 hF => ?_) (fun h33 hF => ?_)
        ·cases ho21 _ (Rn_some hF)
         cases hΦ _ (hr17 _ hψ23)
         try simp [go_sem, g]
         refine pw_wk ?_
         try simp [go_sem, g]
        ·try simp [go_sem, g]
         refine pw_wk ?_
         try simp [go_sem, g]
         exact pT (hg22 ()) (Rn_some hF) (by simp [go_sem, g, wr_i hi24 hi25 (by assumption)])
       ·repeat rw [sq]
        refine pw_draw D3_14 follows (by kernel_rfl) rfl ?_
        try simp only [go_sem, D3_14]
        obtain ⟨x29, g, hF⟩ := Rx g hF
        obtain ⟨x30, g, hF⟩ := Rx g hF
        try simp [go_sem, g]
        refine pC hF [.sh, .sh] c_laws_qInts (fun z31 hF => ?_)
        try simp [go_sem, g]
        refine pwgD_F hF (fun h32 hF => ?_) fun h32 hF => ?_
        ·try simp [go_sem, g, h32]
         exact pT (hj26 true) (Rn_some hF)
        ·try simp [go_sem, g, h32]
         exact pT (hj26 (x29.Times != x30.Times)) (Rn_some hF)
   ·try simp [go_sem, g]
    refine pwg_F hF (fun h11 hF => ?_) fun h11 hF => ?_
    ·try simp [go_sem, g, h11]
     exact pT (hj8 true) (Rn_some hF)
    ·try simp [go_sem, g, h11]
     refine pwg_F hF (fun h12 hF => ?_) fun h12 hF => ?_
     ·try simp [go_sem, g, h12]
      exact pT (hj8 true) (Rn_some hF)
     ·try simp [go_sem, g, h12]
      refine pwg_F hF (fun h13 hF => ?_) fun h13 hF => ?_
      ·try simp [go_sem, g, h13]
       exact pT (hj8 true) (Rn_some hF)
      ·try simp [go_sem, g, h13]
       refine pwg_F hF (fun h14 hF => ?_) fun h14 hF => ?_
       ·try simp [go_sem, g, h14]
        exact pT (hj8 true) (Rn_some hF)
       ·try simp [go_sem, g, h14]
        try intros
        exact pT (hj8 ((z6.1.length : Int) != (z7.1.length : Int))) (Rn_some hF)
end Go.Pm
