/-
  Plain functions and their walks. Written by wip/tools/lift.py.
-/
import Derived.Test.YtpbhnggmbnfemaaPS
namespace Go.Pm
open Go.Am
open Go.Proofs
set_option maxRecDepth 100000
attribute [local irreducible] pw pwx pw1 pwg qv qz qf
attribute [-simp] List.map_set
set_option linter.unusedSimpArgs false
set_option linter.unusedVariables false
structure Group where
  P : Int
  Q : Int
  G : Int
structure l1Cur where
  code : (List Int)
  at_ : Int
  seed : Int
structure Dealing where
  Commits : (List Int)
  Shares : (List Int)
structure ViewCount where
  View : (List Int)
  Times : Int
def row_u8 (x : Int) : List PV := [.int .u8 x]
@[go_sem] theorem row_u8_eq {x : Int} : row_u8 x = [.int .u8 x] := (rfl)
@[go_sem] theorem row_u8_drop {l : List Int} : List.map (List.map drop ∘ row_u8) l = l.map row_u8 := by refine List.map_congr_left fun x _ => ?_; simp [go_sem]
@[go_sem] theorem row_u8_drop' {l : List Int} : List.map (List.map drop) (l.map row_u8) = l.map row_u8 := by rw [List.map_map]; exact row_u8_drop
@[go_sem] theorem row_u8_set {l : List Int} {i : Nat} {a : Int} : (l.map row_u8).set i [.int .u8 a] = (l.set i a).map row_u8 := by simp [List.map_set, go_sem]
def row_i64 (x : Int) : List PV := [.int .i64 x]
@[go_sem] theorem row_i64_eq {x : Int} : row_i64 x = [.int .i64 x] := (rfl)
@[go_sem] theorem row_i64_drop {l : List Int} : List.map (List.map drop ∘ row_i64) l = l.map row_i64 := by refine List.map_congr_left fun x _ => ?_; simp [go_sem]
@[go_sem] theorem row_i64_drop' {l : List Int} : List.map (List.map drop) (l.map row_i64) = l.map row_i64 := by rw [List.map_map]; exact row_i64_drop
@[go_sem] theorem row_i64_set {l : List Int} {i : Nat} {a : Int} : (l.map row_i64).set i [.int .i64 a] = (l.set i a).map row_i64 := by simp [List.map_set, go_sem]
def row_zi64 (x : (List Int)) : List PV := [.sl false 1 (x.map row_i64)]
@[go_sem] theorem row_zi64_eq {x : (List Int)} : row_zi64 x = [.sl false 1 (x.map row_i64)] := (rfl)
@[go_sem] theorem row_zi64_drop {l : List (List Int)} : List.map (List.map drop ∘ row_zi64) l = l.map row_zi64 := by refine List.map_congr_left fun x _ => ?_; simp [go_sem]
@[go_sem] theorem row_zi64_drop' {l : List (List Int)} : List.map (List.map drop) (l.map row_zi64) = l.map row_zi64 := by rw [List.map_map]; exact row_zi64_drop
@[go_sem] theorem row_zi64_set {l : List (List Int)} {i : Nat} {a : (List Int)} : (l.map row_zi64).set i [.sl false 1 (a.map row_i64)] = (l.set i a).map row_zi64 := by simp [List.map_set, go_sem]
def row_oi64 (x : (List Int)) : List PV := [.sl true 1 (x.map row_i64)]
@[go_sem] theorem row_oi64_eq {x : (List Int)} : row_oi64 x = [.sl true 1 (x.map row_i64)] := (rfl)
@[go_sem] theorem row_oi64_drop {l : List (List Int)} : List.map (List.map drop ∘ row_oi64) l = l.map row_zi64 := by refine List.map_congr_left fun x _ => ?_; simp [go_sem]
@[go_sem] theorem row_oi64_drop' {l : List (List Int)} : List.map (List.map drop) (l.map row_oi64) = l.map row_zi64 := by rw [List.map_map]; exact row_oi64_drop
@[go_sem] theorem row_oi64_set {l : List (List Int)} {i : Nat} {a : (List Int)} : (l.map row_oi64).set i [.sl true 1 (a.map row_i64)] = (l.set i a).map row_oi64 := by simp [List.map_set, go_sem]
def row_ViewCount_z (x : ViewCount) : List PV := [.sl false 1 (x.View.map row_i64), .int .i64 x.Times]
@[go_sem] theorem row_ViewCount_z_eq {x : ViewCount} : row_ViewCount_z x = [.sl false 1 (x.View.map row_i64), .int .i64 x.Times] := (rfl)
@[go_sem] theorem row_ViewCount_z_drop {l : List ViewCount} : List.map (List.map drop ∘ row_ViewCount_z) l = l.map row_ViewCount_z := by refine List.map_congr_left fun x _ => ?_; simp [go_sem]
@[go_sem] theorem row_ViewCount_z_drop' {l : List ViewCount} : List.map (List.map drop) (l.map row_ViewCount_z) = l.map row_ViewCount_z := by rw [List.map_map]; exact row_ViewCount_z_drop
@[go_sem] theorem row_ViewCount_z_set {l : List ViewCount} {i : Nat} {View : (List Int)} {Times : Int} : (l.map row_ViewCount_z).set i [.sl false 1 (View.map row_i64), .int .i64 Times] = (l.set i (ViewCount.mk View Times)).map row_ViewCount_z := by simp [List.map_set, go_sem]
def row_ViewCount_o (x : ViewCount) : List PV := [.sl true 1 (x.View.map row_i64), .int .i64 x.Times]
@[go_sem] theorem row_ViewCount_o_eq {x : ViewCount} : row_ViewCount_o x = [.sl true 1 (x.View.map row_i64), .int .i64 x.Times] := (rfl)
@[go_sem] theorem row_ViewCount_o_drop {l : List ViewCount} : List.map (List.map drop ∘ row_ViewCount_o) l = l.map row_ViewCount_z := by refine List.map_congr_left fun x _ => ?_; simp [go_sem]
@[go_sem] theorem row_ViewCount_o_drop' {l : List ViewCount} : List.map (List.map drop) (l.map row_ViewCount_o) = l.map row_ViewCount_z := by rw [List.map_map]; exact row_ViewCount_o_drop
@[go_sem] theorem row_ViewCount_o_set {l : List ViewCount} {i : Nat} {View : (List Int)} {Times : Int} : (l.map row_ViewCount_o).set i [.sl true 1 (View.map row_i64), .int .i64 Times] = (l.set i (ViewCount.mk View Times)).map row_ViewCount_o := by simp [List.map_set, go_sem]
noncomputable def F_spec_l1Cur_next__io0 (a0c0 : (List Int)) (a0c1 : Int) (a0c2 : Int) : Option (Int × ((List Int) × Int × Int)) :=
  ((if decide (a0c1 < (a0c0.length : Int)) = true then (
  (ix a0c0 a0c1).bind fun x9 =>
  some (IntKind.i64.wrap x9)) else (
  some 0) : Option (Int)).bind fun (x5 : Int) =>
  if decide ((IntKind.i64.wrap (a0c1 + 1)) ≤ (a0c0.length : Int)) = true then (
  some (x5, (a0c0, IntKind.i64.wrap (a0c1 + 1), IntKind.u64.wrap ((IntKind.u64.wrap ((IntKind.u64.wrap (a0c2 * 6364136223846793005)) + (IntKind.u64.wrap x5))) + 1442695040888963407)))) else (
  some (IntKind.i64.wrap (IntKind.u64.wrap ((BitVec.ofInt IntKind.u64.bits ((IntKind.u64.wrap ((IntKind.u64.wrap ((IntKind.u64.wrap (a0c2 * 6364136223846793005)) + (IntKind.u64.wrap x5))) + 1442695040888963407)).fdiv 1099511627776) &&& BitVec.ofInt IntKind.u64.bits 255).toNat)), (a0c0, IntKind.i64.wrap (a0c1 + 1), IntKind.u64.wrap ((IntKind.u64.wrap ((IntKind.u64.wrap (a0c2 * 6364136223846793005)) + (IntKind.u64.wrap x5))) + 1442695040888963407)))))
theorem c_spec_l1Cur_next__io0 {a0c0 : (List Int)} {a0c1 : Int} {a0c2 : Int} {r : Int × ((List Int) × Int × Int)} (hr : F_spec_l1Cur_next__io0 a0c0 a0c1 a0c2 = some r) : PCalls Try.prog 146 [(.io, .bx [.sl false 1 (a0c0.map row_u8), .int .i64 a0c1, .int .u64 a0c2])] (Eo (.int .i64 r.1) [.bx [.sl false 1 (r.2.1.map row_u8), .int .i64 r.2.2.1, .int .u64 r.2.2.2]]) := by
  apply pcalls_lf 62 [0] [] [] [.tmp 2] hr cl146 Try.func146 rfl rfl rfl
  · exact ⟨by simp, rfl⟩
  intro Φ hΦ hF
  unfold F_spec_l1Cur_next__io0 at hF
  iterate 2 (try simp [go_sem]; refine pw_wk ?_)
  repeat rw [sq]
  refine pw_draw D146_2 follows (by kernel_rfl) rfl ?_
  try simp only [go_sem, D146_2]
  try simp [go_sem]
  try intros
  refine pw_wkK [0, 3, 13] (by simp [go_sem]; rfl) ?_
  repeat rw [sq]
  refine pw_joinF (fun (x5 : Int) => [(0, .v (.bx [.sl false 1 (a0c0.map row_u8), .int .i64 a0c1, .int .u64 a0c2])), (3, .v (.int .i64 x5))]) hF ?_ ?_
  ·intro x5 hF6
   try simp [go_sem]
   refine pw_wk ?_
   try simp [go_sem]
   refine pw_wkK [0, 3] (by simp [go_sem]; rfl) ?_
   repeat rw [sq]
   refine pw_draw D146_6 follows (by kernel_rfl) rfl ?_
   try simp only [go_sem, D146_6]
   try simp [go_sem]
   try intros
   refine pw_wkK [0, 3, 53] (by simp [go_sem]; rfl) ?_
   repeat rw [sq]
   refine pw_cF hF6 (by simp [go_sem]) (fun h12 hF13 => ?_) fun h12 hF13 => ?_
   ·cases hΦ _ (Rn_some hF13)
    try simp [go_sem]
    refine pw_wk ?_
    try simp [go_sem]
   ·have g14 := fun x => shV0_ge (b := 40) (x := x) (by decide)
    cases hΦ _ (Rn_some hF13)
    iterate 2 (try simp [go_sem, g14]; refine pw_wk ?_)
    try simp [go_sem, g14]
  ·intro ψ3 hj1 hF4
   repeat rw [sq]
   refine pw_cF hF4 (by simp [go_sem]) (fun h7 hF8 => ?_) fun h7 hF8 => ?_
   ·repeat rw [sq]
    refine pw_draw D146_3 follows (by kernel_rfl) rfl ?_
    try simp only [go_sem, D146_3]
    obtain ⟨x9, g10, hF11⟩ := Rn_ix hF8
    try simp [go_sem, g10]
    exact hj1 (IntKind.i64.wrap x9) _ (by simp [go_sem, g10]) (Rn_some hF11)
   ·try simp [go_sem]
    exact hj1 0 _ (by simp [go_sem]) (Rn_some hF8)
noncomputable def F_spec_l1Cur_pick__io0 (a0c0 : (List Int)) (a0c1 : Int) (a0c2 : Int) (a1 : Int) : Option (Int × ((List Int) × Int × Int)) :=
  if decide (a1 ≤ 1) = true then (
  some (0, (a0c0, a0c1, a0c2))) else (
  (F_spec_l1Cur_next__io0 a0c0 a0c1 a0c2).bind fun z3 =>
  ((if decide (200 < a1) = true then (
  (F_spec_l1Cur_next__io0 z3.2.1 z3.2.2.1 z3.2.2.2).bind fun z13 =>
  some ((z13.2.1, z13.2.2.1, z13.2.2.2), IntKind.i64.wrap ((IntKind.i64.wrap (z3.1 * 256)) + z13.1))) else (
  some ((z3.2.1, z3.2.2.1, z3.2.2.2), z3.1)) : Option ((((List Int) × Int × Int) × Int))).bind fun (x9 : ((List Int) × Int × Int) × Int) =>
  gd (a1 ≠ 0) <|
  some (x9.2.tmod a1, (x9.1.1, x9.1.2.1, x9.1.2.2))))
theorem c_spec_l1Cur_pick__io0 {a0c0 : (List Int)} {a0c1 : Int} {a0c2 : Int} {a1 : Int} {r : Int × ((List Int) × Int × Int)} (hr : F_spec_l1Cur_pick__io0 a0c0 a0c1 a0c2 a1 = some r) : PCalls Try.prog 105 [(.io, .bx [.sl false 1 (a0c0.map row_u8), .int .i64 a0c1, .int .u64 a0c2]), (.sh, .int .i64 a1)] (Eo (.int .i64 r.1) [.bx [.sl false 1 (r.2.1.map row_u8), .int .i64 r.2.2.1, .int .u64 r.2.2.2], .junk]) := by
  apply pcalls_lf 20 [0] [] [] [.tmp 4] hr cl105 Try.func105 rfl rfl rfl
  · exact ⟨by simp, rfl⟩
  intro Φ hΦ hF
  unfold F_spec_l1Cur_pick__io0 at hF
  iterate 2 (try simp [go_sem]; refine pw_wk ?_)
  repeat rw [sq]
  refine pw_cF hF (by simp [go_sem]) (fun h1 hF2 => ?_) fun h1 hF2 => ?_
  ·cases hΦ _ (Rn_some hF2)
   try simp [go_sem]
   refine pw_wk ?_
   try simp [go_sem]
  ·try simp [go_sem]
   refine pw_wk ?_
   try simp [go_sem]
   refine pw_cl hF2 [.io] c_spec_l1Cur_next__io0 rfl rfl (by (try simp [go_sem, clE]); first | rfl | done) (by rfl) (by (try simp [go_sem]); first | rfl | done) fun z3 hF4 => ⟨by simp [go_sem], ?_⟩
   iterate 2 (try simp [go_sem]; refine pw_wk ?_)
   repeat rw [sq]
   refine pw_joinF (fun (x9 : ((List Int) × Int × Int) × Int) => [(0, .v (.bx [.sl false 1 (x9.1.1.map row_u8), .int .i64 x9.1.2.1, .int .u64 x9.1.2.2])), (1, .v (.int .i64 a1)), (5, .v (.int .i64 x9.2))]) hF4 ?_ ?_
   ·intro x9 hF10
    obtain ⟨g15, hF16⟩ := Rn_nz hF10
    try simp [go_sem, g15]
    refine pw_wkK [0, 4] (by simp [go_sem, g15]; rfl) ?_
    cases hΦ _ (Rn_some hF16)
    try simp [go_sem, g15]
   ·intro ψ7 hj5 hF8
    repeat rw [sq]
    refine pw_cF hF8 (by simp [go_sem]) (fun h11 hF12 => ?_) fun h11 hF12 => ?_
    ·try simp [go_sem]
     refine pw_cl hF12 [.io] c_spec_l1Cur_next__io0 rfl rfl (by (try simp [go_sem, clE]); first | rfl | done) (by rfl) (by (try simp [go_sem]); first | rfl | done) fun z13 hF14 => ⟨by simp [go_sem], ?_⟩
     try simp [go_sem]
     exact hj5 ((z13.2.1, z13.2.2.1, z13.2.2.2), IntKind.i64.wrap ((IntKind.i64.wrap (z3.1 * 256)) + z13.1)) _ (by simp [go_sem]) (Rn_some hF14)
    ·try simp [go_sem]
     exact hj5 ((z3.2.1, z3.2.2.1, z3.2.2.2), z3.1) _ (by simp [go_sem]) (Rn_some hF12)
noncomputable def F_spec_l1Cur_one__io0 (a0c0 : (List Int)) (a0c1 : Int) (a0c2 : Int) (a1 : Int) : Option (Bool × ((List Int) × Int × Int)) :=
  (F_spec_l1Cur_pick__io0 a0c0 a0c1 a0c2 a1).bind fun z1 =>
  some ((z1.1 == 0), (z1.2.1, z1.2.2.1, z1.2.2.2))
theorem c_spec_l1Cur_one__io0 {a0c0 : (List Int)} {a0c1 : Int} {a0c2 : Int} {a1 : Int} {r : Bool × ((List Int) × Int × Int)} (hr : F_spec_l1Cur_one__io0 a0c0 a0c1 a0c2 a1 = some r) : PCalls Try.prog 65 [(.io, .bx [.sl false 1 (a0c0.map row_u8), .int .i64 a0c1, .int .u64 a0c2]), (.sh, .int .i64 a1)] (Eo (.bool r.1) [.bx [.sl false 1 (r.2.1.map row_u8), .int .i64 r.2.2.1, .int .u64 r.2.2.2], .junk]) := by
  apply pcalls_lf 9 [0] [] [] [.tmp 4] hr cl65 Try.func65 rfl rfl rfl
  · exact ⟨by simp, rfl⟩
  intro Φ hΦ hF
  unfold F_spec_l1Cur_one__io0 at hF
  try simp [go_sem]
  refine pw_wk ?_
  try simp [go_sem]
  refine pw_cl hF [.io, .sh] c_spec_l1Cur_pick__io0 rfl rfl (by (try simp [go_sem, clE]); first | rfl | done) (by rfl) (by (try simp [go_sem]); first | rfl | done) fun z1 hF2 => ⟨by simp [go_sem], ?_⟩
  cases hΦ _ (Rn_some hF2)
  try simp [go_sem]
  refine pw_wk ?_
  try simp [go_sem]
noncomputable def F_spec_l1Cur_among__io0 (a0c0 : (List Int)) (a0c1 : Int) (a0c2 : Int) (a1 : (List Int)) : Option (Int × ((List Int) × Int × Int)) :=
  (F_spec_l1Cur_pick__io0 a0c0 a0c1 a0c2 (a1.length : Int)).bind fun z1 =>
  (ix a1 z1.1).bind fun x3 =>
  some (x3, (z1.2.1, z1.2.2.1, z1.2.2.2))
theorem c_spec_l1Cur_among__io0 {a0c0 : (List Int)} {a0c1 : Int} {a0c2 : Int} {a1 : (List Int)} {r : Int × ((List Int) × Int × Int)} (hr : F_spec_l1Cur_among__io0 a0c0 a0c1 a0c2 a1 = some r) : PCalls Try.prog 99 [(.io, .bx [.sl false 1 (a0c0.map row_u8), .int .i64 a0c1, .int .u64 a0c2]), (.sh, .sl false 1 (a1.map row_i64))] (Eo (.int .i64 r.1) [.bx [.sl false 1 (r.2.1.map row_u8), .int .i64 r.2.2.1, .int .u64 r.2.2.2], .junk]) := by
  apply pcalls_lf 12 [0] [] [] [.tmp 4] hr cl99 Try.func99 rfl rfl rfl
  · exact ⟨by simp, rfl⟩
  intro Φ hΦ hF
  unfold F_spec_l1Cur_among__io0 at hF
  try simp [go_sem]
  try intros
  refine pw_wk ?_
  try simp [go_sem]
  try intros
  refine pw_cl hF [.io, .sh] c_spec_l1Cur_pick__io0 rfl rfl (by (try simp [go_sem, clE]); first | rfl | done) (by rfl) (by (try simp [go_sem]); first | rfl | done) fun z1 hF2 => ⟨by simp [go_sem], ?_⟩
  obtain ⟨x3, g4, hF5⟩ := Rn_ix hF2
  cases hΦ _ (Rn_some hF5)
  try simp [go_sem, g4]
  refine pw_wk ?_
  try simp [go_sem, g4]
noncomputable def F_spec_l1Cur_among__io0_mv1 (a0c0 : (List Int)) (a0c1 : Int) (a0c2 : Int) (a1 : (List Int)) : Option (Int × ((List Int) × Int × Int)) :=
  (F_spec_l1Cur_pick__io0 a0c0 a0c1 a0c2 (a1.length : Int)).bind fun z1 =>
  (ix a1 z1.1).bind fun x3 =>
  some (x3, (z1.2.1, z1.2.2.1, z1.2.2.2))
theorem c_spec_l1Cur_among__io0_mv1 {a0c0 : (List Int)} {a0c1 : Int} {a0c2 : Int} {a1 : (List Int)} {r : Int × ((List Int) × Int × Int)} (hr : F_spec_l1Cur_among__io0_mv1 a0c0 a0c1 a0c2 a1 = some r) : PCalls Try.prog 99 [(.io, .bx [.sl false 1 (a0c0.map row_u8), .int .i64 a0c1, .int .u64 a0c2]), (.mv, .sl true 1 (a1.map row_i64))] (Eo (.int .i64 r.1) [.bx [.sl false 1 (r.2.1.map row_u8), .int .i64 r.2.2.1, .int .u64 r.2.2.2], .junk]) := by
  apply pcalls_lf 12 [0] [] [] [.tmp 4] hr cl99 Try.func99 rfl rfl rfl
  · exact ⟨by simp, rfl⟩
  intro Φ hΦ hF
  unfold F_spec_l1Cur_among__io0_mv1 at hF
  try simp [go_sem]
  try intros
  refine pw_wk ?_
  try simp [go_sem]
  try intros
  refine pw_cl hF [.io, .sh] c_spec_l1Cur_pick__io0 rfl rfl (by (try simp [go_sem, clE]); first | rfl | done) (by rfl) (by (try simp [go_sem]); first | rfl | done) fun z1 hF2 => ⟨by simp [go_sem], ?_⟩
  obtain ⟨x3, g4, hF5⟩ := Rn_ix hF2
  cases hΦ _ (Rn_some hF5)
  try simp [go_sem, g4]
  refine pw_wk ?_
  try simp [go_sem, g4]
noncomputable def F_spec_l1In (a0 : Int) (a1 : Int) (a2 : Int) : Option (Bool) :=
  ((if decide (a1 ≤ a0) = true then (
  some (decide (a0 ≤ a2))) else (
  some false) : Option (Bool)).bind fun (x5 : Bool) =>
  some x5)
theorem c_spec_l1In {a0 : Int} {a1 : Int} {a2 : Int} {r : Bool} (hr : F_spec_l1In a0 a1 a2 = some r) : PCalls Try.prog 80 [(.sh, .int .i64 a0), (.sh, .int .i64 a1), (.sh, .int .i64 a2)] (Eo (.bool r) [.junk, .junk, .junk]) := by
  apply pcalls_lf 15 [] [] [] [.tmp 6] hr cl80 Try.func80 rfl rfl rfl
  · exact ⟨by simp, rfl⟩
  intro Φ hΦ hF
  unfold F_spec_l1In at hF
  try simp [go_sem]
  refine pw_wk ?_
  repeat rw [sq]
  refine pw_joinF (fun (x5 : Bool) => [(6, .v (.bool x5))]) hF ?_ ?_
  ·intro x5 hF6
   cases hΦ _ (Rn_some hF6)
   try simp [go_sem]
  ·intro ψ3 hj1 hF4
   try simp [go_sem]
   refine pwg_F hF4 (fun h7 hF8 => ?_) fun h7 hF8 => ?_
   ·try simp [go_sem, h7]
    exact hj1 (decide (a0 ≤ a2)) _ (by simp [go_sem]) (Rn_some hF8)
   ·try simp [go_sem, h7]
    exact hj1 false _ (by simp [go_sem]) (Rn_some hF8)
noncomputable def F_spec_nPrime (a0 : Int) : Option (Bool) :=
  if decide (a0 < 2) = true then (
  some false) else (
  ((wloop (σ := Int) (β := Unit ⊕ Bool) (fun s9 =>
  if decide ((IntKind.i64.wrap (s9 * s9)) ≤ a0) = true then (
  gd (s9 ≠ 0) <|
  if ((a0.tmod s9) == 0) = true then (
  some (.out (.inr false))) else (
  some (.go (IntKind.i64.wrap (s9 + 1))))) else (
  some (.out (.inl ())))) 2 : Option (Unit ⊕ Bool)).bind (Sum.elim (fun (x7 : Unit) =>
  some true) some)))
theorem c_spec_nPrime {a0 : Int} {r : Bool} (hr : F_spec_nPrime a0 = some r) : PCalls Try.prog 101 [(.sh, .int .i64 a0)] (Eo (.bool r) [.junk]) := by
  apply pcalls_lf 17 [] [] [] [.tmp 2] hr cl101 Try.func101 rfl rfl rfl
  · exact ⟨by simp, rfl⟩
  intro Φ hΦ hF
  unfold F_spec_nPrime at hF
  iterate 2 (try simp [go_sem]; refine pw_wk ?_)
  repeat rw [sq]
  refine pw_cF hF (by simp [go_sem]) (fun h1 hF2 => ?_) fun h1 hF2 => ?_
  ·cases hΦ _ (Rn_some hF2)
   try simp [go_sem]
   refine pw_wk ?_
   try simp [go_sem]
  ·iterate 2 (try simp [go_sem]; refine pw_wk ?_)
   repeat rw [sq]
   refine pw_joinS (fun (x7 : Unit) => []) hF2 ?_ ?_
   ·intro x7 hF8
    cases hΦ _ (Rn_some hF8)
    try simp [go_sem]
    refine pw_wk ?_
    try simp [go_sem]
   ·intro ψ5 hj3 hr4 hF6
    repeat rw [sq]
    rw [pw_block]
    obtain ⟨b23, hb24, hψ13⟩ := hF6
    refine pw_wloop (fun (s9 : Int) => [(0, .v (.int .i64 a0)), (3, .v (.int .i64 s9))]) hb24 (by simp [go_sem]) ?_
    intro s9 φ14 N15 ho11 hg12 hF16
    try simp [go_sem]
    refine pw_wk ?_
    repeat rw [sq]
    refine pw_cF hF16 (by simp [go_sem]) (fun h17 hF18 => ?_) fun h17 hF18 => ?_
    ·try simp [go_sem]
     refine pw_wk ?_
     repeat rw [sq]
     rw [pw_block]
     obtain ⟨g19, hF20⟩ := Rn_nz hF18
     try simp [go_sem, g19]
     refine pw_wkK [0, 3, 16] (by simp [go_sem, g19]; rfl) ?_
     repeat rw [sq]
     refine pw_cF hF20 (by simp [go_sem, g19]) (fun h21 hF22 => ?_) fun h21 hF22 => ?_
     ·cases ho11 _ (Rn_some hF22)
      cases hΦ _ (hr4 _ hψ13)
      try simp [go_sem, g19]
      refine pw_wk ?_
      try simp [go_sem, g19]
     ·try simp [go_sem, g19]
      refine pw_wk ?_
      try simp [go_sem, g19]
      exact hg12 (IntKind.i64.wrap (s9 + 1)) _ (by simp [go_sem, g19]) (Rn_some hF22)
    ·try simp [go_sem]
     cases ho11 _ (Rn_some hF18)
     exact hj3 () _ (by simp [go_sem]) hψ13
noncomputable def F_spec_nPower (a0 : Int) (a1 : Int) (a2 : Int) : Option (Int) :=
  gd (a2 ≠ 0) <|
  ((wloop (σ := Int × Int × Int) (β := Int) (fun s9 =>
  if decide (0 < s9.2.1) = true then (
  ((if ((s9.2.1.tmod 2) == 1) = true then (
  gd (a2 ≠ 0) <|
  some ((IntKind.i64.wrap (s9.2.2 * s9.1)).tmod a2)) else (
  some s9.2.2) : Option (Int)).bind fun (x24 : Int) =>
  gd (a2 ≠ 0) <|
  some (.go ((IntKind.i64.wrap (s9.1 * s9.1)).tmod a2, IntKind.i64.wrap (s9.2.1.tdiv 2), x24)))) else (
  some (.out s9.2.2))) (a0, a1, (1 : Int).tmod a2) : Option (Int)).bind fun (x7 : Int) =>
  some x7)
theorem c_spec_nPower {a0 : Int} {a1 : Int} {a2 : Int} {r : Int} (hr : F_spec_nPower a0 a1 a2 = some r) : PCalls Try.prog 110 [(.sh, .int .i64 a0), (.sh, .int .i64 a1), (.sh, .int .i64 a2)] (Eo (.int .i64 r) [.junk, .junk, .junk]) := by
  apply pcalls_lf 28 [] [] [] [.tmp 6] hr cl110 Try.func110 rfl rfl rfl
  · exact ⟨by simp, rfl⟩
  intro Φ hΦ hF
  unfold F_spec_nPower at hF
  obtain ⟨g1, hF2⟩ := Rn_nz hF
  iterate 2 (try simp [go_sem, g1]; refine pw_wk ?_)
  repeat rw [sq]
  refine pw_joinF (fun (x7 : Int) => [(7, .v (.int .i64 x7))]) hF2 ?_ ?_
  ·intro x7 hF8
   cases hΦ _ (Rn_some hF8)
   try simp [go_sem, g1]
   refine pw_wk ?_
   try simp [go_sem, g1]
  ·intro ψ5 hj3 hF6
   repeat rw [sq]
   rw [pw_block]
   obtain ⟨b33, hb34, hψ13⟩ := hF6
   refine pw_wloop (fun (s9 : Int × Int × Int) => [(0, .v (.int .i64 s9.1)), (1, .v (.int .i64 s9.2.1)), (2, .v (.int .i64 a2)), (7, .v (.int .i64 s9.2.2))]) hb34 (by simp [go_sem, g1]) ?_
   intro s9 φ14 N15 ho11 hg12 hF16
   try simp [go_sem, g1]
   refine pw_wk ?_
   repeat rw [sq]
   refine pw_cF hF16 (by simp [go_sem, g1]) (fun h17 hF18 => ?_) fun h17 hF18 => ?_
   ·try simp [go_sem, g1]
    refine pw_wk ?_
    repeat rw [sq]
    rw [pw_block]
    have g19 := fun x => divV_ne (b := 2) (x := x) (by decide)
    try simp [go_sem, g1, g19]
    refine pw_wk ?_
    repeat rw [sq]
    refine pw_joinF (fun (x24 : Int) => [(0, .v (.int .i64 s9.1)), (1, .v (.int .i64 s9.2.1)), (2, .v (.int .i64 a2)), (7, .v (.int .i64 x24))]) hF18 ?_ ?_
    ·intro x24 hF25
     obtain ⟨g30, hF31⟩ := Rn_nz hF25
     try simp [go_sem, g1, g19, g30]
     refine pw_wkK [0, 1, 2, 7] (by simp [go_sem, g1, g19, g30]; rfl) ?_
     have g32 := fun x => divV_ne (b := 2) (x := x) (by decide)
     try simp [go_sem, g1, g19, g30, g32]
     exact hg12 ((IntKind.i64.wrap (s9.1 * s9.1)).tmod a2, IntKind.i64.wrap (s9.2.1.tdiv 2), x24) _ (by simp [go_sem, g1, g19, g30, g32]) (Rn_some hF31)
    ·intro ψ22 hj20 hF23
     repeat rw [sq]
     refine pw_cF hF23 (by simp [go_sem, g1, g19]) (fun h26 hF27 => ?_) fun h26 hF27 => ?_
     ·obtain ⟨g28, hF29⟩ := Rn_nz hF27
      try simp [go_sem, g1, g19, g28]
      exact hj20 ((IntKind.i64.wrap (s9.2.2 * s9.1)).tmod a2) _ (by simp [go_sem, g1, g19, g28]) (Rn_some hF29)
     ·try simp [go_sem, g1, g19]
      exact hj20 s9.2.2 _ (by simp [go_sem, g1, g19]) (Rn_some hF27)
   ·try simp [go_sem, g1]
    cases ho11 _ (Rn_some hF18)
    exact hj3 s9.2.2 _ (by simp [go_sem, g1]) hψ13
noncomputable def F_spec_MakeGroup (a0 : Int) : Option (Group × Bool) :=
  (((F_spec_l1In a0 2 1000000).bind fun z7 =>
  if (!z7) = true then (
  some true) else (
  (F_spec_nPrime a0).bind fun z11 =>
  some (!z11)) : Option (Bool)).bind fun (x5 : Bool) =>
  if x5 = true then (
  some ((Group.mk 0 0 0), false)) else (
  ((wloop (σ := Int) (β := Unit ⊕ (Group × Bool)) (fun s21 =>
  if decide (s21 ≤ 2000000000) = true then (
  (F_spec_nPrime s21).bind fun z31 =>
  if (!z31) = true then (
  some (.go (IntKind.i64.wrap (s21 + a0)))) else (
  ((wloop (σ := Int) (β := Int) (fun s41 =>
  gd (a0 ≠ 0) <|
  (F_spec_nPower s41 (IntKind.i64.wrap ((IntKind.i64.wrap (s21 - 1)).tdiv a0)) s21).bind fun z51 =>
  if (z51 == 1) = true then (
  some (.go (IntKind.i64.wrap (s41 + 1)))) else (
  some (.out s41))) 2 : Option (Int)).bind fun (x39 : Int) =>
  gd (a0 ≠ 0) <|
  (F_spec_nPower x39 (IntKind.i64.wrap ((IntKind.i64.wrap (s21 - 1)).tdiv a0)) s21).bind fun z59 =>
  some (.out (.inr ((Group.mk s21 a0 z59), true)))))) else (
  some (.out (.inl ())))) (IntKind.i64.wrap (a0 + 1)) : Option (Unit ⊕ (Group × Bool))).bind (Sum.elim (fun (x19 : Unit) =>
  some ((Group.mk 0 0 0), false)) some))))
theorem c_spec_MakeGroup {a0 : Int} {r : Group × Bool} (hr : F_spec_MakeGroup a0 = some r) : PCalls Try.prog 109 [(.sh, .int .i64 a0)] (Eo (.tup [.agg [.int .i64 r.1.P, .int .i64 r.1.Q, .int .i64 r.1.G], .bool r.2]) [.junk]) := by
  apply pcalls_lf 46 [] [] [] [.cell 2 27, .tmp 3] hr cl109 Try.func109 rfl rfl rfl
  · exact ⟨by simp, rfl⟩
  intro Φ hΦ hF
  unfold F_spec_MakeGroup at hF
  try simp [go_sem]
  refine pw_wk ?_
  repeat rw [sq]
  refine pw_joinF (fun (x5 : Bool) => [(0, .v (.int .i64 a0)), (2, .bl [.int .i64 0, .int .i64 0, .int .i64 0]), (13, .v (.bool x5))]) hF ?_ ?_
  ·intro x5 hF6
   repeat rw [sq]
   refine pw_cF hF6 (by simp [go_sem]) (fun h13 hF14 => ?_) fun h13 hF14 => ?_
   ·cases hΦ _ (Rn_some hF14)
    try simp [go_sem]
    refine pw_wk ?_
    try simp [go_sem]
   ·iterate 2 (try simp [go_sem]; refine pw_wk ?_)
    repeat rw [sq]
    refine pw_joinS (fun (x19 : Unit) => [(2, .bl [.int .i64 0, .int .i64 0, .int .i64 0])]) hF14 ?_ ?_
    ·intro x19 hF20
     cases hΦ _ (Rn_some hF20)
     try simp [go_sem]
     refine pw_wk ?_
     try simp [go_sem]
    ·intro ψ17 hj15 hr16 hF18
     repeat rw [sq]
     rw [pw_block]
     obtain ⟨b61, hb62, hψ25⟩ := hF18
     refine pw_wloop (fun (s21 : Int) => [(0, .v (.int .i64 a0)), (2, .bl [.int .i64 0, .int .i64 0, .int .i64 0]), (4, .v (.int .i64 s21))]) hb62 (by simp [go_sem]) ?_
     intro s21 φ26 N27 ho23 hg24 hF28
     try simp [go_sem]
     refine pw_wk ?_
     repeat rw [sq]
     refine pw_cF hF28 (by simp [go_sem]) (fun h29 hF30 => ?_) fun h29 hF30 => ?_
     ·try simp [go_sem]
      refine pw_wk ?_
      repeat rw [sq]
      rw [pw_block]
      try simp [go_sem]
      refine pw_cl hF30 [.sh] c_spec_nPrime rfl rfl (by (try simp [go_sem, clE]); first | rfl | done) (by rfl) (by (try simp [go_sem]); first | rfl | done) fun z31 hF32 => ⟨by simp [go_sem], ?_⟩
      try simp [go_sem]
      refine pw_wkK [0, 2, 4, 24] (by simp [go_sem]; rfl) ?_
      repeat rw [sq]
      refine pw_cF hF32 (by simp [go_sem]) (fun h33 hF34 => ?_) fun h33 hF34 => ?_
      ·try simp [go_sem]
       refine pw_wk ?_
       try simp [go_sem]
       exact hg24 (IntKind.i64.wrap (s21 + a0)) _ (by simp [go_sem]) (Rn_some hF34)
      ·iterate 2 (try simp [go_sem]; refine pw_wk ?_)
       repeat rw [sq]
       refine pw_joinF (fun (x39 : Int) => [(0, .v (.int .i64 a0)), (2, .bl [.int .i64 0, .int .i64 0, .int .i64 0]), (4, .v (.int .i64 s21)), (5, .v (.int .i64 x39))]) hF34 ?_ ?_
       ·intro x39 hF40
        obtain ⟨g57, hF58⟩ := Rn_nz hF40
        try simp [go_sem, g57]
        refine pw_cl hF58 [.sh, .sh, .sh] c_spec_nPower rfl rfl (by (try simp [go_sem, clE, g57]); first | rfl | done) (by rfl) (by (try simp [go_sem, g57]); first | rfl | done) fun z59 hF60 => ⟨by simp [go_sem], ?_⟩
        try simp [go_sem, g57]
        refine pw_wkK [2, 3] (by simp [go_sem, g57]; rfl) ?_
        cases ho23 _ (Rn_some hF60)
        cases hΦ _ (hr16 _ hψ25)
        try simp [go_sem, g57]
       ·intro ψ37 hj35 hF38
        repeat rw [sq]
        rw [pw_block]
        obtain ⟨b55, hb56, hψ45⟩ := hF38
        refine pw_wloop (fun (s41 : Int) => [(0, .v (.int .i64 a0)), (2, .bl [.int .i64 0, .int .i64 0, .int .i64 0]), (4, .v (.int .i64 s21)), (5, .v (.int .i64 s41))]) hb56 (by simp [go_sem]) ?_
        intro s41 φ46 N47 ho43 hg44 hF48
        obtain ⟨g49, hF50⟩ := Rn_nz hF48
        try simp [go_sem, g49]
        refine pw_cl hF50 [.sh, .sh, .sh] c_spec_nPower rfl rfl (by (try simp [go_sem, clE, g49]); first | rfl | done) (by rfl) (by (try simp [go_sem, g49]); first | rfl | done) fun z51 hF52 => ⟨by simp [go_sem], ?_⟩
        try simp [go_sem, g49]
        refine pw_wk ?_
        repeat rw [sq]
        refine pw_cF hF52 (by simp [go_sem, g49]) (fun h53 hF54 => ?_) fun h53 hF54 => ?_
        ·try simp [go_sem, g49]
         refine pw_wk ?_
         repeat rw [sq]
         rw [pw_block]
         try simp [go_sem, g49]
         exact hg44 (IntKind.i64.wrap (s41 + 1)) _ (by simp [go_sem, g49]) (Rn_some hF54)
        ·try simp [go_sem, g49]
         cases ho43 _ (Rn_some hF54)
         first | exact hj35 s41 _ (by simp [go_sem, g49]) hψ45 | exact hj35 _ _ (by simp [go_sem, g49]) hψ45
     ·try simp [go_sem]
      cases ho23 _ (Rn_some hF30)
      exact hj15 () _ (by simp [go_sem]) hψ25
  ·intro ψ3 hj1 hF4
   try simp [go_sem]
   refine pw_cl hF4 [.sh, .sh, .sh] c_spec_l1In rfl rfl (by (try simp [go_sem, clE]); first | rfl | done) (by rfl) (by (try simp [go_sem]); first | rfl | done) fun z7 hF8 => ⟨by simp [go_sem], ?_⟩
   try simp [go_sem]
   refine pwg_F hF8 (fun h9 hF10 => ?_) fun h9 hF10 => ?_
   ·try simp [go_sem, h9]
    exact hj1 true _ (by simp [go_sem]) (Rn_some hF10)
   ·try simp [go_sem, h9]
    refine pw_cl hF10 [.sh] c_spec_nPrime rfl rfl (by (try simp [go_sem, clE]); first | rfl | done) (by rfl) (by (try simp [go_sem]); first | rfl | done) fun z11 hF12 => ⟨by simp [go_sem], ?_⟩
    try simp [go_sem, h9]
    exact hj1 (!z11) _ (by simp [go_sem]) (Rn_some hF12)
noncomputable def F_spec_l1Cur_tiny__io0 (a0c0 : (List Int)) (a0c1 : Int) (a0c2 : Int) : Option (Group × ((List Int) × Int × Int)) :=
  (F_spec_l1Cur_among__io0_mv1 a0c0 a0c1 a0c2 [3, 5, 5, 7, 11, 11, 13, 23]).bind fun z1 =>
  (F_spec_MakeGroup z1.1).bind fun z3 =>
  some (z3.1, (z1.2.1, z1.2.2.1, z1.2.2.2))
theorem c_spec_l1Cur_tiny__io0 {a0c0 : (List Int)} {a0c1 : Int} {a0c2 : Int} {r : Group × ((List Int) × Int × Int)} (hr : F_spec_l1Cur_tiny__io0 a0c0 a0c1 a0c2 = some r) : PCalls Try.prog 133 [(.io, .bx [.sl false 1 (a0c0.map row_u8), .int .i64 a0c1, .int .u64 a0c2])] (Eo (.agg [.int .i64 r.1.P, .int .i64 r.1.Q, .int .i64 r.1.G]) [.bx [.sl false 1 (r.2.1.map row_u8), .int .i64 r.2.2.1, .int .u64 r.2.2.2]]) := by
  apply pcalls_lf 13 [0] [] [] [.cell 2 27] hr cl133 Try.func133 rfl rfl rfl
  · exact ⟨by simp, rfl⟩
  intro Φ hΦ hF
  unfold F_spec_l1Cur_tiny__io0 at hF
  try simp [go_sem]
  refine pw_wk ?_
  try simp [go_sem]
  refine pw_cl hF [.io, .mv] c_spec_l1Cur_among__io0_mv1 rfl rfl (by (try simp [go_sem, clE]); first | rfl | done) (by rfl) (by (try simp [go_sem]); first | rfl | done) fun z1 hF2 => ⟨by simp [go_sem], ?_⟩
  try simp [go_sem]
  refine pw_cl hF2 [.sh] c_spec_MakeGroup rfl rfl (by (try simp [go_sem, clE]); first | rfl | done) (by rfl) (by (try simp [go_sem]); first | rfl | done) fun z3 hF4 => ⟨by simp [go_sem], ?_⟩
  try simp [go_sem]
  refine pw_wkK [0, 2, 3] (by simp [go_sem]; rfl) ?_
  cases hΦ _ (Rn_some hF4)
  try simp [go_sem]
  refine pw_wk ?_
  try simp [go_sem]
noncomputable def F_spec_nMod (a0 : Int) (a1 : Int) : Option (Int) :=
  gd (a1 ≠ 0) <|
  gd (a1 ≠ 0) <|
  some ((IntKind.i64.wrap ((a0.tmod a1) + a1)).tmod a1)
theorem c_spec_nMod {a0 : Int} {a1 : Int} {r : Int} (hr : F_spec_nMod a0 a1 = some r) : PCalls Try.prog 147 [(.sh, .int .i64 a0), (.sh, .int .i64 a1)] (Eo (.int .i64 r) [.junk, .junk]) := by
  apply pcalls_lf 12 [] [] [] [.tmp 4] hr cl147 Try.func147 rfl rfl rfl
  · exact ⟨by simp, rfl⟩
  intro Φ hΦ hF
  unfold F_spec_nMod at hF
  obtain ⟨g1, hF2⟩ := Rn_nz hF
  obtain ⟨g3, hF4⟩ := Rn_nz hF2
  cases hΦ _ (Rn_some hF4)
  iterate 2 (try simp [go_sem, g1, g3]; refine pw_wk ?_)
  try simp [go_sem, g1, g3]
noncomputable def F_spec_gExp (a0 : Group) (a1 : Int) (a2 : Int) : Option (Int) :=
  (F_spec_nMod a2 a0.Q).bind fun z1 =>
  (F_spec_nPower a1 z1 a0.P).bind fun z3 =>
  some z3
theorem c_spec_gExp {a0 : Group} {a1 : Int} {a2 : Int} {r : Int} (hr : F_spec_gExp a0 a1 a2 = some r) : PCalls Try.prog 116 [(.sh, .agg [.int .i64 a0.P, .int .i64 a0.Q, .int .i64 a0.G]), (.sh, .int .i64 a1), (.sh, .int .i64 a2)] (Eo (.int .i64 r) [.junk, .junk, .junk]) := by
  apply pcalls_lf 15 [] [] [] [.tmp 6] hr cl116 Try.func116 rfl rfl rfl
  · exact ⟨by simp, rfl⟩
  intro Φ hΦ hF
  unfold F_spec_gExp at hF
  try simp [go_sem]
  refine pw_wk ?_
  repeat rw [sq]
  refine pw_draw D116_1 follows (by kernel_rfl) rfl ?_
  try simp only [go_sem, D116_1]
  try simp [go_sem]
  refine pw_cl hF [.sh, .sh] c_spec_nMod rfl rfl (by (try simp [go_sem, clE]); first | rfl | done) (by rfl) (by (try simp [go_sem]); first | rfl | done) fun z1 hF2 => ⟨by simp [go_sem], ?_⟩
  try simp [go_sem]
  refine pw_cl hF2 [.sh, .sh, .sh] c_spec_nPower rfl rfl (by (try simp [go_sem, clE]); first | rfl | done) (by rfl) (by (try simp [go_sem]); first | rfl | done) fun z3 hF4 => ⟨by simp [go_sem], ?_⟩
  try simp [go_sem]
  refine pw_wkK [6] (by simp [go_sem]; rfl) ?_
  cases hΦ _ (Rn_some hF4)
  try simp [go_sem]
noncomputable def F_spec_l1Cur_group__io0 (a0c0 : (List Int)) (a0c1 : Int) (a0c2 : Int) : Option (Group × ((List Int) × Int × Int)) :=
  (F_spec_l1Cur_pick__io0 a0c0 a0c1 a0c2 6).bind fun z1 =>
  if (z1.1 == 0) = true then (
  some ((Group.mk 1000000007 500000003 4), (z1.2.1, z1.2.2.1, z1.2.2.2))) else (
  if (z1.1 == 1) = true then (
  (F_spec_l1Cur_among__io0_mv1 z1.2.1 z1.2.2.1 z1.2.2.2 [101, 1009, 1019, 65537, 999983]).bind fun z7 =>
  (F_spec_MakeGroup z7.1).bind fun z9 =>
  some (z9.1, (z7.2.1, z7.2.2.1, z7.2.2.2))) else (
  (F_spec_l1Cur_tiny__io0 z1.2.1 z1.2.2.1 z1.2.2.2).bind fun z11 =>
  (F_spec_l1Cur_pick__io0 z11.2.1 z11.2.2.1 z11.2.2.2 (IntKind.i64.wrap (z11.1.Q - 1))).bind fun z13 =>
  (F_spec_gExp z11.1 z11.1.G (IntKind.i64.wrap (1 + z13.1))).bind fun z15 =>
  some ((Group.mk z11.1.P z11.1.Q z15), (z13.2.1, z13.2.2.1, z13.2.2.2))))
theorem c_spec_l1Cur_group__io0 {a0c0 : (List Int)} {a0c1 : Int} {a0c2 : Int} {r : Group × ((List Int) × Int × Int)} (hr : F_spec_l1Cur_group__io0 a0c0 a0c1 a0c2 = some r) : PCalls Try.prog 154 [(.io, .bx [.sl false 1 (a0c0.map row_u8), .int .i64 a0c1, .int .u64 a0c2])] (Eo (.agg [.int .i64 r.1.P, .int .i64 r.1.Q, .int .i64 r.1.G]) [.bx [.sl false 1 (r.2.1.map row_u8), .int .i64 r.2.2.1, .int .u64 r.2.2.2]]) := by
  apply pcalls_lf 35 [0] [] [] [.cell 2 27] hr cl154 Try.func154 rfl rfl rfl
  · exact ⟨by simp, rfl⟩
  intro Φ hΦ hF
  unfold F_spec_l1Cur_group__io0 at hF
  try simp [go_sem]
  refine pw_wk ?_
  try simp [go_sem]
  refine pw_cl hF [.io, .sh] c_spec_l1Cur_pick__io0 rfl rfl (by (try simp [go_sem, clE]); first | rfl | done) (by rfl) (by (try simp [go_sem]); first | rfl | done) fun z1 hF2 => ⟨by simp [go_sem], ?_⟩
  try simp [go_sem]
  refine pw_wk ?_
  repeat rw [sq]
  rw [pw_block]
  try simp [go_sem]
  refine pw_wk ?_
  repeat rw [sq]
  refine pw_cF hF2 (by simp [go_sem]) (fun h3 hF4 => ?_) fun h3 hF4 => ?_
  ·cases hΦ _ (Rn_some hF4)
   try simp [go_sem]
   refine pw_wk ?_
   try simp [go_sem]
  ·try simp [go_sem]
   refine pw_wk ?_
   repeat rw [sq]
   refine pw_cF hF4 (by simp [go_sem]) (fun h5 hF6 => ?_) fun h5 hF6 => ?_
   ·try simp [go_sem]
    refine pw_cl hF6 [.io, .mv] c_spec_l1Cur_among__io0_mv1 rfl rfl (by (try simp [go_sem, clE]); first | rfl | done) (by rfl) (by (try simp [go_sem]); first | rfl | done) fun z7 hF8 => ⟨by simp [go_sem], ?_⟩
    try simp [go_sem]
    refine pw_cl hF8 [.sh] c_spec_MakeGroup rfl rfl (by (try simp [go_sem, clE]); first | rfl | done) (by rfl) (by (try simp [go_sem]); first | rfl | done) fun z9 hF10 => ⟨by simp [go_sem], ?_⟩
    try simp [go_sem]
    refine pw_wkK [0, 2, 3] (by simp [go_sem]; rfl) ?_
    cases hΦ _ (Rn_some hF10)
    try simp [go_sem]
    refine pw_wk ?_
    try simp [go_sem]
   ·try simp [go_sem]
    refine pw_wk ?_
    try simp [go_sem]
    refine pw_cl hF6 [.io] c_spec_l1Cur_tiny__io0 rfl rfl (by (try simp [go_sem, clE]); first | rfl | done) (by rfl) (by (try simp [go_sem]); first | rfl | done) fun z11 hF12 => ⟨by simp [go_sem], ?_⟩
    try simp [go_sem]
    refine pw_wkK [0, 2, 5] (by simp [go_sem]; rfl) ?_
    repeat rw [sq]
    refine pw_draw D154_8 follows (by kernel_rfl) rfl ?_
    try simp only [go_sem, D154_8]
    try simp [go_sem]
    refine pw_cl hF12 [.io, .sh] c_spec_l1Cur_pick__io0 rfl rfl (by (try simp [go_sem, clE]); first | rfl | done) (by rfl) (by (try simp [go_sem]); first | rfl | done) fun z13 hF14 => ⟨by simp [go_sem], ?_⟩
    try simp [go_sem]
    refine pw_cl hF14 [.sh, .sh, .sh] c_spec_gExp rfl rfl (by (try simp [go_sem, clE]); first | rfl | done) (by rfl) (by (try simp [go_sem]); first | rfl | done) fun z15 hF16 => ⟨by simp [go_sem], ?_⟩
    try simp [go_sem]
    refine pw_wkK [0, 2, 5] (by simp [go_sem]; rfl) ?_
    cases hΦ _ (Rn_some hF16)
    try simp [go_sem]
    refine pw_wk ?_
    try simp [go_sem]
noncomputable def F_spec_l1Cur_anyGroup__io0 (a0c0 : (List Int)) (a0c1 : Int) (a0c2 : Int) : Option (Group × ((List Int) × Int × Int)) :=
  (F_spec_l1Cur_group__io0 a0c0 a0c1 a0c2).bind fun z1 =>
  (F_spec_l1Cur_pick__io0 z1.2.1 z1.2.2.1 z1.2.2.2 24).bind fun z3 =>
  ((if (z3.1 == 0) = true then (
  (F_spec_l1Cur_among__io0_mv1 z3.2.1 z3.2.2.1 z3.2.2.2 [0, IntKind.i64.wrap (z1.1.P + 2), 4, (-7)]).bind fun z13 =>
  some ((z13.2.1, z13.2.2.1, z13.2.2.2), z13.1, z1.1.Q, z1.1.G)) else (
  if (z3.1 == 1) = true then (
  (F_spec_l1Cur_among__io0_mv1 z3.2.1 z3.2.2.1 z3.2.2.2 [0, 1, IntKind.i64.wrap (z1.1.Q + 1), IntKind.i64.wrap (z1.1.P - 1)]).bind fun z17 =>
  some ((z17.2.1, z17.2.2.1, z17.2.2.2), z1.1.P, z17.1, z1.1.G)) else (
  if (z3.1 == 2) = true then (
  (F_spec_l1Cur_among__io0_mv1 z3.2.1 z3.2.2.1 z3.2.2.2 [0, 1, IntKind.i64.wrap (z1.1.P - 1), z1.1.P, IntKind.i64.wrap (z1.1.G + 1)]).bind fun z21 =>
  some ((z21.2.1, z21.2.2.1, z21.2.2.2), z1.1.P, z1.1.Q, z21.1)) else (
  some ((z3.2.1, z3.2.2.1, z3.2.2.2), z1.1.P, z1.1.Q, z1.1.G)))) : Option ((((List Int) × Int × Int) × Int × Int × Int))).bind fun (x9 : ((List Int) × Int × Int) × Int × Int × Int) =>
  some ((Group.mk x9.2.1 x9.2.2.1 x9.2.2.2), (x9.1.1, x9.1.2.1, x9.1.2.2)))
theorem c_spec_l1Cur_anyGroup__io0 {a0c0 : (List Int)} {a0c1 : Int} {a0c2 : Int} {r : Group × ((List Int) × Int × Int)} (hr : F_spec_l1Cur_anyGroup__io0 a0c0 a0c1 a0c2 = some r) : PCalls Try.prog 132 [(.io, .bx [.sl false 1 (a0c0.map row_u8), .int .i64 a0c1, .int .u64 a0c2])] (Eo (.agg [.int .i64 r.1.P, .int .i64 r.1.Q, .int .i64 r.1.G]) [.bx [.sl false 1 (r.2.1.map row_u8), .int .i64 r.2.2.1, .int .u64 r.2.2.2]]) := by
  apply pcalls_lf 44 [0] [] [] [.cell 2 27] hr cl132 Try.func132 rfl rfl rfl
  · exact ⟨by simp, rfl⟩
  intro Φ hΦ hF
  unfold F_spec_l1Cur_anyGroup__io0 at hF
  try simp [go_sem]
  refine pw_wk ?_
  try simp [go_sem]
  refine pw_cl hF [.io] c_spec_l1Cur_group__io0 rfl rfl (by (try simp [go_sem, clE]); first | rfl | done) (by rfl) (by (try simp [go_sem]); first | rfl | done) fun z1 hF2 => ⟨by simp [go_sem], ?_⟩
  try simp [go_sem]
  refine pw_wk ?_
  try simp [go_sem]
  refine pw_cl hF2 [.io, .sh] c_spec_l1Cur_pick__io0 rfl rfl (by (try simp [go_sem, clE]); first | rfl | done) (by rfl) (by (try simp [go_sem]); first | rfl | done) fun z3 hF4 => ⟨by simp [go_sem], ?_⟩
  try simp [go_sem]
  refine pw_wk ?_
  repeat rw [sq]
  refine pw_joinF (fun (x9 : ((List Int) × Int × Int) × Int × Int × Int) => [(0, .v (.bx [.sl false 1 (x9.1.1.map row_u8), .int .i64 x9.1.2.1, .int .u64 x9.1.2.2])), (2, .bl [.int .i64 0, .int .i64 0, .int .i64 0]), (3, .bl [.int .i64 x9.2.1, .int .i64 x9.2.2.1, .int .i64 x9.2.2.2])]) hF4 ?_ ?_
  ·intro x9 hF10
   cases hΦ _ (Rn_some hF10)
   try simp [go_sem]
   refine pw_wk ?_
   try simp [go_sem]
  ·intro ψ7 hj5 hF8
   repeat rw [sq]
   rw [pw_block]
   try simp [go_sem]
   refine pw_wk ?_
   repeat rw [sq]
   refine pw_cF hF8 (by simp [go_sem]) (fun h11 hF12 => ?_) fun h11 hF12 => ?_
   ·try simp [go_sem]
    refine pw_cl hF12 [.io, .mv] c_spec_l1Cur_among__io0_mv1 rfl rfl (by (try simp [go_sem, clE]); first | rfl | done) (by rfl) (by (try simp [go_sem]); first | rfl | done) fun z13 hF14 => ⟨by simp [go_sem], ?_⟩
    try simp [go_sem]
    exact hj5 ((z13.2.1, z13.2.2.1, z13.2.2.2), z13.1, z1.1.Q, z1.1.G) _ (by simp [go_sem]) (Rn_some hF14)
   ·try simp [go_sem]
    refine pw_wkK [0, 2, 3, 7, 17] (by simp [go_sem]; rfl) ?_
    repeat rw [sq]
    refine pw_cF hF12 (by simp [go_sem]) (fun h15 hF16 => ?_) fun h15 hF16 => ?_
    ·try simp [go_sem]
     refine pw_cl hF16 [.io, .mv] c_spec_l1Cur_among__io0_mv1 rfl rfl (by (try simp [go_sem, clE]); first | rfl | done) (by rfl) (by (try simp [go_sem]); first | rfl | done) fun z17 hF18 => ⟨by simp [go_sem], ?_⟩
     try simp [go_sem]
     exact hj5 ((z17.2.1, z17.2.2.1, z17.2.2.2), z1.1.P, z17.1, z1.1.G) _ (by simp [go_sem]) (Rn_some hF18)
    ·try simp [go_sem]
     refine pw_wk ?_
     repeat rw [sq]
     refine pw_cF hF16 (by simp [go_sem]) (fun h19 hF20 => ?_) fun h19 hF20 => ?_
     ·try simp [go_sem]
      refine pw_cl hF20 [.io, .mv] c_spec_l1Cur_among__io0_mv1 rfl rfl (by (try simp [go_sem, clE]); first | rfl | done) (by rfl) (by (try simp [go_sem]); first | rfl | done) fun z21 hF22 => ⟨by simp [go_sem], ?_⟩
      try simp [go_sem]
      exact hj5 ((z21.2.1, z21.2.2.1, z21.2.2.2), z1.1.P, z1.1.Q, z21.1) _ (by simp [go_sem]) (Rn_some hF22)
     ·try simp [go_sem]
      exact hj5 ((z3.2.1, z3.2.2.1, z3.2.2.2), z1.1.P, z1.1.Q, z1.1.G) _ (by simp [go_sem]) (Rn_some hF20)
noncomputable def F_spec_l1Cur_shared__io0 (a0c0 : (List Int)) (a0c1 : Int) (a0c2 : Int) : Option (Group × ((List Int) × Int × Int)) :=
  (F_spec_l1Cur_one__io0 a0c0 a0c1 a0c2 16).bind fun z1 =>
  if z1.1 = true then (
  (F_spec_l1Cur_anyGroup__io0 z1.2.1 z1.2.2.1 z1.2.2.2).bind fun z5 =>
  some (z5.1, (z5.2.1, z5.2.2.1, z5.2.2.2))) else (
  (F_spec_l1Cur_among__io0_mv1 z1.2.1 z1.2.2.1 z1.2.2.2 [11, 11, 13, 23, 23, 101, 1019]).bind fun z7 =>
  (F_spec_MakeGroup z7.1).bind fun z9 =>
  some (z9.1, (z7.2.1, z7.2.2.1, z7.2.2.2)))
theorem c_spec_l1Cur_shared__io0 {a0c0 : (List Int)} {a0c1 : Int} {a0c2 : Int} {r : Group × ((List Int) × Int × Int)} (hr : F_spec_l1Cur_shared__io0 a0c0 a0c1 a0c2 = some r) : PCalls Try.prog 103 [(.io, .bx [.sl false 1 (a0c0.map row_u8), .int .i64 a0c1, .int .u64 a0c2])] (Eo (.agg [.int .i64 r.1.P, .int .i64 r.1.Q, .int .i64 r.1.G]) [.bx [.sl false 1 (r.2.1.map row_u8), .int .i64 r.2.2.1, .int .u64 r.2.2.2]]) := by
  apply pcalls_lf 17 [0] [] [] [.cell 2 27] hr cl103 Try.func103 rfl rfl rfl
  · exact ⟨by simp, rfl⟩
  intro Φ hΦ hF
  unfold F_spec_l1Cur_shared__io0 at hF
  try simp [go_sem]
  refine pw_wk ?_
  try simp [go_sem]
  refine pw_cl hF [.io, .sh] c_spec_l1Cur_one__io0 rfl rfl (by (try simp [go_sem, clE]); first | rfl | done) (by rfl) (by (try simp [go_sem]); first | rfl | done) fun z1 hF2 => ⟨by simp [go_sem], ?_⟩
  try simp [go_sem]
  refine pw_wk ?_
  repeat rw [sq]
  refine pw_cF hF2 (by simp [go_sem]) (fun h3 hF4 => ?_) fun h3 hF4 => ?_
  ·try simp [go_sem]
   refine pw_cl hF4 [.io] c_spec_l1Cur_anyGroup__io0 rfl rfl (by (try simp [go_sem, clE]); first | rfl | done) (by rfl) (by (try simp [go_sem]); first | rfl | done) fun z5 hF6 => ⟨by simp [go_sem], ?_⟩
   cases hΦ _ (Rn_some hF6)
   try simp [go_sem]
   refine pw_wk ?_
   try simp [go_sem]
  ·try simp [go_sem]
   refine pw_wk ?_
   try simp [go_sem]
   refine pw_cl hF4 [.io, .mv] c_spec_l1Cur_among__io0_mv1 rfl rfl (by (try simp [go_sem, clE]); first | rfl | done) (by rfl) (by (try simp [go_sem]); first | rfl | done) fun z7 hF8 => ⟨by simp [go_sem], ?_⟩
   try simp [go_sem]
   refine pw_cl hF8 [.sh] c_spec_MakeGroup rfl rfl (by (try simp [go_sem, clE]); first | rfl | done) (by rfl) (by (try simp [go_sem]); first | rfl | done) fun z9 hF10 => ⟨by simp [go_sem], ?_⟩
   try simp [go_sem]
   refine pw_wkK [0, 2, 3] (by simp [go_sem]; rfl) ?_
   cases hΦ _ (Rn_some hF10)
   try simp [go_sem]
   refine pw_wk ?_
   try simp [go_sem]
noncomputable def F_spec_l2Good (a0 : Group) : Option (Bool) :=
  (((F_spec_l1In a0.P 3 2000000000).bind fun z7 =>
  if z7 = true then (
  (F_spec_l1In a0.Q 2 (IntKind.i64.wrap (a0.P - 1))).bind fun z11 =>
  if z11 = true then (
  gd (a0.Q ≠ 0) <|
  if (((IntKind.i64.wrap (a0.P - 1)).tmod a0.Q) == 0) = true then (
  (F_spec_l1In a0.G 2 (IntKind.i64.wrap (a0.P - 1))).bind fun z19 =>
  if z19 = true then (
  (F_spec_nPower a0.G a0.Q a0.P).bind fun z23 =>
  if (z23 == 1) = true then (
  (F_spec_nPrime a0.Q).bind fun z27 =>
  if z27 = true then (
  (F_spec_nPrime a0.P).bind fun z31 =>
  some z31) else (
  some false)) else (
  some false)) else (
  some false)) else (
  some false)) else (
  some false)) else (
  some false) : Option (Bool)).bind fun (x5 : Bool) =>
  some x5)
theorem c_spec_l2Good {a0 : Group} {r : Bool} (hr : F_spec_l2Good a0 = some r) : PCalls Try.prog 96 [(.sh, .agg [.int .i64 a0.P, .int .i64 a0.Q, .int .i64 a0.G])] (Eo (.bool r) [.junk]) := by
  apply pcalls_lf 51 [] [] [] [.tmp 2] hr cl96 Try.func96 rfl rfl rfl
  · exact ⟨by simp, rfl⟩
  intro Φ hΦ hF
  unfold F_spec_l2Good at hF
  try simp [go_sem]
  refine pw_wk ?_
  repeat rw [sq]
  refine pw_joinF (fun (x5 : Bool) => [(2, .v (.bool x5))]) hF ?_ ?_
  ·intro x5 hF6
   cases hΦ _ (Rn_some hF6)
   try simp [go_sem]
  ·intro ψ3 hj1 hF4
   try simp [go_sem]
   refine pw_cl hF4 [.sh, .sh, .sh] c_spec_l1In rfl rfl (by (try simp [go_sem, clE]); first | rfl | done) (by rfl) (by (try simp [go_sem]); first | rfl | done) fun z7 hF8 => ⟨by simp [go_sem], ?_⟩
   try simp [go_sem]
   refine pwg_F hF8 (fun h9 hF10 => ?_) fun h9 hF10 => ?_
   ·try simp [go_sem, h9]
    refine pw_cl hF10 [.sh, .sh, .sh] c_spec_l1In rfl rfl (by (try simp [go_sem, clE]); first | rfl | done) (by rfl) (by (try simp [go_sem]); first | rfl | done) fun z11 hF12 => ⟨by simp [go_sem], ?_⟩
    try simp [go_sem, h9]
    refine pwg_F hF12 (fun h13 hF14 => ?_) fun h13 hF14 => ?_
    ·obtain ⟨g15, hF16⟩ := Rn_nz hF14
     try simp [go_sem, g15, h13]
     refine pwg_F hF16 (fun h17 hF18 => ?_) fun h17 hF18 => ?_
     ·try simp [go_sem, g15, h17]
      refine pw_cl hF18 [.sh, .sh, .sh] c_spec_l1In rfl rfl (by (try simp [go_sem, clE, g15]); first | rfl | done) (by rfl) (by (try simp [go_sem, g15]); first | rfl | done) fun z19 hF20 => ⟨by simp [go_sem], ?_⟩
      try simp [go_sem, g15, h17]
      refine pwg_F hF20 (fun h21 hF22 => ?_) fun h21 hF22 => ?_
      ·try simp [go_sem, g15, h21]
       refine pw_cl hF22 [.sh, .sh, .sh] c_spec_nPower rfl rfl (by (try simp [go_sem, clE, g15]); first | rfl | done) (by rfl) (by (try simp [go_sem, g15]); first | rfl | done) fun z23 hF24 => ⟨by simp [go_sem], ?_⟩
       try simp [go_sem, g15, h21]
       refine pwg_F hF24 (fun h25 hF26 => ?_) fun h25 hF26 => ?_
       ·try simp [go_sem, g15, h25]
        refine pw_cl hF26 [.sh] c_spec_nPrime rfl rfl (by (try simp [go_sem, clE, g15]); first | rfl | done) (by rfl) (by (try simp [go_sem, g15]); first | rfl | done) fun z27 hF28 => ⟨by simp [go_sem], ?_⟩
        try simp [go_sem, g15, h25]
        refine pwg_F hF28 (fun h29 hF30 => ?_) fun h29 hF30 => ?_
        ·try simp [go_sem, g15, h29]
         refine pw_cl hF30 [.sh] c_spec_nPrime rfl rfl (by (try simp [go_sem, clE, g15]); first | rfl | done) (by rfl) (by (try simp [go_sem, g15]); first | rfl | done) fun z31 hF32 => ⟨by simp [go_sem], ?_⟩
         try simp [go_sem, g15, h29]
         exact hj1 z31 _ (by simp [go_sem, g15]) (Rn_some hF32)
        ·try simp [go_sem, g15, h29]
         exact hj1 false _ (by simp [go_sem, g15]) (Rn_some hF30)
       ·try simp [go_sem, g15, h25]
        exact hj1 false _ (by simp [go_sem, g15]) (Rn_some hF26)
      ·try simp [go_sem, g15, h21]
       exact hj1 false _ (by simp [go_sem, g15]) (Rn_some hF22)
     ·try simp [go_sem, g15, h17]
      exact hj1 false _ (by simp [go_sem, g15]) (Rn_some hF18)
    ·try simp [go_sem, h13]
     exact hj1 false _ (by simp [go_sem]) (Rn_some hF14)
   ·try simp [go_sem, h9]
    exact hj1 false _ (by simp [go_sem]) (Rn_some hF10)
noncomputable def F_spec_sGroup (a0 : Group) : Option (Bool) :=
  (((F_spec_l2Good a0).bind fun z7 =>
  if z7 = true then (
  some (decide (7 < a0.Q))) else (
  some false) : Option (Bool)).bind fun (x5 : Bool) =>
  some x5)
theorem c_spec_sGroup {a0 : Group} {r : Bool} (hr : F_spec_sGroup a0 = some r) : PCalls Try.prog 79 [(.sh, .agg [.int .i64 a0.P, .int .i64 a0.Q, .int .i64 a0.G])] (Eo (.bool r) [.junk]) := by
  apply pcalls_lf 10 [] [] [] [.tmp 2] hr cl79 Try.func79 rfl rfl rfl
  · exact ⟨by simp, rfl⟩
  intro Φ hΦ hF
  unfold F_spec_sGroup at hF
  try simp [go_sem]
  refine pw_wk ?_
  repeat rw [sq]
  refine pw_joinF (fun (x5 : Bool) => [(2, .v (.bool x5))]) hF ?_ ?_
  ·intro x5 hF6
   cases hΦ _ (Rn_some hF6)
   try simp [go_sem]
  ·intro ψ3 hj1 hF4
   try simp [go_sem]
   refine pw_cl hF4 [.sh] c_spec_l2Good rfl rfl (by (try simp [go_sem, clE]); first | rfl | done) (by rfl) (by (try simp [go_sem]); first | rfl | done) fun z7 hF8 => ⟨by simp [go_sem], ?_⟩
   try simp [go_sem]
   refine pwg_F hF8 (fun h9 hF10 => ?_) fun h9 hF10 => ?_
   ·try simp [go_sem, h9]
    exact hj1 (decide (7 < a0.Q)) _ (by simp [go_sem]) (Rn_some hF10)
   ·try simp [go_sem, h9]
    exact hj1 false _ (by simp [go_sem]) (Rn_some hF10)
noncomputable def F_spec_l1Cur_expo__io0 (a0c0 : (List Int)) (a0c1 : Int) (a0c2 : Int) (a1 : Group) : Option (Int × ((List Int) × Int × Int)) :=
  if decide (a1.Q < 2) = true then (
  some (0, (a0c0, a0c1, a0c2))) else (
  (F_spec_l1Cur_pick__io0 a0c0 a0c1 a0c2 60000).bind fun z3 =>
  (F_spec_l1Cur_pick__io0 z3.2.1 z3.2.2.1 z3.2.2.2 60000).bind fun z5 =>
  gd (a1.Q ≠ 0) <|
  some ((IntKind.i64.wrap ((IntKind.i64.wrap (z3.1 * 60000)) + z5.1)).tmod a1.Q, (z5.2.1, z5.2.2.1, z5.2.2.2)))
theorem c_spec_l1Cur_expo__io0 {a0c0 : (List Int)} {a0c1 : Int} {a0c2 : Int} {a1 : Group} {r : Int × ((List Int) × Int × Int)} (hr : F_spec_l1Cur_expo__io0 a0c0 a0c1 a0c2 a1 = some r) : PCalls Try.prog 135 [(.io, .bx [.sl false 1 (a0c0.map row_u8), .int .i64 a0c1, .int .u64 a0c2]), (.sh, .agg [.int .i64 a1.P, .int .i64 a1.Q, .int .i64 a1.G])] (Eo (.int .i64 r.1) [.bx [.sl false 1 (r.2.1.map row_u8), .int .i64 r.2.2.1, .int .u64 r.2.2.2], .junk]) := by
  apply pcalls_lf 17 [0] [] [] [.tmp 4] hr cl135 Try.func135 rfl rfl rfl
  · exact ⟨by simp, rfl⟩
  intro Φ hΦ hF
  unfold F_spec_l1Cur_expo__io0 at hF
  iterate 2 (try simp [go_sem]; refine pw_wk ?_)
  repeat rw [sq]
  refine pw_cF hF (by simp [go_sem]) (fun h1 hF2 => ?_) fun h1 hF2 => ?_
  ·cases hΦ _ (Rn_some hF2)
   try simp [go_sem]
   refine pw_wk ?_
   try simp [go_sem]
  ·try simp [go_sem]
   refine pw_wk ?_
   repeat rw [sq]
   refine pw_draw D135_3 follows (by kernel_rfl) rfl ?_
   try simp only [go_sem, D135_3]
   try simp [go_sem]
   refine pw_cl hF2 [.io, .sh] c_spec_l1Cur_pick__io0 rfl rfl (by (try simp [go_sem, clE]); first | rfl | done) (by rfl) (by (try simp [go_sem]); first | rfl | done) fun z3 hF4 => ⟨by simp [go_sem], ?_⟩
   try simp [go_sem]
   refine pw_cl hF4 [.io, .sh] c_spec_l1Cur_pick__io0 rfl rfl (by (try simp [go_sem, clE]); first | rfl | done) (by rfl) (by (try simp [go_sem]); first | rfl | done) fun z5 hF6 => ⟨by simp [go_sem], ?_⟩
   obtain ⟨g7, hF8⟩ := Rn_nz hF6
   try simp [go_sem, g7]
   refine pw_wkK [0, 4] (by simp [go_sem, g7]; rfl) ?_
   cases hΦ _ (Rn_some hF8)
   try simp [go_sem, g7]
noncomputable def F_spec_l1Cur_coins__io0 (a0c0 : (List Int)) (a0c1 : Int) (a0c2 : Int) (a1 : Group) (a2 : Int) : Option ((List Int) × ((List Int) × Int × Int)) :=
  ((wloop (σ := ((List Int) × Int × Int) × Int × (List Int)) (β := (((List Int) × Int × Int) × (List Int))) (fun s22 =>
  if decide (0 < s22.2.1) = true then (
  (F_spec_l1Cur_expo__io0 s22.1.1 s22.1.2.1 s22.1.2.2 a1).bind fun z32 =>
  gd ((s22.2.2.length + 1) * 8 ≤ 140737488355328 ∧ s22.2.2.length + 1 ≤ 4611686018427387904) <|
  some (.go ((z32.2.1, z32.2.2.1, z32.2.2.2), IntKind.i64.wrap (s22.2.1 - 1), s22.2.2 ++ [z32.1]))) else (
  some (.out ((s22.1.1, s22.1.2.1, s22.1.2.2), s22.2.2)))) ((a0c0, a0c1, a0c2), a2, []) : Option ((((List Int) × Int × Int) × (List Int)))).bind fun (x5 : ((List Int) × Int × Int) × (List Int)) =>
  some (x5.2, (x5.1.1, x5.1.2.1, x5.1.2.2)))
theorem c_spec_l1Cur_coins__io0 {a0c0 : (List Int)} {a0c1 : Int} {a0c2 : Int} {a1 : Group} {a2 : Int} {r : (List Int) × ((List Int) × Int × Int)} (hr : F_spec_l1Cur_coins__io0 a0c0 a0c1 a0c2 a1 a2 = some r) : PCalls Try.prog 145 [(.io, .bx [.sl false 1 (a0c0.map row_u8), .int .i64 a0c1, .int .u64 a0c2]), (.sh, .agg [.int .i64 a1.P, .int .i64 a1.Q, .int .i64 a1.G]), (.sh, .int .i64 a2)] (Eo (.sl true 1 (r.1.map row_i64)) [.bx [.sl false 1 (r.2.1.map row_u8), .int .i64 r.2.2.1, .int .u64 r.2.2.2], .junk, .junk]) := by
  apply pcalls_lf 19 [0] [] [] [.tmp 6] hr cl145 Try.func145 rfl rfl rfl
  · exact ⟨by simp, rfl⟩
  intro Φ hΦ hF
  unfold F_spec_l1Cur_coins__io0 at hF
  iterate 2 (try simp [go_sem]; refine pw_wk ?_)
  repeat rw [sq]
  refine pw_joinF (fun (x5 : ((List Int) × Int × Int) × (List Int)) => [(0, .v (.bx [.sl false 1 (x5.1.1.map row_u8), .int .i64 x5.1.2.1, .int .u64 x5.1.2.2])), (7, .v (.sl true 1 (x5.2.map row_i64)))]) hF ?_ ?_
  ·intro x5 hF6
   cases hΦ _ (Rn_some hF6)
   try simp [go_sem]
   refine pw_wk ?_
   try simp [go_sem]
  ·intro ψ3 hj1 hF4
   repeat rw [sq]
   rw [pw_block]
   obtain ⟨b37, hb38, hψ26⟩ := hF4
   refine pw_wloop (fun (s22 : ((List Int) × Int × Int) × Int × (List Int)) => [(0, .v (.bx [.sl false 1 (s22.1.1.map row_u8), .int .i64 s22.1.2.1, .int .u64 s22.1.2.2])), (2, .v (.int .i64 s22.2.1)), (4, .bl [.int .i64 a1.P, .int .i64 a1.Q, .int .i64 a1.G]), (7, .v (.sl true 1 (s22.2.2.map row_i64)))]) hb38 (by simp [go_sem]) ?_
   intro s22 φ27 N28 ho24 hg25 hF29
   try simp [go_sem]
   refine pw_wk ?_
   repeat rw [sq]
   refine pw_cF hF29 (by simp [go_sem]) (fun h30 hF31 => ?_) fun h30 hF31 => ?_
   ·try simp [go_sem]
    refine pw_wk ?_
    repeat rw [sq]
    rw [pw_block]
    try simp [go_sem]
    refine pw_cl hF31 [.io, .sh] c_spec_l1Cur_expo__io0 rfl rfl (by (try simp [go_sem, clE]); first | rfl | done) (by rfl) (by (try simp [go_sem]); first | rfl | done) fun z32 hF33 => ⟨by simp [go_sem], ?_⟩
    obtain ⟨g34, hF35⟩ := Rn_gd hF33
    have g36 := g34
    try simp at g36
    try simp [go_sem, g34, g36]
    refine pw_wkK [0, 2, 4, 7] (by simp [go_sem, g34, g36]; rfl) ?_
    try simp [go_sem, g34, g36]
    exact hg25 ((z32.2.1, z32.2.2.1, z32.2.2.2), IntKind.i64.wrap (s22.2.1 - 1), s22.2.2 ++ [z32.1]) _ (by simp [go_sem, g34, g36]) (Rn_some hF35)
   ·try simp [go_sem]
    cases ho24 _ (Rn_some hF31)
    exact hj1 ((s22.1.1, s22.1.2.1, s22.1.2.2), s22.2.2) _ (by simp [go_sem]) hψ26
noncomputable def F_spec_yEval (a0 : Int) (a1 : (List Int)) (a2 : Int) : Option (Int) :=
  ((wloop (σ := Int × Int) (β := Int) (fun s7 =>
  if decide (0 ≤ s7.2) = true then (
  (ix a1 s7.2).bind fun x17 =>
  gd (a0 ≠ 0) <|
  some (.go ((IntKind.i64.wrap ((IntKind.i64.wrap (s7.1 * a2)) + x17)).tmod a0, IntKind.i64.wrap (s7.2 - 1)))) else (
  some (.out s7.1))) (0, IntKind.i64.wrap ((a1.length : Int) - 1)) : Option (Int)).bind fun (x5 : Int) =>
  some x5)
theorem c_spec_yEval {a0 : Int} {a1 : (List Int)} {a2 : Int} {r : Int} (hr : F_spec_yEval a0 a1 a2 = some r) : PCalls Try.prog 108 [(.sh, .int .i64 a0), (.sh, .sl false 1 (a1.map row_i64)), (.sh, .int .i64 a2)] (Eo (.int .i64 r) [.junk, .junk, .junk]) := by
  apply pcalls_lf 27 [] [] [] [.tmp 6] hr cl108 Try.func108 rfl rfl rfl
  · exact ⟨by simp, rfl⟩
  intro Φ hΦ hF
  unfold F_spec_yEval at hF
  iterate 3 (try simp [go_sem]; try intros; refine pw_wk ?_)
  repeat rw [sq]
  refine pw_joinF (fun (x5 : Int) => [(7, .v (.int .i64 x5))]) hF ?_ ?_
  ·intro x5 hF6
   cases hΦ _ (Rn_some hF6)
   try simp [go_sem]
   refine pw_wk ?_
   try simp [go_sem]
  ·intro ψ3 hj1 hF4
   repeat rw [sq]
   rw [pw_block]
   obtain ⟨b22, hb23, hψ11⟩ := hF4
   refine pw_wloop (fun (s7 : Int × Int) => [(0, .v (.int .i64 a0)), (1, .v (.sl false 1 (a1.map row_i64))), (2, .v (.int .i64 a2)), (7, .v (.int .i64 s7.1)), (8, .v (.int .i64 s7.2))]) hb23 (by simp [go_sem]) ?_
   intro s7 φ12 N13 ho9 hg10 hF14
   try simp [go_sem]
   refine pw_wk ?_
   repeat rw [sq]
   refine pw_cF hF14 (by simp [go_sem]) (fun h15 hF16 => ?_) fun h15 hF16 => ?_
   ·try simp [go_sem]
    refine pw_wk ?_
    repeat rw [sq]
    rw [pw_block]
    obtain ⟨x17, g18, hF19⟩ := Rn_ix hF16
    obtain ⟨g20, hF21⟩ := Rn_nz hF19
    try simp [go_sem, g18, g20]
    refine pw_wkK [0, 1, 2, 7, 8] (by simp [go_sem, g18, g20]; rfl) ?_
    try simp [go_sem, g18, g20]
    exact hg10 ((IntKind.i64.wrap ((IntKind.i64.wrap (s7.1 * a2)) + x17)).tmod a0, IntKind.i64.wrap (s7.2 - 1)) _ (by simp [go_sem, g18, g20]) (Rn_some hF21)
   ·try simp [go_sem]
    cases ho9 _ (Rn_some hF16)
    exact hj1 s7.1 _ (by simp [go_sem]) hψ11
noncomputable def F_spec_sDeal (a0 : Group) (a1 : (List Int)) (a2 : Int) : Option (Dealing) :=
  ((rloop (σ := (List Int) × (List Int)) (β := ((List Int) × (List Int))) (fun i26 s25 =>
  (ix a1 i26).bind fun x35 =>
  (F_spec_gExp a0 a0.G x35).bind fun z38 =>
  gd ((s25.1.length + 1) * 8 ≤ 140737488355328 ∧ s25.1.length + 1 ≤ 4611686018427387904) <|
  some (.go (s25.1 ++ [z38], s25.2))) (fun s25 => (s25.1, s25.2)) (a1.length) 0 ([], []) : Option (((List Int) × (List Int)))).bind fun (x5 : (List Int) × (List Int)) =>
  ((wloop (σ := (List Int) × (List Int) × Int) (β := ((List Int) × (List Int))) (fun s68 =>
  if decide (s68.2.2 ≤ a2) = true then (
  (F_spec_yEval a0.Q a1 s68.2.2).bind fun z78 =>
  gd ((s68.2.1.length + 1) * 8 ≤ 140737488355328 ∧ s68.2.1.length + 1 ≤ 4611686018427387904) <|
  some (.go (s68.1, s68.2.1 ++ [z78], IntKind.i64.wrap (s68.2.2 + 1)))) else (
  some (.out (s68.1, s68.2.1)))) (x5.1, x5.2, 1) : Option (((List Int) × (List Int)))).bind fun (x51 : (List Int) × (List Int)) =>
  some (Dealing.mk x51.1 x51.2)))
theorem c_spec_sDeal {a0 : Group} {a1 : (List Int)} {a2 : Int} {r : Dealing} (hr : F_spec_sDeal a0 a1 a2 = some r) : PCalls Try.prog 144 [(.sh, .agg [.int .i64 a0.P, .int .i64 a0.Q, .int .i64 a0.G]), (.sh, .sl false 1 (a1.map row_i64)), (.sh, .int .i64 a2)] (Eo (.agg [.sl true 1 (r.Commits.map row_i64), .sl true 1 (r.Shares.map row_i64)]) [.junk, .junk, .junk]) := by
  apply pcalls_lf 44 [] [] [] [.cell 6 111] hr cl144 Try.func144 rfl rfl rfl
  · exact ⟨by simp, rfl⟩
  intro Φ hΦ hF
  unfold F_spec_sDeal at hF
  iterate 3 (try simp [go_sem]; try intros; refine pw_wk ?_)
  repeat rw [sq]
  refine pw_joinF (fun (x5 : (List Int) × (List Int)) => [(1, .v (.sl false 1 (a1.map row_i64))), (2, .v (.int .i64 a2)), (3, .bl [.int .i64 a0.P, .int .i64 a0.Q, .int .i64 a0.G]), (6, .bl [.sl true 1 [], .sl true 1 []]), (7, .bl [.sl true 1 (x5.1.map row_i64), .sl true 1 (x5.2.map row_i64)])]) hF ?_ ?_
  ·intro x5 hF6
   try simp [go_sem]
   refine pw_wk ?_
   repeat rw [sq]
   refine pw_joinF (fun (x51 : (List Int) × (List Int)) => [(6, .bl [.sl true 1 [], .sl true 1 []]), (7, .bl [.sl true 1 (x51.1.map row_i64), .sl true 1 (x51.2.map row_i64)])]) hF6 ?_ ?_
   ·intro x51 hF52
    cases hΦ _ (Rn_some hF52)
    try simp [go_sem]
    refine pw_wk ?_
    try simp [go_sem]
   ·intro ψ49 hj47 hF50
    repeat rw [sq]
    rw [pw_block]
    obtain ⟨b83, hb84, hψ72⟩ := hF50
    refine pw_wloop (fun (s68 : (List Int) × (List Int) × Int) => [(1, .v (.sl false 1 (a1.map row_i64))), (2, .v (.int .i64 a2)), (3, .bl [.int .i64 a0.P, .int .i64 a0.Q, .int .i64 a0.G]), (6, .bl [.sl true 1 [], .sl true 1 []]), (7, .bl [.sl true 1 (s68.1.map row_i64), .sl true 1 (s68.2.1.map row_i64)]), (10, .v (.int .i64 s68.2.2))]) hb84 (by simp [go_sem]) ?_
    intro s68 φ73 N74 ho70 hg71 hF75
    try simp [go_sem]
    refine pw_wkK [1, 2, 3, 6, 7, 10, 30] (by simp [go_sem]; rfl) ?_
    repeat rw [sq]
    refine pw_cF hF75 (by simp [go_sem]) (fun h76 hF77 => ?_) fun h76 hF77 => ?_
    ·try simp [go_sem]
     refine pw_wk ?_
     repeat rw [sq]
     rw [pw_block]
     repeat rw [sq]
     refine pw_draw D144_10 follows (by kernel_rfl) rfl ?_
     try simp only [go_sem, D144_10]
     try simp [go_sem]
     refine pw_cl hF77 [.sh, .sh, .sh] c_spec_yEval rfl rfl (by (try simp [go_sem, clE]); first | rfl | done) (by rfl) (by (try simp [go_sem]); first | rfl | done) fun z78 hF79 => ⟨by simp [go_sem], ?_⟩
     obtain ⟨g80, hF81⟩ := Rn_gd hF79
     have g82 := g80
     try simp at g82
     try simp [go_sem, g80, g82]
     refine pw_wkK [1, 2, 3, 6, 7, 10] (by simp [go_sem, g80, g82]; rfl) ?_
     try simp [go_sem, g80, g82]
     exact hg71 (s68.1, s68.2.1 ++ [z78], IntKind.i64.wrap (s68.2.2 + 1)) _ (by simp [go_sem, g80, g82]) (Rn_some hF81)
    ·try simp [go_sem]
     cases ho70 _ (Rn_some hF77)
     exact hj47 (s68.1, s68.2.1) _ (by simp [go_sem]) hψ72
  ·intro ψ3 hj1 hF4
   repeat rw [sq]
   rw [pw_block]
   obtain ⟨b43, hb44, hψ29⟩ := hF4
   refine pw_rloop (fun (i26 : Int) (s25 : (List Int) × (List Int)) => [(1, .v (.sl false 1 (a1.map row_i64))), (2, .v (.int .i64 a2)), (3, .bl [.int .i64 a0.P, .int .i64 a0.Q, .int .i64 a0.G]), (6, .bl [.sl true 1 [], .sl true 1 []]), (7, .bl [.sl true 1 (s25.1.map row_i64), .sl true 1 (s25.2.map row_i64)]), (11, .v (.sl false 1 (a1.map row_i64))), (12, .v (.int .i64 (a1.length : Int))), (13, .v (.int .i64 i26))]) hb44 (by simp [go_sem]) ?_ ?_
   ·intro s25 N46 hN45
    subst hN45
    try simp [go_sem]
    refine pw_wk ?_
    repeat rw [sq]
    refine pw_cond_f (by simp [go_sem]) ?_
    try simp [go_sem]
    exact hj1 (s25.1, s25.2) _ (by simp [go_sem]) hψ29
   ·intro i26 s25 φ30 N31 hi33 hi34 ho27 hg28 hF32
    rw [Int.zero_add] at hi34
    try simp [go_sem]
    refine pw_wk ?_
    repeat rw [sq]
    refine pw_cond_t (by simp [go_sem, hi33, hi34]) ?_
    try simp [go_sem]
    refine pw_wk ?_
    repeat rw [sq]
    rw [pw_block]
    obtain ⟨x35, g36, hF37⟩ := Rn_ix hF32
    try simp [go_sem, g36]
    refine pw_wkK [1, 2, 3, 6, 7, 9, 11, 12, 13] (by simp [go_sem, g36]; rfl) ?_
    repeat rw [sq]
    refine pw_draw D144_5 follows (by kernel_rfl) rfl ?_
    try simp only [go_sem, D144_5]
    try simp [go_sem, g36]
    refine pw_cl hF37 [.sh, .sh, .sh] c_spec_gExp rfl rfl (by (try simp [go_sem, clE, g36]); first | rfl | done) (by rfl) (by (try simp [go_sem, g36]); first | rfl | done) fun z38 hF39 => ⟨by simp [go_sem], ?_⟩
    obtain ⟨g40, hF41⟩ := Rn_gd hF39
    have g42 := g40
    try simp at g42
    try simp [go_sem, g36, g40, g42]
    refine pw_wkK [1, 2, 3, 6, 7, 11, 12, 13] (by simp [go_sem, g36, g40, g42]; rfl) ?_
    try simp [go_sem, g36, g40, g42]
    exact hg28 (s25.1 ++ [z38], s25.2) _ (by simp [go_sem, g36, g40, g42, wr_i hi33 hi34 (by assumption)]) (Rn_some hF41)
noncomputable def F_spec_l1Cur_dealing__io0 (a0c0 : (List Int)) (a0c1 : Int) (a0c2 : Int) (a1 : Group) : Option (Dealing × ((List Int) × Int × Int)) :=
  (F_spec_l1Cur_pick__io0 a0c0 a0c1 a0c2 5).bind fun z1 =>
  (F_spec_sGroup a1).bind fun z3 =>
  if (!z3) = true then (
  some ((Dealing.mk [1] [0]), (z1.2.1, z1.2.2.1, z1.2.2.2))) else (
  (F_spec_l1Cur_pick__io0 z1.2.1 z1.2.2.1 z1.2.2.2 (IntKind.i64.wrap (1 + z1.1))).bind fun z7 =>
  (F_spec_l1Cur_coins__io0 z7.2.1 z7.2.2.1 z7.2.2.2 a1 (IntKind.i64.wrap (1 + z7.1))).bind fun z9 =>
  (F_spec_sDeal a1 z9.1 (IntKind.i64.wrap (1 + z1.1))).bind fun z11 =>
  some (z11, (z9.2.1, z9.2.2.1, z9.2.2.2)))
theorem c_spec_l1Cur_dealing__io0 {a0c0 : (List Int)} {a0c1 : Int} {a0c2 : Int} {a1 : Group} {r : Dealing × ((List Int) × Int × Int)} (hr : F_spec_l1Cur_dealing__io0 a0c0 a0c1 a0c2 a1 = some r) : PCalls Try.prog 104 [(.io, .bx [.sl false 1 (a0c0.map row_u8), .int .i64 a0c1, .int .u64 a0c2]), (.sh, .agg [.int .i64 a1.P, .int .i64 a1.Q, .int .i64 a1.G])] (Eo (.agg [.sl true 1 (r.1.Commits.map row_i64), .sl true 1 (r.1.Shares.map row_i64)]) [.bx [.sl false 1 (r.2.1.map row_u8), .int .i64 r.2.2.1, .int .u64 r.2.2.2], .junk]) := by
  apply pcalls_lf 25 [0] [] [] [.cell 4 111] hr cl104 Try.func104 rfl rfl rfl
  · exact ⟨by simp, rfl⟩
  intro Φ hΦ hF
  unfold F_spec_l1Cur_dealing__io0 at hF
  try simp [go_sem]
  refine pw_wk ?_
  try simp [go_sem]
  refine pw_cl hF [.io, .sh] c_spec_l1Cur_pick__io0 rfl rfl (by (try simp [go_sem, clE]); first | rfl | done) (by rfl) (by (try simp [go_sem]); first | rfl | done) fun z1 hF2 => ⟨by simp [go_sem], ?_⟩
  try simp [go_sem]
  refine pw_wk ?_
  try simp [go_sem]
  refine pw_cl hF2 [.sh] c_spec_sGroup rfl rfl (by (try simp [go_sem, clE]); first | rfl | done) (by rfl) (by (try simp [go_sem]); first | rfl | done) fun z3 hF4 => ⟨by simp [go_sem], ?_⟩
  try simp [go_sem]
  refine pw_wk ?_
  repeat rw [sq]
  refine pw_cF hF4 (by simp [go_sem]) (fun h5 hF6 => ?_) fun h5 hF6 => ?_
  ·try simp [go_sem]
   refine pw_wkK [0, 4] (by simp [go_sem]; rfl) ?_
   cases hΦ _ (Rn_some hF6)
   try simp [go_sem]
  ·try simp [go_sem]
   refine pw_wk ?_
   repeat rw [sq]
   refine pw_draw D104_4 follows (by kernel_rfl) rfl ?_
   try simp only [go_sem, D104_4]
   try simp [go_sem]
   refine pw_cl hF6 [.io, .sh] c_spec_l1Cur_pick__io0 rfl rfl (by (try simp [go_sem, clE]); first | rfl | done) (by rfl) (by (try simp [go_sem]); first | rfl | done) fun z7 hF8 => ⟨by simp [go_sem], ?_⟩
   try simp [go_sem]
   refine pw_cl hF8 [.io, .sh, .sh] c_spec_l1Cur_coins__io0 rfl rfl (by (try simp [go_sem, clE]); first | rfl | done) (by rfl) (by (try simp [go_sem]); first | rfl | done) fun z9 hF10 => ⟨by simp [go_sem], ?_⟩
   try simp [go_sem]
   refine pw_cl hF10 [.sh, .sh, .sh] c_spec_sDeal rfl rfl (by (try simp [go_sem, clE]); first | rfl | done) (by rfl) (by (try simp [go_sem]); first | rfl | done) fun z11 hF12 => ⟨by simp [go_sem], ?_⟩
   try simp [go_sem]
   refine pw_wkK [0, 4] (by simp [go_sem]; rfl) ?_
   cases hΦ _ (Rn_some hF12)
   try simp [go_sem]
noncomputable def F_spec_DrawShareCounts (a0 : (List Int)) : Option (Group × Int × (List Int)) :=
  (F_spec_l1Cur_shared__io0 a0 0 0).bind fun z1 =>
  (F_spec_l1Cur_among__io0_mv1 z1.2.1 z1.2.2.1 z1.2.2.2 [1, 2, 2, 3, 0, 4]).bind fun z3 =>
  (F_spec_l1Cur_dealing__io0 z3.2.1 z3.2.2.1 z3.2.2.2 z1.1).bind fun z5 =>
  (F_spec_l1Cur_pick__io0 z5.2.1 z5.2.2.1 z5.2.2.2 (IntKind.i64.wrap ((z5.1.Shares.length : Int) + 1))).bind fun z7 =>
  gd (0 ≤ z7.1) <|
  gd (0 ≤ z7.1.toNat ∧ z7.1.toNat ≤ z5.1.Shares.length) <|
  some (z1.1, z3.1, z5.1.Shares.take z7.1.toNat)
theorem c_spec_DrawShareCounts {a0 : (List Int)} {r : Group × Int × (List Int)} (hr : F_spec_DrawShareCounts a0 = some r) : PCalls Try.prog 44 [(.sh, .sl false 1 (a0.map row_u8))] (Eo (.tup [.agg [.int .i64 r.1.P, .int .i64 r.1.Q, .int .i64 r.1.G], .int .i64 r.2.1, .sl true 1 (r.2.2.map row_i64)]) [.junk]) := by
  apply pcalls_lf 31 [] [] [11] [.cell 2 27, .tmp 3, .tmp 4] hr cl44 Try.func44 rfl rfl rfl
  · exact ⟨by simp, rfl⟩
  intro Φ hΦ hF
  unfold F_spec_DrawShareCounts at hF
  iterate 2 (try simp [go_sem]; refine pw_wk ?_)
  try simp [go_sem]
  refine pw_cl hF [.io] c_spec_l1Cur_shared__io0 rfl rfl (by (try simp [go_sem, clE]); first | rfl | done) (by rfl) (by (try simp [go_sem]); first | rfl | done) fun z1 hF2 => ⟨by simp [go_sem], ?_⟩
  try simp [go_sem]
  refine pw_wkK [2, 5, 6] (by simp [go_sem]; rfl) ?_
  try simp [go_sem]
  refine pw_cl hF2 [.io, .mv] c_spec_l1Cur_among__io0_mv1 rfl rfl (by (try simp [go_sem, clE]); first | rfl | done) (by rfl) (by (try simp [go_sem]); first | rfl | done) fun z3 hF4 => ⟨by simp [go_sem], ?_⟩
  try simp [go_sem]
  refine pw_wk ?_
  try simp [go_sem]
  refine pw_cl hF4 [.io, .sh] c_spec_l1Cur_dealing__io0 rfl rfl (by (try simp [go_sem, clE]); first | rfl | done) (by rfl) (by (try simp [go_sem]); first | rfl | done) fun z5 hF6 => ⟨by simp [go_sem], ?_⟩
  try simp [go_sem]
  refine pw_wk ?_
  repeat rw [sq]
  refine pw_draw D44_5 follows (by kernel_rfl) rfl ?_
  try simp only [go_sem, D44_5]
  try simp [go_sem]
  try intros
  refine pw_cl hF6 [.io, .sh] c_spec_l1Cur_pick__io0 rfl rfl (by (try simp [go_sem, clE]); first | rfl | done) (by rfl) (by (try simp [go_sem]); first | rfl | done) fun z7 hF8 => ⟨by simp [go_sem], ?_⟩
  obtain ⟨g9, hF10⟩ := Rn_gd hF8
  have g11 := g9
  try simp at g11
  obtain ⟨g12, hF13⟩ := Rn_gd hF10
  have g14 := g12
  try simp at g14
  try simp [go_sem, g9, g11, g12, g14]
  refine pw_wkK [2, 3, 4] (by simp [go_sem, g9, g11, g12, g14]; rfl) ?_
  cases hΦ _ (Rn_some hF13)
  try simp [go_sem, g9, g11, g12, g14]
noncomputable def F_impl_within (a0 : Int) (a1 : Int) (a2 : Int) : Option (Bool) :=
  ((if decide (a1 ≤ a0) = true then (
  some (decide (a0 ≤ a2))) else (
  some false) : Option (Bool)).bind fun (x5 : Bool) =>
  some x5)
theorem c_impl_within {a0 : Int} {a1 : Int} {a2 : Int} {r : Bool} (hr : F_impl_within a0 a1 a2 = some r) : PCalls Try.prog 84 [(.sh, .int .i64 a0), (.sh, .int .i64 a1), (.sh, .int .i64 a2)] (Eo (.bool r) [.junk, .junk, .junk]) := by
  apply pcalls_lf 15 [] [] [] [.tmp 6] hr cl84 Try.func84 rfl rfl rfl
  · exact ⟨by simp, rfl⟩
  intro Φ hΦ hF
  unfold F_impl_within at hF
  try simp [go_sem]
  refine pw_wk ?_
  repeat rw [sq]
  refine pw_joinF (fun (x5 : Bool) => [(6, .v (.bool x5))]) hF ?_ ?_
  ·intro x5 hF6
   cases hΦ _ (Rn_some hF6)
   try simp [go_sem]
  ·intro ψ3 hj1 hF4
   try simp [go_sem]
   refine pwg_F hF4 (fun h7 hF8 => ?_) fun h7 hF8 => ?_
   ·try simp [go_sem, h7]
    exact hj1 (decide (a0 ≤ a2)) _ (by simp [go_sem]) (Rn_some hF8)
   ·try simp [go_sem, h7]
    exact hj1 false _ (by simp [go_sem]) (Rn_some hF8)
noncomputable def F_impl_isModulus (a0 : Int) : Option (Bool) :=
  (F_impl_within a0 2 2000000000).bind fun z1 =>
  some z1
theorem c_impl_isModulus {a0 : Int} {r : Bool} (hr : F_impl_isModulus a0 = some r) : PCalls Try.prog 143 [(.sh, .int .i64 a0)] (Eo (.bool r) [.junk]) := by
  apply pcalls_lf 5 [] [] [] [.tmp 2] hr cl143 Try.func143 rfl rfl rfl
  · exact ⟨by simp, rfl⟩
  intro Φ hΦ hF
  unfold F_impl_isModulus at hF
  try simp [go_sem]
  refine pw_wk ?_
  try simp [go_sem]
  refine pw_cl hF [.sh, .sh, .sh] c_impl_within rfl rfl (by (try simp [go_sem, clE]); first | rfl | done) (by rfl) (by (try simp [go_sem]); first | rfl | done) fun z1 hF2 => ⟨by simp [go_sem], ?_⟩
  cases hΦ _ (Rn_some hF2)
  try simp [go_sem]
  refine pw_wk ?_
  try simp [go_sem]
noncomputable def F_impl_isPrime (a0 : Int) : Option (Bool) :=
  (((F_impl_isModulus a0).bind fun z7 =>
  if (!z7) = true then (
  some true) else (
  if ((a0.tmod 2) == 0) = true then (
  some (a0 != 2)) else (
  some false)) : Option (Bool)).bind fun (x5 : Bool) =>
  if x5 = true then (
  some false) else (
  ((wloop (σ := Int) (β := Unit ⊕ Bool) (fun s22 =>
  if decide ((IntKind.i64.wrap (s22 * s22)) ≤ a0) = true then (
  gd (s22 ≠ 0) <|
  if ((a0.tmod s22) == 0) = true then (
  some (.out (.inr false))) else (
  some (.go (IntKind.i64.wrap (s22 + 2))))) else (
  some (.out (.inl ())))) 3 : Option (Unit ⊕ Bool)).bind (Sum.elim (fun (x20 : Unit) =>
  some true) some))))
theorem c_impl_isPrime {a0 : Int} {r : Bool} (hr : F_impl_isPrime a0 = some r) : PCalls Try.prog 100 [(.sh, .int .i64 a0)] (Eo (.bool r) [.junk]) := by
  apply pcalls_lf 27 [] [] [] [.tmp 2] hr cl100 Try.func100 rfl rfl rfl
  · exact ⟨by simp, rfl⟩
  intro Φ hΦ hF
  unfold F_impl_isPrime at hF
  try simp [go_sem]
  refine pw_wk ?_
  repeat rw [sq]
  refine pw_joinF (fun (x5 : Bool) => [(0, .v (.int .i64 a0)), (15, .v (.bool x5))]) hF ?_ ?_
  ·intro x5 hF6
   repeat rw [sq]
   refine pw_cF hF6 (by simp [go_sem]) (fun h14 hF15 => ?_) fun h14 hF15 => ?_
   ·cases hΦ _ (Rn_some hF15)
    try simp [go_sem]
    refine pw_wk ?_
    try simp [go_sem]
   ·iterate 2 (try simp [go_sem]; refine pw_wk ?_)
    repeat rw [sq]
    refine pw_joinS (fun (x20 : Unit) => []) hF15 ?_ ?_
    ·intro x20 hF21
     cases hΦ _ (Rn_some hF21)
     try simp [go_sem]
     refine pw_wk ?_
     try simp [go_sem]
    ·intro ψ18 hj16 hr17 hF19
     repeat rw [sq]
     rw [pw_block]
     obtain ⟨b36, hb37, hψ26⟩ := hF19
     refine pw_wloop (fun (s22 : Int) => [(0, .v (.int .i64 a0)), (3, .v (.int .i64 s22))]) hb37 (by simp [go_sem]) ?_
     intro s22 φ27 N28 ho24 hg25 hF29
     try simp [go_sem]
     refine pw_wk ?_
     repeat rw [sq]
     refine pw_cF hF29 (by simp [go_sem]) (fun h30 hF31 => ?_) fun h30 hF31 => ?_
     ·try simp [go_sem]
      refine pw_wk ?_
      repeat rw [sq]
      rw [pw_block]
      obtain ⟨g32, hF33⟩ := Rn_nz hF31
      try simp [go_sem, g32]
      refine pw_wkK [0, 3, 26] (by simp [go_sem, g32]; rfl) ?_
      repeat rw [sq]
      refine pw_cF hF33 (by simp [go_sem, g32]) (fun h34 hF35 => ?_) fun h34 hF35 => ?_
      ·cases ho24 _ (Rn_some hF35)
       cases hΦ _ (hr17 _ hψ26)
       try simp [go_sem, g32]
       refine pw_wk ?_
       try simp [go_sem, g32]
      ·try simp [go_sem, g32]
       refine pw_wk ?_
       try simp [go_sem, g32]
       exact hg25 (IntKind.i64.wrap (s22 + 2)) _ (by simp [go_sem, g32]) (Rn_some hF35)
     ·try simp [go_sem]
      cases ho24 _ (Rn_some hF31)
      exact hj16 () _ (by simp [go_sem]) hψ26
  ·intro ψ3 hj1 hF4
   try simp [go_sem]
   refine pw_cl hF4 [.sh] c_impl_isModulus rfl rfl (by (try simp [go_sem, clE]); first | rfl | done) (by rfl) (by (try simp [go_sem]); first | rfl | done) fun z7 hF8 => ⟨by simp [go_sem], ?_⟩
   try simp [go_sem]
   refine pwg_F hF8 (fun h9 hF10 => ?_) fun h9 hF10 => ?_
   ·try simp [go_sem, h9]
    exact hj1 true _ (by simp [go_sem]) (Rn_some hF10)
   ·have g11 := fun x => divV_ne (b := 2) (x := x) (by decide)
    try simp [go_sem, g11, h9]
    refine pwg_F hF10 (fun h12 hF13 => ?_) fun h12 hF13 => ?_
    ·try simp [go_sem, g11, h12, h9]
     exact hj1 (a0 != 2) _ (by simp [go_sem, g11]) (Rn_some hF13)
    ·try simp [go_sem, g11, h12, h9]
     exact hj1 false _ (by simp [go_sem, g11]) (Rn_some hF13)
noncomputable def F_impl_power (a0 : Int) (a1 : Int) (a2 : Int) : Option (Int) :=
  gd (a2 ≠ 0) <|
  ((wloop (σ := Int × Int × Int) (β := Int) (fun s9 =>
  if decide (0 < s9.2.1) = true then (
  ((if ((IntKind.i64.wrap ((BitVec.ofInt IntKind.i64.bits s9.2.1 &&& BitVec.ofInt IntKind.i64.bits 1).toNat)) == 1) = true then (
  gd (a2 ≠ 0) <|
  some ((IntKind.i64.wrap (s9.2.2 * s9.1)).tmod a2)) else (
  some s9.2.2) : Option (Int)).bind fun (x23 : Int) =>
  gd (a2 ≠ 0) <|
  some (.go ((IntKind.i64.wrap (s9.1 * s9.1)).tmod a2, s9.2.1.fdiv 2, x23)))) else (
  some (.out s9.2.2))) (a0, a1, (1 : Int).tmod a2) : Option (Int)).bind fun (x7 : Int) =>
  some x7)
theorem c_impl_power {a0 : Int} {a1 : Int} {a2 : Int} {r : Int} (hr : F_impl_power a0 a1 a2 = some r) : PCalls Try.prog 117 [(.sh, .int .i64 a0), (.sh, .int .i64 a1), (.sh, .int .i64 a2)] (Eo (.int .i64 r) [.junk, .junk, .junk]) := by
  apply pcalls_lf 28 [] [] [] [.tmp 6] hr cl117 Try.func117 rfl rfl rfl
  · exact ⟨by simp, rfl⟩
  intro Φ hΦ hF
  unfold F_impl_power at hF
  obtain ⟨g1, hF2⟩ := Rn_nz hF
  iterate 2 (try simp [go_sem, g1]; refine pw_wk ?_)
  repeat rw [sq]
  refine pw_joinF (fun (x7 : Int) => [(7, .v (.int .i64 x7))]) hF2 ?_ ?_
  ·intro x7 hF8
   cases hΦ _ (Rn_some hF8)
   try simp [go_sem, g1]
   refine pw_wk ?_
   try simp [go_sem, g1]
  ·intro ψ5 hj3 hF6
   repeat rw [sq]
   rw [pw_block]
   obtain ⟨b32, hb33, hψ13⟩ := hF6
   refine pw_wloop (fun (s9 : Int × Int × Int) => [(0, .v (.int .i64 s9.1)), (1, .v (.int .i64 s9.2.1)), (2, .v (.int .i64 a2)), (7, .v (.int .i64 s9.2.2))]) hb33 (by simp [go_sem, g1]) ?_
   intro s9 φ14 N15 ho11 hg12 hF16
   try simp [go_sem, g1]
   refine pw_wk ?_
   repeat rw [sq]
   refine pw_cF hF16 (by simp [go_sem, g1]) (fun h17 hF18 => ?_) fun h17 hF18 => ?_
   ·try simp [go_sem, g1]
    refine pw_wk ?_
    repeat rw [sq]
    rw [pw_block]
    try simp [go_sem, g1]
    refine pw_wk ?_
    repeat rw [sq]
    refine pw_joinF (fun (x23 : Int) => [(0, .v (.int .i64 s9.1)), (1, .v (.int .i64 s9.2.1)), (2, .v (.int .i64 a2)), (7, .v (.int .i64 x23))]) hF18 ?_ ?_
    ·intro x23 hF24
     obtain ⟨g29, hF30⟩ := Rn_nz hF24
     try simp [go_sem, g1, g29]
     refine pw_wkK [0, 1, 2, 7] (by simp [go_sem, g1, g29]; rfl) ?_
     have g31 := fun x => shV0_ge (b := 1) (x := x) (by decide)
     try simp [go_sem, g1, g29, g31]
     exact hg12 ((IntKind.i64.wrap (s9.1 * s9.1)).tmod a2, s9.2.1.fdiv 2, x23) _ (by simp [go_sem, g1, g29, g31]) (Rn_some hF30)
    ·intro ψ21 hj19 hF22
     repeat rw [sq]
     refine pw_cF hF22 (by simp [go_sem, g1]) (fun h25 hF26 => ?_) fun h25 hF26 => ?_
     ·obtain ⟨g27, hF28⟩ := Rn_nz hF26
      try simp [go_sem, g1, g27]
      exact hj19 ((IntKind.i64.wrap (s9.2.2 * s9.1)).tmod a2) _ (by simp [go_sem, g1, g27]) (Rn_some hF28)
     ·try simp [go_sem, g1]
      exact hj19 s9.2.2 _ (by simp [go_sem, g1]) (Rn_some hF26)
   ·try simp [go_sem, g1]
    cases ho11 _ (Rn_some hF18)
    exact hj3 s9.2.2 _ (by simp [go_sem, g1]) hψ13
noncomputable def F_impl_IsValidGroup (a0 : Group) : Option (Bool) :=
  (((F_impl_within a0.P 3 2000000000).bind fun z7 =>
  if z7 = true then (
  (F_impl_within a0.Q 2 (IntKind.i64.wrap (a0.P - 1))).bind fun z11 =>
  if z11 = true then (
  gd (a0.Q ≠ 0) <|
  if (((IntKind.i64.wrap (a0.P - 1)).tmod a0.Q) == 0) = true then (
  (F_impl_within a0.G 2 (IntKind.i64.wrap (a0.P - 1))).bind fun z19 =>
  if z19 = true then (
  (F_impl_isPrime a0.P).bind fun z23 =>
  if z23 = true then (
  (F_impl_isPrime a0.Q).bind fun z27 =>
  if z27 = true then (
  (F_impl_power a0.G a0.Q a0.P).bind fun z31 =>
  some (z31 == 1)) else (
  some false)) else (
  some false)) else (
  some false)) else (
  some false)) else (
  some false)) else (
  some false) : Option (Bool)).bind fun (x5 : Bool) =>
  some x5)
theorem c_impl_IsValidGroup {a0 : Group} {r : Bool} (hr : F_impl_IsValidGroup a0 = some r) : PCalls Try.prog 92 [(.sh, .agg [.int .i64 a0.P, .int .i64 a0.Q, .int .i64 a0.G])] (Eo (.bool r) [.junk]) := by
  apply pcalls_lf 51 [] [] [] [.tmp 2] hr cl92 Try.func92 rfl rfl rfl
  · exact ⟨by simp, rfl⟩
  intro Φ hΦ hF
  unfold F_impl_IsValidGroup at hF
  try simp [go_sem]
  refine pw_wk ?_
  repeat rw [sq]
  refine pw_joinF (fun (x5 : Bool) => [(2, .v (.bool x5))]) hF ?_ ?_
  ·intro x5 hF6
   cases hΦ _ (Rn_some hF6)
   try simp [go_sem]
  ·intro ψ3 hj1 hF4
   try simp [go_sem]
   refine pw_cl hF4 [.sh, .sh, .sh] c_impl_within rfl rfl (by (try simp [go_sem, clE]); first | rfl | done) (by rfl) (by (try simp [go_sem]); first | rfl | done) fun z7 hF8 => ⟨by simp [go_sem], ?_⟩
   try simp [go_sem]
   refine pwg_F hF8 (fun h9 hF10 => ?_) fun h9 hF10 => ?_
   ·try simp [go_sem, h9]
    refine pw_cl hF10 [.sh, .sh, .sh] c_impl_within rfl rfl (by (try simp [go_sem, clE]); first | rfl | done) (by rfl) (by (try simp [go_sem]); first | rfl | done) fun z11 hF12 => ⟨by simp [go_sem], ?_⟩
    try simp [go_sem, h9]
    refine pwg_F hF12 (fun h13 hF14 => ?_) fun h13 hF14 => ?_
    ·obtain ⟨g15, hF16⟩ := Rn_nz hF14
     try simp [go_sem, g15, h13]
     refine pwg_F hF16 (fun h17 hF18 => ?_) fun h17 hF18 => ?_
     ·try simp [go_sem, g15, h17]
      refine pw_cl hF18 [.sh, .sh, .sh] c_impl_within rfl rfl (by (try simp [go_sem, clE, g15]); first | rfl | done) (by rfl) (by (try simp [go_sem, g15]); first | rfl | done) fun z19 hF20 => ⟨by simp [go_sem], ?_⟩
      try simp [go_sem, g15, h17]
      refine pwg_F hF20 (fun h21 hF22 => ?_) fun h21 hF22 => ?_
      ·try simp [go_sem, g15, h21]
       refine pw_cl hF22 [.sh] c_impl_isPrime rfl rfl (by (try simp [go_sem, clE, g15]); first | rfl | done) (by rfl) (by (try simp [go_sem, g15]); first | rfl | done) fun z23 hF24 => ⟨by simp [go_sem], ?_⟩
       try simp [go_sem, g15, h21]
       refine pwg_F hF24 (fun h25 hF26 => ?_) fun h25 hF26 => ?_
       ·try simp [go_sem, g15, h25]
        refine pw_cl hF26 [.sh] c_impl_isPrime rfl rfl (by (try simp [go_sem, clE, g15]); first | rfl | done) (by rfl) (by (try simp [go_sem, g15]); first | rfl | done) fun z27 hF28 => ⟨by simp [go_sem], ?_⟩
        try simp [go_sem, g15, h25]
        refine pwg_F hF28 (fun h29 hF30 => ?_) fun h29 hF30 => ?_
        ·try simp [go_sem, g15, h29]
         refine pw_cl hF30 [.sh, .sh, .sh] c_impl_power rfl rfl (by (try simp [go_sem, clE, g15]); first | rfl | done) (by rfl) (by (try simp [go_sem, g15]); first | rfl | done) fun z31 hF32 => ⟨by simp [go_sem], ?_⟩
         try simp [go_sem, g15, h29]
         exact hj1 (z31 == 1) _ (by simp [go_sem, g15]) (Rn_some hF32)
        ·try simp [go_sem, g15, h29]
         exact hj1 false _ (by simp [go_sem, g15]) (Rn_some hF30)
       ·try simp [go_sem, g15, h25]
        exact hj1 false _ (by simp [go_sem, g15]) (Rn_some hF26)
      ·try simp [go_sem, g15, h21]
       exact hj1 false _ (by simp [go_sem, g15]) (Rn_some hF22)
     ·try simp [go_sem, g15, h17]
      exact hj1 false _ (by simp [go_sem, g15]) (Rn_some hF18)
    ·try simp [go_sem, h13]
     exact hj1 false _ (by simp [go_sem]) (Rn_some hF14)
   ·try simp [go_sem, h9]
    exact hj1 false _ (by simp [go_sem]) (Rn_some hF10)
noncomputable def F_impl_isSharing (a0 : Group) : Option (Bool) :=
  ((if decide (7 < a0.Q) = true then (
  (F_impl_IsValidGroup a0).bind fun z9 =>
  some z9) else (
  some false) : Option (Bool)).bind fun (x5 : Bool) =>
  some x5)
theorem c_impl_isSharing {a0 : Group} {r : Bool} (hr : F_impl_isSharing a0 = some r) : PCalls Try.prog 106 [(.sh, .agg [.int .i64 a0.P, .int .i64 a0.Q, .int .i64 a0.G])] (Eo (.bool r) [.junk]) := by
  apply pcalls_lf 10 [] [] [] [.tmp 2] hr cl106 Try.func106 rfl rfl rfl
  · exact ⟨by simp, rfl⟩
  intro Φ hΦ hF
  unfold F_impl_isSharing at hF
  try simp [go_sem]
  refine pw_wk ?_
  repeat rw [sq]
  refine pw_joinF (fun (x5 : Bool) => [(2, .v (.bool x5))]) hF ?_ ?_
  ·intro x5 hF6
   cases hΦ _ (Rn_some hF6)
   try simp [go_sem]
  ·intro ψ3 hj1 hF4
   try simp [go_sem]
   refine pwg_F hF4 (fun h7 hF8 => ?_) fun h7 hF8 => ?_
   ·try simp [go_sem, h7]
    refine pw_cl hF8 [.sh] c_impl_IsValidGroup rfl rfl (by (try simp [go_sem, clE]); first | rfl | done) (by rfl) (by (try simp [go_sem]); first | rfl | done) fun z9 hF10 => ⟨by simp [go_sem], ?_⟩
    try simp [go_sem, h7]
    exact hj1 z9 _ (by simp [go_sem]) (Rn_some hF10)
   ·try simp [go_sem, h7]
    exact hj1 false _ (by simp [go_sem]) (Rn_some hF8)
noncomputable def F_impl_Group_isExp (a0 : Group) (a1 : Int) : Option (Bool) :=
  (F_impl_within a1 0 (IntKind.i64.wrap (a0.Q - 1))).bind fun z1 =>
  some z1
theorem c_impl_Group_isExp {a0 : Group} {a1 : Int} {r : Bool} (hr : F_impl_Group_isExp a0 a1 = some r) : PCalls Try.prog 55 [(.sh, .agg [.int .i64 a0.P, .int .i64 a0.Q, .int .i64 a0.G]), (.sh, .int .i64 a1)] (Eo (.bool r) [.junk, .junk]) := by
  apply pcalls_lf 10 [] [] [] [.tmp 4] hr cl55 Try.func55 rfl rfl rfl
  · exact ⟨by simp, rfl⟩
  intro Φ hΦ hF
  unfold F_impl_Group_isExp at hF
  try simp [go_sem]
  refine pw_wk ?_
  try simp [go_sem]
  refine pw_cl hF [.sh, .sh, .sh] c_impl_within rfl rfl (by (try simp [go_sem, clE]); first | rfl | done) (by rfl) (by (try simp [go_sem]); first | rfl | done) fun z1 hF2 => ⟨by simp [go_sem], ?_⟩
  cases hΦ _ (Rn_some hF2)
  try simp [go_sem]
  refine pw_wk ?_
  try simp [go_sem]
noncomputable def F_impl_areAll_1__impl_Group_isExp (a0 : Int) (a1c0x0 : Group) : Option (Bool) :=
  (F_impl_Group_isExp a1c0x0 a0).bind fun z1 =>
  some (!z1)
theorem c_impl_areAll_1__impl_Group_isExp {a0 : Int} {a1c0x0 : Group} {r : Bool} (hr : F_impl_areAll_1__impl_Group_isExp a0 a1c0x0 = some r) : PCalls Try.prog 149 [(.sh, .int .i64 a0), (.sh, .fp [.func (.func 55) [.agg [.int .i64 a1c0x0.P, .int .i64 a1c0x0.Q, .int .i64 a1c0x0.G]] []])] (Eo (.bool r) [.junk, .junk]) := by
  apply pcalls_lf 8 [] [] [] [.tmp 3] hr cl149 Try.func149 rfl rfl rfl
  · exact ⟨by simp, rfl⟩
  intro Φ hΦ hF
  unfold F_impl_areAll_1__impl_Group_isExp at hF
  try simp [go_sem]
  refine pw_wk ?_
  try simp [go_sem]
  refine pw_cl hF [.sh] c_impl_Group_isExp rfl rfl (by (try simp [go_sem, clE]); first | rfl | done) (by rfl) (by (try simp [go_sem]); first | rfl | done) fun z1 hF2 => ⟨by simp [go_sem], ?_⟩
  cases hΦ _ (Rn_some hF2)
  try simp [go_sem]
  refine pw_wk ?_
  try simp [go_sem]
noncomputable def F_slices_IndexFunc_int_int__impl_areAll_1_impl_Group_isExp (a0 : (List Int)) (a1u0c0x0 : Group) : Option (Int) :=
  ((rloop (σ := Unit) (β := Unit ⊕ Int) (fun i8 s7 =>
  (ix a0 i8).bind fun x17 =>
  (F_impl_areAll_1__impl_Group_isExp x17 a1u0c0x0).bind fun z20 =>
  if z20 = true then (
  some (.out (.inr i8))) else (
  some (.go ()))) (fun s7 => .inl ()) (a0.length) 0 () : Option (Unit ⊕ Int)).bind (Sum.elim (fun (x5 : Unit) =>
  some (-1)) some))
theorem c_slices_IndexFunc_int_int__impl_areAll_1_impl_Group_isExp {a0 : (List Int)} {a1u0c0x0 : Group} {r : Int} (hr : F_slices_IndexFunc_int_int__impl_areAll_1_impl_Group_isExp a0 a1u0c0x0 = some r) : PCalls Try.prog 162 [(.sh, .sl false 1 (a0.map row_i64)), (.sh, .func (.func 149) [] [.fp [.func (.func 55) [.agg [.int .i64 a1u0c0x0.P, .int .i64 a1u0c0x0.Q, .int .i64 a1u0c0x0.G]] []]])] (Eo (.int .i64 r) [.junk, .junk]) := by
  apply pcalls_lf 19 [] [] [] [.tmp 4] hr cl162 Try.func162 rfl rfl rfl
  · exact ⟨by simp, rfl⟩
  intro Φ hΦ hF
  unfold F_slices_IndexFunc_int_int__impl_areAll_1_impl_Group_isExp at hF
  iterate 2 (try simp [go_sem]; try intros; refine pw_wk ?_)
  repeat rw [sq]
  refine pw_joinS (fun (x5 : Unit) => []) hF ?_ ?_
  ·intro x5 hF6
   cases hΦ _ (Rn_some hF6)
   try simp [go_sem]
   refine pw_wk ?_
   try simp [go_sem]
  ·intro ψ3 hj1 hr2 hF4
   repeat rw [sq]
   rw [pw_block]
   obtain ⟨b24, hb25, hψ11⟩ := hF4
   refine pw_rloop (fun (i8 : Int) (s7 : Unit) => [(0, .v (.sl false 1 (a0.map row_i64))), (1, .v (.func (.func 149) [] [.fp [.func (.func 55) [.agg [.int .i64 a1u0c0x0.P, .int .i64 a1u0c0x0.Q, .int .i64 a1u0c0x0.G]] []]])), (7, .v (.int .i64 (a0.length : Int))), (8, .v (.int .i64 i8))]) hb25 (by simp [go_sem]) ?_ ?_
   ·intro s7 N27 hN26
    subst hN26
    try simp [go_sem]
    refine pw_wk ?_
    repeat rw [sq]
    refine pw_cond_f (by simp [go_sem]) ?_
    try simp [go_sem]
    exact hj1 () _ (by simp [go_sem]) hψ11
   ·intro i8 s7 φ12 N13 hi15 hi16 ho9 hg10 hF14
    rw [Int.zero_add] at hi16
    try simp [go_sem]
    refine pw_wk ?_
    repeat rw [sq]
    refine pw_cond_t (by simp [go_sem, hi15, hi16]) ?_
    try simp [go_sem]
    refine pw_wk ?_
    repeat rw [sq]
    rw [pw_block]
    obtain ⟨x17, g18, hF19⟩ := Rn_ix hF14
    try simp [go_sem, g18]
    refine pw_wk ?_
    try simp [go_sem, g18]
    refine pw_cl hF19 [.sh] c_impl_areAll_1__impl_Group_isExp rfl rfl (by (try simp [go_sem, clE, g18]); first | rfl | done) (by rfl) (by (try simp [go_sem, g18]); first | rfl | done) fun z20 hF21 => ⟨by simp [go_sem], ?_⟩
    try simp [go_sem, g18]
    refine pw_wkK [0, 1, 5, 7, 8, 16] (by simp [go_sem, g18]; rfl) ?_
    repeat rw [sq]
    refine pw_cF hF21 (by simp [go_sem, g18]) (fun h22 hF23 => ?_) fun h22 hF23 => ?_
    ·cases ho9 _ (Rn_some hF23)
     cases hΦ _ (hr2 _ hψ11)
     try simp [go_sem, g18]
     refine pw_wk ?_
     try simp [go_sem, g18]
    ·try simp [go_sem, g18]
     refine pw_wk ?_
     try simp [go_sem, g18]
     exact hg10 () _ (by simp [go_sem, g18, wr_i hi15 hi16 (by assumption)]) (Rn_some hF23)
noncomputable def F_slices_ContainsFunc_int_int__impl_areAll_1_impl_Group_isExp (a0 : (List Int)) (a1u0c0x0 : Group) : Option (Bool) :=
  (F_slices_IndexFunc_int_int__impl_areAll_1_impl_Group_isExp a0 a1u0c0x0).bind fun z1 =>
  some (decide (0 ≤ z1))
theorem c_slices_ContainsFunc_int_int__impl_areAll_1_impl_Group_isExp {a0 : (List Int)} {a1u0c0x0 : Group} {r : Bool} (hr : F_slices_ContainsFunc_int_int__impl_areAll_1_impl_Group_isExp a0 a1u0c0x0 = some r) : PCalls Try.prog 148 [(.sh, .sl false 1 (a0.map row_i64)), (.sh, .func (.func 149) [] [.fp [.func (.func 55) [.agg [.int .i64 a1u0c0x0.P, .int .i64 a1u0c0x0.Q, .int .i64 a1u0c0x0.G]] []]])] (Eo (.bool r) [.junk, .junk]) := by
  apply pcalls_lf 9 [] [] [] [.tmp 4] hr cl148 Try.func148 rfl rfl rfl
  · exact ⟨by simp, rfl⟩
  intro Φ hΦ hF
  unfold F_slices_ContainsFunc_int_int__impl_areAll_1_impl_Group_isExp at hF
  try simp [go_sem]
  refine pw_wk ?_
  try simp [go_sem]
  refine pw_cl hF [.sh, .sh] c_slices_IndexFunc_int_int__impl_areAll_1_impl_Group_isExp rfl rfl (by (try simp [go_sem, clE]); first | rfl | done) (by rfl) (by (try simp [go_sem]); first | rfl | done) fun z1 hF2 => ⟨by simp [go_sem], ?_⟩
  cases hΦ _ (Rn_some hF2)
  try simp [go_sem]
  refine pw_wk ?_
  try simp [go_sem]
noncomputable def F_impl_areAll__impl_Group_isExp (a0 : (List Int)) (a1x0 : Group) : Option (Bool) :=
  (F_slices_ContainsFunc_int_int__impl_areAll_1_impl_Group_isExp a0 a1x0).bind fun z1 =>
  some (!z1)
theorem c_impl_areAll__impl_Group_isExp {a0 : (List Int)} {a1x0 : Group} {r : Bool} (hr : F_impl_areAll__impl_Group_isExp a0 a1x0 = some r) : PCalls Try.prog 119 [(.sh, .sl false 1 (a0.map row_i64)), (.sh, .func (.func 55) [.agg [.int .i64 a1x0.P, .int .i64 a1x0.Q, .int .i64 a1x0.G]] [])] (Eo (.bool r) [.junk, .junk]) := by
  apply pcalls_lf 9 [] [] [3] [.tmp 4] hr cl119 Try.func119 rfl rfl rfl
  · exact ⟨by simp, rfl⟩
  intro Φ hΦ hF
  unfold F_impl_areAll__impl_Group_isExp at hF
  try simp [go_sem]
  refine pw_wk ?_
  try simp [go_sem]
  refine pw_cl hF [.sh, .sh] c_slices_ContainsFunc_int_int__impl_areAll_1_impl_Group_isExp rfl rfl (by (try simp [go_sem, clE]); first | rfl | done) (by rfl) (by (try simp [go_sem]); first | rfl | done) fun z1 hF2 => ⟨by simp [go_sem], ?_⟩
  cases hΦ _ (Rn_some hF2)
  try simp [go_sem]
  refine pw_wk ?_
  try simp [go_sem]
noncomputable def F_impl_Group_areExps (a0 : Group) (a1 : (List Int)) : Option (Bool) :=
  (F_impl_areAll__impl_Group_isExp a1 a0).bind fun z1 =>
  some z1
theorem c_impl_Group_areExps {a0 : Group} {a1 : (List Int)} {r : Bool} (hr : F_impl_Group_areExps a0 a1 = some r) : PCalls Try.prog 107 [(.sh, .agg [.int .i64 a0.P, .int .i64 a0.Q, .int .i64 a0.G]), (.sh, .sl false 1 (a1.map row_i64))] (Eo (.bool r) [.junk, .junk]) := by
  apply pcalls_lf 9 [] [] [] [.tmp 4] hr cl107 Try.func107 rfl rfl rfl
  · exact ⟨by simp, rfl⟩
  intro Φ hΦ hF
  unfold F_impl_Group_areExps at hF
  try simp [go_sem]
  refine pw_wk ?_
  try simp [go_sem]
  refine pw_cl hF [.sh, .sh] c_impl_areAll__impl_Group_isExp rfl rfl (by (try simp [go_sem, clE]); first | rfl | done) (by rfl) (by (try simp [go_sem]); first | rfl | done) fun z1 hF2 => ⟨by simp [go_sem], ?_⟩
  cases hΦ _ (Rn_some hF2)
  try simp [go_sem]
  refine pw_wk ?_
  try simp [go_sem]
noncomputable def F_impl_evalPoly (a0 : Int) (a1 : (List Int)) (a2 : Int) : Option (Int) :=
  ((wloop (σ := Int × Int) (β := Int) (fun s7 =>
  if decide (0 ≤ s7.2) = true then (
  gd (a0 ≠ 0) <|
  (ix a1 s7.2).bind fun x19 =>
  gd (a0 ≠ 0) <|
  some (.go ((IntKind.i64.wrap (((IntKind.i64.wrap (s7.1 * a2)).tmod a0) + x19)).tmod a0, IntKind.i64.wrap (s7.2 - 1)))) else (
  some (.out s7.1))) (0, IntKind.i64.wrap ((a1.length : Int) - 1)) : Option (Int)).bind fun (x5 : Int) =>
  some x5)
theorem c_impl_evalPoly {a0 : Int} {a1 : (List Int)} {a2 : Int} {r : Int} (hr : F_impl_evalPoly a0 a1 a2 = some r) : PCalls Try.prog 86 [(.sh, .int .i64 a0), (.sh, .sl false 1 (a1.map row_i64)), (.sh, .int .i64 a2)] (Eo (.int .i64 r) [.junk, .junk, .junk]) := by
  apply pcalls_lf 29 [] [] [] [.tmp 6] hr cl86 Try.func86 rfl rfl rfl
  · exact ⟨by simp, rfl⟩
  intro Φ hΦ hF
  unfold F_impl_evalPoly at hF
  iterate 3 (try simp [go_sem]; try intros; refine pw_wk ?_)
  repeat rw [sq]
  refine pw_joinF (fun (x5 : Int) => [(7, .v (.int .i64 x5))]) hF ?_ ?_
  ·intro x5 hF6
   cases hΦ _ (Rn_some hF6)
   try simp [go_sem]
   refine pw_wk ?_
   try simp [go_sem]
  ·intro ψ3 hj1 hF4
   repeat rw [sq]
   rw [pw_block]
   obtain ⟨b24, hb25, hψ11⟩ := hF4
   refine pw_wloop (fun (s7 : Int × Int) => [(0, .v (.int .i64 a0)), (1, .v (.sl false 1 (a1.map row_i64))), (2, .v (.int .i64 a2)), (7, .v (.int .i64 s7.1)), (8, .v (.int .i64 s7.2))]) hb25 (by simp [go_sem]) ?_
   intro s7 φ12 N13 ho9 hg10 hF14
   try simp [go_sem]
   refine pw_wk ?_
   repeat rw [sq]
   refine pw_cF hF14 (by simp [go_sem]) (fun h15 hF16 => ?_) fun h15 hF16 => ?_
   ·try simp [go_sem]
    refine pw_wk ?_
    repeat rw [sq]
    rw [pw_block]
    repeat rw [sq]
    refine pw_draw D86_5 follows (by kernel_rfl) rfl ?_
    try simp only [go_sem, D86_5]
    obtain ⟨g17, hF18⟩ := Rn_nz hF16
    obtain ⟨x19, g20, hF21⟩ := Rn_ix hF18
    obtain ⟨g22, hF23⟩ := Rn_nz hF21
    try simp [go_sem, g17, g20, g22]
    refine pw_wkK [0, 1, 2, 7, 8] (by simp [go_sem, g17, g20, g22]; rfl) ?_
    try simp [go_sem, g17, g20, g22]
    exact hg10 ((IntKind.i64.wrap (((IntKind.i64.wrap (s7.1 * a2)).tmod a0) + x19)).tmod a0, IntKind.i64.wrap (s7.2 - 1)) _ (by simp [go_sem, g17, g20, g22]) (Rn_some hF23)
   ·try simp [go_sem]
    cases ho9 _ (Rn_some hF16)
    exact hj1 s7.1 _ (by simp [go_sem]) hψ11
noncomputable def F_impl_ShareCounts (a0 : Group) (a1 : Int) (a2 : (List Int)) : Option ((List Int) × Bool) :=
  ((if decide (23 < a0.Q) = true then (
  some true) else (
  (F_impl_isSharing a0).bind fun z9 =>
  if (!z9) = true then (
  some true) else (
  (F_impl_within a1 1 3).bind fun z13 =>
  if (!z13) = true then (
  some true) else (
  if decide (7 < (a2.length : Int)) = true then (
  some true) else (
  (F_impl_Group_areExps a0 a2).bind fun z19 =>
  some (!z19))))) : Option (Bool)).bind fun (x5 : Bool) =>
  if x5 = true then (
  some ([], false)) else (
  gd (0 ≤ a0.Q ∧ a0.Q ≤ a0.Q ∧ 8 * a0.Q ≤ 140737488355328 ∧ a0.Q ≤ 4611686018427387904) <|
  (some (List.replicate a0.Q.toNat 0)).bind fun x26 =>
  ((wloop (σ := Int × Int) (β := Int) (fun s36 =>
  if decide (s36.2 < a1) = true then (
  some (.go (IntKind.i64.wrap (s36.1 * a0.Q), IntKind.i64.wrap (s36.2 + 1)))) else (
  some (.out s36.1))) (1, 0) : Option (Int)).bind fun (x34 : Int) =>
  ((wloop (σ := (List Int) × Int) (β := (List Int)) (fun s136 =>
  if decide (s136.2 < x34) = true then (
  ((((wloop (σ := (List Int) × Int) (β := (List Int)) (fun s158 =>
  if decide ((s158.1.length : Int) < a1) = true then (
  gd (a0.Q ≠ 0) <|
  gd ((s158.1.length + 1) * 8 ≤ 140737488355328 ∧ s158.1.length + 1 ≤ 4611686018427387904) <|
  gd (a0.Q ≠ 0) <|
  some (.go (s158.1 ++ [s158.2.tmod a0.Q], IntKind.i64.wrap (s158.2.tdiv a0.Q)))) else (
  some (.out s158.1))) ([], s136.2) : Option ((List Int))).bind fun (x156 : (List Int)) =>
  ((rloop (σ := Bool) (β := Bool) (fun i184 s183 =>
  (((ix a2 i184).bind fun x199 =>
  if s183 = true then (
  (F_impl_evalPoly a0.Q x156 (IntKind.i64.wrap (i184 + 1))).bind fun z204 =>
  some (z204 == x199)) else (
  some false) : Option (Bool)).bind fun (x197 : Bool) =>
  some (.go x197))) (fun s183 => s183) (a2.length) 0 true : Option (Bool)).bind fun (x181 : Bool) =>
  if x181 = true then (
  (ix x156 0).bind fun x212 =>
  (ix s136.1 x212).bind fun x215 =>
  some (s136.1.set x212.toNat (IntKind.i64.wrap (x215 + 1)))) else (
  some s136.1))) : Option ((List Int))).bind fun (x150 : (List Int)) =>
  some (.go (x150, IntKind.i64.wrap (s136.2 + 1))))) else (
  some (.out s136.1))) (x26, 0) : Option ((List Int))).bind fun (x52 : (List Int)) =>
  some (x52, true)))))
theorem c_impl_ShareCounts {a0 : Group} {a1 : Int} {a2 : (List Int)} {r : (List Int) × Bool} (hr : F_impl_ShareCounts a0 a1 a2 = some r) : PCalls Try.prog 45 [(.sh, .agg [.int .i64 a0.P, .int .i64 a0.Q, .int .i64 a0.G]), (.sh, .int .i64 a1), (.sh, .sl false 1 (a2.map row_i64))] (Eo (.tup [.sl true 1 (r.1.map row_i64), .bool r.2]) [.junk, .junk, .junk]) := by
  apply pcalls_lf 102 [] [] [] [.tmp 6, .tmp 7] hr cl45 Try.func45 rfl rfl rfl
  · exact ⟨by simp, rfl⟩
  intro Φ hΦ hF
  unfold F_impl_ShareCounts at hF
  try simp [go_sem]
  refine pw_wk ?_
  repeat rw [sq]
  refine pw_joinF (fun (x5 : Bool) => [(1, .v (.int .i64 a1)), (2, .v (.sl false 1 (a2.map row_i64))), (3, .bl [.int .i64 a0.P, .int .i64 a0.Q, .int .i64 a0.G]), (39, .v (.bool x5))]) hF ?_ ?_
  ·intro x5 hF6
   repeat rw [sq]
   refine pw_cF hF6 (by simp [go_sem]) (fun h21 hF22 => ?_) fun h21 hF22 => ?_
   ·cases hΦ _ (Rn_some hF22)
    try simp [go_sem]
    refine pw_wk ?_
    try simp [go_sem]
   ·obtain ⟨g23, hF24⟩ := Rn_gd hF22
    have g25 := g23
    try simp at g25
    obtain ⟨x26, e27, hF28⟩ := Rn_bind hF24
    have g29 : List.replicate a0.Q.toNat ([.int .i64 0] : List PV) = x26.map row_i64 := by injection e27 with e27; rw [← e27]; simp [go_sem]
    iterate 2 (try simp [go_sem, g23, g25, g29]; refine pw_wk ?_)
    try simp [go_sem, g23, g25, g29]
    refine pw_wkK [1, 2, 3, 8, 9, 43, 44] (by simp [go_sem, g23, g25]; rfl) ?_
    repeat rw [sq]
    refine pw_joinF (fun (x34 : Int) => [(1, .v (.int .i64 a1)), (2, .v (.sl false 1 (a2.map row_i64))), (3, .bl [.int .i64 a0.P, .int .i64 a0.Q, .int .i64 a0.G]), (8, .v (.sl true 1 (x26.map row_i64))), (9, .v (.int .i64 x34))]) hF28 ?_ ?_
    ·intro x34 hF35
     try simp [go_sem, g23, g25]
     refine pw_wk ?_
     repeat rw [sq]
     refine pw_joinF (fun (x52 : (List Int)) => [(8, .v (.sl true 1 (x52.map row_i64)))]) hF35 ?_ ?_
     ·intro x52 hF53
      cases hΦ _ (Rn_some hF53)
      try simp [go_sem, g23, g25]
      refine pw_wk ?_
      try simp [go_sem, g23, g25]
     ·intro ψ50 hj48 hF51
      repeat rw [sq]
      rw [pw_block]
      obtain ⟨b218, hb219, hψ140⟩ := hF51
      refine pw_wloop (fun (s136 : (List Int) × Int) => [(1, .v (.int .i64 a1)), (2, .v (.sl false 1 (a2.map row_i64))), (3, .bl [.int .i64 a0.P, .int .i64 a0.Q, .int .i64 a0.G]), (8, .v (.sl true 1 (s136.1.map row_i64))), (51, .v (.int .i64 x34)), (52, .v (.int .i64 s136.2))]) hb219 (by simp [go_sem, g23, g25]) ?_
      intro s136 φ141 N142 ho138 hg139 hF143
      try simp [go_sem, g23, g25]
      refine pw_wk ?_
      repeat rw [sq]
      refine pw_cF hF143 (by simp [go_sem, g23, g25]) (fun h144 hF145 => ?_) fun h144 hF145 => ?_
      ·try simp [go_sem, g23, g25]
       refine pw_wk ?_
       repeat rw [sq]
       refine pw_joinF (fun (x150 : (List Int)) => [(1, .v (.int .i64 a1)), (2, .v (.sl false 1 (a2.map row_i64))), (3, .bl [.int .i64 a0.P, .int .i64 a0.Q, .int .i64 a0.G]), (8, .v (.sl true 1 (x150.map row_i64))), (51, .v (.int .i64 x34)), (52, .v (.int .i64 s136.2))]) hF145 ?_ ?_
       ·intro x150 hF151
        try simp [go_sem, g23, g25]
        exact hg139 (x150, IntKind.i64.wrap (s136.2 + 1)) _ (by simp [go_sem, g23, g25]) (Rn_some hF151)
       ·intro ψ148 hj146 hF149
        repeat rw [sq]
        rw [pw_block]
        iterate 3 (try simp [go_sem, g23, g25]; refine pw_wk ?_)
        repeat rw [sq]
        refine pw_joinF (fun (x156 : (List Int)) => [(1, .v (.int .i64 a1)), (2, .v (.sl false 1 (a2.map row_i64))), (3, .bl [.int .i64 a0.P, .int .i64 a0.Q, .int .i64 a0.G]), (8, .v (.sl true 1 (s136.1.map row_i64))), (11, .v (.sl true 1 (x156.map row_i64))), (51, .v (.int .i64 x34)), (52, .v (.int .i64 s136.2))]) hF149 ?_ ?_
        ·intro x156 hF157
         try simp [go_sem, g23, g25]
         refine pw_wkK [1, 2, 3, 8, 11, 13, 51, 52] (by simp [go_sem, g23, g25]; rfl) ?_
         try simp [go_sem, g23, g25]
         try intros
         refine pw_wk ?_
         repeat rw [sq]
         refine pw_joinF (fun (x181 : Bool) => [(1, .v (.int .i64 a1)), (2, .v (.sl false 1 (a2.map row_i64))), (3, .bl [.int .i64 a0.P, .int .i64 a0.Q, .int .i64 a0.G]), (8, .v (.sl true 1 (s136.1.map row_i64))), (11, .v (.sl true 1 (x156.map row_i64))), (13, .v (.bool x181)), (51, .v (.int .i64 x34)), (52, .v (.int .i64 s136.2))]) hF157 ?_ ?_
         ·intro x181 hF182
          try simp [go_sem, g23, g25]
          refine pw_wk ?_
          repeat rw [sq]
          refine pw_cF hF182 (by simp [go_sem, g23, g25]) (fun h210 hF211 => ?_) fun h210 hF211 => ?_
          ·obtain ⟨x212, g213, hF214⟩ := Rn_ixn 0 rfl hF211
           obtain ⟨x215, g216, hF217⟩ := Rn_ix hF214
           try simp [go_sem, g23, g25, g213, g216]
           exact hj146 (s136.1.set x212.toNat (IntKind.i64.wrap (x215 + 1))) _ (by simp [go_sem, g23, g25, g213, g216]) (Rn_some hF217)
          ·try simp [go_sem, g23, g25]
           exact hj146 s136.1 _ (by simp [go_sem, g23, g25]) (Rn_some hF211)
         ·intro ψ179 hj177 hF180
          repeat rw [sq]
          rw [pw_block]
          obtain ⟨b206, hb207, hψ187⟩ := hF180
          refine pw_rloop (fun (i184 : Int) (s183 : Bool) => [(1, .v (.int .i64 a1)), (2, .v (.sl false 1 (a2.map row_i64))), (3, .bl [.int .i64 a0.P, .int .i64 a0.Q, .int .i64 a0.G]), (8, .v (.sl true 1 (s136.1.map row_i64))), (11, .v (.sl true 1 (x156.map row_i64))), (13, .v (.bool s183)), (51, .v (.int .i64 x34)), (52, .v (.int .i64 s136.2)), (72, .v (.sl false 1 (a2.map row_i64))), (73, .v (.int .i64 (a2.length : Int))), (74, .v (.int .i64 i184))]) hb207 (by simp [go_sem, g23, g25]) ?_ ?_
          ·intro s183 N209 hN208
           subst hN208
           try simp [go_sem]
           refine pw_wk ?_
           repeat rw [sq]
           refine pw_cond_f (by simp [go_sem]) ?_
           try simp [go_sem]
           exact hj177 s183 _ (by simp [go_sem]) hψ187
          ·intro i184 s183 φ188 N189 hi191 hi192 ho185 hg186 hF190
           rw [Int.zero_add] at hi192
           try simp [go_sem, g23, g25]
           refine pw_wk ?_
           repeat rw [sq]
           refine pw_cond_t (by simp [go_sem, g23, g25, hi191, hi192]) ?_
           try simp [go_sem, g23, g25]
           refine pw_wk ?_
           repeat rw [sq]
           refine pw_joinF (fun (x197 : Bool) => [(1, .v (.int .i64 a1)), (2, .v (.sl false 1 (a2.map row_i64))), (3, .bl [.int .i64 a0.P, .int .i64 a0.Q, .int .i64 a0.G]), (8, .v (.sl true 1 (s136.1.map row_i64))), (11, .v (.sl true 1 (x156.map row_i64))), (13, .v (.bool x197)), (51, .v (.int .i64 x34)), (52, .v (.int .i64 s136.2)), (72, .v (.sl false 1 (a2.map row_i64))), (73, .v (.int .i64 (a2.length : Int))), (74, .v (.int .i64 i184))]) hF190 ?_ ?_
           ·intro x197 hF198
            try simp [go_sem, g23, g25]
            exact hg186 x197 _ (by simp [go_sem, g23, g25, wr_i hi191 hi192 (by assumption)]) (Rn_some hF198)
           ·intro ψ195 hj193 hF196
            repeat rw [sq]
            rw [pw_block]
            obtain ⟨x199, g200, hF201⟩ := Rn_ix hF196
            try simp [go_sem, g23, g25, g200]
            refine pw_wk ?_
            try simp [go_sem, g23, g25, g200]
            refine pwg_F hF201 (fun h202 hF203 => ?_) fun h202 hF203 => ?_
            ·try simp [go_sem, g23, g25, g200, h202]
             refine pw_cl hF203 [.sh, .sh, .sh] c_impl_evalPoly rfl rfl (by (try simp [go_sem, clE, g23, g25, g200]); first | rfl | done) (by rfl) (by (try simp [go_sem, g23, g25, g200]); first | rfl | done) fun z204 hF205 => ⟨by simp [go_sem], ?_⟩
             try simp [go_sem, g23, g25, g200, h202]
             exact hj193 (z204 == x199) _ (by simp [go_sem, g23, g25, g200]) (Rn_some hF205)
            ·try simp [go_sem, g23, g25, g200, h202]
             exact hj193 false _ (by simp [go_sem, g23, g25, g200]) (Rn_some hF203)
        ·intro ψ154 hj152 hF155
         repeat rw [sq]
         rw [pw_block]
         obtain ⟨b175, hb176, hψ162⟩ := hF155
         refine pw_wloop (fun (s158 : (List Int) × Int) => [(1, .v (.int .i64 a1)), (2, .v (.sl false 1 (a2.map row_i64))), (3, .bl [.int .i64 a0.P, .int .i64 a0.Q, .int .i64 a0.G]), (8, .v (.sl true 1 (s136.1.map row_i64))), (11, .v (.sl true 1 (s158.1.map row_i64))), (12, .v (.int .i64 s158.2)), (51, .v (.int .i64 x34)), (52, .v (.int .i64 s136.2))]) hb176 (by simp [go_sem, g23, g25]) ?_
         intro s158 φ163 N164 ho160 hg161 hF165
         try simp [go_sem, g23, g25]
         try intros
         refine pw_wkK [1, 2, 3, 8, 11, 12, 51, 52, 60] (by simp [go_sem, g23, g25]; rfl) ?_
         repeat rw [sq]
         refine pw_cF hF165 (by simp [go_sem, g23, g25]) (fun h166 hF167 => ?_) fun h166 hF167 => ?_
         ·try simp [go_sem, g23, g25]
          refine pw_wk ?_
          repeat rw [sq]
          rw [pw_block]
          obtain ⟨g168, hF169⟩ := Rn_nz hF167
          obtain ⟨g170, hF171⟩ := Rn_gd hF169
          have g172 := g170
          try simp at g172
          obtain ⟨g173, hF174⟩ := Rn_nz hF171
          try simp [go_sem, g23, g25, g168, g170, g172, g173]
          refine pw_wk ?_
          try simp [go_sem, g23, g25, g168, g170, g172, g173]
          exact hg161 (s158.1 ++ [s158.2.tmod a0.Q], IntKind.i64.wrap (s158.2.tdiv a0.Q)) _ (by simp [go_sem, g23, g25, g168, g170, g172, g173]) (Rn_some hF174)
         ·try simp [go_sem, g23, g25]
          cases ho160 _ (Rn_some hF167)
          exact hj152 s158.1 _ (by simp [go_sem, g23, g25]) hψ162
      ·try simp [go_sem, g23, g25]
       cases ho138 _ (Rn_some hF145)
       exact hj48 s136.1 _ (by simp [go_sem, g23, g25]) hψ140
    ·intro ψ32 hj30 hF33
     repeat rw [sq]
     rw [pw_block]
     obtain ⟨b46, hb47, hψ40⟩ := hF33
     refine pw_wloop (fun (s36 : Int × Int) => [(1, .v (.int .i64 a1)), (2, .v (.sl false 1 (a2.map row_i64))), (3, .bl [.int .i64 a0.P, .int .i64 a0.Q, .int .i64 a0.G]), (8, .v (.sl true 1 (x26.map row_i64))), (9, .v (.int .i64 s36.1)), (43, .v (.int .i64 a1)), (44, .v (.int .i64 s36.2))]) hb47 (by simp [go_sem, g23, g25]) ?_
     intro s36 φ41 N42 ho38 hg39 hF43
     try simp [go_sem, g23, g25]
     refine pw_wk ?_
     repeat rw [sq]
     refine pw_cF hF43 (by simp [go_sem, g23, g25]) (fun h44 hF45 => ?_) fun h44 hF45 => ?_
     ·try simp [go_sem, g23, g25]
      refine pw_wk ?_
      repeat rw [sq]
      rw [pw_block]
      try simp [go_sem, g23, g25]
      refine pw_wk ?_
      try simp [go_sem, g23, g25]
      exact hg39 (IntKind.i64.wrap (s36.1 * a0.Q), IntKind.i64.wrap (s36.2 + 1)) _ (by simp [go_sem, g23, g25]) (Rn_some hF45)
     ·try simp [go_sem, g23, g25]
      cases ho38 _ (Rn_some hF45)
      exact hj30 s36.1 _ (by simp [go_sem, g23, g25]) hψ40
  ·intro ψ3 hj1 hF4
   try simp [go_sem]
   refine pwg_F hF4 (fun h7 hF8 => ?_) fun h7 hF8 => ?_
   ·try simp [go_sem, h7]
    exact hj1 true _ (by simp [go_sem]) (Rn_some hF8)
   ·try simp [go_sem, h7]
    refine pw_cl hF8 [.sh] c_impl_isSharing rfl rfl (by (try simp [go_sem, clE]); first | rfl | done) (by rfl) (by (try simp [go_sem]); first | rfl | done) fun z9 hF10 => ⟨by simp [go_sem], ?_⟩
    try simp [go_sem, h7]
    refine pwg_F hF10 (fun h11 hF12 => ?_) fun h11 hF12 => ?_
    ·try simp [go_sem, h11]
     exact hj1 true _ (by simp [go_sem]) (Rn_some hF12)
    ·try simp [go_sem, h11]
     refine pw_cl hF12 [.sh, .sh, .sh] c_impl_within rfl rfl (by (try simp [go_sem, clE]); first | rfl | done) (by rfl) (by (try simp [go_sem]); first | rfl | done) fun z13 hF14 => ⟨by simp [go_sem], ?_⟩
     try simp [go_sem, h11]
     refine pwg_F hF14 (fun h15 hF16 => ?_) fun h15 hF16 => ?_
     ·try simp [go_sem, h15]
      exact hj1 true _ (by simp [go_sem]) (Rn_some hF16)
     ·try simp [go_sem, h15]
      try intros
      refine pwg_F hF16 (fun h17 hF18 => ?_) fun h17 hF18 => ?_
      ·try simp [go_sem, h17]
       exact hj1 true _ (by simp [go_sem]) (Rn_some hF18)
      ·try simp [go_sem, h17]
       refine pw_cl hF18 [.sh, .sh] c_impl_Group_areExps rfl rfl (by (try simp [go_sem, clE]); first | rfl | done) (by rfl) (by (try simp [go_sem]); first | rfl | done) fun z19 hF20 => ⟨by simp [go_sem], ?_⟩
       try simp [go_sem, h17]
       exact hj1 (!z19) _ (by simp [go_sem]) (Rn_some hF20)
noncomputable def F_spec_l1All (a0 : (List Int)) (a1 : Int) (a2 : Int) : Option (Bool) :=
  ((rloop (σ := Unit) (β := Unit ⊕ Bool) (fun i8 s7 =>
  (ix a0 i8).bind fun x17 =>
  (F_spec_l1In x17 a1 a2).bind fun z20 =>
  if (!z20) = true then (
  some (.out (.inr false))) else (
  some (.go ()))) (fun s7 => .inl ()) (a0.length) 0 () : Option (Unit ⊕ Bool)).bind (Sum.elim (fun (x5 : Unit) =>
  some true) some))
theorem c_spec_l1All {a0 : (List Int)} {a1 : Int} {a2 : Int} {r : Bool} (hr : F_spec_l1All a0 a1 a2 = some r) : PCalls Try.prog 111 [(.sh, .sl false 1 (a0.map row_i64)), (.sh, .int .i64 a1), (.sh, .int .i64 a2)] (Eo (.bool r) [.junk, .junk, .junk]) := by
  apply pcalls_lf 21 [] [] [] [.tmp 6] hr cl111 Try.func111 rfl rfl rfl
  · exact ⟨by simp, rfl⟩
  intro Φ hΦ hF
  unfold F_spec_l1All at hF
  iterate 2 (try simp [go_sem]; try intros; refine pw_wk ?_)
  repeat rw [sq]
  refine pw_joinS (fun (x5 : Unit) => []) hF ?_ ?_
  ·intro x5 hF6
   cases hΦ _ (Rn_some hF6)
   try simp [go_sem]
   refine pw_wk ?_
   try simp [go_sem]
  ·intro ψ3 hj1 hr2 hF4
   repeat rw [sq]
   rw [pw_block]
   obtain ⟨b24, hb25, hψ11⟩ := hF4
   refine pw_rloop (fun (i8 : Int) (s7 : Unit) => [(1, .v (.int .i64 a1)), (2, .v (.int .i64 a2)), (9, .v (.sl false 1 (a0.map row_i64))), (10, .v (.int .i64 (a0.length : Int))), (11, .v (.int .i64 i8))]) hb25 (by simp [go_sem]) ?_ ?_
   ·intro s7 N27 hN26
    subst hN26
    try simp [go_sem]
    refine pw_wk ?_
    repeat rw [sq]
    refine pw_cond_f (by simp [go_sem]) ?_
    try simp [go_sem]
    exact hj1 () _ (by simp [go_sem]) hψ11
   ·intro i8 s7 φ12 N13 hi15 hi16 ho9 hg10 hF14
    rw [Int.zero_add] at hi16
    try simp [go_sem]
    refine pw_wk ?_
    repeat rw [sq]
    refine pw_cond_t (by simp [go_sem, hi15, hi16]) ?_
    try simp [go_sem]
    refine pw_wk ?_
    repeat rw [sq]
    rw [pw_block]
    obtain ⟨x17, g18, hF19⟩ := Rn_ix hF14
    try simp [go_sem, g18]
    refine pw_wk ?_
    try simp [go_sem, g18]
    refine pw_cl hF19 [.sh, .sh, .sh] c_spec_l1In rfl rfl (by (try simp [go_sem, clE, g18]); first | rfl | done) (by rfl) (by (try simp [go_sem, g18]); first | rfl | done) fun z20 hF21 => ⟨by simp [go_sem], ?_⟩
    try simp [go_sem, g18]
    refine pw_wkK [1, 2, 9, 10, 11, 19] (by simp [go_sem, g18]; rfl) ?_
    repeat rw [sq]
    refine pw_cF hF21 (by simp [go_sem, g18]) (fun h22 hF23 => ?_) fun h22 hF23 => ?_
    ·cases ho9 _ (Rn_some hF23)
     cases hΦ _ (hr2 _ hψ11)
     try simp [go_sem, g18]
     refine pw_wk ?_
     try simp [go_sem, g18]
    ·try simp [go_sem, g18]
     refine pw_wk ?_
     try simp [go_sem, g18]
     exact hg10 () _ (by simp [go_sem, g18, wr_i hi15 hi16 (by assumption)]) (Rn_some hF23)
noncomputable def F_spec_gExps (a0 : Group) (a1 : (List Int)) : Option (Bool) :=
  (F_spec_l1All a1 0 (IntKind.i64.wrap (a0.Q - 1))).bind fun z1 =>
  some z1
theorem c_spec_gExps {a0 : Group} {a1 : (List Int)} {r : Bool} (hr : F_spec_gExps a0 a1 = some r) : PCalls Try.prog 50 [(.sh, .agg [.int .i64 a0.P, .int .i64 a0.Q, .int .i64 a0.G]), (.sh, .sl false 1 (a1.map row_i64))] (Eo (.bool r) [.junk, .junk]) := by
  apply pcalls_lf 10 [] [] [] [.tmp 4] hr cl50 Try.func50 rfl rfl rfl
  · exact ⟨by simp, rfl⟩
  intro Φ hΦ hF
  unfold F_spec_gExps at hF
  try simp [go_sem]
  refine pw_wk ?_
  try simp [go_sem]
  refine pw_cl hF [.sh, .sh, .sh] c_spec_l1All rfl rfl (by (try simp [go_sem, clE]); first | rfl | done) (by rfl) (by (try simp [go_sem]); first | rfl | done) fun z1 hF2 => ⟨by simp [go_sem], ?_⟩
  cases hΦ _ (Rn_some hF2)
  try simp [go_sem]
  refine pw_wk ?_
  try simp [go_sem]
noncomputable def F_spec_sNext__io0 (a0 : (List Int)) (a1 : Int) : Option (Bool × (List Int)) :=
  ((wloop (σ := (List Int) × Int) (β := (List Int) ⊕ (Bool × (List Int))) (fun s22 =>
  if decide (0 ≤ s22.2) = true then (
  (ix s22.1 s22.2).bind fun x32 =>
  if decide (x32 < (IntKind.i64.wrap (a1 - 1))) = true then (
  some (.out (.inr (true, s22.1.set s22.2.toNat (IntKind.i64.wrap (x32 + 1)))))) else (
  some (.go (s22.1.set s22.2.toNat 0, IntKind.i64.wrap (s22.2 - 1))))) else (
  some (.out (.inl s22.1)))) (a0, IntKind.i64.wrap ((a0.length : Int) - 1)) : Option ((List Int) ⊕ (Bool × (List Int)))).bind (Sum.elim (fun (x5 : (List Int)) =>
  some (false, x5)) some))
theorem c_spec_sNext__io0 {a0 : (List Int)} {a1 : Int} {r : Bool × (List Int)} (hr : F_spec_sNext__io0 a0 a1 = some r) : PCalls Try.prog 82 [(.io, .sl true 1 (a0.map row_i64)), (.sh, .int .i64 a1)] (Eo (.bool r.1) [.sl true 1 (r.2.map row_i64), .junk]) := by
  apply pcalls_lf 29 [0] [] [] [.tmp 4] hr cl82 Try.func82 rfl rfl rfl
  · exact ⟨by simp, rfl⟩
  intro Φ hΦ hF
  unfold F_spec_sNext__io0 at hF
  iterate 2 (try simp [go_sem]; try intros; refine pw_wk ?_)
  repeat rw [sq]
  refine pw_joinS (fun (x5 : (List Int)) => [(0, .v (.sl true 1 (x5.map row_i64)))]) hF ?_ ?_
  ·intro x5 hF6
   cases hΦ _ (Rn_some hF6)
   try simp [go_sem]
   refine pw_wk ?_
   try simp [go_sem]
  ·intro ψ3 hj1 hr2 hF4
   repeat rw [sq]
   rw [pw_block]
   obtain ⟨b37, hb38, hψ26⟩ := hF4
   refine pw_wloop (fun (s22 : (List Int) × Int) => [(0, .v (.sl true 1 (s22.1.map row_i64))), (1, .v (.int .i64 a1)), (5, .v (.int .i64 s22.2))]) hb38 (by simp [go_sem]) ?_
   intro s22 φ27 N28 ho24 hg25 hF29
   try simp [go_sem]
   refine pw_wk ?_
   repeat rw [sq]
   refine pw_cF hF29 (by simp [go_sem]) (fun h30 hF31 => ?_) fun h30 hF31 => ?_
   ·try simp [go_sem]
    refine pw_wk ?_
    repeat rw [sq]
    rw [pw_block]
    obtain ⟨x32, g33, hF34⟩ := Rn_ix hF31
    try simp [go_sem, g33]
    refine pw_wkK [0, 1, 5, 19] (by simp [go_sem, g33]; rfl) ?_
    repeat rw [sq]
    refine pw_cF hF34 (by simp [go_sem, g33]) (fun h35 hF36 => ?_) fun h35 hF36 => ?_
    ·cases ho24 _ (Rn_some hF36)
     cases hΦ _ (hr2 _ hψ26)
     iterate 2 (try simp [go_sem, g33]; refine pw_wk ?_)
     try simp [go_sem, g33]
    ·iterate 2 (try simp [go_sem, g33]; refine pw_wk ?_)
     try simp [go_sem, g33]
     exact hg25 (s22.1.set s22.2.toNat 0, IntKind.i64.wrap (s22.2 - 1)) _ (by simp [go_sem, g33]) (Rn_some hF36)
   ·try simp [go_sem]
    cases ho24 _ (Rn_some hF31)
    exact hj1 s22.1 _ (by simp [go_sem]) hψ26
noncomputable def F_spec_ShareCounts (a0 : Group) (a1 : Int) (a2 : (List Int)) : Option ((List Int) × Bool) :=
  (((F_spec_sGroup a0).bind fun z7 =>
  if (!z7) = true then (
  some true) else (
  if decide (23 < a0.Q) = true then (
  some true) else (
  (F_spec_l1In a1 1 3).bind fun z13 =>
  if (!z13) = true then (
  some true) else (
  if decide (7 < (a2.length : Int)) = true then (
  some true) else (
  (F_spec_gExps a0 a2).bind fun z19 =>
  some (!z19))))) : Option (Bool)).bind fun (x5 : Bool) =>
  if x5 = true then (
  some ([], false)) else (
  gd (0 ≤ a0.Q ∧ a0.Q ≤ a0.Q ∧ 8 * a0.Q ≤ 140737488355328 ∧ a0.Q ≤ 4611686018427387904) <|
  (some (List.replicate a0.Q.toNat 0)).bind fun x26 =>
  gd (0 ≤ a1 ∧ a1 ≤ a1 ∧ 8 * a1 ≤ 140737488355328 ∧ a1 ≤ 4611686018427387904) <|
  (some (List.replicate a1.toNat 0)).bind fun x33 =>
  ((wloop (σ := (List Int) × (List Int) × Bool) (β := (List Int)) (fun s102 =>
  if s102.2.2 = true then (
  ((((rloop (σ := Bool) (β := Bool) (fun i125 s124 =>
  (((ix a2 i125).bind fun x140 =>
  if s124 = true then (
  (F_spec_yEval a0.Q s102.2.1 (IntKind.i64.wrap (i125 + 1))).bind fun z145 =>
  some (z145 == x140)) else (
  some false) : Option (Bool)).bind fun (x138 : Bool) =>
  some (.go x138))) (fun s124 => s124) (a2.length) 0 true : Option (Bool)).bind fun (x122 : Bool) =>
  if x122 = true then (
  (ix s102.2.1 0).bind fun x153 =>
  (ix s102.1 x153).bind fun x156 =>
  some (s102.1.set x153.toNat (IntKind.i64.wrap (x156 + 1)))) else (
  some s102.1)) : Option ((List Int))).bind fun (x116 : (List Int)) =>
  (F_spec_sNext__io0 s102.2.1 a0.Q).bind fun z159 =>
  some (.go (x116, z159.2, z159.1)))) else (
  some (.out s102.1))) (x26, x33, true) : Option ((List Int))).bind fun (x41 : (List Int)) =>
  some (x41, true))))
theorem c_spec_ShareCounts {a0 : Group} {a1 : Int} {a2 : (List Int)} {r : (List Int) × Bool} (hr : F_spec_ShareCounts a0 a1 a2 = some r) : PCalls Try.prog 46 [(.sh, .agg [.int .i64 a0.P, .int .i64 a0.Q, .int .i64 a0.G]), (.sh, .int .i64 a1), (.sh, .sl false 1 (a2.map row_i64))] (Eo (.tup [.sl true 1 (r.1.map row_i64), .bool r.2]) [.junk, .junk, .junk]) := by
  apply pcalls_lf 77 [] [] [] [.tmp 6, .tmp 7] hr cl46 Try.func46 rfl rfl rfl
  · exact ⟨by simp, rfl⟩
  intro Φ hΦ hF
  unfold F_spec_ShareCounts at hF
  try simp [go_sem]
  refine pw_wk ?_
  repeat rw [sq]
  refine pw_joinF (fun (x5 : Bool) => [(1, .v (.int .i64 a1)), (2, .v (.sl false 1 (a2.map row_i64))), (3, .bl [.int .i64 a0.P, .int .i64 a0.Q, .int .i64 a0.G]), (37, .v (.bool x5))]) hF ?_ ?_
  ·intro x5 hF6
   repeat rw [sq]
   refine pw_cF hF6 (by simp [go_sem]) (fun h21 hF22 => ?_) fun h21 hF22 => ?_
   ·cases hΦ _ (Rn_some hF22)
    try simp [go_sem]
    refine pw_wk ?_
    try simp [go_sem]
   ·obtain ⟨g23, hF24⟩ := Rn_gd hF22
    have g25 := g23
    try simp at g25
    obtain ⟨x26, e27, hF28⟩ := Rn_bind hF24
    have g29 : List.replicate a0.Q.toNat ([.int .i64 0] : List PV) = x26.map row_i64 := by injection e27 with e27; rw [← e27]; simp [go_sem]
    obtain ⟨g30, hF31⟩ := Rn_gd hF28
    have g32 := g30
    try simp at g32
    obtain ⟨x33, e34, hF35⟩ := Rn_bind hF31
    have g36 : List.replicate a1.toNat ([.int .i64 0] : List PV) = x33.map row_i64 := by injection e34 with e34; rw [← e34]; simp [go_sem]
    iterate 2 (try simp [go_sem, g23, g25, g30, g32, g29, g36]; refine pw_wk ?_)
    try simp [go_sem, g23, g25, g30, g32, g29, g36]
    refine pw_wkK [2, 3, 8, 9] (by simp [go_sem, g23, g25, g30, g32]; rfl) ?_
    try simp [go_sem, g23, g25, g30, g32]
    refine pw_wk ?_
    repeat rw [sq]
    refine pw_joinF (fun (x41 : (List Int)) => [(8, .v (.sl true 1 (x41.map row_i64)))]) hF35 ?_ ?_
    ·intro x41 hF42
     cases hΦ _ (Rn_some hF42)
     try simp [go_sem, g23, g25, g30, g32]
     refine pw_wk ?_
     try simp [go_sem, g23, g25, g30, g32]
    ·intro ψ39 hj37 hF40
     repeat rw [sq]
     rw [pw_block]
     obtain ⟨b161, hb162, hψ106⟩ := hF40
     refine pw_wloop (fun (s102 : (List Int) × (List Int) × Bool) => [(2, .v (.sl false 1 (a2.map row_i64))), (3, .bl [.int .i64 a0.P, .int .i64 a0.Q, .int .i64 a0.G]), (8, .v (.sl true 1 (s102.1.map row_i64))), (9, .v (.sl true 1 (s102.2.1.map row_i64))), (10, .v (.bool s102.2.2))]) hb162 (by simp [go_sem, g23, g25, g30, g32]) ?_
     intro s102 φ107 N108 ho104 hg105 hF109
     try simp [go_sem, g23, g25, g30, g32]
     refine pw_wk ?_
     repeat rw [sq]
     refine pw_cF hF109 (by simp [go_sem, g23, g25, g30, g32]) (fun h110 hF111 => ?_) fun h110 hF111 => ?_
     ·try simp [go_sem, g23, g25, g30, g32]
      refine pw_wk ?_
      repeat rw [sq]
      refine pw_joinF (fun (x116 : (List Int)) => [(2, .v (.sl false 1 (a2.map row_i64))), (3, .bl [.int .i64 a0.P, .int .i64 a0.Q, .int .i64 a0.G]), (8, .v (.sl true 1 (x116.map row_i64))), (9, .v (.sl true 1 (s102.2.1.map row_i64)))]) hF111 ?_ ?_
      ·intro x116 hF117
       try simp [go_sem, g23, g25, g30, g32]
       refine pw_cl hF117 [.io, .sh] c_spec_sNext__io0 rfl rfl (by (try simp [go_sem, clE, g23, g25, g30, g32]); first | rfl | done) (by rfl) (by (try simp [go_sem, g23, g25, g30, g32]); first | rfl | done) fun z159 hF160 => ⟨by simp [go_sem], ?_⟩
       try simp [go_sem, g23, g25, g30, g32]
       exact hg105 (x116, z159.2, z159.1) _ (by simp [go_sem, g23, g25, g30, g32]) (Rn_some hF160)
      ·intro ψ114 hj112 hF115
       repeat rw [sq]
       rw [pw_block]
       iterate 2 (try simp [go_sem, g23, g25, g30, g32]; try intros; refine pw_wk ?_)
       repeat rw [sq]
       refine pw_joinF (fun (x122 : Bool) => [(2, .v (.sl false 1 (a2.map row_i64))), (3, .bl [.int .i64 a0.P, .int .i64 a0.Q, .int .i64 a0.G]), (8, .v (.sl true 1 (s102.1.map row_i64))), (9, .v (.sl true 1 (s102.2.1.map row_i64))), (11, .v (.bool x122))]) hF115 ?_ ?_
       ·intro x122 hF123
        try simp [go_sem, g23, g25, g30, g32]
        refine pw_wk ?_
        repeat rw [sq]
        refine pw_cF hF123 (by simp [go_sem, g23, g25, g30, g32]) (fun h151 hF152 => ?_) fun h151 hF152 => ?_
        ·obtain ⟨x153, g154, hF155⟩ := Rn_ixn 0 rfl hF152
         obtain ⟨x156, g157, hF158⟩ := Rn_ix hF155
         try simp [go_sem, g23, g25, g30, g32, g154, g157]
         exact hj112 (s102.1.set x153.toNat (IntKind.i64.wrap (x156 + 1))) _ (by simp [go_sem, g23, g25, g30, g32, g154, g157]) (Rn_some hF158)
        ·try simp [go_sem, g23, g25, g30, g32]
         exact hj112 s102.1 _ (by simp [go_sem, g23, g25, g30, g32]) (Rn_some hF152)
       ·intro ψ120 hj118 hF121
        repeat rw [sq]
        rw [pw_block]
        obtain ⟨b147, hb148, hψ128⟩ := hF121
        refine pw_rloop (fun (i125 : Int) (s124 : Bool) => [(2, .v (.sl false 1 (a2.map row_i64))), (3, .bl [.int .i64 a0.P, .int .i64 a0.Q, .int .i64 a0.G]), (8, .v (.sl true 1 (s102.1.map row_i64))), (9, .v (.sl true 1 (s102.2.1.map row_i64))), (11, .v (.bool s124)), (48, .v (.sl false 1 (a2.map row_i64))), (49, .v (.int .i64 (a2.length : Int))), (50, .v (.int .i64 i125))]) hb148 (by simp [go_sem, g23, g25, g30, g32]) ?_ ?_
        ·intro s124 N150 hN149
         subst hN149
         try simp [go_sem]
         refine pw_wk ?_
         repeat rw [sq]
         refine pw_cond_f (by simp [go_sem]) ?_
         try simp [go_sem]
         exact hj118 s124 _ (by simp [go_sem]) hψ128
        ·intro i125 s124 φ129 N130 hi132 hi133 ho126 hg127 hF131
         rw [Int.zero_add] at hi133
         try simp [go_sem, g23, g25, g30, g32]
         refine pw_wk ?_
         repeat rw [sq]
         refine pw_cond_t (by simp [go_sem, g23, g25, g30, g32, hi132, hi133]) ?_
         try simp [go_sem, g23, g25, g30, g32]
         refine pw_wk ?_
         repeat rw [sq]
         refine pw_joinF (fun (x138 : Bool) => [(2, .v (.sl false 1 (a2.map row_i64))), (3, .bl [.int .i64 a0.P, .int .i64 a0.Q, .int .i64 a0.G]), (8, .v (.sl true 1 (s102.1.map row_i64))), (9, .v (.sl true 1 (s102.2.1.map row_i64))), (11, .v (.bool x138)), (48, .v (.sl false 1 (a2.map row_i64))), (49, .v (.int .i64 (a2.length : Int))), (50, .v (.int .i64 i125))]) hF131 ?_ ?_
         ·intro x138 hF139
          try simp [go_sem, g23, g25, g30, g32]
          exact hg127 x138 _ (by simp [go_sem, g23, g25, g30, g32, wr_i hi132 hi133 (by assumption)]) (Rn_some hF139)
         ·intro ψ136 hj134 hF137
          repeat rw [sq]
          rw [pw_block]
          obtain ⟨x140, g141, hF142⟩ := Rn_ix hF137
          try simp [go_sem, g23, g25, g30, g32, g141]
          refine pw_wkK [2, 3, 8, 9, 11, 12, 13, 48, 49, 50] (by simp [go_sem, g23, g25, g30, g32, g141]; rfl) ?_
          try simp [go_sem, g23, g25, g30, g32, g141]
          refine pwg_F hF142 (fun h143 hF144 => ?_) fun h143 hF144 => ?_
          ·try simp [go_sem, g23, g25, g30, g32, g141, h143]
           refine pw_cl hF144 [.sh, .sh, .sh] c_spec_yEval rfl rfl (by (try simp [go_sem, clE, g23, g25, g30, g32, g141]); first | rfl | done) (by rfl) (by (try simp [go_sem, g23, g25, g30, g32, g141]); first | rfl | done) fun z145 hF146 => ⟨by simp [go_sem], ?_⟩
           try simp [go_sem, g23, g25, g30, g32, g141, h143]
           exact hj134 (z145 == x140) _ (by simp [go_sem, g23, g25, g30, g32, g141]) (Rn_some hF146)
          ·try simp [go_sem, g23, g25, g30, g32, g141, h143]
           exact hj134 false _ (by simp [go_sem, g23, g25, g30, g32, g141]) (Rn_some hF144)
     ·try simp [go_sem, g23, g25, g30, g32]
      cases ho104 _ (Rn_some hF111)
      exact hj37 s102.1 _ (by simp [go_sem, g23, g25, g30, g32]) hψ106
  ·intro ψ3 hj1 hF4
   try simp [go_sem]
   refine pw_cl hF4 [.sh] c_spec_sGroup rfl rfl (by (try simp [go_sem, clE]); first | rfl | done) (by rfl) (by (try simp [go_sem]); first | rfl | done) fun z7 hF8 => ⟨by simp [go_sem], ?_⟩
   try simp [go_sem]
   refine pwg_F hF8 (fun h9 hF10 => ?_) fun h9 hF10 => ?_
   ·try simp [go_sem, h9]
    exact hj1 true _ (by simp [go_sem]) (Rn_some hF10)
   ·try simp [go_sem, h9]
    refine pwg_F hF10 (fun h11 hF12 => ?_) fun h11 hF12 => ?_
    ·try simp [go_sem, h11]
     exact hj1 true _ (by simp [go_sem]) (Rn_some hF12)
    ·try simp [go_sem, h11]
     refine pw_cl hF12 [.sh, .sh, .sh] c_spec_l1In rfl rfl (by (try simp [go_sem, clE]); first | rfl | done) (by rfl) (by (try simp [go_sem]); first | rfl | done) fun z13 hF14 => ⟨by simp [go_sem], ?_⟩
     try simp [go_sem, h11]
     refine pwg_F hF14 (fun h15 hF16 => ?_) fun h15 hF16 => ?_
     ·try simp [go_sem, h15]
      exact hj1 true _ (by simp [go_sem]) (Rn_some hF16)
     ·try simp [go_sem, h15]
      try intros
      refine pwg_F hF16 (fun h17 hF18 => ?_) fun h17 hF18 => ?_
      ·try simp [go_sem, h17]
       exact hj1 true _ (by simp [go_sem]) (Rn_some hF18)
      ·try simp [go_sem, h17]
       refine pw_cl hF18 [.sh, .sh] c_spec_gExps rfl rfl (by (try simp [go_sem, clE]); first | rfl | done) (by rfl) (by (try simp [go_sem]); first | rfl | done) fun z19 hF20 => ⟨by simp [go_sem], ?_⟩
       try simp [go_sem, h17]
       exact hj1 (!z19) _ (by simp [go_sem]) (Rn_some hF20)
noncomputable def F_spec_l1Cur_anyExpo__io0 (a0c0 : (List Int)) (a0c1 : Int) (a0c2 : Int) (a1 : Group) : Option (Int × ((List Int) × Int × Int)) :=
  (F_spec_l1Cur_one__io0 a0c0 a0c1 a0c2 24).bind fun z1 =>
  if z1.1 = true then (
  (F_spec_l1Cur_among__io0_mv1 z1.2.1 z1.2.2.1 z1.2.2.2 [a1.Q, (-1), IntKind.i64.wrap (a1.Q - 1)]).bind fun z5 =>
  some (z5.1, (z5.2.1, z5.2.2.1, z5.2.2.2))) else (
  (F_spec_l1Cur_expo__io0 z1.2.1 z1.2.2.1 z1.2.2.2 a1).bind fun z7 =>
  some (z7.1, (z7.2.1, z7.2.2.1, z7.2.2.2)))
theorem c_spec_l1Cur_anyExpo__io0 {a0c0 : (List Int)} {a0c1 : Int} {a0c2 : Int} {a1 : Group} {r : Int × ((List Int) × Int × Int)} (hr : F_spec_l1Cur_anyExpo__io0 a0c0 a0c1 a0c2 a1 = some r) : PCalls Try.prog 90 [(.io, .bx [.sl false 1 (a0c0.map row_u8), .int .i64 a0c1, .int .u64 a0c2]), (.sh, .agg [.int .i64 a1.P, .int .i64 a1.Q, .int .i64 a1.G])] (Eo (.int .i64 r.1) [.bx [.sl false 1 (r.2.1.map row_u8), .int .i64 r.2.2.1, .int .u64 r.2.2.2], .junk]) := by
  apply pcalls_lf 18 [0] [] [] [.tmp 4] hr cl90 Try.func90 rfl rfl rfl
  · exact ⟨by simp, rfl⟩
  intro Φ hΦ hF
  unfold F_spec_l1Cur_anyExpo__io0 at hF
  try simp [go_sem]
  refine pw_wk ?_
  try simp [go_sem]
  refine pw_cl hF [.io, .sh] c_spec_l1Cur_one__io0 rfl rfl (by (try simp [go_sem, clE]); first | rfl | done) (by rfl) (by (try simp [go_sem]); first | rfl | done) fun z1 hF2 => ⟨by simp [go_sem], ?_⟩
  try simp [go_sem]
  refine pw_wk ?_
  repeat rw [sq]
  refine pw_cF hF2 (by simp [go_sem]) (fun h3 hF4 => ?_) fun h3 hF4 => ?_
  ·try simp [go_sem]
   refine pw_cl hF4 [.io, .mv] c_spec_l1Cur_among__io0_mv1 rfl rfl (by (try simp [go_sem, clE]); first | rfl | done) (by rfl) (by (try simp [go_sem]); first | rfl | done) fun z5 hF6 => ⟨by simp [go_sem], ?_⟩
   try simp [go_sem]
   refine pw_wkK [0, 4] (by simp [go_sem]; rfl) ?_
   cases hΦ _ (Rn_some hF6)
   try simp [go_sem]
  ·try simp [go_sem]
   refine pw_wk ?_
   try simp [go_sem]
   refine pw_cl hF4 [.io, .sh] c_spec_l1Cur_expo__io0 rfl rfl (by (try simp [go_sem, clE]); first | rfl | done) (by rfl) (by (try simp [go_sem]); first | rfl | done) fun z7 hF8 => ⟨by simp [go_sem], ?_⟩
   cases hΦ _ (Rn_some hF8)
   try simp [go_sem]
   refine pw_wk ?_
   try simp [go_sem]
noncomputable def F_spec_DrawShareViews (a0 : (List Int)) : Option (Group × Int × Int × (List Int)) :=
  (F_spec_l1Cur_shared__io0 a0 0 0).bind fun z1 =>
  (F_spec_l1Cur_one__io0 z1.2.1 z1.2.2.1 z1.2.2.2 2).bind fun z3 =>
  ((if z3.1 = true then (
  (F_spec_l1Cur_among__io0_mv1 z3.2.1 z3.2.2.1 z3.2.2.2 [11, 13, 23]).bind fun z13 =>
  (F_spec_MakeGroup z13.1).bind fun z15 =>
  some ((z13.2.1, z13.2.2.1, z13.2.2.2), z15.1.P, z15.1.Q, z15.1.G)) else (
  some ((z3.2.1, z3.2.2.1, z3.2.2.2), z1.1.P, z1.1.Q, z1.1.G)) : Option ((((List Int) × Int × Int) × Int × Int × Int))).bind fun (x9 : ((List Int) × Int × Int) × Int × Int × Int) =>
  (F_spec_l1Cur_among__io0_mv1 x9.1.1 x9.1.2.1 x9.1.2.2 [0, 1, 2, 12, 13, 23, 123, 7, 135, 11, 8, 1234]).bind fun z17 =>
  ((wloop (σ := Int × (List Int)) (β := (List Int)) (fun s25 =>
  if decide (0 < s25.1) = true then (
  gd ((s25.2.length + 1) * 8 ≤ 140737488355328 ∧ s25.2.length + 1 ≤ 4611686018427387904) <|
  some (.go (IntKind.i64.wrap (s25.1.tdiv 10), s25.2 ++ [s25.1.tmod 10]))) else (
  some (.out s25.2))) (z17.1, []) : Option ((List Int))).bind fun (x23 : (List Int)) =>
  (F_spec_l1Cur_among__io0_mv1 z17.2.1 z17.2.2.1 z17.2.2.2 [1, 2, 2, 3, 3, 0, 4]).bind fun z42 =>
  (F_spec_l1Cur_anyExpo__io0 z42.2.1 z42.2.2.1 z42.2.2.2 (Group.mk x9.2.1 x9.2.2.1 x9.2.2.2)).bind fun z44 =>
  some ((Group.mk x9.2.1 x9.2.2.1 x9.2.2.2), z42.1, z44.1, x23)))
theorem c_spec_DrawShareViews {a0 : (List Int)} {r : Group × Int × Int × (List Int)} (hr : F_spec_DrawShareViews a0 = some r) : PCalls Try.prog 47 [(.sh, .sl false 1 (a0.map row_u8))] (Eo (.tup [.agg [.int .i64 r.1.P, .int .i64 r.1.Q, .int .i64 r.1.G], .int .i64 r.2.1, .int .i64 r.2.2.1, .sl true 1 (r.2.2.2.map row_i64)]) [.junk]) := by
  apply pcalls_lf 44 [] [] [12] [.cell 2 27, .tmp 3, .tmp 4, .tmp 5] hr cl47 Try.func47 rfl rfl rfl
  · exact ⟨by simp, rfl⟩
  intro Φ hΦ hF
  unfold F_spec_DrawShareViews at hF
  iterate 2 (try simp [go_sem]; refine pw_wk ?_)
  try simp [go_sem]
  refine pw_cl hF [.io] c_spec_l1Cur_shared__io0 rfl rfl (by (try simp [go_sem, clE]); first | rfl | done) (by rfl) (by (try simp [go_sem]); first | rfl | done) fun z1 hF2 => ⟨by simp [go_sem], ?_⟩
  try simp [go_sem]
  refine pw_wkK [2, 6, 7] (by simp [go_sem]; rfl) ?_
  try simp [go_sem]
  refine pw_cl hF2 [.io, .sh] c_spec_l1Cur_one__io0 rfl rfl (by (try simp [go_sem, clE]); first | rfl | done) (by rfl) (by (try simp [go_sem]); first | rfl | done) fun z3 hF4 => ⟨by simp [go_sem], ?_⟩
  try simp [go_sem]
  refine pw_wk ?_
  repeat rw [sq]
  refine pw_joinF (fun (x9 : ((List Int) × Int × Int) × Int × Int × Int) => [(2, .bl [.int .i64 0, .int .i64 0, .int .i64 0]), (6, .v (.bx [.sl false 1 (x9.1.1.map row_u8), .int .i64 x9.1.2.1, .int .u64 x9.1.2.2])), (7, .bl [.int .i64 x9.2.1, .int .i64 x9.2.2.1, .int .i64 x9.2.2.2])]) hF4 ?_ ?_
  ·intro x9 hF10
   try simp [go_sem]
   refine pw_cl hF10 [.io, .mv] c_spec_l1Cur_among__io0_mv1 rfl rfl (by (try simp [go_sem, clE]); first | rfl | done) (by rfl) (by (try simp [go_sem]); first | rfl | done) fun z17 hF18 => ⟨by simp [go_sem], ?_⟩
   iterate 2 (try simp [go_sem]; refine pw_wk ?_)
   repeat rw [sq]
   refine pw_joinF (fun (x23 : (List Int)) => [(2, .bl [.int .i64 0, .int .i64 0, .int .i64 0]), (6, .v (.bx [.sl false 1 (z17.2.1.map row_u8), .int .i64 z17.2.2.1, .int .u64 z17.2.2.2])), (7, .bl [.int .i64 x9.2.1, .int .i64 x9.2.2.1, .int .i64 x9.2.2.2]), (9, .v (.sl true 1 (x23.map row_i64)))]) hF18 ?_ ?_
   ·intro x23 hF24
    repeat rw [sq]
    refine pw_draw D47_10 follows (by kernel_rfl) rfl ?_
    try simp only [go_sem, D47_10]
    try simp [go_sem]
    refine pw_cl hF24 [.io, .mv] c_spec_l1Cur_among__io0_mv1 rfl rfl (by (try simp [go_sem, clE]); first | rfl | done) (by rfl) (by (try simp [go_sem]); first | rfl | done) fun z42 hF43 => ⟨by simp [go_sem], ?_⟩
    try simp [go_sem]
    refine pw_cl hF43 [.io, .sh] c_spec_l1Cur_anyExpo__io0 rfl rfl (by (try simp [go_sem, clE]); first | rfl | done) (by rfl) (by (try simp [go_sem]); first | rfl | done) fun z44 hF45 => ⟨by simp [go_sem], ?_⟩
    try simp [go_sem]
    refine pw_wkK [2, 3, 4, 5] (by simp [go_sem]; rfl) ?_
    cases hΦ _ (Rn_some hF45)
    try simp [go_sem]
   ·intro ψ21 hj19 hF22
    repeat rw [sq]
    rw [pw_block]
    obtain ⟨b40, hb41, hψ29⟩ := hF22
    refine pw_wloop (fun (s25 : Int × (List Int)) => [(2, .bl [.int .i64 0, .int .i64 0, .int .i64 0]), (6, .v (.bx [.sl false 1 (z17.2.1.map row_u8), .int .i64 z17.2.2.1, .int .u64 z17.2.2.2])), (7, .bl [.int .i64 x9.2.1, .int .i64 x9.2.2.1, .int .i64 x9.2.2.2]), (8, .v (.int .i64 s25.1)), (9, .v (.sl true 1 (s25.2.map row_i64)))]) hb41 (by simp [go_sem]) ?_
    intro s25 φ30 N31 ho27 hg28 hF32
    try simp [go_sem]
    refine pw_wk ?_
    repeat rw [sq]
    refine pw_cF hF32 (by simp [go_sem]) (fun h33 hF34 => ?_) fun h33 hF34 => ?_
    ·try simp [go_sem]
     refine pw_wk ?_
     repeat rw [sq]
     rw [pw_block]
     have g35 := fun x => divV_ne (b := 10) (x := x) (by decide)
     obtain ⟨g36, hF37⟩ := Rn_gd hF34
     have g38 := g36
     try simp at g38
     try simp [go_sem, g35, g36, g38]
     refine pw_wkK [2, 6, 7, 8, 9] (by simp [go_sem, g35, g36, g38]; rfl) ?_
     have g39 := fun x => divV_ne (b := 10) (x := x) (by decide)
     try simp [go_sem, g35, g36, g38, g39]
     exact hg28 (IntKind.i64.wrap (s25.1.tdiv 10), s25.2 ++ [s25.1.tmod 10]) _ (by simp [go_sem, g35, g36, g38, g39]) (Rn_some hF37)
    ·try simp [go_sem]
     cases ho27 _ (Rn_some hF34)
     exact hj19 s25.2 _ (by simp [go_sem]) hψ29
  ·intro ψ7 hj5 hF8
   repeat rw [sq]
   refine pw_cF hF8 (by simp [go_sem]) (fun h11 hF12 => ?_) fun h11 hF12 => ?_
   ·try simp [go_sem]
    refine pw_cl hF12 [.io, .mv] c_spec_l1Cur_among__io0_mv1 rfl rfl (by (try simp [go_sem, clE]); first | rfl | done) (by rfl) (by (try simp [go_sem]); first | rfl | done) fun z13 hF14 => ⟨by simp [go_sem], ?_⟩
    try simp [go_sem]
    refine pw_cl hF14 [.sh] c_spec_MakeGroup rfl rfl (by (try simp [go_sem, clE]); first | rfl | done) (by rfl) (by (try simp [go_sem]); first | rfl | done) fun z15 hF16 => ⟨by simp [go_sem], ?_⟩
    try simp [go_sem]
    exact hj5 ((z13.2.1, z13.2.2.1, z13.2.2.2), z15.1.P, z15.1.Q, z15.1.G) _ (by simp [go_sem]) (Rn_some hF16)
   ·try simp [go_sem]
    exact hj5 ((z3.2.1, z3.2.2.1, z3.2.2.2), z1.1.P, z1.1.Q, z1.1.G) _ (by simp [go_sem]) (Rn_some hF12)
noncomputable def F_impl_isCounted (a0 : Group) : Option (Bool) :=
  ((if decide (a0.Q ≤ 23) = true then (
  (F_impl_IsValidGroup a0).bind fun z9 =>
  some z9) else (
  some false) : Option (Bool)).bind fun (x5 : Bool) =>
  some x5)
theorem c_impl_isCounted {a0 : Group} {r : Bool} (hr : F_impl_isCounted a0 = some r) : PCalls Try.prog 53 [(.sh, .agg [.int .i64 a0.P, .int .i64 a0.Q, .int .i64 a0.G])] (Eo (.bool r) [.junk]) := by
  apply pcalls_lf 10 [] [] [] [.tmp 2] hr cl53 Try.func53 rfl rfl rfl
  · exact ⟨by simp, rfl⟩
  intro Φ hΦ hF
  unfold F_impl_isCounted at hF
  try simp [go_sem]
  refine pw_wk ?_
  repeat rw [sq]
  refine pw_joinF (fun (x5 : Bool) => [(2, .v (.bool x5))]) hF ?_ ?_
  ·intro x5 hF6
   cases hΦ _ (Rn_some hF6)
   try simp [go_sem]
  ·intro ψ3 hj1 hF4
   try simp [go_sem]
   refine pwg_F hF4 (fun h7 hF8 => ?_) fun h7 hF8 => ?_
   ·try simp [go_sem, h7]
    refine pw_cl hF8 [.sh] c_impl_IsValidGroup rfl rfl (by (try simp [go_sem, clE]); first | rfl | done) (by rfl) (by (try simp [go_sem]); first | rfl | done) fun z9 hF10 => ⟨by simp [go_sem], ?_⟩
    try simp [go_sem, h7]
    exact hj1 z9 _ (by simp [go_sem]) (Rn_some hF10)
   ·try simp [go_sem, h7]
    exact hj1 false _ (by simp [go_sem]) (Rn_some hF8)
noncomputable def F_impl_isTrustee (a0 : Int) : Option (Bool) :=
  (F_impl_within a0 1 7).bind fun z1 =>
  some z1
theorem c_impl_isTrustee {a0 : Int} {r : Bool} (hr : F_impl_isTrustee a0 = some r) : PCalls Try.prog 130 [(.sh, .int .i64 a0)] (Eo (.bool r) [.junk]) := by
  apply pcalls_lf 5 [] [] [] [.tmp 2] hr cl130 Try.func130 rfl rfl rfl
  · exact ⟨by simp, rfl⟩
  intro Φ hΦ hF
  unfold F_impl_isTrustee at hF
  try simp [go_sem]
  refine pw_wk ?_
  try simp [go_sem]
  refine pw_cl hF [.sh, .sh, .sh] c_impl_within rfl rfl (by (try simp [go_sem, clE]); first | rfl | done) (by rfl) (by (try simp [go_sem]); first | rfl | done) fun z1 hF2 => ⟨by simp [go_sem], ?_⟩
  cases hΦ _ (Rn_some hF2)
  try simp [go_sem]
  refine pw_wk ?_
  try simp [go_sem]
noncomputable def F_impl_areAll_1__impl_isTrustee (a0 : Int) : Option (Bool) :=
  (F_impl_isTrustee a0).bind fun z1 =>
  some (!z1)
theorem c_impl_areAll_1__impl_isTrustee {a0 : Int} {r : Bool} (hr : F_impl_areAll_1__impl_isTrustee a0 = some r) : PCalls Try.prog 149 [(.sh, .int .i64 a0), (.sh, .fp [.func (.func 130) [] []])] (Eo (.bool r) [.junk, .junk]) := by
  apply pcalls_lf 8 [] [] [] [.tmp 3] hr cl149 Try.func149 rfl rfl rfl
  · exact ⟨by simp, rfl⟩
  intro Φ hΦ hF
  unfold F_impl_areAll_1__impl_isTrustee at hF
  try simp [go_sem]
  refine pw_wk ?_
  try simp [go_sem]
  refine pw_cl hF [.sh] c_impl_isTrustee rfl rfl (by (try simp [go_sem, clE]); first | rfl | done) (by rfl) (by (try simp [go_sem]); first | rfl | done) fun z1 hF2 => ⟨by simp [go_sem], ?_⟩
  cases hΦ _ (Rn_some hF2)
  try simp [go_sem]
  refine pw_wk ?_
  try simp [go_sem]
noncomputable def F_slices_IndexFunc_int_int__impl_areAll_1_impl_isTrustee (a0 : (List Int)) : Option (Int) :=
  ((rloop (σ := Unit) (β := Unit ⊕ Int) (fun i8 s7 =>
  (ix a0 i8).bind fun x17 =>
  (F_impl_areAll_1__impl_isTrustee x17).bind fun z20 =>
  if z20 = true then (
  some (.out (.inr i8))) else (
  some (.go ()))) (fun s7 => .inl ()) (a0.length) 0 () : Option (Unit ⊕ Int)).bind (Sum.elim (fun (x5 : Unit) =>
  some (-1)) some))
theorem c_slices_IndexFunc_int_int__impl_areAll_1_impl_isTrustee {a0 : (List Int)} {r : Int} (hr : F_slices_IndexFunc_int_int__impl_areAll_1_impl_isTrustee a0 = some r) : PCalls Try.prog 162 [(.sh, .sl false 1 (a0.map row_i64)), (.sh, .func (.func 149) [] [.fp [.func (.func 130) [] []]])] (Eo (.int .i64 r) [.junk, .junk]) := by
  apply pcalls_lf 19 [] [] [] [.tmp 4] hr cl162 Try.func162 rfl rfl rfl
  · exact ⟨by simp, rfl⟩
  intro Φ hΦ hF
  unfold F_slices_IndexFunc_int_int__impl_areAll_1_impl_isTrustee at hF
  iterate 2 (try simp [go_sem]; try intros; refine pw_wk ?_)
  repeat rw [sq]
  refine pw_joinS (fun (x5 : Unit) => []) hF ?_ ?_
  ·intro x5 hF6
   cases hΦ _ (Rn_some hF6)
   try simp [go_sem]
   refine pw_wk ?_
   try simp [go_sem]
  ·intro ψ3 hj1 hr2 hF4
   repeat rw [sq]
   rw [pw_block]
   obtain ⟨b24, hb25, hψ11⟩ := hF4
   refine pw_rloop (fun (i8 : Int) (s7 : Unit) => [(0, .v (.sl false 1 (a0.map row_i64))), (1, .v (.func (.func 149) [] [.fp [.func (.func 130) [] []]])), (7, .v (.int .i64 (a0.length : Int))), (8, .v (.int .i64 i8))]) hb25 (by simp [go_sem]) ?_ ?_
   ·intro s7 N27 hN26
    subst hN26
    try simp [go_sem]
    refine pw_wk ?_
    repeat rw [sq]
    refine pw_cond_f (by simp [go_sem]) ?_
    try simp [go_sem]
    exact hj1 () _ (by simp [go_sem]) hψ11
   ·intro i8 s7 φ12 N13 hi15 hi16 ho9 hg10 hF14
    rw [Int.zero_add] at hi16
    try simp [go_sem]
    refine pw_wk ?_
    repeat rw [sq]
    refine pw_cond_t (by simp [go_sem, hi15, hi16]) ?_
    try simp [go_sem]
    refine pw_wk ?_
    repeat rw [sq]
    rw [pw_block]
    obtain ⟨x17, g18, hF19⟩ := Rn_ix hF14
    try simp [go_sem, g18]
    refine pw_wk ?_
    try simp [go_sem, g18]
    refine pw_cl hF19 [.sh] c_impl_areAll_1__impl_isTrustee rfl rfl (by (try simp [go_sem, clE, g18]); first | rfl | done) (by rfl) (by (try simp [go_sem, g18]); first | rfl | done) fun z20 hF21 => ⟨by simp [go_sem], ?_⟩
    try simp [go_sem, g18]
    refine pw_wkK [0, 1, 5, 7, 8, 16] (by simp [go_sem, g18]; rfl) ?_
    repeat rw [sq]
    refine pw_cF hF21 (by simp [go_sem, g18]) (fun h22 hF23 => ?_) fun h22 hF23 => ?_
    ·cases ho9 _ (Rn_some hF23)
     cases hΦ _ (hr2 _ hψ11)
     try simp [go_sem, g18]
     refine pw_wk ?_
     try simp [go_sem, g18]
    ·try simp [go_sem, g18]
     refine pw_wk ?_
     try simp [go_sem, g18]
     exact hg10 () _ (by simp [go_sem, g18, wr_i hi15 hi16 (by assumption)]) (Rn_some hF23)
noncomputable def F_slices_ContainsFunc_int_int__impl_areAll_1_impl_isTrustee (a0 : (List Int)) : Option (Bool) :=
  (F_slices_IndexFunc_int_int__impl_areAll_1_impl_isTrustee a0).bind fun z1 =>
  some (decide (0 ≤ z1))
theorem c_slices_ContainsFunc_int_int__impl_areAll_1_impl_isTrustee {a0 : (List Int)} {r : Bool} (hr : F_slices_ContainsFunc_int_int__impl_areAll_1_impl_isTrustee a0 = some r) : PCalls Try.prog 148 [(.sh, .sl false 1 (a0.map row_i64)), (.sh, .func (.func 149) [] [.fp [.func (.func 130) [] []]])] (Eo (.bool r) [.junk, .junk]) := by
  apply pcalls_lf 9 [] [] [] [.tmp 4] hr cl148 Try.func148 rfl rfl rfl
  · exact ⟨by simp, rfl⟩
  intro Φ hΦ hF
  unfold F_slices_ContainsFunc_int_int__impl_areAll_1_impl_isTrustee at hF
  try simp [go_sem]
  refine pw_wk ?_
  try simp [go_sem]
  refine pw_cl hF [.sh, .sh] c_slices_IndexFunc_int_int__impl_areAll_1_impl_isTrustee rfl rfl (by (try simp [go_sem, clE]); first | rfl | done) (by rfl) (by (try simp [go_sem]); first | rfl | done) fun z1 hF2 => ⟨by simp [go_sem], ?_⟩
  cases hΦ _ (Rn_some hF2)
  try simp [go_sem]
  refine pw_wk ?_
  try simp [go_sem]
noncomputable def F_impl_areAll__impl_isTrustee (a0 : (List Int)) : Option (Bool) :=
  (F_slices_ContainsFunc_int_int__impl_areAll_1_impl_isTrustee a0).bind fun z1 =>
  some (!z1)
theorem c_impl_areAll__impl_isTrustee {a0 : (List Int)} {r : Bool} (hr : F_impl_areAll__impl_isTrustee a0 = some r) : PCalls Try.prog 119 [(.sh, .sl false 1 (a0.map row_i64)), (.sh, .func (.func 130) [] [])] (Eo (.bool r) [.junk, .junk]) := by
  apply pcalls_lf 9 [] [] [3] [.tmp 4] hr cl119 Try.func119 rfl rfl rfl
  · exact ⟨by simp, rfl⟩
  intro Φ hΦ hF
  unfold F_impl_areAll__impl_isTrustee at hF
  try simp [go_sem]
  refine pw_wk ?_
  try simp [go_sem]
  refine pw_cl hF [.sh, .sh] c_slices_ContainsFunc_int_int__impl_areAll_1_impl_isTrustee rfl rfl (by (try simp [go_sem, clE]); first | rfl | done) (by rfl) (by (try simp [go_sem]); first | rfl | done) fun z1 hF2 => ⟨by simp [go_sem], ?_⟩
  cases hΦ _ (Rn_some hF2)
  try simp [go_sem]
  refine pw_wk ?_
  try simp [go_sem]
noncomputable def F_slices_Index_int_int (a0 : (List Int)) (a1 : Int) : Option (Int) :=
  ((rloop (σ := Unit) (β := Unit ⊕ Int) (fun i8 s7 =>
  (ix a0 i8).bind fun x17 =>
  if (a1 == x17) = true then (
  some (.out (.inr i8))) else (
  some (.go ()))) (fun s7 => .inl ()) (a0.length) 0 () : Option (Unit ⊕ Int)).bind (Sum.elim (fun (x5 : Unit) =>
  some (-1)) some))
theorem c_slices_Index_int_int {a0 : (List Int)} {a1 : Int} {r : Int} (hr : F_slices_Index_int_int a0 a1 = some r) : PCalls Try.prog 95 [(.sh, .sl false 1 (a0.map row_i64)), (.sh, .int .i64 a1)] (Eo (.int .i64 r) [.junk, .junk]) := by
  apply pcalls_lf 19 [] [] [] [.tmp 4] hr cl95 Try.func95 rfl rfl rfl
  · exact ⟨by simp, rfl⟩
  intro Φ hΦ hF
  unfold F_slices_Index_int_int at hF
  iterate 2 (try simp [go_sem]; try intros; refine pw_wk ?_)
  repeat rw [sq]
  refine pw_joinS (fun (x5 : Unit) => []) hF ?_ ?_
  ·intro x5 hF6
   cases hΦ _ (Rn_some hF6)
   try simp [go_sem]
   refine pw_wk ?_
   try simp [go_sem]
  ·intro ψ3 hj1 hr2 hF4
   repeat rw [sq]
   rw [pw_block]
   obtain ⟨b22, hb23, hψ11⟩ := hF4
   refine pw_rloop (fun (i8 : Int) (s7 : Unit) => [(0, .v (.sl false 1 (a0.map row_i64))), (1, .v (.int .i64 a1)), (7, .v (.int .i64 (a0.length : Int))), (8, .v (.int .i64 i8))]) hb23 (by simp [go_sem]) ?_ ?_
   ·intro s7 N25 hN24
    subst hN24
    try simp [go_sem]
    refine pw_wk ?_
    repeat rw [sq]
    refine pw_cond_f (by simp [go_sem]) ?_
    try simp [go_sem]
    exact hj1 () _ (by simp [go_sem]) hψ11
   ·intro i8 s7 φ12 N13 hi15 hi16 ho9 hg10 hF14
    rw [Int.zero_add] at hi16
    try simp [go_sem]
    refine pw_wk ?_
    repeat rw [sq]
    refine pw_cond_t (by simp [go_sem, hi15, hi16]) ?_
    try simp [go_sem]
    refine pw_wk ?_
    repeat rw [sq]
    rw [pw_block]
    obtain ⟨x17, g18, hF19⟩ := Rn_ix hF14
    try simp [go_sem, g18]
    refine pw_wk ?_
    try simp [go_sem, g18]
    refine pw_wkK [0, 1, 5, 7, 8, 16] (by simp [go_sem, g18]; rfl) ?_
    repeat rw [sq]
    refine pw_cF hF19 (by simp [go_sem, g18]) (fun h20 hF21 => ?_) fun h20 hF21 => ?_
    ·cases ho9 _ (Rn_some hF21)
     cases hΦ _ (hr2 _ hψ11)
     try simp [go_sem, g18]
     refine pw_wk ?_
     try simp [go_sem, g18]
    ·try simp [go_sem, g18]
     refine pw_wk ?_
     try simp [go_sem, g18]
     exact hg10 () _ (by simp [go_sem, g18, wr_i hi15 hi16 (by assumption)]) (Rn_some hF21)
noncomputable def F_slices_Contains_int_int (a0 : (List Int)) (a1 : Int) : Option (Bool) :=
  (F_slices_Index_int_int a0 a1).bind fun z1 =>
  some (decide (0 ≤ z1))
theorem c_slices_Contains_int_int {a0 : (List Int)} {a1 : Int} {r : Bool} (hr : F_slices_Contains_int_int a0 a1 = some r) : PCalls Try.prog 153 [(.sh, .sl false 1 (a0.map row_i64)), (.sh, .int .i64 a1)] (Eo (.bool r) [.junk, .junk]) := by
  apply pcalls_lf 9 [] [] [] [.tmp 4] hr cl153 Try.func153 rfl rfl rfl
  · exact ⟨by simp, rfl⟩
  intro Φ hΦ hF
  unfold F_slices_Contains_int_int at hF
  try simp [go_sem]
  refine pw_wk ?_
  try simp [go_sem]
  refine pw_cl hF [.sh, .sh] c_slices_Index_int_int rfl rfl (by (try simp [go_sem, clE]); first | rfl | done) (by rfl) (by (try simp [go_sem]); first | rfl | done) fun z1 hF2 => ⟨by simp [go_sem], ?_⟩
  cases hΦ _ (Rn_some hF2)
  try simp [go_sem]
  refine pw_wk ?_
  try simp [go_sem]
noncomputable def F_impl_areDifferent (a0 : (List Int)) : Option (Bool) :=
  ((rloop (σ := Unit) (β := Unit ⊕ Bool) (fun i8 s7 =>
  (ix a0 i8).bind fun x17 =>
  gd (0 ≤ i8) <|
  gd (0 ≤ i8.toNat ∧ i8.toNat ≤ a0.length) <|
  (F_slices_Contains_int_int ((a0.take i8.toNat).drop 0) x17).bind fun z26 =>
  if z26 = true then (
  some (.out (.inr false))) else (
  some (.go ()))) (fun s7 => .inl ()) (a0.length) 0 () : Option (Unit ⊕ Bool)).bind (Sum.elim (fun (x5 : Unit) =>
  some true) some))
theorem c_impl_areDifferent {a0 : (List Int)} {r : Bool} (hr : F_impl_areDifferent a0 = some r) : PCalls Try.prog 131 [(.sh, .sl false 1 (a0.map row_i64))] (Eo (.bool r) [.junk]) := by
  apply pcalls_lf 18 [] [] [] [.tmp 2] hr cl131 Try.func131 rfl rfl rfl
  · exact ⟨by simp, rfl⟩
  intro Φ hΦ hF
  unfold F_impl_areDifferent at hF
  iterate 2 (try simp [go_sem]; try intros; refine pw_wk ?_)
  repeat rw [sq]
  refine pw_joinS (fun (x5 : Unit) => []) hF ?_ ?_
  ·intro x5 hF6
   cases hΦ _ (Rn_some hF6)
   try simp [go_sem]
   refine pw_wk ?_
   try simp [go_sem]
  ·intro ψ3 hj1 hr2 hF4
   repeat rw [sq]
   rw [pw_block]
   obtain ⟨b30, hb31, hψ11⟩ := hF4
   refine pw_rloop (fun (i8 : Int) (s7 : Unit) => [(0, .v (.sl false 1 (a0.map row_i64))), (5, .v (.sl false 1 (a0.map row_i64))), (6, .v (.int .i64 (a0.length : Int))), (7, .v (.int .i64 i8))]) hb31 (by simp [go_sem]) ?_ ?_
   ·intro s7 N33 hN32
    subst hN32
    try simp [go_sem]
    refine pw_wk ?_
    repeat rw [sq]
    refine pw_cond_f (by simp [go_sem]) ?_
    try simp [go_sem]
    exact hj1 () _ (by simp [go_sem]) hψ11
   ·intro i8 s7 φ12 N13 hi15 hi16 ho9 hg10 hF14
    rw [Int.zero_add] at hi16
    try simp [go_sem]
    refine pw_wk ?_
    repeat rw [sq]
    refine pw_cond_t (by simp [go_sem, hi15, hi16]) ?_
    try simp [go_sem]
    refine pw_wk ?_
    repeat rw [sq]
    rw [pw_block]
    obtain ⟨x17, g18, hF19⟩ := Rn_ix hF14
    try simp [go_sem, g18]
    refine pw_wkK [0, 3, 4, 5, 6, 7] (by simp [go_sem, g18]; rfl) ?_
    obtain ⟨g20, hF21⟩ := Rn_gd hF19
    have g22 := g20
    try simp at g22
    obtain ⟨g23, hF24⟩ := Rn_gd hF21
    have g25 := g23
    try simp at g25
    try simp [go_sem, g18, g20, g22, g23, g25]
    refine pw_cl hF24 [.sh, .sh] c_slices_Contains_int_int rfl rfl (by (try simp [go_sem, clE, g18, g20, g22, g23, g25]); first | rfl | done) (by rfl) (by (try simp [go_sem, g18, g20, g22, g23, g25]); first | rfl | done) fun z26 hF27 => ⟨by simp [go_sem], ?_⟩
    try simp [go_sem, g18, g20, g22, g23, g25]
    refine pw_wk ?_
    repeat rw [sq]
    refine pw_cF hF27 (by simp [go_sem, g18, g20, g22, g23, g25]) (fun h28 hF29 => ?_) fun h28 hF29 => ?_
    ·cases ho9 _ (Rn_some hF29)
     cases hΦ _ (hr2 _ hψ11)
     try simp [go_sem, g18, g20, g22, g23, g25]
     refine pw_wk ?_
     try simp [go_sem, g18, g20, g22, g23, g25]
    ·try simp [go_sem, g18, g20, g22, g23, g25]
     refine pw_wk ?_
     try simp [go_sem, g18, g20, g22, g23, g25]
     exact hg10 () _ (by simp [go_sem, g18, g20, g22, g23, g25, wr_i hi15 hi16 (by assumption)]) (Rn_some hF29)
noncomputable def F_impl_areTrustees (a0 : (List Int)) : Option (Bool) :=
  (((F_impl_areAll__impl_isTrustee a0).bind fun z7 =>
  if z7 = true then (
  (F_impl_areDifferent a0).bind fun z11 =>
  some z11) else (
  some false) : Option (Bool)).bind fun (x5 : Bool) =>
  some x5)
theorem c_impl_areTrustees {a0 : (List Int)} {r : Bool} (hr : F_impl_areTrustees a0 = some r) : PCalls Try.prog 85 [(.sh, .sl false 1 (a0.map row_i64))] (Eo (.bool r) [.junk]) := by
  apply pcalls_lf 9 [] [] [] [.tmp 2] hr cl85 Try.func85 rfl rfl rfl
  · exact ⟨by simp, rfl⟩
  intro Φ hΦ hF
  unfold F_impl_areTrustees at hF
  try simp [go_sem]
  refine pw_wk ?_
  repeat rw [sq]
  refine pw_joinF (fun (x5 : Bool) => [(2, .v (.bool x5))]) hF ?_ ?_
  ·intro x5 hF6
   cases hΦ _ (Rn_some hF6)
   try simp [go_sem]
  ·intro ψ3 hj1 hF4
   try simp [go_sem]
   refine pw_cl hF4 [.sh, .sh] c_impl_areAll__impl_isTrustee rfl rfl (by (try simp [go_sem, clE]); first | rfl | done) (by rfl) (by (try simp [go_sem]); first | rfl | done) fun z7 hF8 => ⟨by simp [go_sem], ?_⟩
   try simp [go_sem]
   refine pwg_F hF8 (fun h9 hF10 => ?_) fun h9 hF10 => ?_
   ·try simp [go_sem, h9]
    refine pw_cl hF10 [.sh] c_impl_areDifferent rfl rfl (by (try simp [go_sem, clE]); first | rfl | done) (by rfl) (by (try simp [go_sem]); first | rfl | done) fun z11 hF12 => ⟨by simp [go_sem], ?_⟩
    try simp [go_sem, h9]
    exact hj1 z11 _ (by simp [go_sem]) (Rn_some hF12)
   ·try simp [go_sem, h9]
    exact hj1 false _ (by simp [go_sem]) (Rn_some hF10)
noncomputable def F_slices_Clone_impl_ViewCount_impl_ViewCount (a0 : (List ViewCount)) : Option (List ViewCount) :=
  gd (a0.length * 32 ≤ 140737488355328 ∧ a0.length ≤ 4611686018427387904) <|
  some a0
theorem c_slices_Clone_impl_ViewCount_impl_ViewCount {a0 : (List ViewCount)} {r : (List ViewCount)} (hr : F_slices_Clone_impl_ViewCount_impl_ViewCount a0 = some r) : PCalls Try.prog 123 [(.sh, .sl false 2 (a0.map row_ViewCount_z))] (Eo (.sl true 2 (r.map row_ViewCount_z)) [.junk]) := by
  apply pcalls_lf 8 [] [] [1000000] [.tmp 2] hr cl123 Try.func123 rfl rfl rfl
  · exact ⟨by simp, rfl⟩
  intro Φ hΦ hF
  unfold F_slices_Clone_impl_ViewCount_impl_ViewCount at hF
  obtain ⟨g, hF⟩ := Rn_gd hF
  have h1 := hΦ _ (Rn_some hF)
  subst h1
  try simp [go_sem]
  refine pw_wkL [(0, .v (.sl false 2 (a0.map row_ViewCount_z)))] (by simp [go_sem]) ?_
  try simp [go_sem]
  refine pw1_nil rfl rfl (by simp [go_sem]) rfl (by rfl) fun b hb => ?_
  try simp [go_sem]
  refine pw_wk ?_
  repeat rw [pw_seq]
  cases b
  · refine pw_cond_f (by simp [go_sem]) ?_
    try simp [go_sem]
    refine pw_wk ?_
    try simp [go_sem, g]
    refine pw_wk ?_
    try simp [go_sem, g]
  · have hb0 : a0 = [] := by
      cases a0 with
      | nil => rfl
      | cons x l => exact absurd (hb (by simp)) (by simp)
    subst hb0
    refine pw_cond_t (by simp [go_sem]) ?_
    try simp [go_sem]
    refine pw_wk ?_
    try simp [go_sem]
noncomputable def F_cmp_isNaN_int (a0 : Int) : Option (Bool) :=
  some (a0 != a0)
theorem c_cmp_isNaN_int {a0 : Int} {r : Bool} (hr : F_cmp_isNaN_int a0 = some r) : PCalls Try.prog 163 [(.sh, .int .i64 a0)] (Eo (.bool r) [.junk]) := by
  apply pcalls_lf 6 [] [] [] [.tmp 2] hr cl163 Try.func163 rfl rfl rfl
  · exact ⟨by simp, rfl⟩
  intro Φ hΦ hF
  unfold F_cmp_isNaN_int at hF
  cases hΦ _ (Rn_some hF)
  iterate 2 (try simp [go_sem]; refine pw_wk ?_)
  try simp [go_sem]
noncomputable def F_cmp_Compare_int (a0 : Int) (a1 : Int) : Option (Int) :=
  (F_cmp_isNaN_int a0).bind fun z1 =>
  (F_cmp_isNaN_int a1).bind fun z3 =>
  if z1 = true then (
  if z3 = true then (
  some 0) else (
  some (-1))) else (
  if z3 = true then (
  some 1) else (
  if decide (a0 < a1) = true then (
  some (-1)) else (
  if decide (a1 < a0) = true then (
  some 1) else (
  some 0))))
theorem c_cmp_Compare_int {a0 : Int} {a1 : Int} {r : Int} (hr : F_cmp_Compare_int a0 a1 = some r) : PCalls Try.prog 150 [(.sh, .int .i64 a0), (.sh, .int .i64 a1)] (Eo (.int .i64 r) [.junk, .junk]) := by
  apply pcalls_lf 20 [] [] [] [.tmp 4] hr cl150 Try.func150 rfl rfl rfl
  · exact ⟨by simp, rfl⟩
  intro Φ hΦ hF
  unfold F_cmp_Compare_int at hF
  try simp [go_sem]
  refine pw_wk ?_
  try simp [go_sem]
  refine pw_cl hF [.sh] c_cmp_isNaN_int rfl rfl (by (try simp [go_sem, clE]); first | rfl | done) (by rfl) (by (try simp [go_sem]); first | rfl | done) fun z1 hF2 => ⟨by simp [go_sem], ?_⟩
  try simp [go_sem]
  refine pw_wk ?_
  try simp [go_sem]
  refine pw_cl hF2 [.sh] c_cmp_isNaN_int rfl rfl (by (try simp [go_sem, clE]); first | rfl | done) (by rfl) (by (try simp [go_sem]); first | rfl | done) fun z3 hF4 => ⟨by simp [go_sem], ?_⟩
  iterate 2 (try simp [go_sem]; refine pw_wk ?_)
  repeat rw [sq]
  refine pw_cF hF4 (by simp [go_sem]) (fun h5 hF6 => ?_) fun h5 hF6 => ?_
  ·try simp [go_sem]
   refine pw_wk ?_
   repeat rw [sq]
   refine pw_cF hF6 (by simp [go_sem]) (fun h7 hF8 => ?_) fun h7 hF8 => ?_
   ·try simp [go_sem]
    refine pw_wkK [4] (by simp [go_sem]; rfl) ?_
    cases hΦ _ (Rn_some hF8)
    try simp [go_sem]
   ·try simp [go_sem]
    refine pw_wk ?_
    try simp [go_sem]
    refine pw_wkK [4] (by simp [go_sem]; rfl) ?_
    cases hΦ _ (Rn_some hF8)
    try simp [go_sem]
  ·iterate 2 (try simp [go_sem]; refine pw_wk ?_)
   repeat rw [sq]
   refine pw_cF hF6 (by simp [go_sem]) (fun h9 hF10 => ?_) fun h9 hF10 => ?_
   ·try simp [go_sem]
    refine pw_wkK [4] (by simp [go_sem]; rfl) ?_
    cases hΦ _ (Rn_some hF10)
    try simp [go_sem]
   ·try simp [go_sem]
    refine pw_wk ?_
    try simp [go_sem]
    refine pw_wkK [0, 1, 16] (by simp [go_sem]; rfl) ?_
    repeat rw [sq]
    refine pw_cF hF10 (by simp [go_sem]) (fun h11 hF12 => ?_) fun h11 hF12 => ?_
    ·cases hΦ _ (Rn_some hF12)
     try simp [go_sem]
     refine pw_wk ?_
     try simp [go_sem]
    ·iterate 2 (try simp [go_sem]; refine pw_wk ?_)
     repeat rw [sq]
     refine pw_cF hF12 (by simp [go_sem]) (fun h13 hF14 => ?_) fun h13 hF14 => ?_
     ·cases hΦ _ (Rn_some hF14)
      try simp [go_sem]
      refine pw_wk ?_
      try simp [go_sem]
     ·cases hΦ _ (Rn_some hF14)
      iterate 2 (try simp [go_sem]; refine pw_wk ?_)
      try simp [go_sem]
noncomputable def F_slices_Compare_int_int (a0 : (List Int)) (a1 : (List Int)) : Option (Int) :=
  ((rloop (σ := Unit) (β := Unit ⊕ Int) (fun i8 s7 =>
  (ix a0 i8).bind fun x17 =>
  if decide ((a1.length : Int) ≤ i8) = true then (
  some (.out (.inr 1))) else (
  (ix a1 i8).bind fun x22 =>
  (F_cmp_Compare_int x17 x22).bind fun z25 =>
  if (z25 != 0) = true then (
  some (.out (.inr z25))) else (
  some (.go ())))) (fun s7 => .inl ()) (a0.length) 0 () : Option (Unit ⊕ Int)).bind (Sum.elim (fun (x5 : Unit) =>
  if decide ((a0.length : Int) < (a1.length : Int)) = true then (
  some (-1)) else (
  some 0)) some))
theorem c_slices_Compare_int_int {a0 : (List Int)} {a1 : (List Int)} {r : Int} (hr : F_slices_Compare_int_int a0 a1 = some r) : PCalls Try.prog 120 [(.sh, .sl false 1 (a0.map row_i64)), (.sh, .sl false 1 (a1.map row_i64))] (Eo (.int .i64 r) [.junk, .junk]) := by
  apply pcalls_lf 36 [] [] [] [.tmp 4] hr cl120 Try.func120 rfl rfl rfl
  · exact ⟨by simp, rfl⟩
  intro Φ hΦ hF
  unfold F_slices_Compare_int_int at hF
  iterate 2 (try simp [go_sem]; try intros; refine pw_wk ?_)
  repeat rw [sq]
  refine pw_joinS (fun (x5 : Unit) => [(0, .v (.sl false 1 (a0.map row_i64))), (1, .v (.sl false 1 (a1.map row_i64)))]) hF ?_ ?_
  ·intro x5 hF6
   try simp [go_sem]
   try intros
   refine pw_wk ?_
   repeat rw [sq]
   refine pw_cF hF6 (by simp [go_sem]) (fun h33 hF34 => ?_) fun h33 hF34 => ?_
   ·try simp [go_sem]
    refine pw_wkK [4] (by simp [go_sem]; rfl) ?_
    cases hΦ _ (Rn_some hF34)
    try simp [go_sem]
   ·try simp [go_sem]
    refine pw_wk ?_
    try simp [go_sem]
    refine pw_wkK [4] (by simp [go_sem]; rfl) ?_
    cases hΦ _ (Rn_some hF34)
    try simp [go_sem]
  ·intro ψ3 hj1 hr2 hF4
   repeat rw [sq]
   rw [pw_block]
   obtain ⟨b29, hb30, hψ11⟩ := hF4
   refine pw_rloop (fun (i8 : Int) (s7 : Unit) => [(0, .v (.sl false 1 (a0.map row_i64))), (1, .v (.sl false 1 (a1.map row_i64))), (9, .v (.sl false 1 (a0.map row_i64))), (10, .v (.int .i64 (a0.length : Int))), (11, .v (.int .i64 i8))]) hb30 (by simp [go_sem]) ?_ ?_
   ·intro s7 N32 hN31
    subst hN31
    try simp [go_sem]
    refine pw_wk ?_
    repeat rw [sq]
    refine pw_cond_f (by simp [go_sem]) ?_
    try simp [go_sem]
    exact hj1 () _ (by simp [go_sem]) hψ11
   ·intro i8 s7 φ12 N13 hi15 hi16 ho9 hg10 hF14
    rw [Int.zero_add] at hi16
    try simp [go_sem]
    refine pw_wk ?_
    repeat rw [sq]
    refine pw_cond_t (by simp [go_sem, hi15, hi16]) ?_
    try simp [go_sem]
    refine pw_wk ?_
    repeat rw [sq]
    rw [pw_block]
    obtain ⟨x17, g18, hF19⟩ := Rn_ix hF14
    try simp [go_sem, g18]
    refine pw_wkK [0, 1, 5, 6, 9, 10, 11] (by simp [go_sem, g18]; rfl) ?_
    try simp [go_sem, g18]
    try intros
    refine pw_wk ?_
    repeat rw [sq]
    refine pw_cF hF19 (by simp [go_sem, g18]) (fun h20 hF21 => ?_) fun h20 hF21 => ?_
    ·cases ho9 _ (Rn_some hF21)
     cases hΦ _ (hr2 _ hψ11)
     try simp [go_sem, g18]
     refine pw_wk ?_
     try simp [go_sem, g18]
    ·obtain ⟨x22, g23, hF24⟩ := Rn_ix hF21
     iterate 2 (try simp [go_sem, g18, g23]; refine pw_wk ?_)
     try simp [go_sem, g18, g23]
     refine pw_cl hF24 [.sh, .sh] c_cmp_Compare_int rfl rfl (by (try simp [go_sem, clE, g18, g23]); first | rfl | done) (by rfl) (by (try simp [go_sem, g18, g23]); first | rfl | done) fun z25 hF26 => ⟨by simp [go_sem], ?_⟩
     try simp [go_sem, g18, g23]
     refine pw_wkK [0, 1, 8, 9, 10, 11] (by simp [go_sem, g18, g23]; rfl) ?_
     try simp [go_sem, g18, g23]
     refine pw_wk ?_
     repeat rw [sq]
     refine pw_cF hF26 (by simp [go_sem, g18, g23]) (fun h27 hF28 => ?_) fun h27 hF28 => ?_
     ·cases ho9 _ (Rn_some hF28)
      cases hΦ _ (hr2 _ hψ11)
      try simp [go_sem, g18, g23]
      refine pw_wk ?_
      try simp [go_sem, g18, g23]
     ·try simp [go_sem, g18, g23]
      refine pw_wk ?_
      try simp [go_sem, g18, g23]
      exact hg10 () _ (by simp [go_sem, g18, g23, wr_i hi15 hi16 (by assumption)]) (Rn_some hF28)
noncomputable def F_impl_gathered_1 (a0 : ViewCount) (a1 : ViewCount) : Option (Int) :=
  (F_slices_Compare_int_int a0.View a1.View).bind fun z1 =>
  some z1
theorem c_impl_gathered_1 {a0 : ViewCount} {a1 : ViewCount} {r : Int} (hr : F_impl_gathered_1 a0 a1 = some r) : PCalls Try.prog 125 [(.sh, .agg [.sl false 1 (a0.View.map row_i64), .int .i64 a0.Times]), (.sh, .agg [.sl false 1 (a1.View.map row_i64), .int .i64 a1.Times])] (Eo (.int .i64 r) [.junk, .junk]) := by
  apply pcalls_lf 10 [] [] [] [.tmp 4] hr cl125 Try.func125 rfl rfl rfl
  · exact ⟨by simp, rfl⟩
  intro Φ hΦ hF
  unfold F_impl_gathered_1 at hF
  try simp [go_sem]
  refine pw_wk ?_
  try simp [go_sem]
  refine pw_cl hF [.sh, .sh] c_slices_Compare_int_int rfl rfl (by (try simp [go_sem, clE]); first | rfl | done) (by rfl) (by (try simp [go_sem]); first | rfl | done) fun z1 hF2 => ⟨by simp [go_sem], ?_⟩
  cases hΦ _ (Rn_some hF2)
  try simp [go_sem]
  refine pw_wk ?_
  try simp [go_sem]
noncomputable def F_slices_insertionSortCmpFunc_impl_ViewCount__io0_impl_gathered_1 (a0 : (List ViewCount)) (a1 : Int) (a2 : Int) : Option ((List ViewCount)) :=
  wloop (σ := (List ViewCount) × Int) (β := (List ViewCount)) (fun s89 =>
  if decide (s89.2 < a2) = true then (
  ((wloop (σ := (List ViewCount) × Int) (β := (List ViewCount)) (fun s140 =>
  ((if decide (a1 < s140.2) = true then (
  (ix s140.1 s140.2).bind fun x156 =>
  (ix s140.1 (IntKind.i64.wrap (s140.2 - 1))).bind fun x159 =>
  (F_impl_gathered_1 x156 x159).bind fun z162 =>
  some (decide (z162 < 0))) else (
  some false) : Option (Bool)).bind fun (x152 : Bool) =>
  if x152 = true then (
  (ix s140.1 (IntKind.i64.wrap (s140.2 - 1))).bind fun x166 =>
  (ix s140.1 s140.2).bind fun x169 =>
  (ix (s140.1.set s140.2.toNat x166) (IntKind.i64.wrap (s140.2 - 1))).bind fun x172 =>
  some (.go ((s140.1.set s140.2.toNat x166).set ((IntKind.i64.wrap (s140.2 - 1)).toNat) x169, IntKind.i64.wrap (s140.2 - 1)))) else (
  some (.out s140.1)))) (s89.1, s89.2) : Option ((List ViewCount))).bind fun (x103 : (List ViewCount)) =>
  some (.go (x103, IntKind.i64.wrap (s89.2 + 1))))) else (
  some (.out s89.1))) (a0, IntKind.i64.wrap (a1 + 1))
theorem c_slices_insertionSortCmpFunc_impl_ViewCount__io0_impl_gathered_1 {a0 : (List ViewCount)} {a1 : Int} {a2 : Int} {r : (List ViewCount)} (hr : F_slices_insertionSortCmpFunc_impl_ViewCount__io0_impl_gathered_1 a0 a1 a2 = some r) : PCalls Try.prog 164 [(.io, .sl true 2 (a0.map row_ViewCount_z)), (.sh, .int .i64 a1), (.sh, .int .i64 a2), (.sh, .func (.func 125) [] [])] (Eo (.junk) [.sl true 2 (r.map row_ViewCount_z), .junk, .junk, .junk]) := by
  apply pcalls_lf 53 [0] [] [] [] hr cl164 Try.func164 rfl rfl rfl
  · exact ⟨by simp, rfl⟩
  intro Φ hΦ hF
  unfold F_slices_insertionSortCmpFunc_impl_ViewCount__io0_impl_gathered_1 at hF
  try simp [go_sem]
  refine pw_wk ?_
  repeat rw [sq]
  rw [pw_block]
  obtain ⟨b177, hb178, hψ93⟩ := hF
  refine pw_wloop (fun (s89 : (List ViewCount) × Int) => [(0, .v (.sl true 2 (s89.1.map row_ViewCount_z))), (1, .v (.int .i64 a1)), (2, .v (.int .i64 a2)), (3, .v (.func (.func 125) [] [])), (8, .v (.int .i64 s89.2))]) hb178 (by simp [go_sem]) ?_
  intro s89 φ94 N95 ho91 hg92 hF96
  try simp [go_sem]
  refine pw_wk ?_
  repeat rw [sq]
  refine pw_cF hF96 (by simp [go_sem]) (fun h97 hF98 => ?_) fun h97 hF98 => ?_
  ·try simp [go_sem]
   refine pw_wk ?_
   repeat rw [sq]
   refine pw_joinF (fun (x103 : (List ViewCount)) => [(0, .v (.sl true 2 (x103.map row_ViewCount_z))), (1, .v (.int .i64 a1)), (2, .v (.int .i64 a2)), (3, .v (.func (.func 125) [] [])), (8, .v (.int .i64 s89.2))]) hF98 ?_ ?_
   ·intro x103 hF104
    try simp [go_sem]
    exact hg92 (x103, IntKind.i64.wrap (s89.2 + 1)) _ (by simp [go_sem]) (Rn_some hF104)
   ·intro ψ101 hj99 hF102
    repeat rw [sq]
    rw [pw_block]
    try simp [go_sem]
    refine pw_wk ?_
    repeat rw [sq]
    rw [pw_block]
    obtain ⟨b175, hb176, hψ144⟩ := hF102
    refine pw_wloop (fun (s140 : (List ViewCount) × Int) => [(0, .v (.sl true 2 (s140.1.map row_ViewCount_z))), (1, .v (.int .i64 a1)), (2, .v (.int .i64 a2)), (3, .v (.func (.func 125) [] [])), (8, .v (.int .i64 s89.2)), (9, .v (.int .i64 s140.2))]) hb176 (by simp [go_sem]) ?_
    intro s140 φ145 N146 ho142 hg143 hF147
    repeat rw [sq]
    refine pw_joinF (fun (x152 : Bool) => [(0, .v (.sl true 2 (s140.1.map row_ViewCount_z))), (1, .v (.int .i64 a1)), (2, .v (.int .i64 a2)), (3, .v (.func (.func 125) [] [])), (8, .v (.int .i64 s89.2)), (9, .v (.int .i64 s140.2)), (34, .v (.bool x152))]) hF147 ?_ ?_
    ·intro x152 hF153
     repeat rw [sq]
     refine pw_cF hF153 (by simp [go_sem]) (fun h164 hF165 => ?_) fun h164 hF165 => ?_
     ·try simp [go_sem]
      refine pw_wk ?_
      repeat rw [sq]
      rw [pw_block]
      repeat rw [sq]
      refine pw_draw D164_6 follows (by kernel_rfl) rfl ?_
      try simp only [go_sem, D164_6]
      obtain ⟨x166, g167, hF168⟩ := Rn_ix hF165
      obtain ⟨x169, g170, hF171⟩ := Rn_ix hF168
      obtain ⟨x172, g173, hF174⟩ := Rn_ix hF171
      try simp [go_sem, g167, g170, g173]
      refine pw_wkK [0, 1, 2, 3, 8, 9] (by simp [go_sem, g167, g170, g173]; rfl) ?_
      try simp [go_sem, g167, g170, g173]
      exact hg143 ((s140.1.set s140.2.toNat x166).set ((IntKind.i64.wrap (s140.2 - 1)).toNat) x169, IntKind.i64.wrap (s140.2 - 1)) _ (by simp [go_sem, g167, g170, g173]) (Rn_some hF174)
     ·try simp [go_sem]
      cases ho142 _ (Rn_some hF165)
      exact hj99 s140.1 _ (by simp [go_sem]) hψ144
    ·intro ψ150 hj148 hF151
     repeat rw [sq]
     refine pw_draw D164_4 follows (by kernel_rfl) rfl ?_
     try simp only [go_sem, D164_4]
     try simp [go_sem]
     refine pwgD_F hF151 (fun h154 hF155 => ?_) fun h154 hF155 => ?_
     ·obtain ⟨x156, g157, hF158⟩ := Rn_ix hF155
      obtain ⟨x159, g160, hF161⟩ := Rn_ix hF158
      try simp [go_sem, g157, g160, h154]
      refine pw_cl hF161 [.sh, .sh] c_impl_gathered_1 rfl rfl (by (try simp [go_sem, clE, g157, g160]); first | rfl | done) (by rfl) (by (try simp [go_sem, g157, g160]); first | rfl | done) fun z162 hF163 => ⟨by simp [go_sem], ?_⟩
      try simp [go_sem, g157, g160, h154]
      exact hj148 (decide (z162 < 0)) _ (by simp [go_sem, g157, g160]) (Rn_some hF163)
     ·try simp [go_sem, h154]
      exact hj148 false _ (by simp [go_sem]) (Rn_some hF155)
  ·cases ho91 _ (Rn_some hF98)
   cases hΦ _ hψ93
   try simp [go_sem]
noncomputable def F_slices_swapRangeCmpFunc_impl_ViewCount__io0_impl_gathered_1 (a0 : (List ViewCount)) (a1 : Int) (a2 : Int) (a3 : Int) : Option ((List ViewCount)) :=
  wloop (σ := (List ViewCount) × Int) (β := (List ViewCount)) (fun s20 =>
  if decide (s20.2 < a3) = true then (
  (ix s20.1 (IntKind.i64.wrap (a2 + s20.2))).bind fun x30 =>
  (ix s20.1 (IntKind.i64.wrap (a1 + s20.2))).bind fun x33 =>
  (ix (s20.1.set ((IntKind.i64.wrap (a1 + s20.2)).toNat) x30) (IntKind.i64.wrap (a2 + s20.2))).bind fun x36 =>
  some (.go ((s20.1.set ((IntKind.i64.wrap (a1 + s20.2)).toNat) x30).set ((IntKind.i64.wrap (a2 + s20.2)).toNat) x33, IntKind.i64.wrap (s20.2 + 1)))) else (
  some (.out s20.1))) (a0, 0)
theorem c_slices_swapRangeCmpFunc_impl_ViewCount__io0_impl_gathered_1 {a0 : (List ViewCount)} {a1 : Int} {a2 : Int} {a3 : Int} {r : (List ViewCount)} (hr : F_slices_swapRangeCmpFunc_impl_ViewCount__io0_impl_gathered_1 a0 a1 a2 a3 = some r) : PCalls Try.prog 170 [(.io, .sl true 2 (a0.map row_ViewCount_z)), (.sh, .int .i64 a1), (.sh, .int .i64 a2), (.sh, .int .i64 a3), (.sh, .func (.func 125) [] [])] (Eo (.junk) [.sl true 2 (r.map row_ViewCount_z), .junk, .junk, .junk, .junk]) := by
  apply pcalls_lf 38 [0] [] [] [] hr cl170 Try.func170 rfl rfl rfl
  · exact ⟨by simp, rfl⟩
  intro Φ hΦ hF
  unfold F_slices_swapRangeCmpFunc_impl_ViewCount__io0_impl_gathered_1 at hF
  try simp [go_sem]
  refine pw_wk ?_
  repeat rw [sq]
  rw [pw_block]
  obtain ⟨b39, hb40, hψ24⟩ := hF
  refine pw_wloop (fun (s20 : (List ViewCount) × Int) => [(0, .v (.sl true 2 (s20.1.map row_ViewCount_z))), (1, .v (.int .i64 a1)), (2, .v (.int .i64 a2)), (3, .v (.int .i64 a3)), (10, .v (.int .i64 s20.2))]) hb40 (by simp [go_sem]) ?_
  intro s20 φ25 N26 ho22 hg23 hF27
  try simp [go_sem]
  refine pw_wk ?_
  repeat rw [sq]
  refine pw_cF hF27 (by simp [go_sem]) (fun h28 hF29 => ?_) fun h28 hF29 => ?_
  ·try simp [go_sem]
   refine pw_wk ?_
   repeat rw [sq]
   rw [pw_block]
   repeat rw [sq]
   refine pw_draw D170_3 follows (by kernel_rfl) rfl ?_
   try simp only [go_sem, D170_3]
   obtain ⟨x30, g31, hF32⟩ := Rn_ix hF29
   obtain ⟨x33, g34, hF35⟩ := Rn_ix hF32
   obtain ⟨x36, g37, hF38⟩ := Rn_ix hF35
   try simp [go_sem, g31, g34, g37]
   refine pw_wkK [0, 1, 2, 3, 10] (by simp [go_sem, g31, g34, g37]; rfl) ?_
   try simp [go_sem, g31, g34, g37]
   exact hg23 ((s20.1.set ((IntKind.i64.wrap (a1 + s20.2)).toNat) x30).set ((IntKind.i64.wrap (a2 + s20.2)).toNat) x33, IntKind.i64.wrap (s20.2 + 1)) _ (by simp [go_sem, g31, g34, g37]) (Rn_some hF38)
  ·cases ho22 _ (Rn_some hF29)
   cases hΦ _ hψ24
   try simp [go_sem]
noncomputable def F_slices_rotateCmpFunc_impl_ViewCount__io0_impl_gathered_1 (a0 : (List ViewCount)) (a1 : Int) (a2 : Int) (a3 : Int) : Option ((List ViewCount)) :=
  ((wloop (σ := (List ViewCount) × Int × Int) (β := ((List ViewCount) × Int)) (fun s23 =>
  if (s23.2.1 != s23.2.2) = true then (
  if decide (s23.2.2 < s23.2.1) = true then (
  (F_slices_swapRangeCmpFunc_impl_ViewCount__io0_impl_gathered_1 s23.1 (IntKind.i64.wrap (a2 - s23.2.1)) a2 s23.2.2).bind fun z35 =>
  some (.go (z35, IntKind.i64.wrap (s23.2.1 - s23.2.2), s23.2.2))) else (
  (F_slices_swapRangeCmpFunc_impl_ViewCount__io0_impl_gathered_1 s23.1 (IntKind.i64.wrap (a2 - s23.2.1)) (IntKind.i64.wrap ((IntKind.i64.wrap (a2 + s23.2.2)) - s23.2.1)) s23.2.1).bind fun z37 =>
  some (.go (z37, s23.2.1, IntKind.i64.wrap (s23.2.2 - s23.2.1))))) else (
  some (.out (s23.1, s23.2.1)))) (a0, IntKind.i64.wrap (a2 - a1), IntKind.i64.wrap (a3 - a2)) : Option (((List ViewCount) × Int))).bind fun (x5 : (List ViewCount) × Int) =>
  (F_slices_swapRangeCmpFunc_impl_ViewCount__io0_impl_gathered_1 x5.1 (IntKind.i64.wrap (a2 - x5.2)) a2 x5.2).bind fun z41 =>
  some z41)
theorem c_slices_rotateCmpFunc_impl_ViewCount__io0_impl_gathered_1 {a0 : (List ViewCount)} {a1 : Int} {a2 : Int} {a3 : Int} {r : (List ViewCount)} (hr : F_slices_rotateCmpFunc_impl_ViewCount__io0_impl_gathered_1 a0 a1 a2 a3 = some r) : PCalls Try.prog 168 [(.io, .sl true 2 (a0.map row_ViewCount_z)), (.sh, .int .i64 a1), (.sh, .int .i64 a2), (.sh, .int .i64 a3), (.sh, .func (.func 125) [] [])] (Eo (.junk) [.sl true 2 (r.map row_ViewCount_z), .junk, .junk, .junk, .junk]) := by
  apply pcalls_lf 58 [0] [] [] [] hr cl168 Try.func168 rfl rfl rfl
  · exact ⟨by simp, rfl⟩
  intro Φ hΦ hF
  unfold F_slices_rotateCmpFunc_impl_ViewCount__io0_impl_gathered_1 at hF
  iterate 2 (try simp [go_sem]; refine pw_wk ?_)
  repeat rw [sq]
  refine pw_joinF (fun (x5 : (List ViewCount) × Int) => [(0, .v (.sl true 2 (x5.1.map row_ViewCount_z))), (2, .v (.int .i64 a2)), (4, .v (.func (.func 125) [] [])), (10, .v (.int .i64 x5.2))]) hF ?_ ?_
  ·intro x5 hF6
   try simp [go_sem]
   refine pw_cl hF6 [.io, .sh, .sh, .sh, .sh] c_slices_swapRangeCmpFunc_impl_ViewCount__io0_impl_gathered_1 rfl rfl (by (try simp [go_sem, clE]); first | rfl | done) (by rfl) (by (try simp [go_sem]); first | rfl | done) fun z41 hF42 => ⟨by simp [go_sem], ?_⟩
   cases hΦ _ (Rn_some hF42)
   try simp [go_sem]
  ·intro ψ3 hj1 hF4
   repeat rw [sq]
   rw [pw_block]
   obtain ⟨b39, hb40, hψ27⟩ := hF4
   refine pw_wloop (fun (s23 : (List ViewCount) × Int × Int) => [(0, .v (.sl true 2 (s23.1.map row_ViewCount_z))), (2, .v (.int .i64 a2)), (4, .v (.func (.func 125) [] [])), (10, .v (.int .i64 s23.2.1)), (11, .v (.int .i64 s23.2.2))]) hb40 (by simp [go_sem]) ?_
   intro s23 φ28 N29 ho25 hg26 hF30
   try simp [go_sem]
   refine pw_wkK [0, 2, 4, 10, 11, 20] (by simp [go_sem]; rfl) ?_
   repeat rw [sq]
   refine pw_cF hF30 (by simp [go_sem]) (fun h31 hF32 => ?_) fun h31 hF32 => ?_
   ·try simp [go_sem]
    refine pw_wk ?_
    repeat rw [sq]
    rw [pw_block]
    try simp [go_sem]
    refine pw_wk ?_
    repeat rw [sq]
    refine pw_cF hF32 (by simp [go_sem]) (fun h33 hF34 => ?_) fun h33 hF34 => ?_
    ·try simp [go_sem]
     refine pw_cl hF34 [.io, .sh, .sh, .sh, .sh] c_slices_swapRangeCmpFunc_impl_ViewCount__io0_impl_gathered_1 rfl rfl (by (try simp [go_sem, clE]); first | rfl | done) (by rfl) (by (try simp [go_sem]); first | rfl | done) fun z35 hF36 => ⟨by simp [go_sem], ?_⟩
     try simp [go_sem]
     refine pw_wkK [0, 2, 4, 10, 11] (by simp [go_sem]; rfl) ?_
     try simp [go_sem]
     exact hg26 (z35, IntKind.i64.wrap (s23.2.1 - s23.2.2), s23.2.2) _ (by simp [go_sem]) (Rn_some hF36)
    ·try simp [go_sem]
     refine pw_cl hF34 [.io, .sh, .sh, .sh, .sh] c_slices_swapRangeCmpFunc_impl_ViewCount__io0_impl_gathered_1 rfl rfl (by (try simp [go_sem, clE]); first | rfl | done) (by rfl) (by (try simp [go_sem]); first | rfl | done) fun z37 hF38 => ⟨by simp [go_sem], ?_⟩
     try simp [go_sem]
     refine pw_wkK [0, 2, 4, 10, 11] (by simp [go_sem]; rfl) ?_
     try simp [go_sem]
     exact hg26 (z37, s23.2.1, IntKind.i64.wrap (s23.2.2 - s23.2.1)) _ (by simp [go_sem]) (Rn_some hF38)
   ·try simp [go_sem]
    cases ho25 _ (Rn_some hF32)
    exact hj1 (s23.1, s23.2.1) _ (by simp [go_sem]) hψ27
noncomputable def F_slices_symMergeCmpFunc_impl_ViewCount__io0_impl_gathered_1_r : Nat → (List ViewCount) → Int → Int → Int → Option ((List ViewCount))
  | 0, _, _, _, _ => none
  | n_ + 1, a0, a1, a2, a3 =>
  if ((IntKind.i64.wrap (a2 - a1)) == 1) = true then (
  ((wloop (σ := Int × Int) (β := Int) (fun s9 =>
  if decide (s9.1 < s9.2) = true then (
  (ix a0 (IntKind.i64.wrap ((IntKind.u64.wrap (IntKind.i64.wrap (s9.1 + s9.2))).fdiv 2))).bind fun x20 =>
  (ix a0 a1).bind fun x23 =>
  (F_impl_gathered_1 x20 x23).bind fun z26 =>
  if decide (z26 < 0) = true then (
  some (.go (IntKind.i64.wrap ((IntKind.i64.wrap ((IntKind.u64.wrap (IntKind.i64.wrap (s9.1 + s9.2))).fdiv 2)) + 1), s9.2))) else (
  some (.go (s9.1, IntKind.i64.wrap ((IntKind.u64.wrap (IntKind.i64.wrap (s9.1 + s9.2))).fdiv 2))))) else (
  some (.out s9.1))) (a2, a3) : Option (Int)).bind fun (x7 : Int) =>
  ((wloop (σ := (List ViewCount) × Int) (β := (List ViewCount)) (fun s57 =>
  if decide (s57.2 < (IntKind.i64.wrap (x7 - 1))) = true then (
  (ix s57.1 (IntKind.i64.wrap (s57.2 + 1))).bind fun x67 =>
  (ix s57.1 s57.2).bind fun x70 =>
  (ix (s57.1.set s57.2.toNat x67) (IntKind.i64.wrap (s57.2 + 1))).bind fun x73 =>
  some (.go ((s57.1.set s57.2.toNat x67).set ((IntKind.i64.wrap (s57.2 + 1)).toNat) x70, IntKind.i64.wrap (s57.2 + 1)))) else (
  some (.out s57.1))) (a0, a1) : Option ((List ViewCount))).bind fun (x36 : (List ViewCount)) =>
  some x36))) else (
  if ((IntKind.i64.wrap (a3 - a2)) == 1) = true then (
  ((wloop (σ := Int × Int) (β := Int) (fun s86 =>
  if decide (s86.1 < s86.2) = true then (
  (ix a0 a2).bind fun x97 =>
  (ix a0 (IntKind.i64.wrap ((IntKind.u64.wrap (IntKind.i64.wrap (s86.1 + s86.2))).fdiv 2))).bind fun x100 =>
  (F_impl_gathered_1 x97 x100).bind fun z103 =>
  if (!(decide (z103 < 0))) = true then (
  some (.go (IntKind.i64.wrap ((IntKind.i64.wrap ((IntKind.u64.wrap (IntKind.i64.wrap (s86.1 + s86.2))).fdiv 2)) + 1), s86.2))) else (
  some (.go (s86.1, IntKind.i64.wrap ((IntKind.u64.wrap (IntKind.i64.wrap (s86.1 + s86.2))).fdiv 2))))) else (
  some (.out s86.1))) (a1, a2) : Option (Int)).bind fun (x84 : Int) =>
  ((wloop (σ := (List ViewCount) × Int) (β := (List ViewCount)) (fun s134 =>
  if decide (x84 < s134.2) = true then (
  (ix s134.1 (IntKind.i64.wrap (s134.2 - 1))).bind fun x144 =>
  (ix s134.1 s134.2).bind fun x147 =>
  (ix (s134.1.set s134.2.toNat x144) (IntKind.i64.wrap (s134.2 - 1))).bind fun x150 =>
  some (.go ((s134.1.set s134.2.toNat x144).set ((IntKind.i64.wrap (s134.2 - 1)).toNat) x147, IntKind.i64.wrap (s134.2 - 1)))) else (
  some (.out s134.1))) (a0, a2) : Option ((List ViewCount))).bind fun (x113 : (List ViewCount)) =>
  some x113))) else (
  ((if decide ((IntKind.i64.wrap ((IntKind.u64.wrap (IntKind.i64.wrap (a1 + a3))).fdiv 2)) < a2) = true then (
  some (IntKind.i64.wrap ((IntKind.i64.wrap ((IntKind.i64.wrap ((IntKind.u64.wrap (IntKind.i64.wrap (a1 + a3))).fdiv 2)) + a2)) - a3), IntKind.i64.wrap ((IntKind.u64.wrap (IntKind.i64.wrap (a1 + a3))).fdiv 2))) else (
  some (a1, a2)) : Option ((Int × Int))).bind fun (x160 : Int × Int) =>
  ((wloop (σ := Int × Int) (β := Int) (fun s170 =>
  if decide (s170.1 < s170.2) = true then (
  (ix a0 (IntKind.i64.wrap ((IntKind.i64.wrap ((IntKind.i64.wrap ((IntKind.i64.wrap ((IntKind.u64.wrap (IntKind.i64.wrap (a1 + a3))).fdiv 2)) + a2)) - 1)) - (IntKind.i64.wrap ((IntKind.u64.wrap (IntKind.i64.wrap (s170.1 + s170.2))).fdiv 2))))).bind fun x181 =>
  (ix a0 (IntKind.i64.wrap ((IntKind.u64.wrap (IntKind.i64.wrap (s170.1 + s170.2))).fdiv 2))).bind fun x184 =>
  (F_impl_gathered_1 x181 x184).bind fun z187 =>
  if (!(decide (z187 < 0))) = true then (
  some (.go (IntKind.i64.wrap ((IntKind.i64.wrap ((IntKind.u64.wrap (IntKind.i64.wrap (s170.1 + s170.2))).fdiv 2)) + 1), s170.2))) else (
  some (.go (s170.1, IntKind.i64.wrap ((IntKind.u64.wrap (IntKind.i64.wrap (s170.1 + s170.2))).fdiv 2))))) else (
  some (.out s170.1))) (x160.1, x160.2) : Option (Int)).bind fun (x168 : Int) =>
  ((if decide (x168 < a2) = true then (
  some (decide (a2 < (IntKind.i64.wrap ((IntKind.i64.wrap ((IntKind.i64.wrap ((IntKind.u64.wrap (IntKind.i64.wrap (a1 + a3))).fdiv 2)) + a2)) - x168))))) else (
  some false) : Option (Bool)).bind fun (x197 : Bool) =>
  ((if x197 = true then (
  (F_slices_rotateCmpFunc_impl_ViewCount__io0_impl_gathered_1 a0 x168 a2 (IntKind.i64.wrap ((IntKind.i64.wrap ((IntKind.i64.wrap ((IntKind.u64.wrap (IntKind.i64.wrap (a1 + a3))).fdiv 2)) + a2)) - x168))).bind fun z209 =>
  some z209) else (
  some a0) : Option ((List ViewCount))).bind fun (x205 : (List ViewCount)) =>
  ((if decide (a1 < x168) = true then (
  some (decide (x168 < (IntKind.i64.wrap ((IntKind.u64.wrap (IntKind.i64.wrap (a1 + a3))).fdiv 2))))) else (
  some false) : Option (Bool)).bind fun (x215 : Bool) =>
  ((if x215 = true then (
  (F_slices_symMergeCmpFunc_impl_ViewCount__io0_impl_gathered_1_r n_ x205 a1 x168 (IntKind.i64.wrap ((IntKind.u64.wrap (IntKind.i64.wrap (a1 + a3))).fdiv 2))).bind fun z227 =>
  some z227) else (
  some x205) : Option ((List ViewCount))).bind fun (x223 : (List ViewCount)) =>
  ((if decide ((IntKind.i64.wrap ((IntKind.u64.wrap (IntKind.i64.wrap (a1 + a3))).fdiv 2)) < (IntKind.i64.wrap ((IntKind.i64.wrap ((IntKind.i64.wrap ((IntKind.u64.wrap (IntKind.i64.wrap (a1 + a3))).fdiv 2)) + a2)) - x168))) = true then (
  some (decide ((IntKind.i64.wrap ((IntKind.i64.wrap ((IntKind.i64.wrap ((IntKind.u64.wrap (IntKind.i64.wrap (a1 + a3))).fdiv 2)) + a2)) - x168)) < a3))) else (
  some false) : Option (Bool)).bind fun (x233 : Bool) =>
  if x233 = true then (
  (F_slices_symMergeCmpFunc_impl_ViewCount__io0_impl_gathered_1_r n_ x223 (IntKind.i64.wrap ((IntKind.u64.wrap (IntKind.i64.wrap (a1 + a3))).fdiv 2)) (IntKind.i64.wrap ((IntKind.i64.wrap ((IntKind.i64.wrap ((IntKind.u64.wrap (IntKind.i64.wrap (a1 + a3))).fdiv 2)) + a2)) - x168)) a3).bind fun z239 =>
  some z239) else (
  some x223))))))))))
noncomputable def F_slices_symMergeCmpFunc_impl_ViewCount__io0_impl_gathered_1 (a0 : (List ViewCount)) (a1 : Int) (a2 : Int) (a3 : Int) : Option ((List ViewCount)) := frec fun n_ => F_slices_symMergeCmpFunc_impl_ViewCount__io0_impl_gathered_1_r n_ a0 a1 a2 a3
theorem c_slices_symMergeCmpFunc_impl_ViewCount__io0_impl_gathered_1_r : ∀ {n_ : Nat} {a0 : (List ViewCount)} {a1 : Int} {a2 : Int} {a3 : Int} {r : (List ViewCount)} (hr : F_slices_symMergeCmpFunc_impl_ViewCount__io0_impl_gathered_1_r n_ a0 a1 a2 a3 = some r), PCalls Try.prog 165 [(.io, .sl true 2 (a0.map row_ViewCount_z)), (.sh, .int .i64 a1), (.sh, .int .i64 a2), (.sh, .int .i64 a3), (.sh, .func (.func 125) [] [])] (Eo (.junk) [.sl true 2 (r.map row_ViewCount_z), .junk, .junk, .junk, .junk]) := by
  intro n_
  induction n_ with
  | zero => intro a0 a1 a2 a3 r hr; cases hr
  | succ n_ ih =>
    intro a0 a1 a2 a3 r hr
    apply pcalls_lf 220 [0] [] [] [] hr cl165 Try.func165 rfl rfl rfl
    · exact ⟨by simp, rfl⟩
    intro Φ hΦ hF
    simp only [F_slices_symMergeCmpFunc_impl_ViewCount__io0_impl_gathered_1_r] at hF
    try simp [go_sem]
    refine pw_wk ?_
    repeat rw [sq]
    refine pw_cF hF (by simp [go_sem]) (fun h1 hF2 => ?_) fun h1 hF2 => ?_
    ·iterate 2 (try simp [go_sem]; refine pw_wk ?_)
     repeat rw [sq]
     refine pw_joinF (fun (x7 : Int) => [(0, .v (.sl true 2 (a0.map row_ViewCount_z))), (1, .v (.int .i64 a1)), (10, .v (.int .i64 x7))]) hF2 ?_ ?_
     ·intro x7 hF8
      try simp [go_sem]
      refine pw_wkK [0, 10, 13] (by simp [go_sem]; rfl) ?_
      repeat rw [sq]
      refine pw_joinF (fun (x36 : (List ViewCount)) => [(0, .v (.sl true 2 (x36.map row_ViewCount_z)))]) hF8 ?_ ?_
      ·intro x36 hF37
       cases hΦ _ (Rn_some hF37)
       try simp [go_sem]
      ·intro ψ34 hj32 hF35
       repeat rw [sq]
       rw [pw_block]
       obtain ⟨b76, hb77, hψ61⟩ := hF35
       refine pw_wloop (fun (s57 : (List ViewCount) × Int) => [(0, .v (.sl true 2 (s57.1.map row_ViewCount_z))), (10, .v (.int .i64 x7)), (13, .v (.int .i64 s57.2))]) hb77 (by simp [go_sem]) ?_
       intro s57 φ62 N63 ho59 hg60 hF64
       try simp [go_sem]
       refine pw_wk ?_
       repeat rw [sq]
       refine pw_cF hF64 (by simp [go_sem]) (fun h65 hF66 => ?_) fun h65 hF66 => ?_
       ·try simp [go_sem]
        refine pw_wk ?_
        repeat rw [sq]
        rw [pw_block]
        repeat rw [sq]
        refine pw_draw D165_11 follows (by kernel_rfl) rfl ?_
        try simp only [go_sem, D165_11]
        obtain ⟨x67, g68, hF69⟩ := Rn_ix hF66
        obtain ⟨x70, g71, hF72⟩ := Rn_ix hF69
        obtain ⟨x73, g74, hF75⟩ := Rn_ix hF72
        try simp [go_sem, g68, g71, g74]
        refine pw_wkK [0, 10, 13] (by simp [go_sem, g68, g71, g74]; rfl) ?_
        try simp [go_sem, g68, g71, g74]
        exact hg60 ((s57.1.set s57.2.toNat x67).set ((IntKind.i64.wrap (s57.2 + 1)).toNat) x70, IntKind.i64.wrap (s57.2 + 1)) _ (by simp [go_sem, g68, g71, g74]) (Rn_some hF75)
       ·try simp [go_sem]
        cases ho59 _ (Rn_some hF66)
        exact hj32 s57.1 _ (by simp [go_sem]) hψ61
     ·intro ψ5 hj3 hF6
      repeat rw [sq]
      rw [pw_block]
      obtain ⟨b30, hb31, hψ13⟩ := hF6
      refine pw_wloop (fun (s9 : Int × Int) => [(0, .v (.sl true 2 (a0.map row_ViewCount_z))), (1, .v (.int .i64 a1)), (4, .v (.func (.func 125) [] [])), (10, .v (.int .i64 s9.1)), (11, .v (.int .i64 s9.2))]) hb31 (by simp [go_sem]) ?_
      intro s9 φ14 N15 ho11 hg12 hF16
      try simp [go_sem]
      refine pw_wkK [0, 1, 4, 10, 11, 33] (by simp [go_sem]; rfl) ?_
      repeat rw [sq]
      refine pw_cF hF16 (by simp [go_sem]) (fun h17 hF18 => ?_) fun h17 hF18 => ?_
      ·try simp [go_sem]
       refine pw_wk ?_
       repeat rw [sq]
       rw [pw_block]
       have g19 := fun x => shV0_ge (b := 1) (x := x) (by decide)
       try simp [go_sem, g19]
       refine pw_wk ?_
       repeat rw [sq]
       refine pw_draw D165_5 follows (by kernel_rfl) rfl ?_
       try simp only [go_sem, D165_5]
       obtain ⟨x20, g21, hF22⟩ := Rn_ix hF18
       obtain ⟨x23, g24, hF25⟩ := Rn_ix hF22
       try simp [go_sem, g19, g21, g24]
       refine pw_cl hF25 [.sh, .sh] c_impl_gathered_1 rfl rfl (by (try simp [go_sem, clE, g19, g21, g24]); first | rfl | done) (by rfl) (by (try simp [go_sem, g19, g21, g24]); first | rfl | done) fun z26 hF27 => ⟨by simp [go_sem], ?_⟩
       try simp [go_sem, g19, g21, g24]
       refine pw_wkK [0, 1, 4, 10, 11, 12, 50] (by simp [go_sem, g19, g21, g24]; rfl) ?_
       repeat rw [sq]
       refine pw_cF hF27 (by simp [go_sem, g19, g21, g24]) (fun h28 hF29 => ?_) fun h28 hF29 => ?_
       ·try simp [go_sem, g19, g21, g24]
        exact hg12 (IntKind.i64.wrap ((IntKind.i64.wrap ((IntKind.u64.wrap (IntKind.i64.wrap (s9.1 + s9.2))).fdiv 2)) + 1), s9.2) _ (by simp [go_sem, g19, g21, g24]) (Rn_some hF29)
       ·try simp [go_sem, g19, g21, g24]
        exact hg12 (s9.1, IntKind.i64.wrap ((IntKind.u64.wrap (IntKind.i64.wrap (s9.1 + s9.2))).fdiv 2)) _ (by simp [go_sem, g19, g21, g24]) (Rn_some hF29)
      ·try simp [go_sem]
       cases ho11 _ (Rn_some hF18)
       exact hj3 s9.1 _ (by simp [go_sem]) hψ13
    ·iterate 2 (try simp [go_sem]; refine pw_wk ?_)
     repeat rw [sq]
     refine pw_cF hF2 (by simp [go_sem]) (fun h78 hF79 => ?_) fun h78 hF79 => ?_
     ·try simp [go_sem]
      refine pw_wkK [0, 2, 4, 14] (by simp [go_sem]; rfl) ?_
      try simp [go_sem]
      refine pw_wk ?_
      repeat rw [sq]
      refine pw_joinF (fun (x84 : Int) => [(0, .v (.sl true 2 (a0.map row_ViewCount_z))), (2, .v (.int .i64 a2)), (14, .v (.int .i64 x84))]) hF79 ?_ ?_
      ·intro x84 hF85
       try simp [go_sem]
       refine pw_wk ?_
       repeat rw [sq]
       refine pw_joinF (fun (x113 : (List ViewCount)) => [(0, .v (.sl true 2 (x113.map row_ViewCount_z)))]) hF85 ?_ ?_
       ·intro x113 hF114
        cases hΦ _ (Rn_some hF114)
        try simp [go_sem]
       ·intro ψ111 hj109 hF112
        repeat rw [sq]
        rw [pw_block]
        obtain ⟨b153, hb154, hψ138⟩ := hF112
        refine pw_wloop (fun (s134 : (List ViewCount) × Int) => [(0, .v (.sl true 2 (s134.1.map row_ViewCount_z))), (14, .v (.int .i64 x84)), (17, .v (.int .i64 s134.2))]) hb154 (by simp [go_sem]) ?_
        intro s134 φ139 N140 ho136 hg137 hF141
        try simp [go_sem]
        refine pw_wk ?_
        repeat rw [sq]
        refine pw_cF hF141 (by simp [go_sem]) (fun h142 hF143 => ?_) fun h142 hF143 => ?_
        ·try simp [go_sem]
         refine pw_wk ?_
         repeat rw [sq]
         rw [pw_block]
         repeat rw [sq]
         refine pw_draw D165_23 follows (by kernel_rfl) rfl ?_
         try simp only [go_sem, D165_23]
         obtain ⟨x144, g145, hF146⟩ := Rn_ix hF143
         obtain ⟨x147, g148, hF149⟩ := Rn_ix hF146
         obtain ⟨x150, g151, hF152⟩ := Rn_ix hF149
         try simp [go_sem, g145, g148, g151]
         refine pw_wkK [0, 14, 17] (by simp [go_sem, g145, g148, g151]; rfl) ?_
         try simp [go_sem, g145, g148, g151]
         exact hg137 ((s134.1.set s134.2.toNat x144).set ((IntKind.i64.wrap (s134.2 - 1)).toNat) x147, IntKind.i64.wrap (s134.2 - 1)) _ (by simp [go_sem, g145, g148, g151]) (Rn_some hF152)
        ·try simp [go_sem]
         cases ho136 _ (Rn_some hF143)
         exact hj109 s134.1 _ (by simp [go_sem]) hψ138
      ·intro ψ82 hj80 hF83
       repeat rw [sq]
       rw [pw_block]
       obtain ⟨b107, hb108, hψ90⟩ := hF83
       refine pw_wloop (fun (s86 : Int × Int) => [(0, .v (.sl true 2 (a0.map row_ViewCount_z))), (2, .v (.int .i64 a2)), (4, .v (.func (.func 125) [] [])), (14, .v (.int .i64 s86.1)), (15, .v (.int .i64 s86.2))]) hb108 (by simp [go_sem]) ?_
       intro s86 φ91 N92 ho88 hg89 hF93
       try simp [go_sem]
       refine pw_wk ?_
       repeat rw [sq]
       refine pw_cF hF93 (by simp [go_sem]) (fun h94 hF95 => ?_) fun h94 hF95 => ?_
       ·try simp [go_sem]
        refine pw_wk ?_
        repeat rw [sq]
        rw [pw_block]
        have g96 := fun x => shV0_ge (b := 1) (x := x) (by decide)
        try simp [go_sem, g96]
        refine pw_wkK [0, 2, 4, 14, 15, 16] (by simp [go_sem, g96]; rfl) ?_
        repeat rw [sq]
        refine pw_draw D165_17 follows (by kernel_rfl) rfl ?_
        try simp only [go_sem, D165_17]
        obtain ⟨x97, g98, hF99⟩ := Rn_ix hF95
        obtain ⟨x100, g101, hF102⟩ := Rn_ix hF99
        try simp [go_sem, g96, g98, g101]
        refine pw_cl hF102 [.sh, .sh] c_impl_gathered_1 rfl rfl (by (try simp [go_sem, clE, g96, g98, g101]); first | rfl | done) (by rfl) (by (try simp [go_sem, g96, g98, g101]); first | rfl | done) fun z103 hF104 => ⟨by simp [go_sem], ?_⟩
        try simp [go_sem, g96, g98, g101]
        refine pw_wkK [0, 2, 4, 14, 15, 16, 103] (by simp [go_sem, g96, g98, g101]; rfl) ?_
        repeat rw [sq]
        refine pw_cF hF104 (by simp [go_sem, g96, g98, g101]) (fun h105 hF106 => ?_) fun h105 hF106 => ?_
        ·try simp [go_sem, g96, g98, g101]
         exact hg89 (IntKind.i64.wrap ((IntKind.i64.wrap ((IntKind.u64.wrap (IntKind.i64.wrap (s86.1 + s86.2))).fdiv 2)) + 1), s86.2) _ (by simp [go_sem, g96, g98, g101]) (Rn_some hF106)
        ·try simp [go_sem, g96, g98, g101]
         exact hg89 (s86.1, IntKind.i64.wrap ((IntKind.u64.wrap (IntKind.i64.wrap (s86.1 + s86.2))).fdiv 2)) _ (by simp [go_sem, g96, g98, g101]) (Rn_some hF106)
       ·try simp [go_sem]
        cases ho88 _ (Rn_some hF95)
        exact hj80 s86.1 _ (by simp [go_sem]) hψ90
     ·have g155 := fun x => shV0_ge (b := 1) (x := x) (by decide)
      try simp [go_sem, g155]
      refine pw_wk ?_
      try simp [go_sem, g155]
      refine pw_wkK [0, 1, 2, 3, 4, 18] (by simp [go_sem, g155]; rfl) ?_
      iterate 3 (try simp [go_sem, g155]; refine pw_wk ?_)
      repeat rw [sq]
      refine pw_joinF (fun (x160 : Int × Int) => [(0, .v (.sl true 2 (a0.map row_ViewCount_z))), (1, .v (.int .i64 a1)), (2, .v (.int .i64 a2)), (3, .v (.int .i64 a3)), (4, .v (.func (.func 125) [] [])), (18, .v (.int .i64 (IntKind.i64.wrap ((IntKind.u64.wrap (IntKind.i64.wrap (a1 + a3))).fdiv 2)))), (19, .v (.int .i64 (IntKind.i64.wrap ((IntKind.i64.wrap ((IntKind.u64.wrap (IntKind.i64.wrap (a1 + a3))).fdiv 2)) + a2)))), (20, .v (.int .i64 x160.1)), (21, .v (.int .i64 x160.2))]) hF79 ?_ ?_
      ·intro x160 hF161
       try simp [go_sem, g155]
       refine pw_wkK [0, 1, 2, 3, 4, 18, 19, 20, 21, 22] (by simp [go_sem, g155]; rfl) ?_
       repeat rw [sq]
       refine pw_joinF (fun (x168 : Int) => [(0, .v (.sl true 2 (a0.map row_ViewCount_z))), (1, .v (.int .i64 a1)), (2, .v (.int .i64 a2)), (3, .v (.int .i64 a3)), (4, .v (.func (.func 125) [] [])), (18, .v (.int .i64 (IntKind.i64.wrap ((IntKind.u64.wrap (IntKind.i64.wrap (a1 + a3))).fdiv 2)))), (19, .v (.int .i64 (IntKind.i64.wrap ((IntKind.i64.wrap ((IntKind.u64.wrap (IntKind.i64.wrap (a1 + a3))).fdiv 2)) + a2)))), (20, .v (.int .i64 x168))]) hF161 ?_ ?_
       ·intro x168 hF169
        try simp [go_sem, g155]
        refine pw_wk ?_
        repeat rw [sq]
        refine pw_joinF (fun (x197 : Bool) => [(0, .v (.sl true 2 (a0.map row_ViewCount_z))), (1, .v (.int .i64 a1)), (2, .v (.int .i64 a2)), (3, .v (.int .i64 a3)), (4, .v (.func (.func 125) [] [])), (18, .v (.int .i64 (IntKind.i64.wrap ((IntKind.u64.wrap (IntKind.i64.wrap (a1 + a3))).fdiv 2)))), (20, .v (.int .i64 x168)), (24, .v (.int .i64 (IntKind.i64.wrap ((IntKind.i64.wrap ((IntKind.i64.wrap ((IntKind.u64.wrap (IntKind.i64.wrap (a1 + a3))).fdiv 2)) + a2)) - x168)))), (185, .v (.bool x197))]) hF169 ?_ ?_
        ·intro x197 hF198
         repeat rw [sq]
         refine pw_joinF (fun (x205 : (List ViewCount)) => [(0, .v (.sl true 2 (x205.map row_ViewCount_z))), (1, .v (.int .i64 a1)), (3, .v (.int .i64 a3)), (4, .v (.func (.func 125) [] [])), (18, .v (.int .i64 (IntKind.i64.wrap ((IntKind.u64.wrap (IntKind.i64.wrap (a1 + a3))).fdiv 2)))), (20, .v (.int .i64 x168)), (24, .v (.int .i64 (IntKind.i64.wrap ((IntKind.i64.wrap ((IntKind.i64.wrap ((IntKind.u64.wrap (IntKind.i64.wrap (a1 + a3))).fdiv 2)) + a2)) - x168))))]) hF198 ?_ ?_
         ·intro x205 hF206
          repeat rw [sq]
          refine pw_joinF (fun (x215 : Bool) => [(0, .v (.sl true 2 (x205.map row_ViewCount_z))), (1, .v (.int .i64 a1)), (3, .v (.int .i64 a3)), (4, .v (.func (.func 125) [] [])), (18, .v (.int .i64 (IntKind.i64.wrap ((IntKind.u64.wrap (IntKind.i64.wrap (a1 + a3))).fdiv 2)))), (20, .v (.int .i64 x168)), (24, .v (.int .i64 (IntKind.i64.wrap ((IntKind.i64.wrap ((IntKind.i64.wrap ((IntKind.u64.wrap (IntKind.i64.wrap (a1 + a3))).fdiv 2)) + a2)) - x168)))), (199, .v (.bool x215))]) hF206 ?_ ?_
          ·intro x215 hF216
           repeat rw [sq]
           refine pw_joinF (fun (x223 : (List ViewCount)) => [(0, .v (.sl true 2 (x223.map row_ViewCount_z))), (3, .v (.int .i64 a3)), (4, .v (.func (.func 125) [] [])), (18, .v (.int .i64 (IntKind.i64.wrap ((IntKind.u64.wrap (IntKind.i64.wrap (a1 + a3))).fdiv 2)))), (24, .v (.int .i64 (IntKind.i64.wrap ((IntKind.i64.wrap ((IntKind.i64.wrap ((IntKind.u64.wrap (IntKind.i64.wrap (a1 + a3))).fdiv 2)) + a2)) - x168))))]) hF216 ?_ ?_
           ·intro x223 hF224
            repeat rw [sq]
            refine pw_joinF (fun (x233 : Bool) => [(0, .v (.sl true 2 (x223.map row_ViewCount_z))), (3, .v (.int .i64 a3)), (4, .v (.func (.func 125) [] [])), (18, .v (.int .i64 (IntKind.i64.wrap ((IntKind.u64.wrap (IntKind.i64.wrap (a1 + a3))).fdiv 2)))), (24, .v (.int .i64 (IntKind.i64.wrap ((IntKind.i64.wrap ((IntKind.i64.wrap ((IntKind.u64.wrap (IntKind.i64.wrap (a1 + a3))).fdiv 2)) + a2)) - x168)))), (213, .v (.bool x233))]) hF224 ?_ ?_
            ·intro x233 hF234
             repeat rw [sq]
             refine pw_cF hF234 (by simp [go_sem, g155]) (fun h237 hF238 => ?_) fun h237 hF238 => ?_
             ·try simp [go_sem, g155]
              refine pw_cl hF238 [.io, .sh, .sh, .sh, .sh] ih rfl rfl (by (try simp [go_sem, clE, g155]); first | rfl | done) (by rfl) (by (try simp [go_sem, g155]); first | rfl | done) fun z239 hF240 => ⟨by simp [go_sem], ?_⟩
              cases hΦ _ (Rn_some hF240)
              try simp [go_sem, g155]
             ·cases hΦ _ (Rn_some hF238)
              try simp [go_sem, g155]
            ·intro ψ231 hj229 hF232
             try simp [go_sem, g155]
             refine pwg_F hF232 (fun h235 hF236 => ?_) fun h235 hF236 => ?_
             ·try simp [go_sem, g155, h235]
              exact hj229 (decide ((IntKind.i64.wrap ((IntKind.i64.wrap ((IntKind.i64.wrap ((IntKind.u64.wrap (IntKind.i64.wrap (a1 + a3))).fdiv 2)) + a2)) - x168)) < a3)) _ (by simp [go_sem, g155]) (Rn_some hF236)
             ·try simp [go_sem, g155, h235]
              exact hj229 false _ (by simp [go_sem, g155]) (Rn_some hF236)
           ·intro ψ221 hj219 hF222
            repeat rw [sq]
            refine pw_cF hF222 (by simp [go_sem, g155]) (fun h225 hF226 => ?_) fun h225 hF226 => ?_
            ·try simp [go_sem, g155]
             refine pw_cl hF226 [.io, .sh, .sh, .sh, .sh] ih rfl rfl (by (try simp [go_sem, clE, g155]); first | rfl | done) (by rfl) (by (try simp [go_sem, g155]); first | rfl | done) fun z227 hF228 => ⟨by simp [go_sem], ?_⟩
             try simp [go_sem, g155]
             exact hj219 z227 _ (by simp [go_sem, g155]) (Rn_some hF228)
            ·try simp [go_sem, g155]
             exact hj219 x205 _ (by simp [go_sem, g155]) (Rn_some hF226)
          ·intro ψ213 hj211 hF214
           try simp [go_sem, g155]
           refine pwg_F hF214 (fun h217 hF218 => ?_) fun h217 hF218 => ?_
           ·try simp [go_sem, g155, h217]
            exact hj211 (decide (x168 < (IntKind.i64.wrap ((IntKind.u64.wrap (IntKind.i64.wrap (a1 + a3))).fdiv 2)))) _ (by simp [go_sem, g155]) (Rn_some hF218)
           ·try simp [go_sem, g155, h217]
            exact hj211 false _ (by simp [go_sem, g155]) (Rn_some hF218)
         ·intro ψ203 hj201 hF204
          repeat rw [sq]
          refine pw_cF hF204 (by simp [go_sem, g155]) (fun h207 hF208 => ?_) fun h207 hF208 => ?_
          ·try simp [go_sem, g155]
           refine pw_cl hF208 [.io, .sh, .sh, .sh, .sh] c_slices_rotateCmpFunc_impl_ViewCount__io0_impl_gathered_1 rfl rfl (by (try simp [go_sem, clE, g155]); first | rfl | done) (by rfl) (by (try simp [go_sem, g155]); first | rfl | done) fun z209 hF210 => ⟨by simp [go_sem], ?_⟩
           try simp [go_sem, g155]
           exact hj201 z209 _ (by simp [go_sem, g155]) (Rn_some hF210)
          ·try simp [go_sem, g155]
           exact hj201 a0 _ (by simp [go_sem, g155]) (Rn_some hF208)
        ·intro ψ195 hj193 hF196
         try simp [go_sem, g155]
         refine pwg_F hF196 (fun h199 hF200 => ?_) fun h199 hF200 => ?_
         ·try simp [go_sem, g155, h199]
          exact hj193 (decide (a2 < (IntKind.i64.wrap ((IntKind.i64.wrap ((IntKind.i64.wrap ((IntKind.u64.wrap (IntKind.i64.wrap (a1 + a3))).fdiv 2)) + a2)) - x168)))) _ (by simp [go_sem, g155]) (Rn_some hF200)
         ·try simp [go_sem, g155, h199]
          exact hj193 false _ (by simp [go_sem, g155]) (Rn_some hF200)
       ·intro ψ166 hj164 hF167
        repeat rw [sq]
        rw [pw_block]
        obtain ⟨b191, hb192, hψ174⟩ := hF167
        refine pw_wloop (fun (s170 : Int × Int) => [(0, .v (.sl true 2 (a0.map row_ViewCount_z))), (1, .v (.int .i64 a1)), (2, .v (.int .i64 a2)), (3, .v (.int .i64 a3)), (4, .v (.func (.func 125) [] [])), (18, .v (.int .i64 (IntKind.i64.wrap ((IntKind.u64.wrap (IntKind.i64.wrap (a1 + a3))).fdiv 2)))), (19, .v (.int .i64 (IntKind.i64.wrap ((IntKind.i64.wrap ((IntKind.u64.wrap (IntKind.i64.wrap (a1 + a3))).fdiv 2)) + a2)))), (20, .v (.int .i64 s170.1)), (21, .v (.int .i64 s170.2)), (22, .v (.int .i64 (IntKind.i64.wrap ((IntKind.i64.wrap ((IntKind.i64.wrap ((IntKind.u64.wrap (IntKind.i64.wrap (a1 + a3))).fdiv 2)) + a2)) - 1))))]) hb192 (by simp [go_sem, g155]) ?_
        intro s170 φ175 N176 ho172 hg173 hF177
        try simp [go_sem, g155]
        refine pw_wk ?_
        repeat rw [sq]
        refine pw_cF hF177 (by simp [go_sem, g155]) (fun h178 hF179 => ?_) fun h178 hF179 => ?_
        ·try simp [go_sem, g155]
         refine pw_wk ?_
         repeat rw [sq]
         rw [pw_block]
         have g180 := fun x => shV0_ge (b := 1) (x := x) (by decide)
         try simp [go_sem, g155, g180]
         refine pw_wkK [0, 1, 2, 3, 4, 18, 19, 20, 21, 22, 23] (by simp [go_sem, g155, g180]; rfl) ?_
         repeat rw [sq]
         refine pw_draw D165_35 follows (by kernel_rfl) rfl ?_
         try simp only [go_sem, D165_35]
         obtain ⟨x181, g182, hF183⟩ := Rn_ix hF179
         obtain ⟨x184, g185, hF186⟩ := Rn_ix hF183
         try simp [go_sem, g155, g180, g182, g185]
         refine pw_cl hF186 [.sh, .sh] c_impl_gathered_1 rfl rfl (by (try simp [go_sem, clE, g155, g180, g182, g185]); first | rfl | done) (by rfl) (by (try simp [go_sem, g155, g180, g182, g185]); first | rfl | done) fun z187 hF188 => ⟨by simp [go_sem], ?_⟩
         try simp [go_sem, g155, g180, g182, g185]
         refine pw_wkK [0, 1, 2, 3, 4, 18, 19, 20, 21, 22, 23, 171] (by simp [go_sem, g155, g180, g182, g185]; rfl) ?_
         repeat rw [sq]
         refine pw_cF hF188 (by simp [go_sem, g155, g180, g182, g185]) (fun h189 hF190 => ?_) fun h189 hF190 => ?_
         ·try simp [go_sem, g155, g180, g182, g185]
          exact hg173 (IntKind.i64.wrap ((IntKind.i64.wrap ((IntKind.u64.wrap (IntKind.i64.wrap (s170.1 + s170.2))).fdiv 2)) + 1), s170.2) _ (by simp [go_sem, g155, g180, g182, g185]) (Rn_some hF190)
         ·try simp [go_sem, g155, g180, g182, g185]
          exact hg173 (s170.1, IntKind.i64.wrap ((IntKind.u64.wrap (IntKind.i64.wrap (s170.1 + s170.2))).fdiv 2)) _ (by simp [go_sem, g155, g180, g182, g185]) (Rn_some hF190)
        ·try simp [go_sem, g155]
         cases ho172 _ (Rn_some hF179)
         exact hj164 s170.1 _ (by simp [go_sem, g155]) hψ174
      ·intro ψ158 hj156 hF159
       repeat rw [sq]
       refine pw_cF hF159 (by simp [go_sem, g155]) (fun h162 hF163 => ?_) fun h162 hF163 => ?_
       ·try simp [go_sem, g155]
        refine pw_wkK [0, 1, 2, 3, 4, 18, 19, 20] (by simp [go_sem, g155]; rfl) ?_
        try simp [go_sem, g155]
        exact hj156 (IntKind.i64.wrap ((IntKind.i64.wrap ((IntKind.i64.wrap ((IntKind.u64.wrap (IntKind.i64.wrap (a1 + a3))).fdiv 2)) + a2)) - a3), IntKind.i64.wrap ((IntKind.u64.wrap (IntKind.i64.wrap (a1 + a3))).fdiv 2)) _ (by simp [go_sem, g155]) (Rn_some hF163)
       ·try simp [go_sem, g155]
        refine pw_wkK [0, 1, 2, 3, 4, 18, 19, 20] (by simp [go_sem, g155]; rfl) ?_
        try simp [go_sem, g155]
        exact hj156 (a1, a2) _ (by simp [go_sem, g155]) (Rn_some hF163)
theorem c_slices_symMergeCmpFunc_impl_ViewCount__io0_impl_gathered_1 {a0 : (List ViewCount)} {a1 : Int} {a2 : Int} {a3 : Int} {r : (List ViewCount)} (hr : F_slices_symMergeCmpFunc_impl_ViewCount__io0_impl_gathered_1 a0 a1 a2 a3 = some r) : PCalls Try.prog 165 [(.io, .sl true 2 (a0.map row_ViewCount_z)), (.sh, .int .i64 a1), (.sh, .int .i64 a2), (.sh, .int .i64 a3), (.sh, .func (.func 125) [] [])] (Eo (.junk) [.sl true 2 (r.map row_ViewCount_z), .junk, .junk, .junk, .junk]) := by
  obtain ⟨n_, hn⟩ := frec_some hr
  exact c_slices_symMergeCmpFunc_impl_ViewCount__io0_impl_gathered_1_r hn
noncomputable def F_slices_stableCmpFunc_impl_ViewCount__io0_impl_gathered_1 (a0 : (List ViewCount)) (a1 : Int) : Option ((List ViewCount)) :=
  ((wloop (σ := (List ViewCount) × Int × Int) (β := ((List ViewCount) × Int)) (fun s19 =>
  if decide (s19.2.2 ≤ a1) = true then (
  (F_slices_insertionSortCmpFunc_impl_ViewCount__io0_impl_gathered_1 s19.1 s19.2.1 s19.2.2).bind fun z29 =>
  some (.go (z29, s19.2.2, IntKind.i64.wrap (s19.2.2 + 20)))) else (
  some (.out (s19.1, s19.2.1)))) (a0, 0, 20) : Option (((List ViewCount) × Int))).bind fun (x5 : (List ViewCount) × Int) =>
  (F_slices_insertionSortCmpFunc_impl_ViewCount__io0_impl_gathered_1 x5.1 x5.2 a1).bind fun z33 =>
  wloop (σ := (List ViewCount) × Int) (β := (List ViewCount)) (fun s87 =>
  if decide (s87.2 < a1) = true then (
  ((wloop (σ := (List ViewCount) × Int × Int) (β := ((List ViewCount) × Int)) (fun s115 =>
  if decide (s115.2.2 ≤ a1) = true then (
  (F_slices_symMergeCmpFunc_impl_ViewCount__io0_impl_gathered_1 s115.1 s115.2.1 (IntKind.i64.wrap (s115.2.1 + s87.2)) s115.2.2).bind fun z125 =>
  some (.go (z125, s115.2.2, IntKind.i64.wrap (s115.2.2 + (IntKind.i64.wrap (2 * s87.2)))))) else (
  some (.out (s115.1, s115.2.1)))) (s87.1, 0, IntKind.i64.wrap (2 * s87.2)) : Option (((List ViewCount) × Int))).bind fun (x101 : (List ViewCount) × Int) =>
  ((if decide ((IntKind.i64.wrap (x101.2 + s87.2)) < a1) = true then (
  (F_slices_symMergeCmpFunc_impl_ViewCount__io0_impl_gathered_1 x101.1 x101.2 (IntKind.i64.wrap (x101.2 + s87.2)) a1).bind fun z137 =>
  some z137) else (
  some x101.1) : Option ((List ViewCount))).bind fun (x133 : (List ViewCount)) =>
  some (.go (x133, IntKind.i64.wrap (s87.2 * 2)))))) else (
  some (.out s87.1))) (z33, 20))
theorem c_slices_stableCmpFunc_impl_ViewCount__io0_impl_gathered_1 {a0 : (List ViewCount)} {a1 : Int} {r : (List ViewCount)} (hr : F_slices_stableCmpFunc_impl_ViewCount__io0_impl_gathered_1 a0 a1 = some r) : PCalls Try.prog 151 [(.io, .sl true 2 (a0.map row_ViewCount_z)), (.sh, .int .i64 a1), (.sh, .func (.func 125) [] [])] (Eo (.junk) [.sl true 2 (r.map row_ViewCount_z), .junk, .junk]) := by
  apply pcalls_lf 63 [0] [] [] [] hr cl151 Try.func151 rfl rfl rfl
  · exact ⟨by simp, rfl⟩
  intro Φ hΦ hF
  unfold F_slices_stableCmpFunc_impl_ViewCount__io0_impl_gathered_1 at hF
  iterate 2 (try simp [go_sem]; refine pw_wk ?_)
  repeat rw [sq]
  refine pw_joinF (fun (x5 : (List ViewCount) × Int) => [(0, .v (.sl true 2 (x5.1.map row_ViewCount_z))), (1, .v (.int .i64 a1)), (2, .v (.func (.func 125) [] [])), (6, .v (.int .i64 20)), (7, .v (.int .i64 x5.2))]) hF ?_ ?_
  ·intro x5 hF6
   try simp [go_sem]
   refine pw_cl hF6 [.io, .sh, .sh, .sh] c_slices_insertionSortCmpFunc_impl_ViewCount__io0_impl_gathered_1 rfl rfl (by (try simp [go_sem, clE]); first | rfl | done) (by rfl) (by (try simp [go_sem]); first | rfl | done) fun z33 hF34 => ⟨by simp [go_sem], ?_⟩
   try simp [go_sem]
   refine pw_wk ?_
   repeat rw [sq]
   rw [pw_block]
   obtain ⟨b139, hb140, hψ91⟩ := hF34
   refine pw_wloop (fun (s87 : (List ViewCount) × Int) => [(0, .v (.sl true 2 (s87.1.map row_ViewCount_z))), (1, .v (.int .i64 a1)), (2, .v (.func (.func 125) [] [])), (6, .v (.int .i64 s87.2))]) hb140 (by simp [go_sem]) ?_
   intro s87 φ92 N93 ho89 hg90 hF94
   try simp [go_sem]
   refine pw_wkK [0, 1, 2, 6, 30] (by simp [go_sem]; rfl) ?_
   repeat rw [sq]
   refine pw_cF hF94 (by simp [go_sem]) (fun h95 hF96 => ?_) fun h95 hF96 => ?_
   ·try simp [go_sem]
    refine pw_wk ?_
    repeat rw [sq]
    rw [pw_block]
    try simp [go_sem]
    refine pw_wk ?_
    repeat rw [sq]
    refine pw_joinF (fun (x101 : (List ViewCount) × Int) => [(0, .v (.sl true 2 (x101.1.map row_ViewCount_z))), (1, .v (.int .i64 a1)), (2, .v (.func (.func 125) [] [])), (6, .v (.int .i64 s87.2)), (7, .v (.int .i64 x101.2))]) hF96 ?_ ?_
    ·intro x101 hF102
     try simp [go_sem]
     refine pw_wk ?_
     try simp [go_sem]
     refine pw_wkK [0, 1, 2, 6, 7, 9, 54] (by simp [go_sem]; rfl) ?_
     repeat rw [sq]
     refine pw_joinF (fun (x133 : (List ViewCount)) => [(0, .v (.sl true 2 (x133.map row_ViewCount_z))), (1, .v (.int .i64 a1)), (2, .v (.func (.func 125) [] [])), (6, .v (.int .i64 s87.2))]) hF102 ?_ ?_
     ·intro x133 hF134
      try simp [go_sem]
      exact hg90 (x133, IntKind.i64.wrap (s87.2 * 2)) _ (by simp [go_sem]) (Rn_some hF134)
     ·intro ψ131 hj129 hF132
      repeat rw [sq]
      refine pw_cF hF132 (by simp [go_sem]) (fun h135 hF136 => ?_) fun h135 hF136 => ?_
      ·try simp [go_sem]
       refine pw_cl hF136 [.io, .sh, .sh, .sh, .sh] c_slices_symMergeCmpFunc_impl_ViewCount__io0_impl_gathered_1 rfl rfl (by (try simp [go_sem, clE]); first | rfl | done) (by rfl) (by (try simp [go_sem]); first | rfl | done) fun z137 hF138 => ⟨by simp [go_sem], ?_⟩
       try simp [go_sem]
       exact hj129 z137 _ (by simp [go_sem]) (Rn_some hF138)
      ·try simp [go_sem]
       exact hj129 x101.1 _ (by simp [go_sem]) (Rn_some hF136)
    ·intro ψ99 hj97 hF100
     repeat rw [sq]
     rw [pw_block]
     obtain ⟨b127, hb128, hψ119⟩ := hF100
     refine pw_wloop (fun (s115 : (List ViewCount) × Int × Int) => [(0, .v (.sl true 2 (s115.1.map row_ViewCount_z))), (1, .v (.int .i64 a1)), (2, .v (.func (.func 125) [] [])), (6, .v (.int .i64 s87.2)), (7, .v (.int .i64 s115.2.1)), (8, .v (.int .i64 s115.2.2))]) hb128 (by simp [go_sem]) ?_
     intro s115 φ120 N121 ho117 hg118 hF122
     try simp [go_sem]
     refine pw_wk ?_
     repeat rw [sq]
     refine pw_cF hF122 (by simp [go_sem]) (fun h123 hF124 => ?_) fun h123 hF124 => ?_
     ·try simp [go_sem]
      refine pw_wk ?_
      repeat rw [sq]
      rw [pw_block]
      try simp [go_sem]
      refine pw_cl hF124 [.io, .sh, .sh, .sh, .sh] c_slices_symMergeCmpFunc_impl_ViewCount__io0_impl_gathered_1 rfl rfl (by (try simp [go_sem, clE]); first | rfl | done) (by rfl) (by (try simp [go_sem]); first | rfl | done) fun z125 hF126 => ⟨by simp [go_sem], ?_⟩
      try simp [go_sem]
      refine pw_wkK [0, 1, 2, 6, 8] (by simp [go_sem]; rfl) ?_
      try simp [go_sem]
      refine pw_wk ?_
      try simp [go_sem]
      exact hg118 (z125, s115.2.2, IntKind.i64.wrap (s115.2.2 + (IntKind.i64.wrap (2 * s87.2)))) _ (by simp [go_sem]) (Rn_some hF126)
     ·try simp [go_sem]
      cases ho117 _ (Rn_some hF124)
      exact hj97 (s115.1, s115.2.1) _ (by simp [go_sem]) hψ119
   ·cases ho89 _ (Rn_some hF96)
    cases hΦ _ hψ91
    try simp [go_sem]
  ·intro ψ3 hj1 hF4
   repeat rw [sq]
   rw [pw_block]
   obtain ⟨b31, hb32, hψ23⟩ := hF4
   refine pw_wloop (fun (s19 : (List ViewCount) × Int × Int) => [(0, .v (.sl true 2 (s19.1.map row_ViewCount_z))), (1, .v (.int .i64 a1)), (2, .v (.func (.func 125) [] [])), (6, .v (.int .i64 20)), (7, .v (.int .i64 s19.2.1)), (8, .v (.int .i64 s19.2.2))]) hb32 (by simp [go_sem]) ?_
   intro s19 φ24 N25 ho21 hg22 hF26
   try simp [go_sem]
   refine pw_wk ?_
   repeat rw [sq]
   refine pw_cF hF26 (by simp [go_sem]) (fun h27 hF28 => ?_) fun h27 hF28 => ?_
   ·try simp [go_sem]
    refine pw_wk ?_
    repeat rw [sq]
    rw [pw_block]
    try simp [go_sem]
    refine pw_cl hF28 [.io, .sh, .sh, .sh] c_slices_insertionSortCmpFunc_impl_ViewCount__io0_impl_gathered_1 rfl rfl (by (try simp [go_sem, clE]); first | rfl | done) (by rfl) (by (try simp [go_sem]); first | rfl | done) fun z29 hF30 => ⟨by simp [go_sem], ?_⟩
    try simp [go_sem]
    refine pw_wkK [0, 1, 2, 6, 8] (by simp [go_sem]; rfl) ?_
    try simp [go_sem]
    refine pw_wk ?_
    try simp [go_sem]
    exact hg22 (z29, s19.2.2, IntKind.i64.wrap (s19.2.2 + 20)) _ (by simp [go_sem]) (Rn_some hF30)
   ·try simp [go_sem]
    cases ho21 _ (Rn_some hF28)
    exact hj1 (s19.1, s19.2.1) _ (by simp [go_sem]) hψ23
noncomputable def F_slices_SortStableFunc_impl_ViewCount_impl_ViewCount__io0_impl_gathered_1 (a0 : (List ViewCount)) : Option ((List ViewCount)) :=
  (F_slices_stableCmpFunc_impl_ViewCount__io0_impl_gathered_1 a0 (a0.length : Int)).bind fun z1 =>
  some z1
theorem c_slices_SortStableFunc_impl_ViewCount_impl_ViewCount__io0_impl_gathered_1 {a0 : (List ViewCount)} {r : (List ViewCount)} (hr : F_slices_SortStableFunc_impl_ViewCount_impl_ViewCount__io0_impl_gathered_1 a0 = some r) : PCalls Try.prog 124 [(.io, .sl true 2 (a0.map row_ViewCount_z)), (.sh, .func (.func 125) [] [])] (Eo (.junk) [.sl true 2 (r.map row_ViewCount_z), .junk]) := by
  apply pcalls_lf 9 [0] [] [] [] hr cl124 Try.func124 rfl rfl rfl
  · exact ⟨by simp, rfl⟩
  intro Φ hΦ hF
  unfold F_slices_SortStableFunc_impl_ViewCount_impl_ViewCount__io0_impl_gathered_1 at hF
  try simp [go_sem]
  try intros
  refine pw_cl hF [.io, .sh, .sh] c_slices_stableCmpFunc_impl_ViewCount__io0_impl_gathered_1 rfl rfl (by (try simp [go_sem, clE]); first | rfl | done) (by rfl) (by (try simp [go_sem]); first | rfl | done) fun z1 hF2 => ⟨by simp [go_sem], ?_⟩
  cases hΦ _ (Rn_some hF2)
  try simp [go_sem]
noncomputable def F_slices_Equal_int_int (a0 : (List Int)) (a1 : (List Int)) : Option (Bool) :=
  if ((a0.length : Int) != (a1.length : Int)) = true then (
  some false) else (
  ((rloop (σ := Unit) (β := Unit ⊕ Bool) (fun i10 s9 =>
  (ix a0 i10).bind fun x19 =>
  (ix a1 i10).bind fun x22 =>
  if (x19 != x22) = true then (
  some (.out (.inr false))) else (
  some (.go ()))) (fun s9 => .inl ()) (a0.length) 0 () : Option (Unit ⊕ Bool)).bind (Sum.elim (fun (x7 : Unit) =>
  some true) some)))
theorem c_slices_Equal_int_int {a0 : (List Int)} {a1 : (List Int)} {r : Bool} (hr : F_slices_Equal_int_int a0 a1 = some r) : PCalls Try.prog 126 [(.sh, .sl false 1 (a0.map row_i64)), (.sh, .sl false 1 (a1.map row_i64))] (Eo (.bool r) [.junk, .junk]) := by
  apply pcalls_lf 26 [] [] [] [.tmp 4] hr cl126 Try.func126 rfl rfl rfl
  · exact ⟨by simp, rfl⟩
  intro Φ hΦ hF
  unfold F_slices_Equal_int_int at hF
  iterate 2 (try simp [go_sem]; try intros; refine pw_wk ?_)
  repeat rw [sq]
  refine pw_cF hF (by simp [go_sem]) (fun h1 hF2 => ?_) fun h1 hF2 => ?_
  ·cases hΦ _ (Rn_some hF2)
   try simp [go_sem]
   refine pw_wk ?_
   try simp [go_sem]
  ·iterate 2 (try simp [go_sem]; try intros; refine pw_wk ?_)
   repeat rw [sq]
   refine pw_joinS (fun (x7 : Unit) => []) hF2 ?_ ?_
   ·intro x7 hF8
    try simp [go_sem]
    refine pw_wkK [4] (by simp [go_sem]; rfl) ?_
    cases hΦ _ (Rn_some hF8)
    try simp [go_sem]
   ·intro ψ5 hj3 hr4 hF6
    repeat rw [sq]
    rw [pw_block]
    obtain ⟨b27, hb28, hψ13⟩ := hF6
    refine pw_rloop (fun (i10 : Int) (s9 : Unit) => [(0, .v (.sl false 1 (a0.map row_i64))), (1, .v (.sl false 1 (a1.map row_i64))), (12, .v (.int .i64 (a0.length : Int))), (13, .v (.int .i64 i10))]) hb28 (by simp [go_sem]) ?_ ?_
    ·intro s9 N30 hN29
     subst hN29
     try simp [go_sem]
     refine pw_wk ?_
     repeat rw [sq]
     refine pw_cond_f (by simp [go_sem]) ?_
     try simp [go_sem]
     exact hj3 () _ (by simp [go_sem]) hψ13
    ·intro i10 s9 φ14 N15 hi17 hi18 ho11 hg12 hF16
     rw [Int.zero_add] at hi18
     try simp [go_sem]
     refine pw_wkK [0, 1, 12, 13, 14] (by simp [go_sem]; rfl) ?_
     repeat rw [sq]
     refine pw_cond_t (by simp [go_sem, hi17, hi18]) ?_
     try simp [go_sem]
     refine pw_wk ?_
     repeat rw [sq]
     rw [pw_block]
     try simp [go_sem]
     refine pw_wk ?_
     repeat rw [sq]
     refine pw_draw D126_6 follows (by kernel_rfl) rfl ?_
     try simp only [go_sem, D126_6]
     obtain ⟨x19, g20, hF21⟩ := Rn_ix hF16
     obtain ⟨x22, g23, hF24⟩ := Rn_ix hF21
     try simp [go_sem, g20, g23]
     refine pw_wkK [0, 1, 12, 13, 24] (by simp [go_sem, g20, g23]; rfl) ?_
     repeat rw [sq]
     refine pw_cF hF24 (by simp [go_sem, g20, g23]) (fun h25 hF26 => ?_) fun h25 hF26 => ?_
     ·cases ho11 _ (Rn_some hF26)
      cases hΦ _ (hr4 _ hψ13)
      try simp [go_sem, g20, g23]
      refine pw_wk ?_
      try simp [go_sem, g20, g23]
     ·try simp [go_sem, g20, g23]
      refine pw_wk ?_
      try simp [go_sem, g20, g23]
      exact hg12 () _ (by simp [go_sem, g20, g23, wr_i hi17 hi18 (by assumption)]) (Rn_some hF26)
noncomputable def F_slices_Clone_int_int (a0 : (List Int)) : Option (List Int) :=
  gd (a0.length * 8 ≤ 140737488355328 ∧ a0.length ≤ 4611686018427387904) <|
  some a0
theorem c_slices_Clone_int_int {a0 : (List Int)} {r : (List Int)} (hr : F_slices_Clone_int_int a0 = some r) : PCalls Try.prog 127 [(.sh, .sl false 1 (a0.map row_i64))] (Eo (.sl true 1 (r.map row_i64)) [.junk]) := by
  apply pcalls_lf 8 [] [] [1000000] [.tmp 2] hr cl127 Try.func127 rfl rfl rfl
  · exact ⟨by simp, rfl⟩
  intro Φ hΦ hF
  unfold F_slices_Clone_int_int at hF
  obtain ⟨g, hF⟩ := Rn_gd hF
  have h1 := hΦ _ (Rn_some hF)
  subst h1
  try simp [go_sem]
  refine pw_wkL [(0, .v (.sl false 1 (a0.map row_i64)))] (by simp [go_sem]) ?_
  try simp [go_sem]
  refine pw1_nil rfl rfl (by simp [go_sem]) rfl (by rfl) fun b hb => ?_
  try simp [go_sem]
  refine pw_wk ?_
  repeat rw [pw_seq]
  cases b
  · refine pw_cond_f (by simp [go_sem]) ?_
    try simp [go_sem]
    refine pw_wk ?_
    try simp [go_sem, g]
    refine pw_wk ?_
    try simp [go_sem, g]
  · have hb0 : a0 = [] := by
      cases a0 with
      | nil => rfl
      | cons x l => exact absurd (hb (by simp)) (by simp)
    subst hb0
    refine pw_cond_t (by simp [go_sem]) ?_
    try simp [go_sem]
    refine pw_wk ?_
    try simp [go_sem]
noncomputable def F_impl_isCount (a0 : (List ViewCount)) : Option (Bool) :=
  if decide (3000 < (a0.length : Int)) = true then (
  some false) else (
  ((rloop (σ := Int) (β := Unit ⊕ Bool) (fun i10 s9 =>
  (ix a0 i10).bind fun x19 =>
  ((if decide (24 < (x19.View.length : Int)) = true then (
  some true) else (
  (F_impl_within x19.Times 1 (IntKind.i64.wrap (1000000 - s9))).bind fun z30 =>
  if (!z30) = true then (
  some true) else (
  if decide (0 < i10) = true then (
  (ix a0 (IntKind.i64.wrap (i10 - 1))).bind fun x36 =>
  (F_slices_Compare_int_int x36.View x19.View).bind fun z39 =>
  some (decide (0 ≤ z39))) else (
  some false))) : Option (Bool)).bind fun (x26 : Bool) =>
  if x26 = true then (
  some (.out (.inr false))) else (
  some (.go (IntKind.i64.wrap (s9 + x19.Times)))))) (fun s9 => .inl ()) (a0.length) 0 0 : Option (Unit ⊕ Bool)).bind (Sum.elim (fun (x7 : Unit) =>
  some true) some)))
theorem c_impl_isCount {a0 : (List ViewCount)} {r : Bool} (hr : F_impl_isCount a0 = some r) : PCalls Try.prog 66 [(.sh, .sl false 2 (a0.map row_ViewCount_z))] (Eo (.bool r) [.junk]) := by
  apply pcalls_lf 49 [] [] [] [.tmp 2] hr cl66 Try.func66 rfl rfl rfl
  · exact ⟨by simp, rfl⟩
  intro Φ hΦ hF
  unfold F_impl_isCount at hF
  iterate 2 (try simp [go_sem]; try intros; refine pw_wk ?_)
  repeat rw [sq]
  refine pw_cF hF (by simp [go_sem]) (fun h1 hF2 => ?_) fun h1 hF2 => ?_
  ·cases hΦ _ (Rn_some hF2)
   try simp [go_sem]
   refine pw_wk ?_
   try simp [go_sem]
  ·iterate 3 (try simp [go_sem]; try intros; refine pw_wk ?_)
   repeat rw [sq]
   refine pw_joinS (fun (x7 : Unit) => []) hF2 ?_ ?_
   ·intro x7 hF8
    cases hΦ _ (Rn_some hF8)
    try simp [go_sem]
    refine pw_wk ?_
    try simp [go_sem]
   ·intro ψ5 hj3 hr4 hF6
    repeat rw [sq]
    rw [pw_block]
    obtain ⟨b43, hb44, hψ13⟩ := hF6
    refine pw_rloop (fun (i10 : Int) (s9 : Int) => [(0, .v (.sl false 2 (a0.map row_ViewCount_z))), (3, .v (.int .i64 s9)), (9, .v (.sl false 2 (a0.map row_ViewCount_z))), (10, .v (.int .i64 (a0.length : Int))), (11, .v (.int .i64 i10))]) hb44 (by simp [go_sem]) ?_ ?_
    ·intro s9 N46 hN45
     subst hN45
     try simp [go_sem]
     refine pw_wk ?_
     repeat rw [sq]
     refine pw_cond_f (by simp [go_sem]) ?_
     try simp [go_sem]
     exact hj3 () _ (by simp [go_sem]) hψ13
    ·intro i10 s9 φ14 N15 hi17 hi18 ho11 hg12 hF16
     rw [Int.zero_add] at hi18
     try simp [go_sem]
     refine pw_wk ?_
     repeat rw [sq]
     refine pw_cond_t (by simp [go_sem, hi17, hi18]) ?_
     try simp [go_sem]
     refine pw_wk ?_
     repeat rw [sq]
     rw [pw_block]
     obtain ⟨x19, g20, hF21⟩ := Rn_ix hF16
     try simp [go_sem, g20]
     refine pw_wkK [0, 3, 4, 5, 9, 10, 11] (by simp [go_sem, g20]; rfl) ?_
     repeat rw [sq]
     refine pw_joinF (fun (x26 : Bool) => [(0, .v (.sl false 2 (a0.map row_ViewCount_z))), (3, .v (.int .i64 s9)), (5, .bl [.sl false 1 (x19.View.map row_i64), .int .i64 x19.Times]), (9, .v (.sl false 2 (a0.map row_ViewCount_z))), (10, .v (.int .i64 (a0.length : Int))), (11, .v (.int .i64 i10)), (43, .v (.bool x26))]) hF21 ?_ ?_
     ·intro x26 hF27
      repeat rw [sq]
      refine pw_cF hF27 (by simp [go_sem, g20]) (fun h41 hF42 => ?_) fun h41 hF42 => ?_
      ·cases ho11 _ (Rn_some hF42)
       cases hΦ _ (hr4 _ hψ13)
       try simp [go_sem, g20]
       refine pw_wk ?_
       try simp [go_sem, g20]
      ·iterate 2 (try simp [go_sem, g20]; refine pw_wk ?_)
       try simp [go_sem, g20]
       exact hg12 (IntKind.i64.wrap (s9 + x19.Times)) _ (by simp [go_sem, g20, wr_i hi17 hi18 (by assumption)]) (Rn_some hF42)
     ·intro ψ24 hj22 hF25
      repeat rw [sq]
      refine pw_draw D66_7 follows (by kernel_rfl) rfl ?_
      try simp only [go_sem, D66_7]
      try simp [go_sem, g20]
      try intros
      refine pwgD_F hF25 (fun h28 hF29 => ?_) fun h28 hF29 => ?_
      ·try simp [go_sem, g20, h28]
       exact hj22 true _ (by simp [go_sem, g20]) (Rn_some hF29)
      ·try simp [go_sem, g20, h28]
       refine pw_cl hF29 [.sh, .sh, .sh] c_impl_within rfl rfl (by (try simp [go_sem, clE, g20]); first | rfl | done) (by rfl) (by (try simp [go_sem, g20]); first | rfl | done) fun z30 hF31 => ⟨by simp [go_sem], ?_⟩
       try simp [go_sem, g20, h28]
       refine pwgD_F hF31 (fun h32 hF33 => ?_) fun h32 hF33 => ?_
       ·try simp [go_sem, g20, h32]
        exact hj22 true _ (by simp [go_sem, g20]) (Rn_some hF33)
       ·try simp [go_sem, g20, h32]
        refine pwgD_F hF33 (fun h34 hF35 => ?_) fun h34 hF35 => ?_
        ·obtain ⟨x36, g37, hF38⟩ := Rn_ix hF35
         try simp [go_sem, g20, g37, h34]
         refine pw_cl hF38 [.sh, .sh] c_slices_Compare_int_int rfl rfl (by (try simp [go_sem, clE, g20, g37]); first | rfl | done) (by rfl) (by (try simp [go_sem, g20, g37]); first | rfl | done) fun z39 hF40 => ⟨by simp [go_sem], ?_⟩
         try simp [go_sem, g20, g37, h34, h32]
         exact hj22 (decide (0 ≤ z39)) _ (by simp [go_sem, g20, g37]) (Rn_some hF40)
        ·try simp [go_sem, g20, h34, h32]
         exact hj22 false _ (by simp [go_sem, g20]) (Rn_some hF35)
noncomputable def F_impl_gathered (a0 : (List ViewCount)) : Option ((List ViewCount) × Bool) :=
  (F_slices_Clone_impl_ViewCount_impl_ViewCount a0).bind fun z1 =>
  (F_slices_SortStableFunc_impl_ViewCount_impl_ViewCount__io0_impl_gathered_1 z1).bind fun z3 =>
  ((rloop (σ := (List ViewCount)) (β := (List ViewCount)) (fun i51 s50 =>
  (((ix z3 i51).bind fun x66 =>
  ((if decide (0 ≤ (IntKind.i64.wrap ((s50.length : Int) - 1))) = true then (
  (ix s50 (IntKind.i64.wrap ((s50.length : Int) - 1))).bind fun x77 =>
  (F_slices_Equal_int_int x77.View x66.View).bind fun z80 =>
  some z80) else (
  some false) : Option (Bool)).bind fun (x73 : Bool) =>
  if x73 = true then (
  (ix s50 (IntKind.i64.wrap ((s50.length : Int) - 1))).bind fun x84 =>
  some (s50.set ((IntKind.i64.wrap ((s50.length : Int) - 1)).toNat) (ViewCount.mk x84.View (IntKind.i64.wrap (x84.Times + x66.Times))))) else (
  (F_slices_Clone_int_int x66.View).bind fun z87 =>
  gd ((s50.length + 1) * 32 ≤ 140737488355328 ∧ s50.length + 1 ≤ 4611686018427387904) <|
  some (s50 ++ [(ViewCount.mk z87 x66.Times)]))) : Option ((List ViewCount))).bind fun (x64 : (List ViewCount)) =>
  some (.go x64))) (fun s50 => s50) (z3.length) 0 [] : Option ((List ViewCount))).bind fun (x9 : (List ViewCount)) =>
  (F_impl_isCount x9).bind fun z96 =>
  if (!z96) = true then (
  some ([], false)) else (
  some (x9, true)))
theorem c_impl_gathered {a0 : (List ViewCount)} {r : (List ViewCount) × Bool} (hr : F_impl_gathered a0 = some r) : PCalls Try.prog 75 [(.sh, .sl false 2 (a0.map row_ViewCount_z))] (Eo (.tup [.sl true 2 (r.1.map row_ViewCount_o), .bool r.2]) [.junk]) := by
  apply pcalls_lf 59 [] [] [] [.tmp 2, .tmp 3] hr cl75 Try.func75 rfl rfl rfl
  · exact ⟨by simp, rfl⟩
  intro Φ hΦ hF
  unfold F_impl_gathered at hF
  try simp [go_sem]
  refine pw_wk ?_
  try simp [go_sem]
  refine pw_cl hF [.sh] c_slices_Clone_impl_ViewCount_impl_ViewCount rfl rfl (by (try simp [go_sem, clE]); first | rfl | done) (by rfl) (by (try simp [go_sem]); first | rfl | done) fun z1 hF2 => ⟨by simp [go_sem], ?_⟩
  try simp [go_sem]
  refine pw_wk ?_
  try simp [go_sem]
  refine pw_cl hF2 [.io, .sh] c_slices_SortStableFunc_impl_ViewCount_impl_ViewCount__io0_impl_gathered_1 rfl rfl (by (try simp [go_sem, clE]); first | rfl | done) (by rfl) (by (try simp [go_sem]); first | rfl | done) fun z3 hF4 => ⟨by simp [go_sem], ?_⟩
  iterate 2 (try simp [go_sem]; try intros; refine pw_wk ?_)
  try simp [go_sem]
  try intros
  refine pw_wkK [4, 5, 14, 15, 16] (by simp [go_sem]; rfl) ?_
  repeat rw [sq]
  refine pw_joinF (fun (x9 : (List ViewCount)) => [(5, .v (.sl true 2 (x9.map row_ViewCount_o)))]) hF4 ?_ ?_
  ·intro x9 hF10
   try simp [go_sem]
   refine pw_cl hF10 [.sh] c_impl_isCount rfl rfl (by (try simp [go_sem, clE]); first | rfl | done) (by rfl) (by (try simp [go_sem]); first | rfl | done) fun z96 hF97 => ⟨by simp [go_sem], ?_⟩
   try simp [go_sem]
   refine pw_wk ?_
   repeat rw [sq]
   refine pw_cF hF97 (by simp [go_sem]) (fun h98 hF99 => ?_) fun h98 hF99 => ?_
   ·cases hΦ _ (Rn_some hF99)
    try simp [go_sem]
    refine pw_wk ?_
    try simp [go_sem]
   ·cases hΦ _ (Rn_some hF99)
    iterate 2 (try simp [go_sem]; refine pw_wk ?_)
    try simp [go_sem]
  ·intro ψ7 hj5 hF8
   repeat rw [sq]
   rw [pw_block]
   obtain ⟨b92, hb93, hψ54⟩ := hF8
   refine pw_rloop (fun (i51 : Int) (s50 : (List ViewCount)) => [(4, .v (.sl true 2 (z3.map row_ViewCount_z))), (5, .v (.sl true 2 (s50.map row_ViewCount_o))), (14, .rf 4 []), (15, .v (.int .i64 (z3.length : Int))), (16, .v (.int .i64 i51))]) hb93 (by simp [go_sem]) ?_ ?_
   ·intro s50 N95 hN94
    subst hN94
    try simp [go_sem]
    refine pw_wk ?_
    repeat rw [sq]
    refine pw_cond_f (by simp [go_sem]) ?_
    try simp [go_sem]
    exact hj5 s50 _ (by simp [go_sem]) hψ54
   ·intro i51 s50 φ55 N56 hi58 hi59 ho52 hg53 hF57
    rw [Int.zero_add] at hi59
    try simp [go_sem]
    refine pw_wk ?_
    repeat rw [sq]
    refine pw_cond_t (by simp [go_sem, hi58, hi59]) ?_
    try simp [go_sem]
    refine pw_wk ?_
    repeat rw [sq]
    refine pw_joinF (fun (x64 : (List ViewCount)) => [(4, .v (.sl true 2 (z3.map row_ViewCount_z))), (5, .v (.sl true 2 (x64.map row_ViewCount_o))), (14, .rf 4 []), (15, .v (.int .i64 (z3.length : Int))), (16, .v (.int .i64 i51))]) hF57 ?_ ?_
    ·intro x64 hF65
     try simp [go_sem]
     exact hg53 x64 _ (by simp [go_sem, wr_i hi58 hi59 (by assumption)]) (Rn_some hF65)
    ·intro ψ62 hj60 hF63
     repeat rw [sq]
     rw [pw_block]
     obtain ⟨x66, g67, hF68⟩ := Rn_ix hF63
     iterate 2 (try simp [go_sem, g67]; try intros; refine pw_wk ?_)
     repeat rw [sq]
     refine pw_joinF (fun (x73 : Bool) => [(4, .v (.sl true 2 (z3.map row_ViewCount_z))), (5, .v (.sl true 2 (s50.map row_ViewCount_o))), (7, .bl [.sl false 1 (x66.View.map row_i64), .int .i64 x66.Times]), (8, .v (.int .i64 (IntKind.i64.wrap ((s50.length : Int) - 1)))), (14, .rf 4 []), (15, .v (.int .i64 (z3.length : Int))), (16, .v (.int .i64 i51)), (34, .v (.bool x73))]) hF68 ?_ ?_
     ·intro x73 hF74
      repeat rw [sq]
      refine pw_cF hF74 (by simp [go_sem, g67]) (fun h82 hF83 => ?_) fun h82 hF83 => ?_
      ·repeat rw [sq]
       refine pw_draw D75_9 follows (by kernel_rfl) rfl ?_
       try simp only [go_sem, D75_9]
       obtain ⟨x84, g85, hF86⟩ := Rn_ix hF83
       try simp [go_sem, g67, g85]
       exact hj60 (s50.set ((IntKind.i64.wrap ((s50.length : Int) - 1)).toNat) (ViewCount.mk x84.View (IntKind.i64.wrap (x84.Times + x66.Times)))) _ (by simp [go_sem, g67, g85]) (Rn_some hF86)
      ·repeat rw [sq]
       refine pw_draw D75_10 follows (by kernel_rfl) rfl ?_
       try simp only [go_sem, D75_10]
       try simp [go_sem, g67]
       refine pw_cl hF83 [.sh] c_slices_Clone_int_int rfl rfl (by (try simp [go_sem, clE, g67]); first | rfl | done) (by rfl) (by (try simp [go_sem, g67]); first | rfl | done) fun z87 hF88 => ⟨by simp [go_sem], ?_⟩
       obtain ⟨g89, hF90⟩ := Rn_gd hF88
       have g91 := g89
       try simp at g91
       try simp [go_sem, g67, g89, g91]
       exact hj60 (s50 ++ [(ViewCount.mk z87 x66.Times)]) _ (by simp [go_sem, g67, g89, g91]) (Rn_some hF90)
     ·intro ψ71 hj69 hF72
      repeat rw [sq]
      refine pw_draw D75_8 follows (by kernel_rfl) rfl ?_
      try simp only [go_sem, D75_8]
      try simp [go_sem, g67]
      refine pwgD_F hF72 (fun h75 hF76 => ?_) fun h75 hF76 => ?_
      ·obtain ⟨x77, g78, hF79⟩ := Rn_ix hF76
       try simp [go_sem, g67, g78, h75]
       refine pw_cl hF79 [.sh, .sh] c_slices_Equal_int_int rfl rfl (by (try simp [go_sem, clE, g67, g78]); first | rfl | done) (by rfl) (by (try simp [go_sem, g67, g78]); first | rfl | done) fun z80 hF81 => ⟨by simp [go_sem], ?_⟩
       try simp [go_sem, g67, g78, h75]
       exact hj69 z80 _ (by simp [go_sem, g67, g78]) (Rn_some hF81)
      ·try simp [go_sem, g67, h75]
       exact hj69 false _ (by simp [go_sem, g67]) (Rn_some hF76)
noncomputable def F_impl_countedViews (a0 : (List (List Int))) : Option ((List ViewCount) × Bool) :=
  ((rloop (σ := (List ViewCount)) (β := (List ViewCount)) (fun i8 s7 =>
  (ix a0 i8).bind fun x17 =>
  gd ((s7.length + 1) * 32 ≤ 140737488355328 ∧ s7.length + 1 ≤ 4611686018427387904) <|
  some (.go (s7 ++ [(ViewCount.mk x17 1)]))) (fun s7 => s7) (a0.length) 0 [] : Option ((List ViewCount))).bind fun (x5 : (List ViewCount)) =>
  (F_impl_gathered x5).bind fun z27 =>
  some (z27.1, z27.2))
theorem c_impl_countedViews {a0 : (List (List Int))} {r : (List ViewCount) × Bool} (hr : F_impl_countedViews a0 = some r) : PCalls Try.prog 58 [(.sh, .sl false 1 (a0.map row_zi64))] (Eo (.tup [.sl true 2 (r.1.map row_ViewCount_o), .bool r.2]) [.junk]) := by
  apply pcalls_lf 24 [] [] [] [.tmp 2, .tmp 3] hr cl58 Try.func58 rfl rfl rfl
  · exact ⟨by simp, rfl⟩
  intro Φ hΦ hF
  unfold F_impl_countedViews at hF
  iterate 3 (try simp [go_sem]; try intros; refine pw_wk ?_)
  repeat rw [sq]
  refine pw_joinF (fun (x5 : (List ViewCount)) => [(4, .v (.sl true 2 (x5.map row_ViewCount_z)))]) hF ?_ ?_
  ·intro x5 hF6
   try simp [go_sem]
   refine pw_cl hF6 [.sh] c_impl_gathered rfl rfl (by (try simp [go_sem, clE]); first | rfl | done) (by rfl) (by (try simp [go_sem]); first | rfl | done) fun z27 hF28 => ⟨by simp [go_sem], ?_⟩
   try simp [go_sem]
   refine pw_wkK [2, 3] (by simp [go_sem]; rfl) ?_
   cases hΦ _ (Rn_some hF28)
   try simp [go_sem]
  ·intro ψ3 hj1 hF4
   repeat rw [sq]
   rw [pw_block]
   obtain ⟨b23, hb24, hψ11⟩ := hF4
   refine pw_rloop (fun (i8 : Int) (s7 : (List ViewCount)) => [(4, .v (.sl true 2 (s7.map row_ViewCount_z))), (8, .v (.sl false 1 (a0.map row_zi64))), (9, .v (.int .i64 (a0.length : Int))), (10, .v (.int .i64 i8))]) hb24 (by simp [go_sem]) ?_ ?_
   ·intro s7 N26 hN25
    subst hN25
    try simp [go_sem]
    refine pw_wk ?_
    repeat rw [sq]
    refine pw_cond_f (by simp [go_sem]) ?_
    try simp [go_sem]
    exact hj1 s7 _ (by simp [go_sem]) hψ11
   ·intro i8 s7 φ12 N13 hi15 hi16 ho9 hg10 hF14
    rw [Int.zero_add] at hi16
    try simp [go_sem]
    refine pw_wk ?_
    repeat rw [sq]
    refine pw_cond_t (by simp [go_sem, hi15, hi16]) ?_
    try simp [go_sem]
    refine pw_wk ?_
    repeat rw [sq]
    rw [pw_block]
    obtain ⟨x17, g18, hF19⟩ := Rn_ix hF14
    try simp [go_sem, g18]
    refine pw_wkK [4, 6, 8, 9, 10] (by simp [go_sem, g18]; rfl) ?_
    obtain ⟨g20, hF21⟩ := Rn_gd hF19
    have g22 := g20
    try simp at g22
    try simp [go_sem, g18, g20, g22]
    refine pw_wk ?_
    try simp [go_sem, g18, g20, g22]
    exact hg10 (s7 ++ [(ViewCount.mk x17 1)]) _ (by simp [go_sem, g18, g20, g22, wr_i hi15 hi16 (by assumption)]) (Rn_some hF21)
noncomputable def F_impl_ShareViews (a0 : Group) (a1 : Int) (a2 : Int) (a3 : (List Int)) : Option ((List ViewCount) × Bool) :=
  (((F_impl_isCounted a0).bind fun z7 =>
  if (!z7) = true then (
  some true) else (
  if decide (a0.Q ≤ 7) = true then (
  some true) else (
  (F_impl_within a1 1 3).bind fun z13 =>
  if (!z13) = true then (
  some true) else (
  (F_impl_Group_isExp a0 a2).bind fun z17 =>
  if (!z17) = true then (
  some true) else (
  if decide (3 < (a3.length : Int)) = true then (
  some true) else (
  (F_impl_areTrustees a3).bind fun z23 =>
  some (!z23)))))) : Option (Bool)).bind fun (x5 : Bool) =>
  if x5 = true then (
  some ([], false)) else (
  ((wloop (σ := Int × Int) (β := Int) (fun s33 =>
  if decide (s33.2 < (IntKind.i64.wrap (a1 - 1))) = true then (
  some (.go (IntKind.i64.wrap (s33.1 * a0.Q), IntKind.i64.wrap (s33.2 + 1)))) else (
  some (.out s33.1))) (1, 0) : Option (Int)).bind fun (x31 : Int) =>
  ((wloop (σ := (List (List Int)) × Int) (β := (List (List Int))) (fun s114 =>
  if decide (s114.2 < x31) = true then (
  ((wloop (σ := (List Int) × Int) (β := (List Int)) (fun s130 =>
  if decide ((s130.1.length : Int) < a1) = true then (
  gd (a0.Q ≠ 0) <|
  gd ((s130.1.length + 1) * 8 ≤ 140737488355328 ∧ s130.1.length + 1 ≤ 4611686018427387904) <|
  gd (a0.Q ≠ 0) <|
  some (.go (s130.1 ++ [s130.2.tmod a0.Q], IntKind.i64.wrap (s130.2.tdiv a0.Q)))) else (
  some (.out s130.1))) ([a2], s114.2) : Option ((List Int))).bind fun (x128 : (List Int)) =>
  ((rloop (σ := (List Int)) (β := (List Int)) (fun i156 s155 =>
  (ix a3 i156).bind fun x165 =>
  (F_impl_evalPoly a0.Q x128 x165).bind fun z168 =>
  gd ((s155.length + 1) * 8 ≤ 140737488355328 ∧ s155.length + 1 ≤ 4611686018427387904) <|
  some (.go (s155 ++ [z168]))) (fun s155 => s155) (a3.length) 0 [] : Option ((List Int))).bind fun (x153 : (List Int)) =>
  gd ((s114.1.length + 1) * 24 ≤ 140737488355328 ∧ s114.1.length + 1 ≤ 4611686018427387904) <|
  some (.go (s114.1 ++ [x153], IntKind.i64.wrap (s114.2 + 1)))))) else (
  some (.out s114.1))) ([], 0) : Option ((List (List Int)))).bind fun (x49 : (List (List Int))) =>
  (F_impl_countedViews x49).bind fun z182 =>
  some (z182.1, z182.2)))))
theorem c_impl_ShareViews {a0 : Group} {a1 : Int} {a2 : Int} {a3 : (List Int)} {r : (List ViewCount) × Bool} (hr : F_impl_ShareViews a0 a1 a2 a3 = some r) : PCalls Try.prog 27 [(.sh, .agg [.int .i64 a0.P, .int .i64 a0.Q, .int .i64 a0.G]), (.sh, .int .i64 a1), (.sh, .int .i64 a2), (.sh, .sl false 1 (a3.map row_i64))] (Eo (.tup [.sl true 2 (r.1.map row_ViewCount_o), .bool r.2]) [.junk, .junk, .junk, .junk]) := by
  apply pcalls_lf 104 [] [] [] [.tmp 8, .tmp 9] hr cl27 Try.func27 rfl rfl rfl
  · exact ⟨by simp, rfl⟩
  intro Φ hΦ hF
  unfold F_impl_ShareViews at hF
  try simp [go_sem]
  refine pw_wk ?_
  repeat rw [sq]
  refine pw_joinF (fun (x5 : Bool) => [(1, .v (.int .i64 a1)), (2, .v (.int .i64 a2)), (3, .v (.sl false 1 (a3.map row_i64))), (4, .bl [.int .i64 a0.P, .int .i64 a0.Q, .int .i64 a0.G]), (46, .v (.bool x5))]) hF ?_ ?_
  ·intro x5 hF6
   repeat rw [sq]
   refine pw_cF hF6 (by simp [go_sem]) (fun h25 hF26 => ?_) fun h25 hF26 => ?_
   ·cases hΦ _ (Rn_some hF26)
    try simp [go_sem]
    refine pw_wk ?_
    try simp [go_sem]
   ·iterate 3 (try simp [go_sem]; refine pw_wk ?_)
    repeat rw [sq]
    refine pw_joinF (fun (x31 : Int) => [(1, .v (.int .i64 a1)), (2, .v (.int .i64 a2)), (3, .v (.sl false 1 (a3.map row_i64))), (4, .bl [.int .i64 a0.P, .int .i64 a0.Q, .int .i64 a0.G]), (10, .v (.sl true 1 [])), (11, .v (.int .i64 x31))]) hF26 ?_ ?_
    ·intro x31 hF32
     try simp [go_sem]
     refine pw_wkK [1, 2, 3, 4, 10, 57, 58] (by simp [go_sem]; rfl) ?_
     repeat rw [sq]
     refine pw_joinF (fun (x49 : (List (List Int))) => [(10, .v (.sl true 1 (x49.map row_oi64)))]) hF32 ?_ ?_
     ·intro x49 hF50
      try simp [go_sem]
      refine pw_cl hF50 [.sh] c_impl_countedViews rfl rfl (by (try simp [go_sem, clE]); first | rfl | done) (by rfl) (by (try simp [go_sem]); first | rfl | done) fun z182 hF183 => ⟨by simp [go_sem], ?_⟩
      cases hΦ _ (Rn_some hF183)
      try simp [go_sem]
      refine pw_wk ?_
      try simp [go_sem]
     ·intro ψ47 hj45 hF48
      repeat rw [sq]
      rw [pw_block]
      obtain ⟨b180, hb181, hψ118⟩ := hF48
      refine pw_wloop (fun (s114 : (List (List Int)) × Int) => [(1, .v (.int .i64 a1)), (2, .v (.int .i64 a2)), (3, .v (.sl false 1 (a3.map row_i64))), (4, .bl [.int .i64 a0.P, .int .i64 a0.Q, .int .i64 a0.G]), (10, .v (.sl true 1 (s114.1.map row_oi64))), (57, .v (.int .i64 x31)), (58, .v (.int .i64 s114.2))]) hb181 (by simp [go_sem]) ?_
      intro s114 φ119 N120 ho116 hg117 hF121
      try simp [go_sem]
      refine pw_wk ?_
      repeat rw [sq]
      refine pw_cF hF121 (by simp [go_sem]) (fun h122 hF123 => ?_) fun h122 hF123 => ?_
      ·try simp [go_sem]
       refine pw_wk ?_
       repeat rw [sq]
       rw [pw_block]
       iterate 2 (try simp [go_sem]; refine pw_wk ?_)
       try simp [go_sem]
       refine pw_wkK [1, 2, 3, 4, 10, 13, 14, 15, 57, 58] (by simp [go_sem]; rfl) ?_
       repeat rw [sq]
       refine pw_joinF (fun (x128 : (List Int)) => [(1, .v (.int .i64 a1)), (2, .v (.int .i64 a2)), (3, .v (.sl false 1 (a3.map row_i64))), (4, .bl [.int .i64 a0.P, .int .i64 a0.Q, .int .i64 a0.G]), (10, .v (.sl true 1 (s114.1.map row_oi64))), (13, .v (.sl true 1 (x128.map row_i64))), (14, .v (.sl true 1 [])), (57, .v (.int .i64 x31)), (58, .v (.int .i64 s114.2))]) hF123 ?_ ?_
       ·intro x128 hF129
        try simp [go_sem]
        try intros
        refine pw_wk ?_
        repeat rw [sq]
        refine pw_joinF (fun (x153 : (List Int)) => [(1, .v (.int .i64 a1)), (2, .v (.int .i64 a2)), (3, .v (.sl false 1 (a3.map row_i64))), (4, .bl [.int .i64 a0.P, .int .i64 a0.Q, .int .i64 a0.G]), (10, .v (.sl true 1 (s114.1.map row_oi64))), (14, .v (.sl true 1 (x153.map row_i64))), (57, .v (.int .i64 x31)), (58, .v (.int .i64 s114.2))]) hF129 ?_ ?_
        ·intro x153 hF154
         obtain ⟨g177, hF178⟩ := Rn_gd hF154
         have g179 := g177
         try simp at g179
         try simp [go_sem, g177, g179]
         refine pw_wk ?_
         try simp [go_sem, g177, g179]
         exact hg117 (s114.1 ++ [x153], IntKind.i64.wrap (s114.2 + 1)) _ (by simp [go_sem, g177, g179]) (Rn_some hF178)
        ·intro ψ151 hj149 hF152
         repeat rw [sq]
         rw [pw_block]
         obtain ⟨b173, hb174, hψ159⟩ := hF152
         refine pw_rloop (fun (i156 : Int) (s155 : (List Int)) => [(1, .v (.int .i64 a1)), (2, .v (.int .i64 a2)), (3, .v (.sl false 1 (a3.map row_i64))), (4, .bl [.int .i64 a0.P, .int .i64 a0.Q, .int .i64 a0.G]), (10, .v (.sl true 1 (s114.1.map row_oi64))), (13, .v (.sl true 1 (x128.map row_i64))), (14, .v (.sl true 1 (s155.map row_i64))), (57, .v (.int .i64 x31)), (58, .v (.int .i64 s114.2)), (80, .v (.sl false 1 (a3.map row_i64))), (81, .v (.int .i64 (a3.length : Int))), (82, .v (.int .i64 i156))]) hb174 (by simp [go_sem]) ?_ ?_
         ·intro s155 N176 hN175
          subst hN175
          try simp [go_sem]
          refine pw_wk ?_
          repeat rw [sq]
          refine pw_cond_f (by simp [go_sem]) ?_
          try simp [go_sem]
          exact hj149 s155 _ (by simp [go_sem]) hψ159
         ·intro i156 s155 φ160 N161 hi163 hi164 ho157 hg158 hF162
          rw [Int.zero_add] at hi164
          try simp [go_sem]
          refine pw_wk ?_
          repeat rw [sq]
          refine pw_cond_t (by simp [go_sem, hi163, hi164]) ?_
          try simp [go_sem]
          refine pw_wk ?_
          repeat rw [sq]
          rw [pw_block]
          obtain ⟨x165, g166, hF167⟩ := Rn_ix hF162
          try simp [go_sem, g166]
          refine pw_wk ?_
          try simp [go_sem, g166]
          refine pw_cl hF167 [.sh, .sh, .sh] c_impl_evalPoly rfl rfl (by (try simp [go_sem, clE, g166]); first | rfl | done) (by rfl) (by (try simp [go_sem, g166]); first | rfl | done) fun z168 hF169 => ⟨by simp [go_sem], ?_⟩
          obtain ⟨g170, hF171⟩ := Rn_gd hF169
          have g172 := g170
          try simp at g172
          try simp [go_sem, g166, g170, g172]
          refine pw_wkK [1, 2, 3, 4, 10, 13, 14, 57, 58, 80, 81, 82] (by simp [go_sem, g166, g170, g172]; rfl) ?_
          try simp [go_sem, g166, g170, g172]
          exact hg158 (s155 ++ [z168]) _ (by simp [go_sem, g166, g170, g172, wr_i hi163 hi164 (by assumption)]) (Rn_some hF171)
       ·intro ψ126 hj124 hF127
        repeat rw [sq]
        rw [pw_block]
        obtain ⟨b147, hb148, hψ134⟩ := hF127
        refine pw_wloop (fun (s130 : (List Int) × Int) => [(1, .v (.int .i64 a1)), (2, .v (.int .i64 a2)), (3, .v (.sl false 1 (a3.map row_i64))), (4, .bl [.int .i64 a0.P, .int .i64 a0.Q, .int .i64 a0.G]), (10, .v (.sl true 1 (s114.1.map row_oi64))), (13, .v (.sl true 1 (s130.1.map row_i64))), (14, .v (.sl true 1 [])), (15, .v (.int .i64 s130.2)), (57, .v (.int .i64 x31)), (58, .v (.int .i64 s114.2))]) hb148 (by simp [go_sem]) ?_
        intro s130 φ135 N136 ho132 hg133 hF137
        try simp [go_sem]
        try intros
        refine pw_wk ?_
        repeat rw [sq]
        refine pw_cF hF137 (by simp [go_sem]) (fun h138 hF139 => ?_) fun h138 hF139 => ?_
        ·try simp [go_sem]
         refine pw_wk ?_
         repeat rw [sq]
         rw [pw_block]
         obtain ⟨g140, hF141⟩ := Rn_nz hF139
         obtain ⟨g142, hF143⟩ := Rn_gd hF141
         have g144 := g142
         try simp at g144
         try simp [go_sem, g140, g142, g144]
         refine pw_wkK [1, 2, 3, 4, 10, 13, 14, 15, 57, 58] (by simp [go_sem, g140, g142, g144]; rfl) ?_
         obtain ⟨g145, hF146⟩ := Rn_nz hF143
         try simp [go_sem, g140, g142, g144, g145]
         exact hg133 (s130.1 ++ [s130.2.tmod a0.Q], IntKind.i64.wrap (s130.2.tdiv a0.Q)) _ (by simp [go_sem, g140, g142, g144, g145]) (Rn_some hF146)
        ·try simp [go_sem]
         cases ho132 _ (Rn_some hF139)
         exact hj124 s130.1 _ (by simp [go_sem]) hψ134
      ·try simp [go_sem]
       cases ho116 _ (Rn_some hF123)
       exact hj45 s114.1 _ (by simp [go_sem]) hψ118
    ·intro ψ29 hj27 hF30
     repeat rw [sq]
     rw [pw_block]
     obtain ⟨b43, hb44, hψ37⟩ := hF30
     refine pw_wloop (fun (s33 : Int × Int) => [(1, .v (.int .i64 a1)), (2, .v (.int .i64 a2)), (3, .v (.sl false 1 (a3.map row_i64))), (4, .bl [.int .i64 a0.P, .int .i64 a0.Q, .int .i64 a0.G]), (10, .v (.sl true 1 [])), (11, .v (.int .i64 s33.1)), (49, .v (.int .i64 (IntKind.i64.wrap (a1 - 1)))), (50, .v (.int .i64 s33.2))]) hb44 (by simp [go_sem]) ?_
     intro s33 φ38 N39 ho35 hg36 hF40
     try simp [go_sem]
     refine pw_wkK [1, 2, 3, 4, 10, 11, 49, 50, 51] (by simp [go_sem]; rfl) ?_
     repeat rw [sq]
     refine pw_cF hF40 (by simp [go_sem]) (fun h41 hF42 => ?_) fun h41 hF42 => ?_
     ·try simp [go_sem]
      refine pw_wk ?_
      repeat rw [sq]
      rw [pw_block]
      try simp [go_sem]
      refine pw_wk ?_
      try simp [go_sem]
      exact hg36 (IntKind.i64.wrap (s33.1 * a0.Q), IntKind.i64.wrap (s33.2 + 1)) _ (by simp [go_sem]) (Rn_some hF42)
     ·try simp [go_sem]
      cases ho35 _ (Rn_some hF42)
      exact hj27 s33.1 _ (by simp [go_sem]) hψ37
  ·intro ψ3 hj1 hF4
   try simp [go_sem]
   refine pw_cl hF4 [.sh] c_impl_isCounted rfl rfl (by (try simp [go_sem, clE]); first | rfl | done) (by rfl) (by (try simp [go_sem]); first | rfl | done) fun z7 hF8 => ⟨by simp [go_sem], ?_⟩
   try simp [go_sem]
   refine pwg_F hF8 (fun h9 hF10 => ?_) fun h9 hF10 => ?_
   ·try simp [go_sem, h9]
    exact hj1 true _ (by simp [go_sem]) (Rn_some hF10)
   ·try simp [go_sem, h9]
    refine pwg_F hF10 (fun h11 hF12 => ?_) fun h11 hF12 => ?_
    ·try simp [go_sem, h11]
     exact hj1 true _ (by simp [go_sem]) (Rn_some hF12)
    ·try simp [go_sem, h11]
     refine pw_cl hF12 [.sh, .sh, .sh] c_impl_within rfl rfl (by (try simp [go_sem, clE]); first | rfl | done) (by rfl) (by (try simp [go_sem]); first | rfl | done) fun z13 hF14 => ⟨by simp [go_sem], ?_⟩
     try simp [go_sem, h11]
     refine pwg_F hF14 (fun h15 hF16 => ?_) fun h15 hF16 => ?_
     ·try simp [go_sem, h15]
      exact hj1 true _ (by simp [go_sem]) (Rn_some hF16)
     ·try simp [go_sem, h15]
      refine pw_cl hF16 [.sh, .sh] c_impl_Group_isExp rfl rfl (by (try simp [go_sem, clE]); first | rfl | done) (by rfl) (by (try simp [go_sem]); first | rfl | done) fun z17 hF18 => ⟨by simp [go_sem], ?_⟩
      try simp [go_sem, h15]
      refine pwg_F hF18 (fun h19 hF20 => ?_) fun h19 hF20 => ?_
      ·try simp [go_sem, h19]
       exact hj1 true _ (by simp [go_sem]) (Rn_some hF20)
      ·try simp [go_sem, h19]
       try intros
       refine pwg_F hF20 (fun h21 hF22 => ?_) fun h21 hF22 => ?_
       ·try simp [go_sem, h21]
        exact hj1 true _ (by simp [go_sem]) (Rn_some hF22)
       ·try simp [go_sem, h21]
        refine pw_cl hF22 [.sh] c_impl_areTrustees rfl rfl (by (try simp [go_sem, clE]); first | rfl | done) (by rfl) (by (try simp [go_sem]); first | rfl | done) fun z23 hF24 => ⟨by simp [go_sem], ?_⟩
        try simp [go_sem, h21]
        exact hj1 (!z23) _ (by simp [go_sem]) (Rn_some hF24)
noncomputable def F_spec_wGroup (a0 : Group) : Option (Bool) :=
  (((F_spec_l2Good a0).bind fun z7 =>
  if z7 = true then (
  some (decide (a0.Q ≤ 23))) else (
  some false) : Option (Bool)).bind fun (x5 : Bool) =>
  some x5)
theorem c_spec_wGroup {a0 : Group} {r : Bool} (hr : F_spec_wGroup a0 = some r) : PCalls Try.prog 48 [(.sh, .agg [.int .i64 a0.P, .int .i64 a0.Q, .int .i64 a0.G])] (Eo (.bool r) [.junk]) := by
  apply pcalls_lf 10 [] [] [] [.tmp 2] hr cl48 Try.func48 rfl rfl rfl
  · exact ⟨by simp, rfl⟩
  intro Φ hΦ hF
  unfold F_spec_wGroup at hF
  try simp [go_sem]
  refine pw_wk ?_
  repeat rw [sq]
  refine pw_joinF (fun (x5 : Bool) => [(2, .v (.bool x5))]) hF ?_ ?_
  ·intro x5 hF6
   cases hΦ _ (Rn_some hF6)
   try simp [go_sem]
  ·intro ψ3 hj1 hF4
   try simp [go_sem]
   refine pw_cl hF4 [.sh] c_spec_l2Good rfl rfl (by (try simp [go_sem, clE]); first | rfl | done) (by rfl) (by (try simp [go_sem]); first | rfl | done) fun z7 hF8 => ⟨by simp [go_sem], ?_⟩
   try simp [go_sem]
   refine pwg_F hF8 (fun h9 hF10 => ?_) fun h9 hF10 => ?_
   ·try simp [go_sem, h9]
    exact hj1 (decide (a0.Q ≤ 23)) _ (by simp [go_sem]) (Rn_some hF10)
   ·try simp [go_sem, h9]
    exact hj1 false _ (by simp [go_sem]) (Rn_some hF10)
noncomputable def F_spec_l1Has (a0 : (List Int)) (a1 : Int) : Option (Bool) :=
  ((rloop (σ := Unit) (β := Unit ⊕ Bool) (fun i8 s7 =>
  (ix a0 i8).bind fun x17 =>
  if (x17 == a1) = true then (
  some (.out (.inr true))) else (
  some (.go ()))) (fun s7 => .inl ()) (a0.length) 0 () : Option (Unit ⊕ Bool)).bind (Sum.elim (fun (x5 : Unit) =>
  some false) some))
end Go.Pm
