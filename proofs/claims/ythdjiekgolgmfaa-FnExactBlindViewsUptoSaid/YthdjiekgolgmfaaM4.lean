/-
  Plain functions and their walks. Written by wip/tools/lift.py.
-/
import Derived.Test.YthdjiekgolgmfaaPS
namespace Go.Pm
open Go.Am
open Go.Proofs
set_option maxRecDepth 100000
attribute [local irreducible] pw pwx pw1 pwg qv qz qf
set_option linter.unusedSimpArgs false
set_option linter.unusedVariables false
structure ViewCount where
  View : (List Int)
  Times : Int
def row_i64 (x : Int) : List PV := [.int .i64 x]
@[go_sem] theorem row_i64_eq {x : Int} : row_i64 x = [.int .i64 x] := (rfl)
@[go_sem] theorem row_i64_drop {l : List Int} : List.map (List.map drop ∘ row_i64) l = l.map row_i64 := by refine List.map_congr_left fun x _ => ?_; simp [-List.map_set, go_sem]
@[go_sem] theorem row_i64_drop' {l : List Int} : List.map (List.map drop) (l.map row_i64) = l.map row_i64 := by rw [List.map_map]; exact row_i64_drop
@[go_sem] theorem row_i64_set {l : List Int} {i : Nat} {a : Int} : (l.map row_i64).set i [.int .i64 a] = (l.set i a).map row_i64 := by simp [List.map_set, go_sem]
def row_ViewCount_z (x : ViewCount) : List PV := [.sl false 1 (x.View.map row_i64), .int .i64 x.Times]
@[go_sem] theorem row_ViewCount_z_eq {x : ViewCount} : row_ViewCount_z x = [.sl false 1 (x.View.map row_i64), .int .i64 x.Times] := (rfl)
@[go_sem] theorem row_ViewCount_z_drop {l : List ViewCount} : List.map (List.map drop ∘ row_ViewCount_z) l = l.map row_ViewCount_z := by refine List.map_congr_left fun x _ => ?_; simp [-List.map_set, go_sem]
@[go_sem] theorem row_ViewCount_z_drop' {l : List ViewCount} : List.map (List.map drop) (l.map row_ViewCount_z) = l.map row_ViewCount_z := by rw [List.map_map]; exact row_ViewCount_z_drop
@[go_sem] theorem row_ViewCount_z_set {l : List ViewCount} {i : Nat} {View : (List Int)} {Times : Int} : (l.map row_ViewCount_z).set i [.sl false 1 (View.map row_i64), .int .i64 Times] = (l.set i (ViewCount.mk View Times)).map row_ViewCount_z := by simp [List.map_set, go_sem]
def row_zi64 (x : (List Int)) : List PV := [.sl false 1 (x.map row_i64)]
@[go_sem] theorem row_zi64_eq {x : (List Int)} : row_zi64 x = [.sl false 1 (x.map row_i64)] := (rfl)
@[go_sem] theorem row_zi64_drop {l : List (List Int)} : List.map (List.map drop ∘ row_zi64) l = l.map row_zi64 := by refine List.map_congr_left fun x _ => ?_; simp [-List.map_set, go_sem]
@[go_sem] theorem row_zi64_drop' {l : List (List Int)} : List.map (List.map drop) (l.map row_zi64) = l.map row_zi64 := by rw [List.map_map]; exact row_zi64_drop
@[go_sem] theorem row_zi64_set {l : List (List Int)} {i : Nat} {a : (List Int)} : (l.map row_zi64).set i [.sl false 1 (a.map row_i64)] = (l.set i a).map row_zi64 := by simp [List.map_set, go_sem]
def row_oi64 (x : (List Int)) : List PV := [.sl true 1 (x.map row_i64)]
@[go_sem] theorem row_oi64_eq {x : (List Int)} : row_oi64 x = [.sl true 1 (x.map row_i64)] := (rfl)
@[go_sem] theorem row_oi64_drop {l : List (List Int)} : List.map (List.map drop ∘ row_oi64) l = l.map row_zi64 := by refine List.map_congr_left fun x _ => ?_; simp [-List.map_set, go_sem]
@[go_sem] theorem row_oi64_drop' {l : List (List Int)} : List.map (List.map drop) (l.map row_oi64) = l.map row_zi64 := by rw [List.map_map]; exact row_oi64_drop
@[go_sem] theorem row_oi64_set {l : List (List Int)} {i : Nat} {a : (List Int)} : (l.map row_oi64).set i [.sl true 1 (a.map row_i64)] = (l.set i a).map row_oi64 := by simp [List.map_set, go_sem]
def row_ViewCount_o (x : ViewCount) : List PV := [.sl true 1 (x.View.map row_i64), .int .i64 x.Times]
@[go_sem] theorem row_ViewCount_o_eq {x : ViewCount} : row_ViewCount_o x = [.sl true 1 (x.View.map row_i64), .int .i64 x.Times] := (rfl)
@[go_sem] theorem row_ViewCount_o_drop {l : List ViewCount} : List.map (List.map drop ∘ row_ViewCount_o) l = l.map row_ViewCount_z := by refine List.map_congr_left fun x _ => ?_; simp [-List.map_set, go_sem]
@[go_sem] theorem row_ViewCount_o_drop' {l : List ViewCount} : List.map (List.map drop) (l.map row_ViewCount_o) = l.map row_ViewCount_z := by rw [List.map_map]; exact row_ViewCount_o_drop
@[go_sem] theorem row_ViewCount_o_set {l : List ViewCount} {i : Nat} {View : (List Int)} {Times : Int} : (l.map row_ViewCount_o).set i [.sl true 1 (View.map row_i64), .int .i64 Times] = (l.set i (ViewCount.mk View Times)).map row_ViewCount_o := by simp [List.map_set, go_sem]
noncomputable def F_spec_l1In (a0 : Int) (a1 : Int) (a2 : Int) : Option (Bool) :=
  ((if decide (a1 ≤ a0) = true then (
  some (decide (a0 ≤ a2))) else (
  some false) : Option (Bool)).bind fun (x5 : Bool) =>
  some x5)
theorem c_spec_l1In {a0 : Int} {a1 : Int} {a2 : Int} {r : Bool} (hr : F_spec_l1In a0 a1 a2 = some r) : PCalls Try.prog 54 [(.sh, .int .i64 a0), (.sh, .int .i64 a1), (.sh, .int .i64 a2)] (fun o os => o = .bool r ∧ os = [.junk, .junk, .junk]) := by
  refine pcalls_lift (R := fun (r : Bool) o os => o = .bool r ∧ os = [.junk, .junk, .junk]) [] [] hr cl54 Try.func54 rfl (by simp [Try.f54]) fun Φ hΦ hF => ?_
  unfold F_spec_l1In at hF
  simp only [Try.f54, ioL_nil, ioL_sh, ioL_mv, ioL_io]
  try simp [-List.map_set, go_sem]
  refine pw_wkL [(0, .v (.int .i64 a0)), (1, .v (.int .i64 a1)), (2, .v (.int .i64 a2))] (by simp [-List.map_set, go_sem]) ?_
  repeat rw [pw_seq]
  refine pw_joinF (fun (x5 : Bool) => [(6, .v (.bool x5))]) hF ?_ ?_
  · intro x5 hF6
    try dsimp only at hF6
    try simp [-List.map_set, go_sem]
    have h12 := Rn_some hF6
    have h13 := hΦ _ h12
    subst h13
    try simp [-List.map_set, go_sem]
  · intro ψ3 hj1 hF4
    try simp [-List.map_set, go_sem]
    refine pwg_split (fun h7 => ?_) (fun h7 => ?_)
    · have hF8 := Rn_t hF4 h7
      try simp [-List.map_set, go_sem, h7]
      have h9 := Rn_some hF8
      exact hj1 (decide (a0 ≤ a2)) _ (by simp [-List.map_set, go_sem, h7]) h9
    · have hF10 := Rn_f hF4 h7
      try simp [-List.map_set, go_sem, h7]
      have h11 := Rn_some hF10
      exact hj1 false _ (by simp [-List.map_set, go_sem, h7]) h11
noncomputable def F_spec_nPrime (a0 : Int) : Option (Bool) :=
  if decide (a0 < 2) = true then (
  some false) else (
  ((wloop (σ := Int) (β := Unit ⊕ Bool) (fun s12 =>
  if decide ((IntKind.i64.wrap (s12 * s12)) ≤ a0) = true then (
  gd (s12 ≠ 0) <|
  if ((a0.tmod s12) == 0) = true then (
  some (.out (.inr false))) else (
  some (.go (IntKind.i64.wrap (s12 + 1))))) else (
  some (.out (.inl ())))) 2 : Option (Unit ⊕ Bool)).bind (Sum.elim (fun (x10 : Unit) =>
  some true) some)))
theorem c_spec_nPrime {a0 : Int} {r : Bool} (hr : F_spec_nPrime a0 = some r) : PCalls Try.prog 71 [(.sh, .int .i64 a0)] (fun o os => o = .bool r ∧ os = [.junk]) := by
  refine pcalls_lift (R := fun (r : Bool) o os => o = .bool r ∧ os = [.junk]) [] [] hr cl71 Try.func71 rfl (by simp [Try.f71]) fun Φ hΦ hF => ?_
  unfold F_spec_nPrime at hF
  simp only [Try.f71, ioL_nil, ioL_sh, ioL_mv, ioL_io]
  try simp [-List.map_set, go_sem]
  refine pw_wkL [(0, .v (.int .i64 a0))] (by simp [-List.map_set, go_sem]) ?_
  try simp [-List.map_set, go_sem]
  refine pw_wkL [(0, .v (.int .i64 a0)), (5, .v (.bool (decide (a0 < 2))))] (by simp [-List.map_set, go_sem]) ?_
  repeat rw [pw_seq]
  refine pw_cond' (v := decide (a0 < 2)) (by simp [-List.map_set, go_sem]) (fun h1 => ?_) (fun h1 => ?_)
  · have hF2 := Rn_t hF h1
    try simp [-List.map_set, go_sem, h1]
    refine pw_wkL [(2, .v (.bool false))] (by simp [-List.map_set, go_sem, h1]) ?_
    try simp [-List.map_set, go_sem, h1]
    have h3 := Rn_some hF2
    have h4 := hΦ _ h3
    subst h4
    try simp [-List.map_set, go_sem, h1]
  · have hF5 := Rn_f hF h1
    try simp [-List.map_set, go_sem, h1]
    refine pw_wkL [(0, .v (.int .i64 a0))] (by simp [-List.map_set, go_sem, h1]) ?_
    try simp [-List.map_set, go_sem, h1]
    refine pw_wkL [(0, .v (.int .i64 a0)), (3, .v (.int .i64 2))] (by simp [-List.map_set, go_sem, h1]) ?_
    repeat rw [pw_seq]
    refine pw_joinS (fun (x10 : Unit) => []) hF5 ?_ ?_
    · intro x10 hF11
      try dsimp only at hF11
      try simp [-List.map_set, go_sem, h1]
      refine pw_wkL [(2, .v (.bool true))] (by simp [-List.map_set, go_sem, h1]) ?_
      try simp [-List.map_set, go_sem, h1]
      have h38 := Rn_some hF11
      have h39 := hΦ _ h38
      subst h39
      try simp [-List.map_set, go_sem, h1]
    · intro ψ8 hj6 hr7 hF9
      repeat rw [pw_seq]
      rw [pw_block]
      try simp [-List.map_set, go_sem]
      obtain ⟨b36, hb37, hψ16⟩ := hF9
      refine pw_wloop (fun (s12 : Int) => [(0, .v (.int .i64 a0)), (3, .v (.int .i64 s12))]) hb37 (by simp [-List.map_set, go_sem, h1]) ?_
      intro s12 φ17 N18 ho14 hg15 hF19
      try dsimp only at hF19
      try simp [-List.map_set, go_sem, h1]
      refine pw_wkL [(0, .v (.int .i64 a0)), (3, .v (.int .i64 s12)), (10, .v (.bool (decide ((IntKind.i64.wrap (s12 * s12)) ≤ a0))))] (by simp [-List.map_set, go_sem, h1]) ?_
      repeat rw [pw_seq]
      refine pw_cond' (v := decide ((IntKind.i64.wrap (s12 * s12)) ≤ a0)) (by simp [-List.map_set, go_sem, h1]) (fun h20 => ?_) (fun h20 => ?_)
      · have hF21 := Rn_t hF19 h20
        try simp [-List.map_set, go_sem, h1, h20]
        refine pw_wkL [(0, .v (.int .i64 a0)), (3, .v (.int .i64 s12))] (by simp [-List.map_set, go_sem, h1, h20]) ?_
        repeat rw [pw_seq]
        rw [pw_block]
        obtain ⟨g22, hF23⟩ := Rn_gd hF21
        have g24 := fun x => divV_ne (x := x) g22
        try simp [-List.map_set, go_sem, h1, h20, g22, g24]
        refine pw_wkL [(0, .v (.int .i64 a0)), (3, .v (.int .i64 s12)), (16, .v (.bool ((a0.tmod s12) == 0)))] (by simp [-List.map_set, go_sem, h1, h20, g22, g24]) ?_
        repeat rw [pw_seq]
        refine pw_cond' (v := ((a0.tmod s12) == 0)) (by simp [-List.map_set, go_sem, h1, h20, g22, g24]) (fun h25 => ?_) (fun h25 => ?_)
        · have hF26 := Rn_t hF23 h25
          try simp [-List.map_set, go_sem, h1, h20, g22, g24, h25]
          refine pw_wkL [(2, .v (.bool false))] (by simp [-List.map_set, go_sem, h1, h20, g22, g24, h25]) ?_
          try simp [-List.map_set, go_sem, h1, h20, g22, g24, h25]
          have h27 := Rn_some hF26
          have h28 := ho14 _ h27
          subst h28
          have h29 := hr7 _ hψ16
          have h30 := hΦ _ h29
          subst h30
          try simp [-List.map_set, go_sem, h1, h20, g22, g24, h25]
        · have hF31 := Rn_f hF23 h25
          try simp [-List.map_set, go_sem, h1, h20, g22, g24, h25]
          refine pw_wkL [(0, .v (.int .i64 a0)), (3, .v (.int .i64 s12))] (by simp [-List.map_set, go_sem, h1, h20, g22, g24, h25]) ?_
          try simp [-List.map_set, go_sem, h1, h20, g22, g24, h25]
          have h32 := Rn_some hF31
          exact hg15 (IntKind.i64.wrap (s12 + 1)) _ (by simp [-List.map_set, go_sem, h1, h20, g22, g24, h25]) h32
      · have hF33 := Rn_f hF19 h20
        try simp [-List.map_set, go_sem, h1, h20]
        have h34 := Rn_some hF33
        have h35 := ho14 _ h34
        subst h35
        exact hj6 () _ (by simp [-List.map_set, go_sem, h1, h20]) hψ16
noncomputable def F_spec_wLess (a0 : (List Int)) (a1 : (List Int)) : Option (Bool) :=
  ((rloop (σ := Unit) (β := Unit ⊕ Bool) (fun i9 s8 =>
  if (i9 == (a1.length : Int)) = true then (
  some (.out (.inr false))) else (
  (ix a0 i9).bind fun x26 =>
  (ix a1 i9).bind fun x33 =>
  if (x26 != x33) = true then (
  some (.out (.inr (decide (x26 < x33))))) else (
  some (.go ())))) (fun s8 => .inl ()) (a0.length) 0 () : Option (Unit ⊕ Bool)).bind (Sum.elim (fun (x6 : Unit) =>
  some (decide ((a0.length : Int) < (a1.length : Int)))) some))
theorem c_spec_wLess {a0 : (List Int)} {a1 : (List Int)} {r : Bool} (hr : F_spec_wLess a0 a1 = some r) : PCalls Try.prog 84 [(.sh, .sl false 1 (a0.map row_i64)), (.sh, .sl false 1 (a1.map row_i64))] (fun o os => o = .bool r ∧ os = [.junk, .junk]) := by
  refine pcalls_lift (R := fun (r : Bool) o os => o = .bool r ∧ os = [.junk, .junk]) [] [] hr cl84 Try.func84 rfl (by simp [Try.f84]) fun Φ hΦ hF => ?_
  unfold F_spec_wLess at hF
  simp only [Try.f84, ioL_nil, ioL_sh, ioL_mv, ioL_io]
  try simp [-List.map_set, go_sem]
  refine pw_wkL [(0, .v (.sl false 1 (a0.map row_i64))), (1, .v (.sl false 1 (a1.map row_i64)))] (by simp [-List.map_set, go_sem]) ?_
  try simp [-List.map_set, go_sem]
  refine qln_some fun hl1 => ?_
  try simp [-List.map_set, go_sem]
  refine pw_wkL [(0, .v (.sl false 1 (a0.map row_i64))), (1, .v (.sl false 1 (a1.map row_i64))), (7, .v (.int .i64 (a0.length : Int))), (8, .v (.int .i64 0))] (by simp [-List.map_set, go_sem]) ?_
  repeat rw [pw_seq]
  refine pw_joinS (fun (x6 : Unit) => [(0, .v (.sl false 1 (a0.map row_i64))), (1, .v (.sl false 1 (a1.map row_i64)))]) hF ?_ ?_
  · intro x6 hF7
    try dsimp only at hF7
    try simp [-List.map_set, go_sem]
    refine qln_some fun hl52 => ?_
    try simp [-List.map_set, go_sem]
    refine qln_some fun hl53 => ?_
    try simp [-List.map_set, go_sem]
    refine pw_wkL [(4, .v (.bool (decide ((a0.length : Int) < (a1.length : Int)))))] (by simp [-List.map_set, go_sem]) ?_
    try simp [-List.map_set, go_sem]
    have h54 := Rn_some hF7
    have h55 := hΦ _ h54
    subst h55
    try simp [-List.map_set, go_sem]
  · intro ψ4 hj2 hr3 hF5
    repeat rw [pw_seq]
    rw [pw_block]
    try simp [-List.map_set, go_sem]
    obtain ⟨b48, hb49, hψ12⟩ := hF5
    refine pw_rloop (fun (i9 : Int) (s8 : Unit) => [(0, .v (.sl false 1 (a0.map row_i64))), (1, .v (.sl false 1 (a1.map row_i64))), (7, .v (.int .i64 (a0.length : Int))), (8, .v (.int .i64 i9))]) hb49 (by simp [-List.map_set, go_sem]) ?_ ?_
    · intro s8 N51 hN50
      subst hN50
      try simp [-List.map_set, go_sem]
      refine pw_wk ?_
      repeat rw [pw_seq]
      refine pw_cond_f (by simp [-List.map_set, go_sem]) ?_
      try simp [-List.map_set, go_sem]
      exact hj2 () _ (by simp [-List.map_set, go_sem]) hψ12
    · intro i9 s8 φ13 N14 hi16 hi17 ho10 hg11 hF15
      try dsimp only at hF15
      rw [Int.zero_add] at hi17
      try simp [-List.map_set, go_sem, hi16, hi17]
      refine pw_wkL [(0, .v (.sl false 1 (a0.map row_i64))), (1, .v (.sl false 1 (a1.map row_i64))), (7, .v (.int .i64 (a0.length : Int))), (8, .v (.int .i64 i9)), (9, .v (.bool (decide (i9 < (a0.length : Int)))))] (by simp [-List.map_set, go_sem, hi16, hi17]) ?_
      repeat rw [pw_seq]
      refine pw_cond_t (by simp [-List.map_set, go_sem, hi16, hi17]) ?_
      try simp [-List.map_set, go_sem, hi16, hi17]
      refine pw_wkL [(0, .v (.sl false 1 (a0.map row_i64))), (1, .v (.sl false 1 (a1.map row_i64))), (7, .v (.int .i64 (a0.length : Int))), (8, .v (.int .i64 i9))] (by simp [-List.map_set, go_sem, hi16, hi17]) ?_
      repeat rw [pw_seq]
      rw [pw_block]
      try simp [-List.map_set, go_sem, hi16, hi17]
      refine pw_wkL [(0, .v (.sl false 1 (a0.map row_i64))), (1, .v (.sl false 1 (a1.map row_i64))), (5, .v (.int .i64 i9)), (7, .v (.int .i64 (a0.length : Int))), (8, .v (.int .i64 i9))] (by simp [-List.map_set, go_sem, hi16, hi17]) ?_
      try simp [-List.map_set, go_sem, hi16, hi17]
      refine qln_some fun hl18 => ?_
      try simp [-List.map_set, go_sem, hi16, hi17]
      refine pw_wkL [(0, .v (.sl false 1 (a0.map row_i64))), (1, .v (.sl false 1 (a1.map row_i64))), (5, .v (.int .i64 i9)), (7, .v (.int .i64 (a0.length : Int))), (8, .v (.int .i64 i9)), (14, .v (.bool (i9 == (a1.length : Int))))] (by simp [-List.map_set, go_sem, hi16, hi17]) ?_
      repeat rw [pw_seq]
      refine pw_cond' (v := (i9 == (a1.length : Int))) (by simp [-List.map_set, go_sem, hi16, hi17]) (fun h19 => ?_) (fun h19 => ?_)
      · have hF20 := Rn_t hF15 h19
        try simp [-List.map_set, go_sem, hi16, hi17, h19]
        refine pw_wkL [(4, .v (.bool false))] (by simp [-List.map_set, go_sem, hi16, hi17, h19]) ?_
        try simp [-List.map_set, go_sem, hi16, hi17, h19]
        have h21 := Rn_some hF20
        have h22 := ho10 _ h21
        subst h22
        have h23 := hr3 _ hψ12
        have h24 := hΦ _ h23
        subst h24
        try simp [-List.map_set, go_sem, hi16, hi17, h19]
      · have hF25 := Rn_f hF15 h19
        try simp [-List.map_set, go_sem, hi16, hi17, h19]
        refine pw_wkL [(0, .v (.sl false 1 (a0.map row_i64))), (1, .v (.sl false 1 (a1.map row_i64))), (5, .v (.int .i64 i9)), (7, .v (.int .i64 (a0.length : Int))), (8, .v (.int .i64 i9))] (by simp [-List.map_set, go_sem, hi16, hi17, h19]) ?_
        repeat rw [pw_seq]
        refine pw_draw D84_6 follows (by kernel_rfl) rfl ?_
        try simp only [go_sem, D84_6]
        obtain ⟨x26, e27, hF28⟩ := Rn_bind hF25
        obtain ⟨g29, g30, g31⟩ := ix_some e27
        have g32 := ix_get e27
        try simp only [Int.toNat_natCast, Int.toNat_zero, Int.toNat_one, Int.reduceToNat] at g31 g32
        obtain ⟨x33, e34, hF35⟩ := Rn_bind hF28
        obtain ⟨g36, g37, g38⟩ := ix_some e34
        have g39 := ix_get e34
        try simp only [Int.toNat_natCast, Int.toNat_zero, Int.toNat_one, Int.reduceToNat] at g38 g39
        try simp [-List.map_set, go_sem, hi16, hi17, h19, g29, g30, g31, g32, g36, g37, g38, g39]
        refine pw_wkL [(0, .v (.sl false 1 (a0.map row_i64))), (1, .v (.sl false 1 (a1.map row_i64))), (5, .v (.int .i64 i9)), (7, .v (.int .i64 (a0.length : Int))), (8, .v (.int .i64 i9)), (23, .v (.bool (x26 != x33)))] (by simp [-List.map_set, go_sem, hi16, hi17, h19, g29, g30, g31, g32, g36, g37, g38, g39]) ?_
        repeat rw [pw_seq]
        refine pw_cond' (v := (x26 != x33)) (by simp [-List.map_set, go_sem, hi16, hi17, h19, g29, g30, g31, g32, g36, g37, g38, g39]) (fun h40 => ?_) (fun h40 => ?_)
        · have hF41 := Rn_t hF35 h40
          repeat rw [pw_seq]
          refine pw_draw D84_7 follows (by kernel_rfl) rfl ?_
          try simp only [go_sem, D84_7]
          try simp [-List.map_set, go_sem, hi16, hi17, h19, g29, g30, g31, g32, g36, g37, g38, g39, h40]
          refine pw_wkL [(4, .v (.bool (decide (x26 < x33))))] (by simp [-List.map_set, go_sem, hi16, hi17, h19, g29, g30, g31, g32, g36, g37, g38, g39, h40]) ?_
          try simp [-List.map_set, go_sem, hi16, hi17, h19, g29, g30, g31, g32, g36, g37, g38, g39, h40]
          have h42 := Rn_some hF41
          have h43 := ho10 _ h42
          subst h43
          have h44 := hr3 _ hψ12
          have h45 := hΦ _ h44
          subst h45
          try simp [-List.map_set, go_sem, hi16, hi17, h19, g29, g30, g31, g32, g36, g37, g38, g39, h40]
        · have hF46 := Rn_f hF35 h40
          try simp [-List.map_set, go_sem, hi16, hi17, h19, g29, g30, g31, g32, g36, g37, g38, g39, h40]
          refine pw_wkL [(0, .v (.sl false 1 (a0.map row_i64))), (1, .v (.sl false 1 (a1.map row_i64))), (7, .v (.int .i64 (a0.length : Int))), (8, .v (.int .i64 i9))] (by simp [-List.map_set, go_sem, hi16, hi17, h19, g29, g30, g31, g32, g36, g37, g38, g39, h40]) ?_
          try simp [-List.map_set, go_sem, hi16, hi17, h19, g29, g30, g31, g32, g36, g37, g38, g39, h40]
          have h47 := Rn_some hF46
          have hw : IntKind.i64.wrap (i9 + 1) = i9 + 1 := wrI (by have h0 := hl1; simp [maxLen] at h0; omega)
          exact hg11 () _ (by simp [-List.map_set, go_sem, hi16, hi17, h19, g29, g30, g31, g32, g36, g37, g38, g39, h40, hw]) h47
noncomputable def F_spec_l1Same (a0 : (List Int)) (a1 : (List Int)) : Option (Bool) :=
  if ((a0.length : Int) != (a1.length : Int)) = true then (
  some false) else (
  ((rloop (σ := Unit) (β := Unit ⊕ Bool) (fun i16 s15 =>
  (ix a0 i16).bind fun x25 =>
  (ix a1 i16).bind fun x32 =>
  if (x25 != x32) = true then (
  some (.out (.inr false))) else (
  some (.go ()))) (fun s15 => .inl ()) (a0.length) 0 () : Option (Unit ⊕ Bool)).bind (Sum.elim (fun (x13 : Unit) =>
  some true) some)))
theorem c_spec_l1Same {a0 : (List Int)} {a1 : (List Int)} {r : Bool} (hr : F_spec_l1Same a0 a1 = some r) : PCalls Try.prog 86 [(.sh, .sl false 1 (a0.map row_i64)), (.sh, .sl false 1 (a1.map row_i64))] (fun o os => o = .bool r ∧ os = [.junk, .junk]) := by
  refine pcalls_lift (R := fun (r : Bool) o os => o = .bool r ∧ os = [.junk, .junk]) [] [] hr cl86 Try.func86 rfl (by simp [Try.f86]) fun Φ hΦ hF => ?_
  unfold F_spec_l1Same at hF
  simp only [Try.f86, ioL_nil, ioL_sh, ioL_mv, ioL_io]
  try simp [-List.map_set, go_sem]
  refine pw_wkL [(0, .v (.sl false 1 (a0.map row_i64))), (1, .v (.sl false 1 (a1.map row_i64)))] (by simp [-List.map_set, go_sem]) ?_
  try simp [-List.map_set, go_sem]
  refine qln_some fun hl1 => ?_
  try simp [-List.map_set, go_sem]
  refine qln_some fun hl2 => ?_
  try simp [-List.map_set, go_sem]
  refine pw_wkL [(0, .v (.sl false 1 (a0.map row_i64))), (1, .v (.sl false 1 (a1.map row_i64))), (10, .v (.bool ((a0.length : Int) != (a1.length : Int))))] (by simp [-List.map_set, go_sem]) ?_
  repeat rw [pw_seq]
  refine pw_cond' (v := ((a0.length : Int) != (a1.length : Int))) (by simp [-List.map_set, go_sem]) (fun h3 => ?_) (fun h3 => ?_)
  · have hF4 := Rn_t hF h3
    try simp [-List.map_set, go_sem, h3]
    refine pw_wkL [(4, .v (.bool false))] (by simp [-List.map_set, go_sem, h3]) ?_
    try simp [-List.map_set, go_sem, h3]
    have h5 := Rn_some hF4
    have h6 := hΦ _ h5
    subst h6
    try simp [-List.map_set, go_sem, h3]
  · have hF7 := Rn_f hF h3
    try simp [-List.map_set, go_sem, h3]
    refine pw_wkL [(0, .v (.sl false 1 (a0.map row_i64))), (1, .v (.sl false 1 (a1.map row_i64)))] (by simp [-List.map_set, go_sem, h3]) ?_
    try simp [-List.map_set, go_sem, h3]
    refine qln_some fun hl8 => ?_
    try simp [-List.map_set, go_sem, h3]
    refine pw_wkL [(0, .v (.sl false 1 (a0.map row_i64))), (1, .v (.sl false 1 (a1.map row_i64))), (12, .v (.int .i64 (a0.length : Int))), (13, .v (.int .i64 0))] (by simp [-List.map_set, go_sem, h3]) ?_
    repeat rw [pw_seq]
    refine pw_joinS (fun (x13 : Unit) => []) hF7 ?_ ?_
    · intro x13 hF14
      try dsimp only at hF14
      try simp [-List.map_set, go_sem, h3]
      refine pw_wkL [(4, .v (.bool true))] (by simp [-List.map_set, go_sem, h3]) ?_
      try simp [-List.map_set, go_sem, h3]
      have h51 := Rn_some hF14
      have h52 := hΦ _ h51
      subst h52
      try simp [-List.map_set, go_sem, h3]
    · intro ψ11 hj9 hr10 hF12
      repeat rw [pw_seq]
      rw [pw_block]
      try simp [-List.map_set, go_sem]
      obtain ⟨b47, hb48, hψ19⟩ := hF12
      refine pw_rloop (fun (i16 : Int) (s15 : Unit) => [(0, .v (.sl false 1 (a0.map row_i64))), (1, .v (.sl false 1 (a1.map row_i64))), (12, .v (.int .i64 (a0.length : Int))), (13, .v (.int .i64 i16))]) hb48 (by simp [-List.map_set, go_sem, h3]) ?_ ?_
      · intro s15 N50 hN49
        subst hN49
        try simp [-List.map_set, go_sem]
        refine pw_wk ?_
        repeat rw [pw_seq]
        refine pw_cond_f (by simp [-List.map_set, go_sem]) ?_
        try simp [-List.map_set, go_sem]
        exact hj9 () _ (by simp [-List.map_set, go_sem]) hψ19
      · intro i16 s15 φ20 N21 hi23 hi24 ho17 hg18 hF22
        try dsimp only at hF22
        rw [Int.zero_add] at hi24
        try simp [-List.map_set, go_sem, h3, hi23, hi24]
        refine pw_wkL [(0, .v (.sl false 1 (a0.map row_i64))), (1, .v (.sl false 1 (a1.map row_i64))), (12, .v (.int .i64 (a0.length : Int))), (13, .v (.int .i64 i16)), (14, .v (.bool (decide (i16 < (a0.length : Int)))))] (by simp [-List.map_set, go_sem, h3, hi23, hi24]) ?_
        repeat rw [pw_seq]
        refine pw_cond_t (by simp [-List.map_set, go_sem, h3, hi23, hi24]) ?_
        try simp [-List.map_set, go_sem, h3, hi23, hi24]
        refine pw_wkL [(0, .v (.sl false 1 (a0.map row_i64))), (1, .v (.sl false 1 (a1.map row_i64))), (12, .v (.int .i64 (a0.length : Int))), (13, .v (.int .i64 i16))] (by simp [-List.map_set, go_sem, h3, hi23, hi24]) ?_
        repeat rw [pw_seq]
        rw [pw_block]
        try simp [-List.map_set, go_sem, h3, hi23, hi24]
        refine pw_wkL [(0, .v (.sl false 1 (a0.map row_i64))), (1, .v (.sl false 1 (a1.map row_i64))), (5, .v (.int .i64 i16)), (12, .v (.int .i64 (a0.length : Int))), (13, .v (.int .i64 i16))] (by simp [-List.map_set, go_sem, h3, hi23, hi24]) ?_
        repeat rw [pw_seq]
        refine pw_draw D86_6 follows (by kernel_rfl) rfl ?_
        try simp only [go_sem, D86_6]
        obtain ⟨x25, e26, hF27⟩ := Rn_bind hF22
        obtain ⟨g28, g29, g30⟩ := ix_some e26
        have g31 := ix_get e26
        try simp only [Int.toNat_natCast, Int.toNat_zero, Int.toNat_one, Int.reduceToNat] at g30 g31
        obtain ⟨x32, e33, hF34⟩ := Rn_bind hF27
        obtain ⟨g35, g36, g37⟩ := ix_some e33
        have g38 := ix_get e33
        try simp only [Int.toNat_natCast, Int.toNat_zero, Int.toNat_one, Int.reduceToNat] at g37 g38
        try simp [-List.map_set, go_sem, h3, hi23, hi24, g28, g29, g30, g31, g35, g36, g37, g38]
        refine pw_wkL [(0, .v (.sl false 1 (a0.map row_i64))), (1, .v (.sl false 1 (a1.map row_i64))), (12, .v (.int .i64 (a0.length : Int))), (13, .v (.int .i64 i16)), (24, .v (.bool (x25 != x32)))] (by simp [-List.map_set, go_sem, h3, hi23, hi24, g28, g29, g30, g31, g35, g36, g37, g38]) ?_
        repeat rw [pw_seq]
        refine pw_cond' (v := (x25 != x32)) (by simp [-List.map_set, go_sem, h3, hi23, hi24, g28, g29, g30, g31, g35, g36, g37, g38]) (fun h39 => ?_) (fun h39 => ?_)
        · have hF40 := Rn_t hF34 h39
          try simp [-List.map_set, go_sem, h3, hi23, hi24, g28, g29, g30, g31, g35, g36, g37, g38, h39]
          refine pw_wkL [(4, .v (.bool false))] (by simp [-List.map_set, go_sem, h3, hi23, hi24, g28, g29, g30, g31, g35, g36, g37, g38, h39]) ?_
          try simp [-List.map_set, go_sem, h3, hi23, hi24, g28, g29, g30, g31, g35, g36, g37, g38, h39]
          have h41 := Rn_some hF40
          have h42 := ho17 _ h41
          subst h42
          have h43 := hr10 _ hψ19
          have h44 := hΦ _ h43
          subst h44
          try simp [-List.map_set, go_sem, h3, hi23, hi24, g28, g29, g30, g31, g35, g36, g37, g38, h39]
        · have hF45 := Rn_f hF34 h39
          try simp [-List.map_set, go_sem, h3, hi23, hi24, g28, g29, g30, g31, g35, g36, g37, g38, h39]
          refine pw_wkL [(0, .v (.sl false 1 (a0.map row_i64))), (1, .v (.sl false 1 (a1.map row_i64))), (12, .v (.int .i64 (a0.length : Int))), (13, .v (.int .i64 i16))] (by simp [-List.map_set, go_sem, h3, hi23, hi24, g28, g29, g30, g31, g35, g36, g37, g38, h39]) ?_
          try simp [-List.map_set, go_sem, h3, hi23, hi24, g28, g29, g30, g31, g35, g36, g37, g38, h39]
          have h46 := Rn_some hF45
          have hw : IntKind.i64.wrap (i16 + 1) = i16 + 1 := wrI (by have h0 := hl8; simp [maxLen] at h0; omega)
          exact hg18 () _ (by simp [-List.map_set, go_sem, h3, hi23, hi24, g28, g29, g30, g31, g35, g36, g37, g38, h39, hw]) h46
noncomputable def F_spec_l1Own (a0 : (List Int)) : Option ((List Int)) :=
  gd (a0.length * 8 ≤ 140737488355328 ∧ a0.length ≤ 4611686018427387904) <|
  some a0
theorem c_spec_l1Own {a0 : (List Int)} {r : (List Int)} (hr : F_spec_l1Own a0 = some r) : PCalls Try.prog 105 [(.sh, .sl false 1 (a0.map row_i64))] (fun o os => o = .sl true 1 (r.map row_i64) ∧ os = [.junk]) := by
  refine pcalls_lift (R := fun (r : (List Int)) o os => o = .sl true 1 (r.map row_i64) ∧ os = [.junk]) [] [] hr cl105 Try.func105 rfl (by simp [Try.f105]) fun Φ hΦ hF => ?_
  unfold F_spec_l1Own at hF
  simp only [Try.f105, ioL_nil, ioL_sh, ioL_mv, ioL_io]
  try simp [-List.map_set, go_sem]
  refine pw_wkL [(0, .v (.sl false 1 (a0.map row_i64)))] (by simp [-List.map_set, go_sem]) ?_
  obtain ⟨g1, hF2⟩ := Rn_gd hF
  have g3 := g1
  try simp at g3
  try simp [-List.map_set, go_sem, g1, g3]
  refine pw_wkL [(2, .v (.sl true 1 (a0.map row_i64)))] (by simp [-List.map_set, go_sem, g1, g3]) ?_
  try simp [-List.map_set, go_sem, g1, g3]
  have h4 := Rn_some hF2
  have h5 := hΦ _ h4
  subst h5
  try simp [-List.map_set, go_sem, g1, g3]
noncomputable def F_spec_wAdd__mv0 (a0 : (List ViewCount)) (a1 : (List Int)) (a2 : Int) : Option ((List ViewCount)) :=
  ((wloop (σ := Int × Int) (β := Int) (fun s8 =>
  if decide (s8.1 < s8.2) = true then (
  (ix a0 (IntKind.i64.wrap ((IntKind.i64.wrap (s8.1 + s8.2)).tdiv 2))).bind fun x19 =>
  (F_spec_wLess x19.View a1).bind fun z26 =>
  if z26 = true then (
  some (.go (IntKind.i64.wrap ((IntKind.i64.wrap ((IntKind.i64.wrap (s8.1 + s8.2)).tdiv 2)) + 1), s8.2))) else (
  some (.go (s8.1, IntKind.i64.wrap ((IntKind.i64.wrap (s8.1 + s8.2)).tdiv 2))))) else (
  some (.out s8.1))) (0, (a0.length : Int)) : Option (Int)).bind fun (x6 : Int) =>
  ((if decide (x6 < (a0.length : Int)) = true then (
  (ix a0 x6).bind fun x48 =>
  (F_spec_l1Same x48.View a1).bind fun z55 =>
  some z55) else (
  some false) : Option (Bool)).bind fun (x43 : Bool) =>
  if x43 = true then (
  (ix a0 x6).bind fun x63 =>
  some (a0.set x6.toNat (ViewCount.mk x63.View (IntKind.i64.wrap (x63.Times + a2))))) else (
  gd ((a0.length + 1) * 32 ≤ 140737488355328 ∧ a0.length + 1 ≤ 4611686018427387904) <|
  ((wloop (σ := (List ViewCount) × Int) (β := (List ViewCount)) (fun s111 =>
  if decide (x6 < s111.2) = true then (
  (ix s111.1 (IntKind.i64.wrap (s111.2 - 1))).bind fun x121 =>
  (ix s111.1 s111.2).bind fun x128 =>
  some (.go (s111.1.set s111.2.toNat x121, IntKind.i64.wrap (s111.2 - 1)))) else (
  some (.out s111.1))) (a0 ++ [(ViewCount.mk [] 0)], IntKind.i64.wrap (((a0 ++ [(ViewCount.mk [] 0)]).length : Int) - 1)) : Option ((List ViewCount))).bind fun (x81 : (List ViewCount)) =>
  (F_spec_l1Own a1).bind fun z141 =>
  (ix x81 x6).bind fun x144 =>
  some (x81.set x6.toNat (ViewCount.mk z141 a2))))))
theorem c_spec_wAdd__mv0 {a0 : (List ViewCount)} {a1 : (List Int)} {a2 : Int} {r : (List ViewCount)} (hr : F_spec_wAdd__mv0 a0 a1 a2 = some r) : PCalls Try.prog 72 [(.mv, .sl true 2 (a0.map row_ViewCount_z)), (.sh, .sl false 1 (a1.map row_i64)), (.sh, .int .i64 a2)] (fun o os => o = .sl true 2 (r.map row_ViewCount_z) ∧ os = [.junk, .junk, .junk]) := by
  refine pcalls_lift (R := fun (r : (List ViewCount)) o os => o = .sl true 2 (r.map row_ViewCount_z) ∧ os = [.junk, .junk, .junk]) [61, 85] [] hr cl72 Try.func72 rfl (by simp [Try.f72]) fun Φ hΦ hF => ?_
  unfold F_spec_wAdd__mv0 at hF
  simp only [Try.f72, ioL_nil, ioL_sh, ioL_mv, ioL_io]
  try simp [-List.map_set, go_sem]
  refine pw_wkL [(0, .v (.sl true 2 (a0.map row_ViewCount_z))), (1, .v (.sl false 1 (a1.map row_i64))), (2, .v (.int .i64 a2))] (by simp [-List.map_set, go_sem]) ?_
  try simp [-List.map_set, go_sem]
  refine qln_some fun hl1 => ?_
  try simp [-List.map_set, go_sem]
  refine pw_wkL [(0, .v (.sl true 2 (a0.map row_ViewCount_z))), (1, .v (.sl false 1 (a1.map row_i64))), (2, .v (.int .i64 a2)), (7, .v (.int .i64 0)), (8, .v (.int .i64 (a0.length : Int)))] (by simp [-List.map_set, go_sem]) ?_
  repeat rw [pw_seq]
  refine pw_joinF (fun (x6 : Int) => [(0, .v (.sl true 2 (a0.map row_ViewCount_z))), (1, .v (.sl false 1 (a1.map row_i64))), (2, .v (.int .i64 a2)), (7, .v (.int .i64 x6))]) hF ?_ ?_
  · intro x6 hF7
    try dsimp only at hF7
    repeat rw [pw_seq]
    refine pw_joinF (fun (x43 : Bool) => [(0, .v (.sl true 2 (a0.map row_ViewCount_z))), (1, .v (.sl false 1 (a1.map row_i64))), (2, .v (.int .i64 a2)), (7, .v (.int .i64 x6)), (42, .v (.bool x43))]) hF7 ?_ ?_
    · intro x43 hF44
      try dsimp only at hF44
      repeat rw [pw_seq]
      refine pw_cond' (v := x43) (by simp [-List.map_set, go_sem]) (fun h61 => ?_) (fun h61 => ?_)
      · have hF62 := Rn_t hF44 h61
        repeat rw [pw_seq]
        refine pw_draw D72_8 follows (by kernel_rfl) rfl ?_
        try simp only [go_sem, D72_8]
        obtain ⟨x63, e64, hF65⟩ := Rn_bind hF62
        obtain ⟨g66, g67, g68⟩ := ix_some e64
        have g69 := ix_get e64
        try simp only [Int.toNat_natCast, Int.toNat_zero, Int.toNat_one, Int.reduceToNat] at g68 g69
        try simp [-List.map_set, go_sem, h61, g66, g67, g68, g69]
        refine pw_wkL [(0, .v (.sl true 2 ((a0.set x6.toNat (ViewCount.mk x63.View (IntKind.i64.wrap (x63.Times + a2)))).map row_ViewCount_z)))] (by simp [-List.map_set, go_sem, h61, g66, g67, g68, g69]) ?_
        try simp [-List.map_set, go_sem, h61, g66, g67, g68, g69]
        refine pw_wkL [(6, .v (.sl true 2 ((a0.set x6.toNat (ViewCount.mk x63.View (IntKind.i64.wrap (x63.Times + a2)))).map row_ViewCount_z)))] (by simp [-List.map_set, go_sem, h61, g66, g67, g68, g69]) ?_
        try simp [-List.map_set, go_sem, h61, g66, g67, g68, g69]
        have h70 := Rn_some hF65
        have h71 := hΦ _ h70
        subst h71
        try simp [-List.map_set, go_sem, h61, g66, g67, g68, g69]
      · have hF72 := Rn_f hF44 h61
        try simp [-List.map_set, go_sem, h61]
        refine pw_wkL [(0, .v (.sl true 2 (a0.map row_ViewCount_z))), (1, .v (.sl false 1 (a1.map row_i64))), (2, .v (.int .i64 a2)), (7, .v (.int .i64 x6))] (by simp [-List.map_set, go_sem, h61]) ?_
        obtain ⟨g73, hF74⟩ := Rn_gd hF72
        have g75 := g73
        try simp at g75
        try simp [-List.map_set, go_sem, h61, g73, g75]
        refine pw_wkL [(0, .v (.sl true 2 ((a0 ++ [(ViewCount.mk [] 0)]).map row_ViewCount_z))), (1, .v (.sl false 1 (a1.map row_i64))), (2, .v (.int .i64 a2)), (7, .v (.int .i64 x6))] (by simp [-List.map_set, go_sem, h61, g73, g75]) ?_
        try simp [-List.map_set, go_sem, h61, g73, g75]
        refine qln_some fun hl76 => ?_
        try simp [-List.map_set, go_sem, h61, g73, g75]
        refine pw_wkL [(0, .v (.sl true 2 ((a0 ++ [(ViewCount.mk [] 0)]).map row_ViewCount_z))), (1, .v (.sl false 1 (a1.map row_i64))), (2, .v (.int .i64 a2)), (7, .v (.int .i64 x6)), (10, .v (.int .i64 (IntKind.i64.wrap (((a0 ++ [(ViewCount.mk [] 0)]).length : Int) - 1))))] (by simp [-List.map_set, go_sem, h61, g73, g75]) ?_
        repeat rw [pw_seq]
        refine pw_joinF (fun (x81 : (List ViewCount)) => [(0, .v (.sl true 2 (x81.map row_ViewCount_z))), (1, .v (.sl false 1 (a1.map row_i64))), (2, .v (.int .i64 a2)), (7, .v (.int .i64 x6))]) hF74 ?_ ?_
        · intro x81 hF82
          try dsimp only at hF82
          obtain ⟨z141, e142, hF143⟩ := Rn_bind hF82
          try simp [-List.map_set, go_sem, h61, g73, g75]
          refine pw_callE [.sh] rfl rfl (by (try simp [-List.map_set, go_sem, clE, h61, g73, g75]); first | rfl | done) (by rfl) (c_spec_l1Own e142) (by (try simp [-List.map_set, go_sem, h61, g73, g75]); first | rfl | done) (fun r0 os0 ho0 => ?_)
          obtain ⟨ho1, ho2⟩ := ho0
          subst ho1
          subst ho2
          refine ⟨by simp [-List.map_set, go_sem, h61, g73, g75], ?_⟩
          obtain ⟨x144, e145, hF146⟩ := Rn_bind hF143
          obtain ⟨g147, g148, g149⟩ := ix_some e145
          have g150 := ix_get e145
          try simp only [Int.toNat_natCast, Int.toNat_zero, Int.toNat_one, Int.reduceToNat] at g149 g150
          try simp [-List.map_set, go_sem, h61, g73, g75, g147, g148, g149, g150]
          refine pw_wkL [(0, .v (.sl true 2 ((x81.set x6.toNat (ViewCount.mk z141 a2)).map row_ViewCount_z)))] (by simp [-List.map_set, go_sem, h61, g73, g75, g147, g148, g149, g150]) ?_
          try simp [-List.map_set, go_sem, h61, g73, g75, g147, g148, g149, g150]
          refine pw_wkL [(6, .v (.sl true 2 ((x81.set x6.toNat (ViewCount.mk z141 a2)).map row_ViewCount_z)))] (by simp [-List.map_set, go_sem, h61, g73, g75, g147, g148, g149, g150]) ?_
          try simp [-List.map_set, go_sem, h61, g73, g75, g147, g148, g149, g150]
          have h151 := Rn_some hF146
          have h152 := hΦ _ h151
          subst h152
          try simp [-List.map_set, go_sem, h61, g73, g75, g147, g148, g149, g150]
        · intro ψ79 hj77 hF80
          repeat rw [pw_seq]
          rw [pw_block]
          try simp [-List.map_set, go_sem]
          obtain ⟨b139, hb140, hψ115⟩ := hF80
          refine pw_wloop (fun (s111 : (List ViewCount) × Int) => [(0, .v (.sl true 2 (s111.1.map row_ViewCount_z))), (1, .v (.sl false 1 (a1.map row_i64))), (2, .v (.int .i64 a2)), (7, .v (.int .i64 x6)), (10, .v (.int .i64 s111.2))]) hb140 (by simp [-List.map_set, go_sem, h61, g73, g75]) ?_
          intro s111 φ116 N117 ho113 hg114 hF118
          try dsimp only at hF118
          try simp [-List.map_set, go_sem, h61, g73, g75]
          refine pw_wkL [(0, .v (.sl true 2 (s111.1.map row_ViewCount_z))), (1, .v (.sl false 1 (a1.map row_i64))), (2, .v (.int .i64 a2)), (7, .v (.int .i64 x6)), (10, .v (.int .i64 s111.2)), (69, .v (.bool (decide (x6 < s111.2))))] (by simp [-List.map_set, go_sem, h61, g73, g75]) ?_
          repeat rw [pw_seq]
          refine pw_cond' (v := decide (x6 < s111.2)) (by simp [-List.map_set, go_sem, h61, g73, g75]) (fun h119 => ?_) (fun h119 => ?_)
          · have hF120 := Rn_t hF118 h119
            try simp [-List.map_set, go_sem, h61, g73, g75, h119]
            refine pw_wkL [(0, .v (.sl true 2 (s111.1.map row_ViewCount_z))), (1, .v (.sl false 1 (a1.map row_i64))), (2, .v (.int .i64 a2)), (7, .v (.int .i64 x6)), (10, .v (.int .i64 s111.2))] (by simp [-List.map_set, go_sem, h61, g73, g75, h119]) ?_
            repeat rw [pw_seq]
            rw [pw_block]
            obtain ⟨x121, e122, hF123⟩ := Rn_bind hF120
            obtain ⟨g124, g125, g126⟩ := ix_some e122
            have g127 := ix_get e122
            try simp only [Int.toNat_natCast, Int.toNat_zero, Int.toNat_one, Int.reduceToNat] at g126 g127
            obtain ⟨x128, e129, hF130⟩ := Rn_bind hF123
            obtain ⟨g131, g132, g133⟩ := ix_some e129
            have g134 := ix_get e129
            try simp only [Int.toNat_natCast, Int.toNat_zero, Int.toNat_one, Int.reduceToNat] at g133 g134
            try simp [-List.map_set, go_sem, h61, g73, g75, h119, g124, g125, g126, g127, g131, g132, g133, g134]
            refine pw_wkL [(0, .v (.sl true 2 ((s111.1.set s111.2.toNat x121).map row_ViewCount_z))), (1, .v (.sl false 1 (a1.map row_i64))), (2, .v (.int .i64 a2)), (7, .v (.int .i64 x6)), (10, .v (.int .i64 s111.2))] (by simp [-List.map_set, go_sem, h61, g73, g75, h119, g124, g125, g126, g127, g131, g132, g133, g134]) ?_
            try simp [-List.map_set, go_sem, h61, g73, g75, h119, g124, g125, g126, g127, g131, g132, g133, g134]
            have h135 := Rn_some hF130
            exact hg114 (s111.1.set s111.2.toNat x121, IntKind.i64.wrap (s111.2 - 1)) _ (by simp [-List.map_set, go_sem, h61, g73, g75, h119, g124, g125, g126, g127, g131, g132, g133, g134]) h135
          · have hF136 := Rn_f hF118 h119
            try simp [-List.map_set, go_sem, h61, g73, g75, h119]
            have h137 := Rn_some hF136
            have h138 := ho113 _ h137
            subst h138
            exact hj77 s111.1 _ (by simp [-List.map_set, go_sem, h61, g73, g75, h119]) hψ115
    · intro ψ41 hj39 hF42
      try simp [-List.map_set, go_sem]
      refine qln_some fun hl45 => ?_
      try simp [-List.map_set, go_sem]
      refine pwg_split (fun h46 => ?_) (fun h46 => ?_)
      · have hF47 := Rn_t hF42 h46
        obtain ⟨x48, e49, hF50⟩ := Rn_bind hF47
        obtain ⟨g51, g52, g53⟩ := ix_some e49
        have g54 := ix_get e49
        try simp only [Int.toNat_natCast, Int.toNat_zero, Int.toNat_one, Int.reduceToNat] at g53 g54
        obtain ⟨z55, e56, hF57⟩ := Rn_bind hF50
        try simp [-List.map_set, go_sem, h46, g51, g52, g53, g54]
        refine pw_callE [.sh, .sh] rfl rfl (by (try simp [-List.map_set, go_sem, clE, h46, g51, g52, g53, g54]); first | rfl | done) (by rfl) (c_spec_l1Same e56) (by (try simp [-List.map_set, go_sem, h46, g51, g52, g53, g54]); first | rfl | done) (fun r0 os0 ho0 => ?_)
        obtain ⟨ho1, ho2⟩ := ho0
        subst ho1
        subst ho2
        refine ⟨by simp [-List.map_set, go_sem, h46, g51, g52, g53, g54], ?_⟩
        try simp [-List.map_set, go_sem, h46, g51, g52, g53, g54]
        have h58 := Rn_some hF57
        exact hj39 z55 _ (by simp [-List.map_set, go_sem, h46, g51, g52, g53, g54]) h58
      · have hF59 := Rn_f hF42 h46
        try simp [-List.map_set, go_sem, h46]
        have h60 := Rn_some hF59
        exact hj39 false _ (by simp [-List.map_set, go_sem, h46]) h60
  · intro ψ4 hj2 hF5
    repeat rw [pw_seq]
    rw [pw_block]
    try simp [-List.map_set, go_sem]
    obtain ⟨b37, hb38, hψ12⟩ := hF5
    refine pw_wloop (fun (s8 : Int × Int) => [(0, .v (.sl true 2 (a0.map row_ViewCount_z))), (1, .v (.sl false 1 (a1.map row_i64))), (2, .v (.int .i64 a2)), (7, .v (.int .i64 s8.1)), (8, .v (.int .i64 s8.2))]) hb38 (by simp [-List.map_set, go_sem]) ?_
    intro s8 φ13 N14 ho10 hg11 hF15
    try dsimp only at hF15
    try simp [-List.map_set, go_sem]
    refine pw_wkL [(0, .v (.sl true 2 (a0.map row_ViewCount_z))), (1, .v (.sl false 1 (a1.map row_i64))), (2, .v (.int .i64 a2)), (7, .v (.int .i64 s8.1)), (8, .v (.int .i64 s8.2)), (15, .v (.bool (decide (s8.1 < s8.2))))] (by simp [-List.map_set, go_sem]) ?_
    repeat rw [pw_seq]
    refine pw_cond' (v := decide (s8.1 < s8.2)) (by simp [-List.map_set, go_sem]) (fun h16 => ?_) (fun h16 => ?_)
    · have hF17 := Rn_t hF15 h16
      try simp [-List.map_set, go_sem, h16]
      refine pw_wkL [(0, .v (.sl true 2 (a0.map row_ViewCount_z))), (1, .v (.sl false 1 (a1.map row_i64))), (2, .v (.int .i64 a2)), (7, .v (.int .i64 s8.1)), (8, .v (.int .i64 s8.2))] (by simp [-List.map_set, go_sem, h16]) ?_
      repeat rw [pw_seq]
      rw [pw_block]
      have g18 := fun x => divV_ne (b := 2) (x := x) (by decide)
      try simp [-List.map_set, go_sem, h16, g18]
      refine pw_wkL [(0, .v (.sl true 2 (a0.map row_ViewCount_z))), (1, .v (.sl false 1 (a1.map row_i64))), (2, .v (.int .i64 a2)), (7, .v (.int .i64 s8.1)), (8, .v (.int .i64 s8.2)), (9, .v (.int .i64 (IntKind.i64.wrap ((IntKind.i64.wrap (s8.1 + s8.2)).tdiv 2))))] (by simp [-List.map_set, go_sem, h16, g18]) ?_
      obtain ⟨x19, e20, hF21⟩ := Rn_bind hF17
      obtain ⟨g22, g23, g24⟩ := ix_some e20
      have g25 := ix_get e20
      try simp only [Int.toNat_natCast, Int.toNat_zero, Int.toNat_one, Int.reduceToNat] at g24 g25
      obtain ⟨z26, e27, hF28⟩ := Rn_bind hF21
      try simp [-List.map_set, go_sem, h16, g18, g22, g23, g24, g25]
      refine pw_callE [.sh, .sh] rfl rfl (by (try simp [-List.map_set, go_sem, clE, h16, g18, g22, g23, g24, g25]); first | rfl | done) (by rfl) (c_spec_wLess e27) (by (try simp [-List.map_set, go_sem, h16, g18, g22, g23, g24, g25]); first | rfl | done) (fun r0 os0 ho0 => ?_)
      obtain ⟨ho1, ho2⟩ := ho0
      subst ho1
      subst ho2
      refine ⟨by simp [-List.map_set, go_sem, h16, g18, g22, g23, g24, g25], ?_⟩
      try simp [-List.map_set, go_sem, h16, g18, g22, g23, g24, g25]
      refine pw_wkL [(0, .v (.sl true 2 (a0.map row_ViewCount_z))), (1, .v (.sl false 1 (a1.map row_i64))), (2, .v (.int .i64 a2)), (7, .v (.int .i64 s8.1)), (8, .v (.int .i64 s8.2)), (9, .v (.int .i64 (IntKind.i64.wrap ((IntKind.i64.wrap (s8.1 + s8.2)).tdiv 2)))), (26, .v (.bool z26))] (by simp [-List.map_set, go_sem, h16, g18, g22, g23, g24, g25]) ?_
      repeat rw [pw_seq]
      refine pw_cond' (v := z26) (by simp [-List.map_set, go_sem, h16, g18, g22, g23, g24, g25]) (fun h29 => ?_) (fun h29 => ?_)
      · have hF30 := Rn_t hF28 h29
        try simp [-List.map_set, go_sem, h16, g18, g22, g23, g24, g25, h29]
        have h31 := Rn_some hF30
        exact hg11 (IntKind.i64.wrap ((IntKind.i64.wrap ((IntKind.i64.wrap (s8.1 + s8.2)).tdiv 2)) + 1), s8.2) _ (by simp [-List.map_set, go_sem, h16, g18, g22, g23, g24, g25, h29]) h31
      · have hF32 := Rn_f hF28 h29
        try simp [-List.map_set, go_sem, h16, g18, g22, g23, g24, g25, h29]
        have h33 := Rn_some hF32
        exact hg11 (s8.1, IntKind.i64.wrap ((IntKind.i64.wrap (s8.1 + s8.2)).tdiv 2)) _ (by simp [-List.map_set, go_sem, h16, g18, g22, g23, g24, g25, h29]) h33
    · have hF34 := Rn_f hF15 h16
      try simp [-List.map_set, go_sem, h16]
      have h35 := Rn_some hF34
      have h36 := ho10 _ h35
      subst h36
      exact hj2 s8.1 _ (by simp [-List.map_set, go_sem, h16]) hψ12
noncomputable def F_spec_wAdd__mv0_mv1 (a0 : (List ViewCount)) (a1 : (List Int)) (a2 : Int) : Option ((List ViewCount)) :=
  ((wloop (σ := Int × Int) (β := Int) (fun s8 =>
  if decide (s8.1 < s8.2) = true then (
  (ix a0 (IntKind.i64.wrap ((IntKind.i64.wrap (s8.1 + s8.2)).tdiv 2))).bind fun x19 =>
  (F_spec_wLess x19.View a1).bind fun z26 =>
  if z26 = true then (
  some (.go (IntKind.i64.wrap ((IntKind.i64.wrap ((IntKind.i64.wrap (s8.1 + s8.2)).tdiv 2)) + 1), s8.2))) else (
  some (.go (s8.1, IntKind.i64.wrap ((IntKind.i64.wrap (s8.1 + s8.2)).tdiv 2))))) else (
  some (.out s8.1))) (0, (a0.length : Int)) : Option (Int)).bind fun (x6 : Int) =>
  ((if decide (x6 < (a0.length : Int)) = true then (
  (ix a0 x6).bind fun x48 =>
  (F_spec_l1Same x48.View a1).bind fun z55 =>
  some z55) else (
  some false) : Option (Bool)).bind fun (x43 : Bool) =>
  if x43 = true then (
  (ix a0 x6).bind fun x63 =>
  some (a0.set x6.toNat (ViewCount.mk x63.View (IntKind.i64.wrap (x63.Times + a2))))) else (
  gd ((a0.length + 1) * 32 ≤ 140737488355328 ∧ a0.length + 1 ≤ 4611686018427387904) <|
  ((wloop (σ := (List ViewCount) × Int) (β := (List ViewCount)) (fun s111 =>
  if decide (x6 < s111.2) = true then (
  (ix s111.1 (IntKind.i64.wrap (s111.2 - 1))).bind fun x121 =>
  (ix s111.1 s111.2).bind fun x128 =>
  some (.go (s111.1.set s111.2.toNat x121, IntKind.i64.wrap (s111.2 - 1)))) else (
  some (.out s111.1))) (a0 ++ [(ViewCount.mk [] 0)], IntKind.i64.wrap (((a0 ++ [(ViewCount.mk [] 0)]).length : Int) - 1)) : Option ((List ViewCount))).bind fun (x81 : (List ViewCount)) =>
  (F_spec_l1Own a1).bind fun z141 =>
  (ix x81 x6).bind fun x144 =>
  some (x81.set x6.toNat (ViewCount.mk z141 a2))))))
theorem c_spec_wAdd__mv0_mv1 {a0 : (List ViewCount)} {a1 : (List Int)} {a2 : Int} {r : (List ViewCount)} (hr : F_spec_wAdd__mv0_mv1 a0 a1 a2 = some r) : PCalls Try.prog 72 [(.mv, .sl true 2 (a0.map row_ViewCount_z)), (.mv, .sl true 1 (a1.map row_i64)), (.sh, .int .i64 a2)] (fun o os => o = .sl true 2 (r.map row_ViewCount_z) ∧ os = [.junk, .junk, .junk]) := by
  refine pcalls_lift (R := fun (r : (List ViewCount)) o os => o = .sl true 2 (r.map row_ViewCount_z) ∧ os = [.junk, .junk, .junk]) [61, 85] [] hr cl72 Try.func72 rfl (by simp [Try.f72]) fun Φ hΦ hF => ?_
  unfold F_spec_wAdd__mv0_mv1 at hF
  simp only [Try.f72, ioL_nil, ioL_sh, ioL_mv, ioL_io]
  try simp [-List.map_set, go_sem]
  refine pw_wkL [(0, .v (.sl true 2 (a0.map row_ViewCount_z))), (1, .v (.sl true 1 (a1.map row_i64))), (2, .v (.int .i64 a2))] (by simp [-List.map_set, go_sem]) ?_
  try simp [-List.map_set, go_sem]
  refine qln_some fun hl1 => ?_
  try simp [-List.map_set, go_sem]
  refine pw_wkL [(0, .v (.sl true 2 (a0.map row_ViewCount_z))), (1, .v (.sl true 1 (a1.map row_i64))), (2, .v (.int .i64 a2)), (7, .v (.int .i64 0)), (8, .v (.int .i64 (a0.length : Int)))] (by simp [-List.map_set, go_sem]) ?_
  repeat rw [pw_seq]
  refine pw_joinF (fun (x6 : Int) => [(0, .v (.sl true 2 (a0.map row_ViewCount_z))), (1, .v (.sl true 1 (a1.map row_i64))), (2, .v (.int .i64 a2)), (7, .v (.int .i64 x6))]) hF ?_ ?_
  · intro x6 hF7
    try dsimp only at hF7
    repeat rw [pw_seq]
    refine pw_joinF (fun (x43 : Bool) => [(0, .v (.sl true 2 (a0.map row_ViewCount_z))), (1, .v (.sl true 1 (a1.map row_i64))), (2, .v (.int .i64 a2)), (7, .v (.int .i64 x6)), (42, .v (.bool x43))]) hF7 ?_ ?_
    · intro x43 hF44
      try dsimp only at hF44
      repeat rw [pw_seq]
      refine pw_cond' (v := x43) (by simp [-List.map_set, go_sem]) (fun h61 => ?_) (fun h61 => ?_)
      · have hF62 := Rn_t hF44 h61
        repeat rw [pw_seq]
        refine pw_draw D72_8 follows (by kernel_rfl) rfl ?_
        try simp only [go_sem, D72_8]
        obtain ⟨x63, e64, hF65⟩ := Rn_bind hF62
        obtain ⟨g66, g67, g68⟩ := ix_some e64
        have g69 := ix_get e64
        try simp only [Int.toNat_natCast, Int.toNat_zero, Int.toNat_one, Int.reduceToNat] at g68 g69
        try simp [-List.map_set, go_sem, h61, g66, g67, g68, g69]
        refine pw_wkL [(0, .v (.sl true 2 ((a0.set x6.toNat (ViewCount.mk x63.View (IntKind.i64.wrap (x63.Times + a2)))).map row_ViewCount_z)))] (by simp [-List.map_set, go_sem, h61, g66, g67, g68, g69]) ?_
        try simp [-List.map_set, go_sem, h61, g66, g67, g68, g69]
        refine pw_wkL [(6, .v (.sl true 2 ((a0.set x6.toNat (ViewCount.mk x63.View (IntKind.i64.wrap (x63.Times + a2)))).map row_ViewCount_z)))] (by simp [-List.map_set, go_sem, h61, g66, g67, g68, g69]) ?_
        try simp [-List.map_set, go_sem, h61, g66, g67, g68, g69]
        have h70 := Rn_some hF65
        have h71 := hΦ _ h70
        subst h71
        try simp [-List.map_set, go_sem, h61, g66, g67, g68, g69]
      · have hF72 := Rn_f hF44 h61
        try simp [-List.map_set, go_sem, h61]
        refine pw_wkL [(0, .v (.sl true 2 (a0.map row_ViewCount_z))), (1, .v (.sl true 1 (a1.map row_i64))), (2, .v (.int .i64 a2)), (7, .v (.int .i64 x6))] (by simp [-List.map_set, go_sem, h61]) ?_
        obtain ⟨g73, hF74⟩ := Rn_gd hF72
        have g75 := g73
        try simp at g75
        try simp [-List.map_set, go_sem, h61, g73, g75]
        refine pw_wkL [(0, .v (.sl true 2 ((a0 ++ [(ViewCount.mk [] 0)]).map row_ViewCount_z))), (1, .v (.sl true 1 (a1.map row_i64))), (2, .v (.int .i64 a2)), (7, .v (.int .i64 x6))] (by simp [-List.map_set, go_sem, h61, g73, g75]) ?_
        try simp [-List.map_set, go_sem, h61, g73, g75]
        refine qln_some fun hl76 => ?_
        try simp [-List.map_set, go_sem, h61, g73, g75]
        refine pw_wkL [(0, .v (.sl true 2 ((a0 ++ [(ViewCount.mk [] 0)]).map row_ViewCount_z))), (1, .v (.sl true 1 (a1.map row_i64))), (2, .v (.int .i64 a2)), (7, .v (.int .i64 x6)), (10, .v (.int .i64 (IntKind.i64.wrap (((a0 ++ [(ViewCount.mk [] 0)]).length : Int) - 1))))] (by simp [-List.map_set, go_sem, h61, g73, g75]) ?_
        repeat rw [pw_seq]
        refine pw_joinF (fun (x81 : (List ViewCount)) => [(0, .v (.sl true 2 (x81.map row_ViewCount_z))), (1, .v (.sl true 1 (a1.map row_i64))), (2, .v (.int .i64 a2)), (7, .v (.int .i64 x6))]) hF74 ?_ ?_
        · intro x81 hF82
          try dsimp only at hF82
          obtain ⟨z141, e142, hF143⟩ := Rn_bind hF82
          try simp [-List.map_set, go_sem, h61, g73, g75]
          refine pw_callE [.sh] rfl rfl (by (try simp [-List.map_set, go_sem, clE, h61, g73, g75]); first | rfl | done) (by rfl) (c_spec_l1Own e142) (by (try simp [-List.map_set, go_sem, h61, g73, g75]); first | rfl | done) (fun r0 os0 ho0 => ?_)
          obtain ⟨ho1, ho2⟩ := ho0
          subst ho1
          subst ho2
          refine ⟨by simp [-List.map_set, go_sem, h61, g73, g75], ?_⟩
          obtain ⟨x144, e145, hF146⟩ := Rn_bind hF143
          obtain ⟨g147, g148, g149⟩ := ix_some e145
          have g150 := ix_get e145
          try simp only [Int.toNat_natCast, Int.toNat_zero, Int.toNat_one, Int.reduceToNat] at g149 g150
          try simp [-List.map_set, go_sem, h61, g73, g75, g147, g148, g149, g150]
          refine pw_wkL [(0, .v (.sl true 2 ((x81.set x6.toNat (ViewCount.mk z141 a2)).map row_ViewCount_z)))] (by simp [-List.map_set, go_sem, h61, g73, g75, g147, g148, g149, g150]) ?_
          try simp [-List.map_set, go_sem, h61, g73, g75, g147, g148, g149, g150]
          refine pw_wkL [(6, .v (.sl true 2 ((x81.set x6.toNat (ViewCount.mk z141 a2)).map row_ViewCount_z)))] (by simp [-List.map_set, go_sem, h61, g73, g75, g147, g148, g149, g150]) ?_
          try simp [-List.map_set, go_sem, h61, g73, g75, g147, g148, g149, g150]
          have h151 := Rn_some hF146
          have h152 := hΦ _ h151
          subst h152
          try simp [-List.map_set, go_sem, h61, g73, g75, g147, g148, g149, g150]
        · intro ψ79 hj77 hF80
          repeat rw [pw_seq]
          rw [pw_block]
          try simp [-List.map_set, go_sem]
          obtain ⟨b139, hb140, hψ115⟩ := hF80
          refine pw_wloop (fun (s111 : (List ViewCount) × Int) => [(0, .v (.sl true 2 (s111.1.map row_ViewCount_z))), (1, .v (.sl true 1 (a1.map row_i64))), (2, .v (.int .i64 a2)), (7, .v (.int .i64 x6)), (10, .v (.int .i64 s111.2))]) hb140 (by simp [-List.map_set, go_sem, h61, g73, g75]) ?_
          intro s111 φ116 N117 ho113 hg114 hF118
          try dsimp only at hF118
          try simp [-List.map_set, go_sem, h61, g73, g75]
          refine pw_wkL [(0, .v (.sl true 2 (s111.1.map row_ViewCount_z))), (1, .v (.sl true 1 (a1.map row_i64))), (2, .v (.int .i64 a2)), (7, .v (.int .i64 x6)), (10, .v (.int .i64 s111.2)), (69, .v (.bool (decide (x6 < s111.2))))] (by simp [-List.map_set, go_sem, h61, g73, g75]) ?_
          repeat rw [pw_seq]
          refine pw_cond' (v := decide (x6 < s111.2)) (by simp [-List.map_set, go_sem, h61, g73, g75]) (fun h119 => ?_) (fun h119 => ?_)
          · have hF120 := Rn_t hF118 h119
            try simp [-List.map_set, go_sem, h61, g73, g75, h119]
            refine pw_wkL [(0, .v (.sl true 2 (s111.1.map row_ViewCount_z))), (1, .v (.sl true 1 (a1.map row_i64))), (2, .v (.int .i64 a2)), (7, .v (.int .i64 x6)), (10, .v (.int .i64 s111.2))] (by simp [-List.map_set, go_sem, h61, g73, g75, h119]) ?_
            repeat rw [pw_seq]
            rw [pw_block]
            obtain ⟨x121, e122, hF123⟩ := Rn_bind hF120
            obtain ⟨g124, g125, g126⟩ := ix_some e122
            have g127 := ix_get e122
            try simp only [Int.toNat_natCast, Int.toNat_zero, Int.toNat_one, Int.reduceToNat] at g126 g127
            obtain ⟨x128, e129, hF130⟩ := Rn_bind hF123
            obtain ⟨g131, g132, g133⟩ := ix_some e129
            have g134 := ix_get e129
            try simp only [Int.toNat_natCast, Int.toNat_zero, Int.toNat_one, Int.reduceToNat] at g133 g134
            try simp [-List.map_set, go_sem, h61, g73, g75, h119, g124, g125, g126, g127, g131, g132, g133, g134]
            refine pw_wkL [(0, .v (.sl true 2 ((s111.1.set s111.2.toNat x121).map row_ViewCount_z))), (1, .v (.sl true 1 (a1.map row_i64))), (2, .v (.int .i64 a2)), (7, .v (.int .i64 x6)), (10, .v (.int .i64 s111.2))] (by simp [-List.map_set, go_sem, h61, g73, g75, h119, g124, g125, g126, g127, g131, g132, g133, g134]) ?_
            try simp [-List.map_set, go_sem, h61, g73, g75, h119, g124, g125, g126, g127, g131, g132, g133, g134]
            have h135 := Rn_some hF130
            exact hg114 (s111.1.set s111.2.toNat x121, IntKind.i64.wrap (s111.2 - 1)) _ (by simp [-List.map_set, go_sem, h61, g73, g75, h119, g124, g125, g126, g127, g131, g132, g133, g134]) h135
          · have hF136 := Rn_f hF118 h119
            try simp [-List.map_set, go_sem, h61, g73, g75, h119]
            have h137 := Rn_some hF136
            have h138 := ho113 _ h137
            subst h138
            exact hj77 s111.1 _ (by simp [-List.map_set, go_sem, h61, g73, g75, h119]) hψ115
    · intro ψ41 hj39 hF42
      try simp [-List.map_set, go_sem]
      refine qln_some fun hl45 => ?_
      try simp [-List.map_set, go_sem]
      refine pwg_split (fun h46 => ?_) (fun h46 => ?_)
      · have hF47 := Rn_t hF42 h46
        obtain ⟨x48, e49, hF50⟩ := Rn_bind hF47
        obtain ⟨g51, g52, g53⟩ := ix_some e49
        have g54 := ix_get e49
        try simp only [Int.toNat_natCast, Int.toNat_zero, Int.toNat_one, Int.reduceToNat] at g53 g54
        obtain ⟨z55, e56, hF57⟩ := Rn_bind hF50
        try simp [-List.map_set, go_sem, h46, g51, g52, g53, g54]
        refine pw_callE [.sh, .sh] rfl rfl (by (try simp [-List.map_set, go_sem, clE, h46, g51, g52, g53, g54]); first | rfl | done) (by rfl) (c_spec_l1Same e56) (by (try simp [-List.map_set, go_sem, h46, g51, g52, g53, g54]); first | rfl | done) (fun r0 os0 ho0 => ?_)
        obtain ⟨ho1, ho2⟩ := ho0
        subst ho1
        subst ho2
        refine ⟨by simp [-List.map_set, go_sem, h46, g51, g52, g53, g54], ?_⟩
        try simp [-List.map_set, go_sem, h46, g51, g52, g53, g54]
        have h58 := Rn_some hF57
        exact hj39 z55 _ (by simp [-List.map_set, go_sem, h46, g51, g52, g53, g54]) h58
      · have hF59 := Rn_f hF42 h46
        try simp [-List.map_set, go_sem, h46]
        have h60 := Rn_some hF59
        exact hj39 false _ (by simp [-List.map_set, go_sem, h46]) h60
  · intro ψ4 hj2 hF5
    repeat rw [pw_seq]
    rw [pw_block]
    try simp [-List.map_set, go_sem]
    obtain ⟨b37, hb38, hψ12⟩ := hF5
    refine pw_wloop (fun (s8 : Int × Int) => [(0, .v (.sl true 2 (a0.map row_ViewCount_z))), (1, .v (.sl true 1 (a1.map row_i64))), (2, .v (.int .i64 a2)), (7, .v (.int .i64 s8.1)), (8, .v (.int .i64 s8.2))]) hb38 (by simp [-List.map_set, go_sem]) ?_
    intro s8 φ13 N14 ho10 hg11 hF15
    try dsimp only at hF15
    try simp [-List.map_set, go_sem]
    refine pw_wkL [(0, .v (.sl true 2 (a0.map row_ViewCount_z))), (1, .v (.sl true 1 (a1.map row_i64))), (2, .v (.int .i64 a2)), (7, .v (.int .i64 s8.1)), (8, .v (.int .i64 s8.2)), (15, .v (.bool (decide (s8.1 < s8.2))))] (by simp [-List.map_set, go_sem]) ?_
    repeat rw [pw_seq]
    refine pw_cond' (v := decide (s8.1 < s8.2)) (by simp [-List.map_set, go_sem]) (fun h16 => ?_) (fun h16 => ?_)
    · have hF17 := Rn_t hF15 h16
      try simp [-List.map_set, go_sem, h16]
      refine pw_wkL [(0, .v (.sl true 2 (a0.map row_ViewCount_z))), (1, .v (.sl true 1 (a1.map row_i64))), (2, .v (.int .i64 a2)), (7, .v (.int .i64 s8.1)), (8, .v (.int .i64 s8.2))] (by simp [-List.map_set, go_sem, h16]) ?_
      repeat rw [pw_seq]
      rw [pw_block]
      have g18 := fun x => divV_ne (b := 2) (x := x) (by decide)
      try simp [-List.map_set, go_sem, h16, g18]
      refine pw_wkL [(0, .v (.sl true 2 (a0.map row_ViewCount_z))), (1, .v (.sl true 1 (a1.map row_i64))), (2, .v (.int .i64 a2)), (7, .v (.int .i64 s8.1)), (8, .v (.int .i64 s8.2)), (9, .v (.int .i64 (IntKind.i64.wrap ((IntKind.i64.wrap (s8.1 + s8.2)).tdiv 2))))] (by simp [-List.map_set, go_sem, h16, g18]) ?_
      obtain ⟨x19, e20, hF21⟩ := Rn_bind hF17
      obtain ⟨g22, g23, g24⟩ := ix_some e20
      have g25 := ix_get e20
      try simp only [Int.toNat_natCast, Int.toNat_zero, Int.toNat_one, Int.reduceToNat] at g24 g25
      obtain ⟨z26, e27, hF28⟩ := Rn_bind hF21
      try simp [-List.map_set, go_sem, h16, g18, g22, g23, g24, g25]
      refine pw_callE [.sh, .sh] rfl rfl (by (try simp [-List.map_set, go_sem, clE, h16, g18, g22, g23, g24, g25]); first | rfl | done) (by rfl) (c_spec_wLess e27) (by (try simp [-List.map_set, go_sem, h16, g18, g22, g23, g24, g25]); first | rfl | done) (fun r0 os0 ho0 => ?_)
      obtain ⟨ho1, ho2⟩ := ho0
      subst ho1
      subst ho2
      refine ⟨by simp [-List.map_set, go_sem, h16, g18, g22, g23, g24, g25], ?_⟩
      try simp [-List.map_set, go_sem, h16, g18, g22, g23, g24, g25]
      refine pw_wkL [(0, .v (.sl true 2 (a0.map row_ViewCount_z))), (1, .v (.sl true 1 (a1.map row_i64))), (2, .v (.int .i64 a2)), (7, .v (.int .i64 s8.1)), (8, .v (.int .i64 s8.2)), (9, .v (.int .i64 (IntKind.i64.wrap ((IntKind.i64.wrap (s8.1 + s8.2)).tdiv 2)))), (26, .v (.bool z26))] (by simp [-List.map_set, go_sem, h16, g18, g22, g23, g24, g25]) ?_
      repeat rw [pw_seq]
      refine pw_cond' (v := z26) (by simp [-List.map_set, go_sem, h16, g18, g22, g23, g24, g25]) (fun h29 => ?_) (fun h29 => ?_)
      · have hF30 := Rn_t hF28 h29
        try simp [-List.map_set, go_sem, h16, g18, g22, g23, g24, g25, h29]
        have h31 := Rn_some hF30
        exact hg11 (IntKind.i64.wrap ((IntKind.i64.wrap ((IntKind.i64.wrap (s8.1 + s8.2)).tdiv 2)) + 1), s8.2) _ (by simp [-List.map_set, go_sem, h16, g18, g22, g23, g24, g25, h29]) h31
      · have hF32 := Rn_f hF28 h29
        try simp [-List.map_set, go_sem, h16, g18, g22, g23, g24, g25, h29]
        have h33 := Rn_some hF32
        exact hg11 (s8.1, IntKind.i64.wrap ((IntKind.i64.wrap (s8.1 + s8.2)).tdiv 2)) _ (by simp [-List.map_set, go_sem, h16, g18, g22, g23, g24, g25, h29]) h33
    · have hF34 := Rn_f hF15 h16
      try simp [-List.map_set, go_sem, h16]
      have h35 := Rn_some hF34
      have h36 := ho10 _ h35
      subst h36
      exact hj2 s8.1 _ (by simp [-List.map_set, go_sem, h16]) hψ12
noncomputable def F_spec_BlindViews (a0 : Int) (a1 : Int) (a2 : Int) : Option ((List ViewCount) × Bool) :=
  (((F_spec_l1In a0 2 23).bind fun z7 =>
  if (!z7) = true then (
  some true) else (
  (F_spec_nPrime a0).bind fun z14 =>
  if (!z14) = true then (
  some true) else (
  (F_spec_l1In a1 0 (IntKind.i64.wrap (a0 - 1))).bind fun z21 =>
  if (!z21) = true then (
  some true) else (
  (F_spec_l1In a2 1 3).bind fun z28 =>
  some (!z28)))) : Option (Bool)).bind fun (x5 : Bool) =>
  if x5 = true then (
  some ([], false)) else (
  gd (0 ≤ a0 ∧ a0 ≤ a0 ∧ 8 * a0 ≤ 140737488355328 ∧ a0 ≤ 4611686018427387904) <|
  (some (List.replicate a0.toNat 0)).bind fun x40 =>
  (ix x40 0).bind fun x44 =>
  ((wloop (σ := Int × (List Int)) (β := (List Int)) (fun s58 =>
  if decide (0 < s58.1) = true then (
  gd (0 ≤ a0 ∧ a0 ≤ a0 ∧ 8 * a0 ≤ 140737488355328 ∧ a0 ≤ 4611686018427387904) <|
  (some (List.replicate a0.toNat 0)).bind fun x71 =>
  ((rloop (σ := (List Int)) (β := (List Int)) (fun i157 s156 =>
  (((ix s58.2 i157).bind fun x172 =>
  wloop (σ := (List Int) × Int) (β := (List Int)) (fun s203 =>
  if decide (s203.2 < a0) = true then (
  gd (a0 ≠ 0) <|
  (ix s203.1 ((IntKind.i64.wrap (i157 + s203.2)).tmod a0)).bind fun x216 =>
  some (.go (s203.1.set (((IntKind.i64.wrap (i157 + s203.2)).tmod a0).toNat) (IntKind.i64.wrap (x216 + x172)), IntKind.i64.wrap (s203.2 + 1)))) else (
  some (.out s203.1))) (s156, 1) : Option ((List Int))).bind fun (x170 : (List Int)) =>
  some (.go x170))) (fun s156 => s156) (s58.2.length) 0 x71 : Option ((List Int))).bind fun (x80 : (List Int)) =>
  some (.go (IntKind.i64.wrap (s58.1 - 1), x80)))) else (
  some (.out s58.2))) (a2, x40.set 0 1) : Option ((List Int))).bind fun (x56 : (List Int)) =>
  ((rloop (σ := (List ViewCount)) (β := (List ViewCount)) (fun i248 s247 =>
  (((ix x56 i248).bind fun x263 =>
  if decide (0 < x263) = true then (
  gd (a0 ≠ 0) <|
  (F_spec_wAdd__mv0_mv1 s247 [(IntKind.i64.wrap (a1 * i248)).tmod a0] x263).bind fun z275 =>
  some z275) else (
  some s247) : Option ((List ViewCount))).bind fun (x261 : (List ViewCount)) =>
  some (.go x261))) (fun s247 => s247) (x56.length) 0 [] : Option ((List ViewCount))).bind fun (x245 : (List ViewCount)) =>
  some (x245, true)))))
theorem c_spec_BlindViews {a0 : Int} {a1 : Int} {a2 : Int} {r : (List ViewCount) × Bool} (hr : F_spec_BlindViews a0 a1 a2 = some r) : PCalls Try.prog 23 [(.sh, .int .i64 a0), (.sh, .int .i64 a1), (.sh, .int .i64 a2)] (fun o os => o = .tup [.sl true 2 (r.1.map row_ViewCount_z), .bool r.2] ∧ os = [.junk, .junk, .junk]) := by
  refine pcalls_lift (R := fun (r : (List ViewCount) × Bool) o os => o = .tup [.sl true 2 (r.1.map row_ViewCount_z), .bool r.2] ∧ os = [.junk, .junk, .junk]) [] [] hr cl23 Try.func23 rfl (by simp [Try.f23]) fun Φ hΦ hF => ?_
  unfold F_spec_BlindViews at hF
  simp only [Try.f23, ioL_nil, ioL_sh, ioL_mv, ioL_io]
  try simp [-List.map_set, go_sem]
  refine pw_wkL [(0, .v (.int .i64 a0)), (1, .v (.int .i64 a1)), (2, .v (.int .i64 a2))] (by simp [-List.map_set, go_sem]) ?_
  repeat rw [pw_seq]
  refine pw_joinF (fun (x5 : Bool) => [(0, .v (.int .i64 a0)), (1, .v (.int .i64 a1)), (2, .v (.int .i64 a2)), (35, .v (.bool x5))]) hF ?_ ?_
  · intro x5 hF6
    try dsimp only at hF6
    repeat rw [pw_seq]
    refine pw_cond' (v := x5) (by simp [-List.map_set, go_sem]) (fun h32 => ?_) (fun h32 => ?_)
    · have hF33 := Rn_t hF6 h32
      try simp [-List.map_set, go_sem, h32]
      refine pw_wkL [(6, .v (.sl true 2 [])), (7, .v (.bool false))] (by simp [-List.map_set, go_sem, h32]) ?_
      try simp [-List.map_set, go_sem, h32]
      have h34 := Rn_some hF33
      have h35 := hΦ _ h34
      subst h35
      try simp [-List.map_set, go_sem, h32]
    · have hF36 := Rn_f hF6 h32
      try simp [-List.map_set, go_sem, h32]
      refine pw_wkL [(0, .v (.int .i64 a0)), (1, .v (.int .i64 a1)), (2, .v (.int .i64 a2))] (by simp [-List.map_set, go_sem, h32]) ?_
      obtain ⟨g37, hF38⟩ := Rn_gd hF36
      have g39 := g37
      try simp at g39
      obtain ⟨x40, e41, hF42⟩ := Rn_bind hF38
      have g43 : List.replicate a0.toNat ([.int .i64 0] : List PV) = x40.map row_i64 := by injection e41 with e41; rw [← e41]; simp [-List.map_set, go_sem]
      try simp [-List.map_set, go_sem, h32, g37, g39, g43]
      refine pw_wkL [(0, .v (.int .i64 a0)), (1, .v (.int .i64 a1)), (2, .v (.int .i64 a2)), (8, .v (.sl true 1 (x40.map row_i64)))] (by simp [-List.map_set, go_sem, h32, g37, g39]) ?_
      obtain ⟨x44, e45, hF46⟩ := Rn_bind hF42
      obtain ⟨g47, g48, g49⟩ := ix_some e45
      have g50 := ix_get e45
      try simp only [Int.toNat_natCast, Int.toNat_zero, Int.toNat_one, Int.reduceToNat] at g49 g50
      have g51 : 0 < x40.length := by omega
      try simp [-List.map_set, go_sem, h32, g37, g39, g47, g48, g49, g50, g51]
      refine pw_wkL [(0, .v (.int .i64 a0)), (1, .v (.int .i64 a1)), (2, .v (.int .i64 a2)), (8, .v (.sl true 1 ((x40.set 0 1).map row_i64)))] (by simp [-List.map_set, go_sem, h32, g37, g39, g47, g48, g49, g50, g51]) ?_
      repeat rw [pw_seq]
      refine pw_joinF (fun (x56 : (List Int)) => [(0, .v (.int .i64 a0)), (1, .v (.int .i64 a1)), (8, .v (.sl true 1 (x56.map row_i64)))]) hF46 ?_ ?_
      · intro x56 hF57
        try dsimp only at hF57
        try simp [-List.map_set, go_sem, h32, g37, g39, g47, g48, g49, g50, g51]
        refine pw_wkL [(0, .v (.int .i64 a0)), (1, .v (.int .i64 a1)), (8, .v (.sl true 1 (x56.map row_i64))), (13, .v (.sl true 2 []))] (by simp [-List.map_set, go_sem, h32, g37, g39, g47, g48, g49, g50, g51]) ?_
        try simp [-List.map_set, go_sem, h32, g37, g39, g47, g48, g49, g50, g51]
        refine qln_some fun hl240 => ?_
        try simp [-List.map_set, go_sem, h32, g37, g39, g47, g48, g49, g50, g51]
        refine pw_wkL [(0, .v (.int .i64 a0)), (1, .v (.int .i64 a1)), (8, .v (.sl true 1 (x56.map row_i64))), (13, .v (.sl true 2 [])), (71, .rf 8 []), (72, .v (.int .i64 (x56.length : Int))), (73, .v (.int .i64 0))] (by simp [-List.map_set, go_sem, h32, g37, g39, g47, g48, g49, g50, g51]) ?_
        repeat rw [pw_seq]
        refine pw_joinF (fun (x245 : (List ViewCount)) => [(13, .v (.sl true 2 (x245.map row_ViewCount_z)))]) hF57 ?_ ?_
        · intro x245 hF246
          try dsimp only at hF246
          try simp [-List.map_set, go_sem, h32, g37, g39, g47, g48, g49, g50, g51]
          refine pw_wkL [(6, .v (.sl true 2 (x245.map row_ViewCount_z))), (7, .v (.bool true))] (by simp [-List.map_set, go_sem, h32, g37, g39, g47, g48, g49, g50, g51]) ?_
          try simp [-List.map_set, go_sem, h32, g37, g39, g47, g48, g49, g50, g51]
          have h286 := Rn_some hF246
          have h287 := hΦ _ h286
          subst h287
          try simp [-List.map_set, go_sem, h32, g37, g39, g47, g48, g49, g50, g51]
        · intro ψ243 hj241 hF244
          repeat rw [pw_seq]
          rw [pw_block]
          try simp [-List.map_set, go_sem]
          obtain ⟨b282, hb283, hψ251⟩ := hF244
          refine pw_rloop (fun (i248 : Int) (s247 : (List ViewCount)) => [(0, .v (.int .i64 a0)), (1, .v (.int .i64 a1)), (8, .v (.sl true 1 (x56.map row_i64))), (13, .v (.sl true 2 (s247.map row_ViewCount_z))), (71, .rf 8 []), (72, .v (.int .i64 (x56.length : Int))), (73, .v (.int .i64 i248))]) hb283 (by simp [-List.map_set, go_sem, h32, g37, g39, g47, g48, g49, g50, g51]) ?_ ?_
          · intro s247 N285 hN284
            subst hN284
            try simp [-List.map_set, go_sem]
            refine pw_wk ?_
            repeat rw [pw_seq]
            refine pw_cond_f (by simp [-List.map_set, go_sem]) ?_
            try simp [-List.map_set, go_sem]
            exact hj241 s247 _ (by simp [-List.map_set, go_sem]) hψ251
          · intro i248 s247 φ252 N253 hi255 hi256 ho249 hg250 hF254
            try dsimp only at hF254
            rw [Int.zero_add] at hi256
            try simp [-List.map_set, go_sem, h32, g37, g39, g47, g48, g49, g50, g51, hi255, hi256]
            refine pw_wkL [(0, .v (.int .i64 a0)), (1, .v (.int .i64 a1)), (8, .v (.sl true 1 (x56.map row_i64))), (13, .v (.sl true 2 (s247.map row_ViewCount_z))), (71, .rf 8 []), (72, .v (.int .i64 (x56.length : Int))), (73, .v (.int .i64 i248)), (74, .v (.bool (decide (i248 < (x56.length : Int)))))] (by simp [-List.map_set, go_sem, h32, g37, g39, g47, g48, g49, g50, g51, hi255, hi256]) ?_
            repeat rw [pw_seq]
            refine pw_cond_t (by simp [-List.map_set, go_sem, h32, g37, g39, g47, g48, g49, g50, g51, hi255, hi256]) ?_
            try simp [-List.map_set, go_sem, h32, g37, g39, g47, g48, g49, g50, g51, hi255, hi256]
            refine pw_wkL [(0, .v (.int .i64 a0)), (1, .v (.int .i64 a1)), (8, .v (.sl true 1 (x56.map row_i64))), (13, .v (.sl true 2 (s247.map row_ViewCount_z))), (71, .rf 8 []), (72, .v (.int .i64 (x56.length : Int))), (73, .v (.int .i64 i248))] (by simp [-List.map_set, go_sem, h32, g37, g39, g47, g48, g49, g50, g51, hi255, hi256]) ?_
            repeat rw [pw_seq]
            refine pw_joinF (fun (x261 : (List ViewCount)) => [(0, .v (.int .i64 a0)), (1, .v (.int .i64 a1)), (8, .v (.sl true 1 (x56.map row_i64))), (13, .v (.sl true 2 (x261.map row_ViewCount_z))), (71, .rf 8 []), (72, .v (.int .i64 (x56.length : Int))), (73, .v (.int .i64 i248))]) hF254 ?_ ?_
            · intro x261 hF262
              try dsimp only at hF262
              try simp [-List.map_set, go_sem, h32, g37, g39, g47, g48, g49, g50, g51, hi255, hi256]
              have h281 := Rn_some hF262
              have hw : IntKind.i64.wrap (i248 + 1) = i248 + 1 := wrI (by have h0 := hl240; simp [maxLen] at h0; omega)
              exact hg250 x261 _ (by simp [-List.map_set, go_sem, h32, g37, g39, g47, g48, g49, g50, g51, hi255, hi256, hw]) h281
            · intro ψ259 hj257 hF260
              repeat rw [pw_seq]
              rw [pw_block]
              obtain ⟨x263, e264, hF265⟩ := Rn_bind hF260
              obtain ⟨g266, g267, g268⟩ := ix_some e264
              have g269 := ix_get e264
              try simp only [Int.toNat_natCast, Int.toNat_zero, Int.toNat_one, Int.reduceToNat] at g268 g269
              try simp [-List.map_set, go_sem, h32, g37, g39, g47, g48, g49, g50, g51, hi255, hi256, g266, g267, g268, g269]
              refine pw_wkL [(0, .v (.int .i64 a0)), (1, .v (.int .i64 a1)), (8, .v (.sl true 1 (x56.map row_i64))), (13, .v (.sl true 2 (s247.map row_ViewCount_z))), (14, .v (.int .i64 i248)), (15, .v (.int .i64 x263)), (71, .rf 8 []), (72, .v (.int .i64 (x56.length : Int))), (73, .v (.int .i64 i248))] (by simp [-List.map_set, go_sem, h32, g37, g39, g47, g48, g49, g50, g51, hi255, hi256, g266, g267, g268, g269]) ?_
              try simp [-List.map_set, go_sem, h32, g37, g39, g47, g48, g49, g50, g51, hi255, hi256, g266, g267, g268, g269]
              refine pw_wkL [(0, .v (.int .i64 a0)), (1, .v (.int .i64 a1)), (8, .v (.sl true 1 (x56.map row_i64))), (13, .v (.sl true 2 (s247.map row_ViewCount_z))), (14, .v (.int .i64 i248)), (15, .v (.int .i64 x263)), (71, .rf 8 []), (72, .v (.int .i64 (x56.length : Int))), (73, .v (.int .i64 i248)), (79, .v (.bool (decide (0 < x263))))] (by simp [-List.map_set, go_sem, h32, g37, g39, g47, g48, g49, g50, g51, hi255, hi256, g266, g267, g268, g269]) ?_
              repeat rw [pw_seq]
              refine pw_cond' (v := decide (0 < x263)) (by simp [-List.map_set, go_sem, h32, g37, g39, g47, g48, g49, g50, g51, hi255, hi256, g266, g267, g268, g269]) (fun h270 => ?_) (fun h270 => ?_)
              · have hF271 := Rn_t hF265 h270
                obtain ⟨g272, hF273⟩ := Rn_gd hF271
                have g274 := fun x => divV_ne (x := x) g272
                obtain ⟨z275, e276, hF277⟩ := Rn_bind hF273
                try simp [-List.map_set, go_sem, h32, g37, g39, g47, g48, g49, g50, g51, hi255, hi256, g266, g267, g268, g269, h270, g272, g274]
                refine pw_callE [.mv, .mv, .sh] rfl rfl (by (try simp [-List.map_set, go_sem, clE, h32, g37, g39, g47, g48, g49, g50, g51, hi255, hi256, g266, g267, g268, g269, h270, g272, g274]); first | rfl | done) (by rfl) (c_spec_wAdd__mv0_mv1 e276) (by (try simp [-List.map_set, go_sem, h32, g37, g39, g47, g48, g49, g50, g51, hi255, hi256, g266, g267, g268, g269, h270, g272, g274]); first | rfl | done) (fun r0 os0 ho0 => ?_)
                obtain ⟨ho1, ho2⟩ := ho0
                subst ho1
                subst ho2
                refine ⟨by simp [-List.map_set, go_sem, h32, g37, g39, g47, g48, g49, g50, g51, hi255, hi256, g266, g267, g268, g269, h270, g272, g274], ?_⟩
                try simp [-List.map_set, go_sem, h32, g37, g39, g47, g48, g49, g50, g51, hi255, hi256, g266, g267, g268, g269, h270, g272, g274]
                have h278 := Rn_some hF277
                exact hj257 z275 _ (by simp [-List.map_set, go_sem, h32, g37, g39, g47, g48, g49, g50, g51, hi255, hi256, g266, g267, g268, g269, h270, g272, g274]) h278
              · have hF279 := Rn_f hF265 h270
                try simp [-List.map_set, go_sem, h32, g37, g39, g47, g48, g49, g50, g51, hi255, hi256, g266, g267, g268, g269, h270]
                have h280 := Rn_some hF279
                exact hj257 s247 _ (by simp [-List.map_set, go_sem, h32, g37, g39, g47, g48, g49, g50, g51, hi255, hi256, g266, g267, g268, g269, h270]) h280
      · intro ψ54 hj52 hF55
        repeat rw [pw_seq]
        rw [pw_block]
        try simp [-List.map_set, go_sem]
        obtain ⟨b238, hb239, hψ62⟩ := hF55
        refine pw_wloop (fun (s58 : Int × (List Int)) => [(0, .v (.int .i64 a0)), (1, .v (.int .i64 a1)), (2, .v (.int .i64 s58.1)), (8, .v (.sl true 1 (s58.2.map row_i64)))]) hb239 (by simp [-List.map_set, go_sem, h32, g37, g39, g47, g48, g49, g50, g51]) ?_
        intro s58 φ63 N64 ho60 hg61 hF65
        try dsimp only at hF65
        try simp [-List.map_set, go_sem, h32, g37, g39, g47, g48, g49, g50, g51]
        refine pw_wkL [(0, .v (.int .i64 a0)), (1, .v (.int .i64 a1)), (2, .v (.int .i64 s58.1)), (8, .v (.sl true 1 (s58.2.map row_i64))), (41, .v (.bool (decide (0 < s58.1))))] (by simp [-List.map_set, go_sem, h32, g37, g39, g47, g48, g49, g50, g51]) ?_
        repeat rw [pw_seq]
        refine pw_cond' (v := decide (0 < s58.1)) (by simp [-List.map_set, go_sem, h32, g37, g39, g47, g48, g49, g50, g51]) (fun h66 => ?_) (fun h66 => ?_)
        · have hF67 := Rn_t hF65 h66
          try simp [-List.map_set, go_sem, h32, g37, g39, g47, g48, g49, g50, g51, h66]
          refine pw_wkL [(0, .v (.int .i64 a0)), (1, .v (.int .i64 a1)), (2, .v (.int .i64 s58.1)), (8, .v (.sl true 1 (s58.2.map row_i64)))] (by simp [-List.map_set, go_sem, h32, g37, g39, g47, g48, g49, g50, g51, h66]) ?_
          repeat rw [pw_seq]
          rw [pw_block]
          obtain ⟨g68, hF69⟩ := Rn_gd hF67
          have g70 := g68
          try simp at g70
          obtain ⟨x71, e72, hF73⟩ := Rn_bind hF69
          have g74 : List.replicate a0.toNat ([.int .i64 0] : List PV) = x71.map row_i64 := by injection e72 with e72; rw [← e72]; simp [-List.map_set, go_sem]
          try simp [-List.map_set, go_sem, h32, g37, g39, g47, g48, g49, g50, g51, h66, g68, g70, g74]
          refine pw_wkL [(0, .v (.int .i64 a0)), (1, .v (.int .i64 a1)), (2, .v (.int .i64 s58.1)), (8, .v (.sl true 1 (s58.2.map row_i64))), (9, .v (.sl true 1 (x71.map row_i64)))] (by simp [-List.map_set, go_sem, h32, g37, g39, g47, g48, g49, g50, g51, h66, g68, g70]) ?_
          try simp [-List.map_set, go_sem, h32, g37, g39, g47, g48, g49, g50, g51, h66, g68, g70]
          refine qln_some fun hl75 => ?_
          try simp [-List.map_set, go_sem, h32, g37, g39, g47, g48, g49, g50, g51, h66, g68, g70]
          refine pw_wkL [(0, .v (.int .i64 a0)), (1, .v (.int .i64 a1)), (2, .v (.int .i64 s58.1)), (8, .v (.sl true 1 (s58.2.map row_i64))), (9, .v (.sl true 1 (x71.map row_i64))), (46, .rf 8 []), (47, .v (.int .i64 (s58.2.length : Int))), (48, .v (.int .i64 0))] (by simp [-List.map_set, go_sem, h32, g37, g39, g47, g48, g49, g50, g51, h66, g68, g70]) ?_
          repeat rw [pw_seq]
          refine pw_joinF (fun (x80 : (List Int)) => [(0, .v (.int .i64 a0)), (1, .v (.int .i64 a1)), (2, .v (.int .i64 s58.1)), (9, .v (.sl true 1 (x80.map row_i64)))]) hF73 ?_ ?_
          · intro x80 hF81
            try dsimp only at hF81
            try simp [-List.map_set, go_sem, h32, g37, g39, g47, g48, g49, g50, g51, h66, g68, g70]
            refine pw_wkL [(0, .v (.int .i64 a0)), (1, .v (.int .i64 a1)), (2, .v (.int .i64 s58.1)), (8, .v (.sl true 1 (x80.map row_i64)))] (by simp [-List.map_set, go_sem, h32, g37, g39, g47, g48, g49, g50, g51, h66, g68, g70]) ?_
            try simp [-List.map_set, go_sem, h32, g37, g39, g47, g48, g49, g50, g51, h66, g68, g70]
            have h234 := Rn_some hF81
            exact hg61 (IntKind.i64.wrap (s58.1 - 1), x80) _ (by simp [-List.map_set, go_sem, h32, g37, g39, g47, g48, g49, g50, g51, h66, g68, g70]) h234
          · intro ψ78 hj76 hF79
            repeat rw [pw_seq]
            rw [pw_block]
            try simp [-List.map_set, go_sem]
            obtain ⟨b230, hb231, hψ160⟩ := hF79
            refine pw_rloop (fun (i157 : Int) (s156 : (List Int)) => [(0, .v (.int .i64 a0)), (1, .v (.int .i64 a1)), (2, .v (.int .i64 s58.1)), (8, .v (.sl true 1 (s58.2.map row_i64))), (9, .v (.sl true 1 (s156.map row_i64))), (46, .rf 8 []), (47, .v (.int .i64 (s58.2.length : Int))), (48, .v (.int .i64 i157))]) hb231 (by simp [-List.map_set, go_sem, h32, g37, g39, g47, g48, g49, g50, g51, h66, g68, g70]) ?_ ?_
            · intro s156 N233 hN232
              subst hN232
              try simp [-List.map_set, go_sem]
              refine pw_wk ?_
              repeat rw [pw_seq]
              refine pw_cond_f (by simp [-List.map_set, go_sem]) ?_
              try simp [-List.map_set, go_sem]
              exact hj76 s156 _ (by simp [-List.map_set, go_sem]) hψ160
            · intro i157 s156 φ161 N162 hi164 hi165 ho158 hg159 hF163
              try dsimp only at hF163
              rw [Int.zero_add] at hi165
              try simp [-List.map_set, go_sem, h32, g37, g39, g47, g48, g49, g50, g51, h66, g68, g70, hi164, hi165]
              refine pw_wkL [(0, .v (.int .i64 a0)), (1, .v (.int .i64 a1)), (2, .v (.int .i64 s58.1)), (8, .v (.sl true 1 (s58.2.map row_i64))), (9, .v (.sl true 1 (s156.map row_i64))), (46, .rf 8 []), (47, .v (.int .i64 (s58.2.length : Int))), (48, .v (.int .i64 i157)), (49, .v (.bool (decide (i157 < (s58.2.length : Int)))))] (by simp [-List.map_set, go_sem, h32, g37, g39, g47, g48, g49, g50, g51, h66, g68, g70, hi164, hi165]) ?_
              repeat rw [pw_seq]
              refine pw_cond_t (by simp [-List.map_set, go_sem, h32, g37, g39, g47, g48, g49, g50, g51, h66, g68, g70, hi164, hi165]) ?_
              try simp [-List.map_set, go_sem, h32, g37, g39, g47, g48, g49, g50, g51, h66, g68, g70, hi164, hi165]
              refine pw_wkL [(0, .v (.int .i64 a0)), (1, .v (.int .i64 a1)), (2, .v (.int .i64 s58.1)), (8, .v (.sl true 1 (s58.2.map row_i64))), (9, .v (.sl true 1 (s156.map row_i64))), (46, .rf 8 []), (47, .v (.int .i64 (s58.2.length : Int))), (48, .v (.int .i64 i157))] (by simp [-List.map_set, go_sem, h32, g37, g39, g47, g48, g49, g50, g51, h66, g68, g70, hi164, hi165]) ?_
              repeat rw [pw_seq]
              refine pw_joinF (fun (x170 : (List Int)) => [(0, .v (.int .i64 a0)), (1, .v (.int .i64 a1)), (2, .v (.int .i64 s58.1)), (8, .v (.sl true 1 (s58.2.map row_i64))), (9, .v (.sl true 1 (x170.map row_i64))), (46, .rf 8 []), (47, .v (.int .i64 (s58.2.length : Int))), (48, .v (.int .i64 i157))]) hF163 ?_ ?_
              · intro x170 hF171
                try dsimp only at hF171
                try simp [-List.map_set, go_sem, h32, g37, g39, g47, g48, g49, g50, g51, h66, g68, g70, hi164, hi165]
                have h229 := Rn_some hF171
                have hw : IntKind.i64.wrap (i157 + 1) = i157 + 1 := wrI (by have h0 := hl75; simp [maxLen] at h0; omega)
                exact hg159 x170 _ (by simp [-List.map_set, go_sem, h32, g37, g39, g47, g48, g49, g50, g51, h66, g68, g70, hi164, hi165, hw]) h229
              · intro ψ168 hj166 hF169
                repeat rw [pw_seq]
                rw [pw_block]
                obtain ⟨x172, e173, hF174⟩ := Rn_bind hF169
                obtain ⟨g175, g176, g177⟩ := ix_some e173
                have g178 := ix_get e173
                try simp only [Int.toNat_natCast, Int.toNat_zero, Int.toNat_one, Int.reduceToNat] at g177 g178
                try simp [-List.map_set, go_sem, h32, g37, g39, g47, g48, g49, g50, g51, h66, g68, g70, hi164, hi165, g175, g176, g177, g178]
                refine pw_wkL [(0, .v (.int .i64 a0)), (1, .v (.int .i64 a1)), (2, .v (.int .i64 s58.1)), (8, .v (.sl true 1 (s58.2.map row_i64))), (9, .v (.sl true 1 (s156.map row_i64))), (10, .v (.int .i64 i157)), (11, .v (.int .i64 x172)), (46, .rf 8 []), (47, .v (.int .i64 (s58.2.length : Int))), (48, .v (.int .i64 i157))] (by simp [-List.map_set, go_sem, h32, g37, g39, g47, g48, g49, g50, g51, h66, g68, g70, hi164, hi165, g175, g176, g177, g178]) ?_
                try simp [-List.map_set, go_sem, h32, g37, g39, g47, g48, g49, g50, g51, h66, g68, g70, hi164, hi165, g175, g176, g177, g178]
                refine pw_wkL [(0, .v (.int .i64 a0)), (1, .v (.int .i64 a1)), (2, .v (.int .i64 s58.1)), (8, .v (.sl true 1 (s58.2.map row_i64))), (9, .v (.sl true 1 (s156.map row_i64))), (10, .v (.int .i64 i157)), (11, .v (.int .i64 x172)), (12, .v (.int .i64 1)), (46, .rf 8 []), (47, .v (.int .i64 (s58.2.length : Int))), (48, .v (.int .i64 i157))] (by simp [-List.map_set, go_sem, h32, g37, g39, g47, g48, g49, g50, g51, h66, g68, g70, hi164, hi165, g175, g176, g177, g178]) ?_
                repeat rw [pw_seq]
                rw [pw_block]
                try simp [-List.map_set, go_sem]
                obtain ⟨b227, hb228, hψ207⟩ := hF174
                refine pw_wloop (fun (s203 : (List Int) × Int) => [(0, .v (.int .i64 a0)), (1, .v (.int .i64 a1)), (2, .v (.int .i64 s58.1)), (8, .v (.sl true 1 (s58.2.map row_i64))), (9, .v (.sl true 1 (s203.1.map row_i64))), (10, .v (.int .i64 i157)), (11, .v (.int .i64 x172)), (12, .v (.int .i64 s203.2)), (46, .rf 8 []), (47, .v (.int .i64 (s58.2.length : Int))), (48, .v (.int .i64 i157))]) hb228 (by simp [-List.map_set, go_sem, h32, g37, g39, g47, g48, g49, g50, g51, h66, g68, g70, hi164, hi165, g175, g176, g177, g178]) ?_
                intro s203 φ208 N209 ho205 hg206 hF210
                try dsimp only at hF210
                try simp [-List.map_set, go_sem, h32, g37, g39, g47, g48, g49, g50, g51, h66, g68, g70, hi164, hi165, g175, g176, g177, g178]
                refine pw_wkL [(0, .v (.int .i64 a0)), (1, .v (.int .i64 a1)), (2, .v (.int .i64 s58.1)), (8, .v (.sl true 1 (s58.2.map row_i64))), (9, .v (.sl true 1 (s203.1.map row_i64))), (10, .v (.int .i64 i157)), (11, .v (.int .i64 x172)), (12, .v (.int .i64 s203.2)), (46, .rf 8 []), (47, .v (.int .i64 (s58.2.length : Int))), (48, .v (.int .i64 i157)), (55, .v (.bool (decide (s203.2 < a0))))] (by simp [-List.map_set, go_sem, h32, g37, g39, g47, g48, g49, g50, g51, h66, g68, g70, hi164, hi165, g175, g176, g177, g178]) ?_
                repeat rw [pw_seq]
                refine pw_cond' (v := decide (s203.2 < a0)) (by simp [-List.map_set, go_sem, h32, g37, g39, g47, g48, g49, g50, g51, h66, g68, g70, hi164, hi165, g175, g176, g177, g178]) (fun h211 => ?_) (fun h211 => ?_)
                · have hF212 := Rn_t hF210 h211
                  try simp [-List.map_set, go_sem, h32, g37, g39, g47, g48, g49, g50, g51, h66, g68, g70, hi164, hi165, g175, g176, g177, g178, h211]
                  refine pw_wkL [(0, .v (.int .i64 a0)), (1, .v (.int .i64 a1)), (2, .v (.int .i64 s58.1)), (8, .v (.sl true 1 (s58.2.map row_i64))), (9, .v (.sl true 1 (s203.1.map row_i64))), (10, .v (.int .i64 i157)), (11, .v (.int .i64 x172)), (12, .v (.int .i64 s203.2)), (46, .rf 8 []), (47, .v (.int .i64 (s58.2.length : Int))), (48, .v (.int .i64 i157))] (by simp [-List.map_set, go_sem, h32, g37, g39, g47, g48, g49, g50, g51, h66, g68, g70, hi164, hi165, g175, g176, g177, g178, h211]) ?_
                  repeat rw [pw_seq]
                  rw [pw_block]
                  obtain ⟨g213, hF214⟩ := Rn_gd hF212
                  have g215 := fun x => divV_ne (x := x) g213
                  obtain ⟨x216, e217, hF218⟩ := Rn_bind hF214
                  obtain ⟨g219, g220, g221⟩ := ix_some e217
                  have g222 := ix_get e217
                  try simp only [Int.toNat_natCast, Int.toNat_zero, Int.toNat_one, Int.reduceToNat] at g221 g222
                  try simp [-List.map_set, go_sem, h32, g37, g39, g47, g48, g49, g50, g51, h66, g68, g70, hi164, hi165, g175, g176, g177, g178, h211, g213, g215, g219, g220, g221, g222]
                  refine pw_wkL [(0, .v (.int .i64 a0)), (1, .v (.int .i64 a1)), (2, .v (.int .i64 s58.1)), (8, .v (.sl true 1 (s58.2.map row_i64))), (9, .v (.sl true 1 ((s203.1.set (((IntKind.i64.wrap (i157 + s203.2)).tmod a0).toNat) (IntKind.i64.wrap (x216 + x172))).map row_i64))), (10, .v (.int .i64 i157)), (11, .v (.int .i64 x172)), (12, .v (.int .i64 s203.2)), (46, .rf 8 []), (47, .v (.int .i64 (s58.2.length : Int))), (48, .v (.int .i64 i157))] (by simp [-List.map_set, go_sem, h32, g37, g39, g47, g48, g49, g50, g51, h66, g68, g70, hi164, hi165, g175, g176, g177, g178, h211, g213, g215, g219, g220, g221, g222]) ?_
                  try simp [-List.map_set, go_sem, h32, g37, g39, g47, g48, g49, g50, g51, h66, g68, g70, hi164, hi165, g175, g176, g177, g178, h211, g213, g215, g219, g220, g221, g222]
                  have h223 := Rn_some hF218
                  exact hg206 (s203.1.set (((IntKind.i64.wrap (i157 + s203.2)).tmod a0).toNat) (IntKind.i64.wrap (x216 + x172)), IntKind.i64.wrap (s203.2 + 1)) _ (by simp [-List.map_set, go_sem, h32, g37, g39, g47, g48, g49, g50, g51, h66, g68, g70, hi164, hi165, g175, g176, g177, g178, h211, g213, g215, g219, g220, g221, g222]) h223
                · have hF224 := Rn_f hF210 h211
                  try simp [-List.map_set, go_sem, h32, g37, g39, g47, g48, g49, g50, g51, h66, g68, g70, hi164, hi165, g175, g176, g177, g178, h211]
                  have h225 := Rn_some hF224
                  have h226 := ho205 _ h225
                  subst h226
                  exact hj166 s203.1 _ (by simp [-List.map_set, go_sem, h32, g37, g39, g47, g48, g49, g50, g51, h66, g68, g70, hi164, hi165, g175, g176, g177, g178, h211]) hψ207
        · have hF235 := Rn_f hF65 h66
          try simp [-List.map_set, go_sem, h32, g37, g39, g47, g48, g49, g50, g51, h66]
          have h236 := Rn_some hF235
          have h237 := ho60 _ h236
          subst h237
          exact hj52 s58.2 _ (by simp [-List.map_set, go_sem, h32, g37, g39, g47, g48, g49, g50, g51, h66]) hψ62
  · intro ψ3 hj1 hF4
    obtain ⟨z7, e8, hF9⟩ := Rn_bind hF4
    try simp [-List.map_set, go_sem]
    refine pw_callE [.sh, .sh, .sh] rfl rfl (by (try simp [-List.map_set, go_sem, clE]); first | rfl | done) (by rfl) (c_spec_l1In e8) (by (try simp [-List.map_set, go_sem]); first | rfl | done) (fun r0 os0 ho0 => ?_)
    obtain ⟨ho1, ho2⟩ := ho0
    subst ho1
    subst ho2
    refine ⟨by simp [-List.map_set, go_sem], ?_⟩
    try simp [-List.map_set, go_sem]
    refine pwg_split (fun h10 => ?_) (fun h10 => ?_)
    · have hF11 := Rn_t hF9 h10
      try simp [-List.map_set, go_sem, h10]
      have h12 := Rn_some hF11
      exact hj1 true _ (by simp [-List.map_set, go_sem, h10]) h12
    · have hF13 := Rn_f hF9 h10
      obtain ⟨z14, e15, hF16⟩ := Rn_bind hF13
      try simp [-List.map_set, go_sem, h10]
      refine pw_callE [.sh] rfl rfl (by (try simp [-List.map_set, go_sem, clE, h10]); first | rfl | done) (by rfl) (c_spec_nPrime e15) (by (try simp [-List.map_set, go_sem, h10]); first | rfl | done) (fun r0 os0 ho0 => ?_)
      obtain ⟨ho1, ho2⟩ := ho0
      subst ho1
      subst ho2
      refine ⟨by simp [-List.map_set, go_sem, h10], ?_⟩
      try simp [-List.map_set, go_sem, h10]
      refine pwg_split (fun h17 => ?_) (fun h17 => ?_)
      · have hF18 := Rn_t hF16 h17
        try simp [-List.map_set, go_sem, h10, h17]
        have h19 := Rn_some hF18
        exact hj1 true _ (by simp [-List.map_set, go_sem, h10, h17]) h19
      · have hF20 := Rn_f hF16 h17
        obtain ⟨z21, e22, hF23⟩ := Rn_bind hF20
        try simp [-List.map_set, go_sem, h10, h17]
        refine pw_callE [.sh, .sh, .sh] rfl rfl (by (try simp [-List.map_set, go_sem, clE, h10, h17]); first | rfl | done) (by rfl) (c_spec_l1In e22) (by (try simp [-List.map_set, go_sem, h10, h17]); first | rfl | done) (fun r0 os0 ho0 => ?_)
        obtain ⟨ho1, ho2⟩ := ho0
        subst ho1
        subst ho2
        refine ⟨by simp [-List.map_set, go_sem, h10, h17], ?_⟩
        try simp [-List.map_set, go_sem, h10, h17]
        refine pwg_split (fun h24 => ?_) (fun h24 => ?_)
        · have hF25 := Rn_t hF23 h24
          try simp [-List.map_set, go_sem, h10, h17, h24]
          have h26 := Rn_some hF25
          exact hj1 true _ (by simp [-List.map_set, go_sem, h10, h17, h24]) h26
        · have hF27 := Rn_f hF23 h24
          obtain ⟨z28, e29, hF30⟩ := Rn_bind hF27
          try simp [-List.map_set, go_sem, h10, h17, h24]
          refine pw_callE [.sh, .sh, .sh] rfl rfl (by (try simp [-List.map_set, go_sem, clE, h10, h17, h24]); first | rfl | done) (by rfl) (c_spec_l1In e29) (by (try simp [-List.map_set, go_sem, h10, h17, h24]); first | rfl | done) (fun r0 os0 ho0 => ?_)
          obtain ⟨ho1, ho2⟩ := ho0
          subst ho1
          subst ho2
          refine ⟨by simp [-List.map_set, go_sem, h10, h17, h24], ?_⟩
          try simp [-List.map_set, go_sem, h10, h17, h24]
          have h31 := Rn_some hF30
          exact hj1 (!z28) _ (by simp [-List.map_set, go_sem, h10, h17, h24]) h31
noncomputable def F_impl_within (a0 : Int) (a1 : Int) (a2 : Int) : Option (Bool) :=
  ((if decide (a1 ≤ a0) = true then (
  some (decide (a0 ≤ a2))) else (
  some false) : Option (Bool)).bind fun (x5 : Bool) =>
  some x5)
theorem c_impl_within {a0 : Int} {a1 : Int} {a2 : Int} {r : Bool} (hr : F_impl_within a0 a1 a2 = some r) : PCalls Try.prog 74 [(.sh, .int .i64 a0), (.sh, .int .i64 a1), (.sh, .int .i64 a2)] (fun o os => o = .bool r ∧ os = [.junk, .junk, .junk]) := by
  refine pcalls_lift (R := fun (r : Bool) o os => o = .bool r ∧ os = [.junk, .junk, .junk]) [] [] hr cl74 Try.func74 rfl (by simp [Try.f74]) fun Φ hΦ hF => ?_
  unfold F_impl_within at hF
  simp only [Try.f74, ioL_nil, ioL_sh, ioL_mv, ioL_io]
  try simp [-List.map_set, go_sem]
  refine pw_wkL [(0, .v (.int .i64 a0)), (1, .v (.int .i64 a1)), (2, .v (.int .i64 a2))] (by simp [-List.map_set, go_sem]) ?_
  repeat rw [pw_seq]
  refine pw_joinF (fun (x5 : Bool) => [(6, .v (.bool x5))]) hF ?_ ?_
  · intro x5 hF6
    try dsimp only at hF6
    try simp [-List.map_set, go_sem]
    have h12 := Rn_some hF6
    have h13 := hΦ _ h12
    subst h13
    try simp [-List.map_set, go_sem]
  · intro ψ3 hj1 hF4
    try simp [-List.map_set, go_sem]
    refine pwg_split (fun h7 => ?_) (fun h7 => ?_)
    · have hF8 := Rn_t hF4 h7
      try simp [-List.map_set, go_sem, h7]
      have h9 := Rn_some hF8
      exact hj1 (decide (a0 ≤ a2)) _ (by simp [-List.map_set, go_sem, h7]) h9
    · have hF10 := Rn_f hF4 h7
      try simp [-List.map_set, go_sem, h7]
      have h11 := Rn_some hF10
      exact hj1 false _ (by simp [-List.map_set, go_sem, h7]) h11
noncomputable def F_impl_isModulus (a0 : Int) : Option (Bool) :=
  (F_impl_within a0 2 2000000000).bind fun z1 =>
  some z1
theorem c_impl_isModulus {a0 : Int} {r : Bool} (hr : F_impl_isModulus a0 = some r) : PCalls Try.prog 106 [(.sh, .int .i64 a0)] (fun o os => o = .bool r ∧ os = [.junk]) := by
  refine pcalls_lift (R := fun (r : Bool) o os => o = .bool r ∧ os = [.junk]) [] [] hr cl106 Try.func106 rfl (by simp [Try.f106]) fun Φ hΦ hF => ?_
  unfold F_impl_isModulus at hF
  simp only [Try.f106, ioL_nil, ioL_sh, ioL_mv, ioL_io]
  try simp [-List.map_set, go_sem]
  refine pw_wkL [(0, .v (.int .i64 a0))] (by simp [-List.map_set, go_sem]) ?_
  obtain ⟨z1, e2, hF3⟩ := Rn_bind hF
  try simp [-List.map_set, go_sem]
  refine pw_callE [.sh, .sh, .sh] rfl rfl (by (try simp [-List.map_set, go_sem, clE]); first | rfl | done) (by rfl) (c_impl_within e2) (by (try simp [-List.map_set, go_sem]); first | rfl | done) (fun r0 os0 ho0 => ?_)
  obtain ⟨ho1, ho2⟩ := ho0
  subst ho1
  subst ho2
  refine ⟨by simp [-List.map_set, go_sem], ?_⟩
  try simp [-List.map_set, go_sem]
  refine pw_wkL [(2, .v (.bool z1))] (by simp [-List.map_set, go_sem]) ?_
  try simp [-List.map_set, go_sem]
  have h4 := Rn_some hF3
  have h5 := hΦ _ h4
  subst h5
  try simp [-List.map_set, go_sem]
noncomputable def F_impl_isPrime (a0 : Int) : Option (Bool) :=
  (((F_impl_isModulus a0).bind fun z7 =>
  if (!z7) = true then (
  some true) else (
  if ((a0.tmod 2) == 0) = true then (
  some (a0 != 2)) else (
  some false)) : Option (Bool)).bind fun (x5 : Bool) =>
  if x5 = true then (
  some false) else (
  ((wloop (σ := Int) (β := Unit ⊕ Bool) (fun s31 =>
  if decide ((IntKind.i64.wrap (s31 * s31)) ≤ a0) = true then (
  gd (s31 ≠ 0) <|
  if ((a0.tmod s31) == 0) = true then (
  some (.out (.inr false))) else (
  some (.go (IntKind.i64.wrap (s31 + 2))))) else (
  some (.out (.inl ())))) 3 : Option (Unit ⊕ Bool)).bind (Sum.elim (fun (x29 : Unit) =>
  some true) some))))
theorem c_impl_isPrime {a0 : Int} {r : Bool} (hr : F_impl_isPrime a0 = some r) : PCalls Try.prog 73 [(.sh, .int .i64 a0)] (fun o os => o = .bool r ∧ os = [.junk]) := by
  refine pcalls_lift (R := fun (r : Bool) o os => o = .bool r ∧ os = [.junk]) [] [] hr cl73 Try.func73 rfl (by simp [Try.f73]) fun Φ hΦ hF => ?_
  unfold F_impl_isPrime at hF
  simp only [Try.f73, ioL_nil, ioL_sh, ioL_mv, ioL_io]
  try simp [-List.map_set, go_sem]
  refine pw_wkL [(0, .v (.int .i64 a0))] (by simp [-List.map_set, go_sem]) ?_
  repeat rw [pw_seq]
  refine pw_joinF (fun (x5 : Bool) => [(0, .v (.int .i64 a0)), (15, .v (.bool x5))]) hF ?_ ?_
  · intro x5 hF6
    try dsimp only at hF6
    repeat rw [pw_seq]
    refine pw_cond' (v := x5) (by simp [-List.map_set, go_sem]) (fun h20 => ?_) (fun h20 => ?_)
    · have hF21 := Rn_t hF6 h20
      try simp [-List.map_set, go_sem, h20]
      refine pw_wkL [(2, .v (.bool false))] (by simp [-List.map_set, go_sem, h20]) ?_
      try simp [-List.map_set, go_sem, h20]
      have h22 := Rn_some hF21
      have h23 := hΦ _ h22
      subst h23
      try simp [-List.map_set, go_sem, h20]
    · have hF24 := Rn_f hF6 h20
      try simp [-List.map_set, go_sem, h20]
      refine pw_wkL [(0, .v (.int .i64 a0))] (by simp [-List.map_set, go_sem, h20]) ?_
      try simp [-List.map_set, go_sem, h20]
      refine pw_wkL [(0, .v (.int .i64 a0)), (3, .v (.int .i64 3))] (by simp [-List.map_set, go_sem, h20]) ?_
      repeat rw [pw_seq]
      refine pw_joinS (fun (x29 : Unit) => []) hF24 ?_ ?_
      · intro x29 hF30
        try dsimp only at hF30
        try simp [-List.map_set, go_sem, h20]
        refine pw_wkL [(2, .v (.bool true))] (by simp [-List.map_set, go_sem, h20]) ?_
        try simp [-List.map_set, go_sem, h20]
        have h57 := Rn_some hF30
        have h58 := hΦ _ h57
        subst h58
        try simp [-List.map_set, go_sem, h20]
      · intro ψ27 hj25 hr26 hF28
        repeat rw [pw_seq]
        rw [pw_block]
        try simp [-List.map_set, go_sem]
        obtain ⟨b55, hb56, hψ35⟩ := hF28
        refine pw_wloop (fun (s31 : Int) => [(0, .v (.int .i64 a0)), (3, .v (.int .i64 s31))]) hb56 (by simp [-List.map_set, go_sem, h20]) ?_
        intro s31 φ36 N37 ho33 hg34 hF38
        try dsimp only at hF38
        try simp [-List.map_set, go_sem, h20]
        refine pw_wkL [(0, .v (.int .i64 a0)), (3, .v (.int .i64 s31)), (20, .v (.bool (decide ((IntKind.i64.wrap (s31 * s31)) ≤ a0))))] (by simp [-List.map_set, go_sem, h20]) ?_
        repeat rw [pw_seq]
        refine pw_cond' (v := decide ((IntKind.i64.wrap (s31 * s31)) ≤ a0)) (by simp [-List.map_set, go_sem, h20]) (fun h39 => ?_) (fun h39 => ?_)
        · have hF40 := Rn_t hF38 h39
          try simp [-List.map_set, go_sem, h20, h39]
          refine pw_wkL [(0, .v (.int .i64 a0)), (3, .v (.int .i64 s31))] (by simp [-List.map_set, go_sem, h20, h39]) ?_
          repeat rw [pw_seq]
          rw [pw_block]
          obtain ⟨g41, hF42⟩ := Rn_gd hF40
          have g43 := fun x => divV_ne (x := x) g41
          try simp [-List.map_set, go_sem, h20, h39, g41, g43]
          refine pw_wkL [(0, .v (.int .i64 a0)), (3, .v (.int .i64 s31)), (26, .v (.bool ((a0.tmod s31) == 0)))] (by simp [-List.map_set, go_sem, h20, h39, g41, g43]) ?_
          repeat rw [pw_seq]
          refine pw_cond' (v := ((a0.tmod s31) == 0)) (by simp [-List.map_set, go_sem, h20, h39, g41, g43]) (fun h44 => ?_) (fun h44 => ?_)
          · have hF45 := Rn_t hF42 h44
            try simp [-List.map_set, go_sem, h20, h39, g41, g43, h44]
            refine pw_wkL [(2, .v (.bool false))] (by simp [-List.map_set, go_sem, h20, h39, g41, g43, h44]) ?_
            try simp [-List.map_set, go_sem, h20, h39, g41, g43, h44]
            have h46 := Rn_some hF45
            have h47 := ho33 _ h46
            subst h47
            have h48 := hr26 _ hψ35
            have h49 := hΦ _ h48
            subst h49
            try simp [-List.map_set, go_sem, h20, h39, g41, g43, h44]
          · have hF50 := Rn_f hF42 h44
            try simp [-List.map_set, go_sem, h20, h39, g41, g43, h44]
            refine pw_wkL [(0, .v (.int .i64 a0)), (3, .v (.int .i64 s31))] (by simp [-List.map_set, go_sem, h20, h39, g41, g43, h44]) ?_
            try simp [-List.map_set, go_sem, h20, h39, g41, g43, h44]
            have h51 := Rn_some hF50
            exact hg34 (IntKind.i64.wrap (s31 + 2)) _ (by simp [-List.map_set, go_sem, h20, h39, g41, g43, h44]) h51
        · have hF52 := Rn_f hF38 h39
          try simp [-List.map_set, go_sem, h20, h39]
          have h53 := Rn_some hF52
          have h54 := ho33 _ h53
          subst h54
          exact hj25 () _ (by simp [-List.map_set, go_sem, h20, h39]) hψ35
  · intro ψ3 hj1 hF4
    obtain ⟨z7, e8, hF9⟩ := Rn_bind hF4
    try simp [-List.map_set, go_sem]
    refine pw_callE [.sh] rfl rfl (by (try simp [-List.map_set, go_sem, clE]); first | rfl | done) (by rfl) (c_impl_isModulus e8) (by (try simp [-List.map_set, go_sem]); first | rfl | done) (fun r0 os0 ho0 => ?_)
    obtain ⟨ho1, ho2⟩ := ho0
    subst ho1
    subst ho2
    refine ⟨by simp [-List.map_set, go_sem], ?_⟩
    try simp [-List.map_set, go_sem]
    refine pwg_split (fun h10 => ?_) (fun h10 => ?_)
    · have hF11 := Rn_t hF9 h10
      try simp [-List.map_set, go_sem, h10]
      have h12 := Rn_some hF11
      exact hj1 true _ (by simp [-List.map_set, go_sem, h10]) h12
    · have hF13 := Rn_f hF9 h10
      have g14 := fun x => divV_ne (b := 2) (x := x) (by decide)
      try simp [-List.map_set, go_sem, h10, g14]
      refine pwg_split (fun h15 => ?_) (fun h15 => ?_)
      · have hF16 := Rn_t hF13 h15
        try simp [-List.map_set, go_sem, h10, g14, h15]
        have h17 := Rn_some hF16
        exact hj1 (a0 != 2) _ (by simp [-List.map_set, go_sem, h10, g14, h15]) h17
      · have hF18 := Rn_f hF13 h15
        try simp [-List.map_set, go_sem, h10, g14, h15]
        have h19 := Rn_some hF18
        exact hj1 false _ (by simp [-List.map_set, go_sem, h10, g14, h15]) h19
noncomputable def F_slices_Clone_impl_ViewCount_impl_ViewCount (a0 : (List ViewCount)) : Option (List ViewCount) :=
  gd (a0.length * 32 ≤ 140737488355328 ∧ a0.length ≤ 4611686018427387904) <|
  some a0
theorem c_slices_Clone_impl_ViewCount_impl_ViewCount {a0 : (List ViewCount)} {r : (List ViewCount)} (hr : F_slices_Clone_impl_ViewCount_impl_ViewCount a0 = some r) : PCalls Try.prog 107 [(.sh, .sl false 2 (a0.map row_ViewCount_z))] (fun o os => o = .sl true 2 (r.map row_ViewCount_z) ∧ os = [.junk]) := by
  refine pcalls_lift (R := fun (r : (List ViewCount)) o os => o = .sl true 2 (r.map row_ViewCount_z) ∧ os = [.junk]) [] [1000000] hr cl107 Try.func107 rfl (by simp [Try.f107]) fun Φ hΦ hF => ?_
  unfold F_slices_Clone_impl_ViewCount_impl_ViewCount at hF
  obtain ⟨g, hF⟩ := Rn_gd hF
  have h1 := hΦ _ (Rn_some hF)
  subst h1
  simp only [Try.f107, ioL_nil, ioL_sh, ioL_mv, ioL_io]
  try simp [-List.map_set, go_sem]
  refine pw_wkL [(0, .v (.sl false 2 (a0.map row_ViewCount_z)))] (by simp [-List.map_set, go_sem]) ?_
  try simp [-List.map_set, go_sem]
  refine pw1_nil rfl rfl (by simp [go_sem]) rfl (by rfl) fun b hb => ?_
  try simp [-List.map_set, go_sem]
  refine pw_wk ?_
  repeat rw [pw_seq]
  cases b
  · refine pw_cond_f (by simp [-List.map_set, go_sem]) ?_
    try simp [-List.map_set, go_sem]
    refine pw_wk ?_
    try simp [-List.map_set, go_sem, g]
    refine pw_wk ?_
    try simp [-List.map_set, go_sem, g]
  · have hb0 : a0 = [] := by
      cases a0 with
      | nil => rfl
      | cons x l => exact absurd (hb (by simp)) (by simp)
    subst hb0
    refine pw_cond_t (by simp [-List.map_set, go_sem]) ?_
    try simp [-List.map_set, go_sem]
    refine pw_wk ?_
    try simp [-List.map_set, go_sem]
noncomputable def F_cmp_isNaN_int (a0 : Int) : Option (Bool) :=
  some (a0 != a0)
theorem c_cmp_isNaN_int {a0 : Int} {r : Bool} (hr : F_cmp_isNaN_int a0 = some r) : PCalls Try.prog 121 [(.sh, .int .i64 a0)] (fun o os => o = .bool r ∧ os = [.junk]) := by
  refine pcalls_lift (R := fun (r : Bool) o os => o = .bool r ∧ os = [.junk]) [] [] hr cl121 Try.func121 rfl (by simp [Try.f121]) fun Φ hΦ hF => ?_
  unfold F_cmp_isNaN_int at hF
  simp only [Try.f121, ioL_nil, ioL_sh, ioL_mv, ioL_io]
  try simp [-List.map_set, go_sem]
  refine pw_wkL [(0, .v (.int .i64 a0))] (by simp [-List.map_set, go_sem]) ?_
  try simp [-List.map_set, go_sem]
  refine pw_wkL [(2, .v (.bool (a0 != a0)))] (by simp [-List.map_set, go_sem]) ?_
  try simp [-List.map_set, go_sem]
  have h1 := Rn_some hF
  have h2 := hΦ _ h1
  subst h2
  try simp [-List.map_set, go_sem]
noncomputable def F_cmp_Compare_int (a0 : Int) (a1 : Int) : Option (Int) :=
  (F_cmp_isNaN_int a0).bind fun z1 =>
  (F_cmp_isNaN_int a1).bind fun z4 =>
  if z1 = true then (
  if z4 = true then (
  some 0) else (
  some (-1))) else (
  if z4 = true then (
  some 1) else (
  if decide (a0 < a1) = true then (
  some (-1)) else (
  if decide (a1 < a0) = true then (
  some 1) else (
  some 0))))
theorem c_cmp_Compare_int {a0 : Int} {a1 : Int} {r : Int} (hr : F_cmp_Compare_int a0 a1 = some r) : PCalls Try.prog 113 [(.sh, .int .i64 a0), (.sh, .int .i64 a1)] (fun o os => o = .int .i64 r ∧ os = [.junk, .junk]) := by
  refine pcalls_lift (R := fun (r : Int) o os => o = .int .i64 r ∧ os = [.junk, .junk]) [] [] hr cl113 Try.func113 rfl (by simp [Try.f113]) fun Φ hΦ hF => ?_
  unfold F_cmp_Compare_int at hF
  simp only [Try.f113, ioL_nil, ioL_sh, ioL_mv, ioL_io]
  try simp [-List.map_set, go_sem]
  refine pw_wkL [(0, .v (.int .i64 a0)), (1, .v (.int .i64 a1))] (by simp [-List.map_set, go_sem]) ?_
  obtain ⟨z1, e2, hF3⟩ := Rn_bind hF
  try simp [-List.map_set, go_sem]
  refine pw_callE [.sh] rfl rfl (by (try simp [-List.map_set, go_sem, clE]); first | rfl | done) (by rfl) (c_cmp_isNaN_int e2) (by (try simp [-List.map_set, go_sem]); first | rfl | done) (fun r0 os0 ho0 => ?_)
  obtain ⟨ho1, ho2⟩ := ho0
  subst ho1
  subst ho2
  refine ⟨by simp [-List.map_set, go_sem], ?_⟩
  try simp [-List.map_set, go_sem]
  refine pw_wkL [(0, .v (.int .i64 a0)), (1, .v (.int .i64 a1)), (5, .v (.bool z1))] (by simp [-List.map_set, go_sem]) ?_
  obtain ⟨z4, e5, hF6⟩ := Rn_bind hF3
  try simp [-List.map_set, go_sem]
  refine pw_callE [.sh] rfl rfl (by (try simp [-List.map_set, go_sem, clE]); first | rfl | done) (by rfl) (c_cmp_isNaN_int e5) (by (try simp [-List.map_set, go_sem]); first | rfl | done) (fun r0 os0 ho0 => ?_)
  obtain ⟨ho1, ho2⟩ := ho0
  subst ho1
  subst ho2
  refine ⟨by simp [-List.map_set, go_sem], ?_⟩
  try simp [-List.map_set, go_sem]
  refine pw_wkL [(0, .v (.int .i64 a0)), (1, .v (.int .i64 a1)), (5, .v (.bool z1)), (6, .v (.bool z4))] (by simp [-List.map_set, go_sem]) ?_
  try simp [-List.map_set, go_sem]
  refine pw_wkL [(0, .v (.int .i64 a0)), (1, .v (.int .i64 a1)), (6, .v (.bool z4)), (11, .v (.bool z1))] (by simp [-List.map_set, go_sem]) ?_
  repeat rw [pw_seq]
  refine pw_cond' (v := z1) (by simp [-List.map_set, go_sem]) (fun h7 => ?_) (fun h7 => ?_)
  · have hF8 := Rn_t hF6 h7
    try simp [-List.map_set, go_sem, h7]
    refine pw_wkL [(12, .v (.bool z4))] (by simp [-List.map_set, go_sem, h7]) ?_
    repeat rw [pw_seq]
    refine pw_cond' (v := z4) (by simp [-List.map_set, go_sem, h7]) (fun h9 => ?_) (fun h9 => ?_)
    · have hF10 := Rn_t hF8 h9
      try simp [-List.map_set, go_sem, h7, h9]
      refine pw_wkL [(4, .v (.int .i64 0))] (by simp [-List.map_set, go_sem, h7, h9]) ?_
      try simp [-List.map_set, go_sem, h7, h9]
      have h11 := Rn_some hF10
      have h12 := hΦ _ h11
      subst h12
      try simp [-List.map_set, go_sem, h7, h9]
    · have hF13 := Rn_f hF8 h9
      try simp [-List.map_set, go_sem, h7, h9]
      refine pw_wkL [] (by simp [-List.map_set, go_sem, h7, h9]) ?_
      try simp [-List.map_set, go_sem, h7, h9]
      refine pw_wkL [(4, .v (.int .i64 (-1)))] (by simp [-List.map_set, go_sem, h7, h9]) ?_
      try simp [-List.map_set, go_sem, h7, h9]
      have h14 := Rn_some hF13
      have h15 := hΦ _ h14
      subst h15
      try simp [-List.map_set, go_sem, h7, h9]
  · have hF16 := Rn_f hF6 h7
    try simp [-List.map_set, go_sem, h7]
    refine pw_wkL [(0, .v (.int .i64 a0)), (1, .v (.int .i64 a1)), (6, .v (.bool z4))] (by simp [-List.map_set, go_sem, h7]) ?_
    try simp [-List.map_set, go_sem, h7]
    refine pw_wkL [(0, .v (.int .i64 a0)), (1, .v (.int .i64 a1)), (13, .v (.bool z4))] (by simp [-List.map_set, go_sem, h7]) ?_
    repeat rw [pw_seq]
    refine pw_cond' (v := z4) (by simp [-List.map_set, go_sem, h7]) (fun h17 => ?_) (fun h17 => ?_)
    · have hF18 := Rn_t hF16 h17
      try simp [-List.map_set, go_sem, h7, h17]
      refine pw_wkL [(4, .v (.int .i64 1))] (by simp [-List.map_set, go_sem, h7, h17]) ?_
      try simp [-List.map_set, go_sem, h7, h17]
      have h19 := Rn_some hF18
      have h20 := hΦ _ h19
      subst h20
      try simp [-List.map_set, go_sem, h7, h17]
    · have hF21 := Rn_f hF16 h17
      try simp [-List.map_set, go_sem, h7, h17]
      refine pw_wkL [(0, .v (.int .i64 a0)), (1, .v (.int .i64 a1))] (by simp [-List.map_set, go_sem, h7, h17]) ?_
      try simp [-List.map_set, go_sem, h7, h17]
      refine pw_wkL [(0, .v (.int .i64 a0)), (1, .v (.int .i64 a1)), (16, .v (.bool (decide (a0 < a1))))] (by simp [-List.map_set, go_sem, h7, h17]) ?_
      repeat rw [pw_seq]
      refine pw_cond' (v := decide (a0 < a1)) (by simp [-List.map_set, go_sem, h7, h17]) (fun h22 => ?_) (fun h22 => ?_)
      · have hF23 := Rn_t hF21 h22
        try simp [-List.map_set, go_sem, h7, h17, h22]
        refine pw_wkL [(4, .v (.int .i64 (-1)))] (by simp [-List.map_set, go_sem, h7, h17, h22]) ?_
        try simp [-List.map_set, go_sem, h7, h17, h22]
        have h24 := Rn_some hF23
        have h25 := hΦ _ h24
        subst h25
        try simp [-List.map_set, go_sem, h7, h17, h22]
      · have hF26 := Rn_f hF21 h22
        try simp [-List.map_set, go_sem, h7, h17, h22]
        refine pw_wkL [(0, .v (.int .i64 a0)), (1, .v (.int .i64 a1))] (by simp [-List.map_set, go_sem, h7, h17, h22]) ?_
        try simp [-List.map_set, go_sem, h7, h17, h22]
        refine pw_wkL [(19, .v (.bool (decide (a1 < a0))))] (by simp [-List.map_set, go_sem, h7, h17, h22]) ?_
        repeat rw [pw_seq]
        refine pw_cond' (v := decide (a1 < a0)) (by simp [-List.map_set, go_sem, h7, h17, h22]) (fun h27 => ?_) (fun h27 => ?_)
        · have hF28 := Rn_t hF26 h27
          try simp [-List.map_set, go_sem, h7, h17, h22, h27]
          refine pw_wkL [(4, .v (.int .i64 1))] (by simp [-List.map_set, go_sem, h7, h17, h22, h27]) ?_
          try simp [-List.map_set, go_sem, h7, h17, h22, h27]
          have h29 := Rn_some hF28
          have h30 := hΦ _ h29
          subst h30
          try simp [-List.map_set, go_sem, h7, h17, h22, h27]
        · have hF31 := Rn_f hF26 h27
          try simp [-List.map_set, go_sem, h7, h17, h22, h27]
          refine pw_wkL [] (by simp [-List.map_set, go_sem, h7, h17, h22, h27]) ?_
          try simp [-List.map_set, go_sem, h7, h17, h22, h27]
          refine pw_wkL [(4, .v (.int .i64 0))] (by simp [-List.map_set, go_sem, h7, h17, h22, h27]) ?_
          try simp [-List.map_set, go_sem, h7, h17, h22, h27]
          have h32 := Rn_some hF31
          have h33 := hΦ _ h32
          subst h33
          try simp [-List.map_set, go_sem, h7, h17, h22, h27]
noncomputable def F_slices_Compare_int_int (a0 : (List Int)) (a1 : (List Int)) : Option (Int) :=
  ((rloop (σ := Unit) (β := Unit ⊕ Int) (fun i9 s8 =>
  (ix a0 i9).bind fun x18 =>
  if decide ((a1.length : Int) ≤ i9) = true then (
  some (.out (.inr 1))) else (
  (ix a1 i9).bind fun x33 =>
  (F_cmp_Compare_int x18 x33).bind fun z40 =>
  if (z40 != 0) = true then (
  some (.out (.inr z40))) else (
  some (.go ())))) (fun s8 => .inl ()) (a0.length) 0 () : Option (Unit ⊕ Int)).bind (Sum.elim (fun (x6 : Unit) =>
  if decide ((a0.length : Int) < (a1.length : Int)) = true then (
  some (-1)) else (
  some 0)) some))
theorem c_slices_Compare_int_int {a0 : (List Int)} {a1 : (List Int)} {r : Int} (hr : F_slices_Compare_int_int a0 a1 = some r) : PCalls Try.prog 85 [(.sh, .sl false 1 (a0.map row_i64)), (.sh, .sl false 1 (a1.map row_i64))] (fun o os => o = .int .i64 r ∧ os = [.junk, .junk]) := by
  refine pcalls_lift (R := fun (r : Int) o os => o = .int .i64 r ∧ os = [.junk, .junk]) [] [] hr cl85 Try.func85 rfl (by simp [Try.f85]) fun Φ hΦ hF => ?_
  unfold F_slices_Compare_int_int at hF
  simp only [Try.f85, ioL_nil, ioL_sh, ioL_mv, ioL_io]
  try simp [-List.map_set, go_sem]
  refine pw_wkL [(0, .v (.sl false 1 (a0.map row_i64))), (1, .v (.sl false 1 (a1.map row_i64)))] (by simp [-List.map_set, go_sem]) ?_
  try simp [-List.map_set, go_sem]
  refine qln_some fun hl1 => ?_
  try simp [-List.map_set, go_sem]
  refine pw_wkL [(0, .v (.sl false 1 (a0.map row_i64))), (1, .v (.sl false 1 (a1.map row_i64))), (9, .v (.sl false 1 (a0.map row_i64))), (10, .v (.int .i64 (a0.length : Int))), (11, .v (.int .i64 0))] (by simp [-List.map_set, go_sem]) ?_
  repeat rw [pw_seq]
  refine pw_joinS (fun (x6 : Unit) => [(0, .v (.sl false 1 (a0.map row_i64))), (1, .v (.sl false 1 (a1.map row_i64)))]) hF ?_ ?_
  · intro x6 hF7
    try dsimp only at hF7
    try simp [-List.map_set, go_sem]
    refine qln_some fun hl55 => ?_
    try simp [-List.map_set, go_sem]
    refine qln_some fun hl56 => ?_
    try simp [-List.map_set, go_sem]
    refine pw_wkL [(35, .v (.bool (decide ((a0.length : Int) < (a1.length : Int)))))] (by simp [-List.map_set, go_sem]) ?_
    repeat rw [pw_seq]
    refine pw_cond' (v := decide ((a0.length : Int) < (a1.length : Int))) (by simp [-List.map_set, go_sem]) (fun h57 => ?_) (fun h57 => ?_)
    · have hF58 := Rn_t hF7 h57
      try simp [-List.map_set, go_sem, h57]
      refine pw_wkL [(4, .v (.int .i64 (-1)))] (by simp [-List.map_set, go_sem, h57]) ?_
      try simp [-List.map_set, go_sem, h57]
      have h59 := Rn_some hF58
      have h60 := hΦ _ h59
      subst h60
      try simp [-List.map_set, go_sem, h57]
    · have hF61 := Rn_f hF7 h57
      try simp [-List.map_set, go_sem, h57]
      refine pw_wkL [] (by simp [-List.map_set, go_sem, h57]) ?_
      try simp [-List.map_set, go_sem, h57]
      refine pw_wkL [(4, .v (.int .i64 0))] (by simp [-List.map_set, go_sem, h57]) ?_
      try simp [-List.map_set, go_sem, h57]
      have h62 := Rn_some hF61
      have h63 := hΦ _ h62
      subst h63
      try simp [-List.map_set, go_sem, h57]
  · intro ψ4 hj2 hr3 hF5
    repeat rw [pw_seq]
    rw [pw_block]
    try simp [-List.map_set, go_sem]
    obtain ⟨b51, hb52, hψ12⟩ := hF5
    refine pw_rloop (fun (i9 : Int) (s8 : Unit) => [(0, .v (.sl false 1 (a0.map row_i64))), (1, .v (.sl false 1 (a1.map row_i64))), (9, .v (.sl false 1 (a0.map row_i64))), (10, .v (.int .i64 (a0.length : Int))), (11, .v (.int .i64 i9))]) hb52 (by simp [-List.map_set, go_sem]) ?_ ?_
    · intro s8 N54 hN53
      subst hN53
      try simp [-List.map_set, go_sem]
      refine pw_wk ?_
      repeat rw [pw_seq]
      refine pw_cond_f (by simp [-List.map_set, go_sem]) ?_
      try simp [-List.map_set, go_sem]
      exact hj2 () _ (by simp [-List.map_set, go_sem]) hψ12
    · intro i9 s8 φ13 N14 hi16 hi17 ho10 hg11 hF15
      try dsimp only at hF15
      rw [Int.zero_add] at hi17
      try simp [-List.map_set, go_sem, hi16, hi17]
      refine pw_wkL [(0, .v (.sl false 1 (a0.map row_i64))), (1, .v (.sl false 1 (a1.map row_i64))), (9, .v (.sl false 1 (a0.map row_i64))), (10, .v (.int .i64 (a0.length : Int))), (11, .v (.int .i64 i9)), (12, .v (.bool (decide (i9 < (a0.length : Int)))))] (by simp [-List.map_set, go_sem, hi16, hi17]) ?_
      repeat rw [pw_seq]
      refine pw_cond_t (by simp [-List.map_set, go_sem, hi16, hi17]) ?_
      try simp [-List.map_set, go_sem, hi16, hi17]
      refine pw_wkL [(0, .v (.sl false 1 (a0.map row_i64))), (1, .v (.sl false 1 (a1.map row_i64))), (9, .v (.sl false 1 (a0.map row_i64))), (10, .v (.int .i64 (a0.length : Int))), (11, .v (.int .i64 i9))] (by simp [-List.map_set, go_sem, hi16, hi17]) ?_
      repeat rw [pw_seq]
      rw [pw_block]
      obtain ⟨x18, e19, hF20⟩ := Rn_bind hF15
      obtain ⟨g21, g22, g23⟩ := ix_some e19
      have g24 := ix_get e19
      try simp only [Int.toNat_natCast, Int.toNat_zero, Int.toNat_one, Int.reduceToNat] at g23 g24
      try simp [-List.map_set, go_sem, hi16, hi17, g21, g22, g23, g24]
      refine pw_wkL [(0, .v (.sl false 1 (a0.map row_i64))), (1, .v (.sl false 1 (a1.map row_i64))), (5, .v (.int .i64 i9)), (6, .v (.int .i64 x18)), (9, .v (.sl false 1 (a0.map row_i64))), (10, .v (.int .i64 (a0.length : Int))), (11, .v (.int .i64 i9))] (by simp [-List.map_set, go_sem, hi16, hi17, g21, g22, g23, g24]) ?_
      try simp [-List.map_set, go_sem, hi16, hi17, g21, g22, g23, g24]
      refine qln_some fun hl25 => ?_
      try simp [-List.map_set, go_sem, hi16, hi17, g21, g22, g23, g24]
      refine pw_wkL [(0, .v (.sl false 1 (a0.map row_i64))), (1, .v (.sl false 1 (a1.map row_i64))), (5, .v (.int .i64 i9)), (6, .v (.int .i64 x18)), (9, .v (.sl false 1 (a0.map row_i64))), (10, .v (.int .i64 (a0.length : Int))), (11, .v (.int .i64 i9)), (19, .v (.bool (decide ((a1.length : Int) ≤ i9))))] (by simp [-List.map_set, go_sem, hi16, hi17, g21, g22, g23, g24]) ?_
      repeat rw [pw_seq]
      refine pw_cond' (v := decide ((a1.length : Int) ≤ i9)) (by simp [-List.map_set, go_sem, hi16, hi17, g21, g22, g23, g24]) (fun h26 => ?_) (fun h26 => ?_)
      · have hF27 := Rn_t hF20 h26
        try simp [-List.map_set, go_sem, hi16, hi17, g21, g22, g23, g24, h26]
        refine pw_wkL [(4, .v (.int .i64 1))] (by simp [-List.map_set, go_sem, hi16, hi17, g21, g22, g23, g24, h26]) ?_
        try simp [-List.map_set, go_sem, hi16, hi17, g21, g22, g23, g24, h26]
        have h28 := Rn_some hF27
        have h29 := ho10 _ h28
        subst h29
        have h30 := hr3 _ hψ12
        have h31 := hΦ _ h30
        subst h31
        try simp [-List.map_set, go_sem, hi16, hi17, g21, g22, g23, g24, h26]
      · have hF32 := Rn_f hF20 h26
        try simp [-List.map_set, go_sem, hi16, hi17, g21, g22, g23, g24, h26]
        refine pw_wkL [(0, .v (.sl false 1 (a0.map row_i64))), (1, .v (.sl false 1 (a1.map row_i64))), (5, .v (.int .i64 i9)), (6, .v (.int .i64 x18)), (9, .v (.sl false 1 (a0.map row_i64))), (10, .v (.int .i64 (a0.length : Int))), (11, .v (.int .i64 i9))] (by simp [-List.map_set, go_sem, hi16, hi17, g21, g22, g23, g24, h26]) ?_
        obtain ⟨x33, e34, hF35⟩ := Rn_bind hF32
        obtain ⟨g36, g37, g38⟩ := ix_some e34
        have g39 := ix_get e34
        try simp only [Int.toNat_natCast, Int.toNat_zero, Int.toNat_one, Int.reduceToNat] at g38 g39
        try simp [-List.map_set, go_sem, hi16, hi17, g21, g22, g23, g24, h26, g36, g37, g38, g39]
        refine pw_wkL [(0, .v (.sl false 1 (a0.map row_i64))), (1, .v (.sl false 1 (a1.map row_i64))), (6, .v (.int .i64 x18)), (7, .v (.int .i64 x33)), (9, .v (.sl false 1 (a0.map row_i64))), (10, .v (.int .i64 (a0.length : Int))), (11, .v (.int .i64 i9))] (by simp [-List.map_set, go_sem, hi16, hi17, g21, g22, g23, g24, h26, g36, g37, g38, g39]) ?_
        obtain ⟨z40, e41, hF42⟩ := Rn_bind hF35
        try simp [-List.map_set, go_sem, hi16, hi17, g21, g22, g23, g24, h26, g36, g37, g38, g39]
        refine pw_callE [.sh, .sh] rfl rfl (by (try simp [-List.map_set, go_sem, clE, hi16, hi17, g21, g22, g23, g24, h26, g36, g37, g38, g39]); first | rfl | done) (by rfl) (c_cmp_Compare_int e41) (by (try simp [-List.map_set, go_sem, hi16, hi17, g21, g22, g23, g24, h26, g36, g37, g38, g39]); first | rfl | done) (fun r0 os0 ho0 => ?_)
        obtain ⟨ho1, ho2⟩ := ho0
        subst ho1
        subst ho2
        refine ⟨by simp [-List.map_set, go_sem, hi16, hi17, g21, g22, g23, g24, h26, g36, g37, g38, g39], ?_⟩
        try simp [-List.map_set, go_sem, hi16, hi17, g21, g22, g23, g24, h26, g36, g37, g38, g39]
        refine pw_wkL [(0, .v (.sl false 1 (a0.map row_i64))), (1, .v (.sl false 1 (a1.map row_i64))), (8, .v (.int .i64 z40)), (9, .v (.sl false 1 (a0.map row_i64))), (10, .v (.int .i64 (a0.length : Int))), (11, .v (.int .i64 i9))] (by simp [-List.map_set, go_sem, hi16, hi17, g21, g22, g23, g24, h26, g36, g37, g38, g39]) ?_
        try simp [-List.map_set, go_sem, hi16, hi17, g21, g22, g23, g24, h26, g36, g37, g38, g39]
        refine pw_wkL [(0, .v (.sl false 1 (a0.map row_i64))), (1, .v (.sl false 1 (a1.map row_i64))), (8, .v (.int .i64 z40)), (9, .v (.sl false 1 (a0.map row_i64))), (10, .v (.int .i64 (a0.length : Int))), (11, .v (.int .i64 i9)), (28, .v (.bool (z40 != 0)))] (by simp [-List.map_set, go_sem, hi16, hi17, g21, g22, g23, g24, h26, g36, g37, g38, g39]) ?_
        repeat rw [pw_seq]
        refine pw_cond' (v := (z40 != 0)) (by simp [-List.map_set, go_sem, hi16, hi17, g21, g22, g23, g24, h26, g36, g37, g38, g39]) (fun h43 => ?_) (fun h43 => ?_)
        · have hF44 := Rn_t hF42 h43
          try simp [-List.map_set, go_sem, hi16, hi17, g21, g22, g23, g24, h26, g36, g37, g38, g39, h43]
          refine pw_wkL [(4, .v (.int .i64 z40))] (by simp [-List.map_set, go_sem, hi16, hi17, g21, g22, g23, g24, h26, g36, g37, g38, g39, h43]) ?_
          try simp [-List.map_set, go_sem, hi16, hi17, g21, g22, g23, g24, h26, g36, g37, g38, g39, h43]
          have h45 := Rn_some hF44
          have h46 := ho10 _ h45
          subst h46
          have h47 := hr3 _ hψ12
          have h48 := hΦ _ h47
          subst h48
          try simp [-List.map_set, go_sem, hi16, hi17, g21, g22, g23, g24, h26, g36, g37, g38, g39, h43]
        · have hF49 := Rn_f hF42 h43
          try simp [-List.map_set, go_sem, hi16, hi17, g21, g22, g23, g24, h26, g36, g37, g38, g39, h43]
          refine pw_wkL [(0, .v (.sl false 1 (a0.map row_i64))), (1, .v (.sl false 1 (a1.map row_i64))), (9, .v (.sl false 1 (a0.map row_i64))), (10, .v (.int .i64 (a0.length : Int))), (11, .v (.int .i64 i9))] (by simp [-List.map_set, go_sem, hi16, hi17, g21, g22, g23, g24, h26, g36, g37, g38, g39, h43]) ?_
          try simp [-List.map_set, go_sem, hi16, hi17, g21, g22, g23, g24, h26, g36, g37, g38, g39, h43]
          have h50 := Rn_some hF49
          have hw : IntKind.i64.wrap (i9 + 1) = i9 + 1 := wrI (by have h0 := hl1; simp [maxLen] at h0; omega)
          exact hg11 () _ (by simp [-List.map_set, go_sem, hi16, hi17, g21, g22, g23, g24, h26, g36, g37, g38, g39, h43, hw]) h50
noncomputable def F_impl_gathered_1 (a0 : ViewCount) (a1 : ViewCount) : Option (Int) :=
  (F_slices_Compare_int_int a0.View a1.View).bind fun z1 =>
  some z1
theorem c_impl_gathered_1 {a0 : ViewCount} {a1 : ViewCount} {r : Int} (hr : F_impl_gathered_1 a0 a1 = some r) : PCalls Try.prog 109 [(.sh, .agg [.sl false 1 (a0.View.map row_i64), .int .i64 a0.Times]), (.sh, .agg [.sl false 1 (a1.View.map row_i64), .int .i64 a1.Times])] (fun o os => o = .int .i64 r ∧ os = [.junk, .junk]) := by
  refine pcalls_lift (R := fun (r : Int) o os => o = .int .i64 r ∧ os = [.junk, .junk]) [] [] hr cl109 Try.func109 rfl (by simp [Try.f109]) fun Φ hΦ hF => ?_
  unfold F_impl_gathered_1 at hF
  simp only [Try.f109, ioL_nil, ioL_sh, ioL_mv, ioL_io]
  try simp [-List.map_set, go_sem]
  refine pw_wkL [(2, .bl [.sl false 1 (a0.View.map row_i64), .int .i64 a0.Times]), (3, .bl [.sl false 1 (a1.View.map row_i64), .int .i64 a1.Times])] (by simp [-List.map_set, go_sem]) ?_
  obtain ⟨z1, e2, hF3⟩ := Rn_bind hF
  try simp [-List.map_set, go_sem]
  refine pw_callE [.sh, .sh] rfl rfl (by (try simp [-List.map_set, go_sem, clE]); first | rfl | done) (by rfl) (c_slices_Compare_int_int e2) (by (try simp [-List.map_set, go_sem]); first | rfl | done) (fun r0 os0 ho0 => ?_)
  obtain ⟨ho1, ho2⟩ := ho0
  subst ho1
  subst ho2
  refine ⟨by simp [-List.map_set, go_sem], ?_⟩
  try simp [-List.map_set, go_sem]
  refine pw_wkL [(4, .v (.int .i64 z1))] (by simp [-List.map_set, go_sem]) ?_
  try simp [-List.map_set, go_sem]
  have h4 := Rn_some hF3
  have h5 := hΦ _ h4
  subst h5
  try simp [-List.map_set, go_sem]
noncomputable def F_slices_insertionSortCmpFunc_impl_ViewCount__io0_impl_gathered_1 (a0 : (List ViewCount)) (a1 : Int) (a2 : Int) : Option ((List ViewCount)) :=
  wloop (σ := (List ViewCount) × Int) (β := (List ViewCount)) (fun s150 =>
  if decide (s150.2 < a2) = true then (
  ((wloop (σ := (List ViewCount) × Int) (β := (List ViewCount)) (fun s229 =>
  ((if decide (a1 < s229.2) = true then (
  (ix s229.1 s229.2).bind fun x245 =>
  (ix s229.1 (IntKind.i64.wrap (s229.2 - 1))).bind fun x252 =>
  (F_impl_gathered_1 x245 x252).bind fun z259 =>
  some (decide (z259 < 0))) else (
  some false) : Option (Bool)).bind fun (x241 : Bool) =>
  if x241 = true then (
  (ix s229.1 (IntKind.i64.wrap (s229.2 - 1))).bind fun x267 =>
  (ix s229.1 s229.2).bind fun x274 =>
  (ix (s229.1.set s229.2.toNat x267) (IntKind.i64.wrap (s229.2 - 1))).bind fun x281 =>
  some (.go ((s229.1.set s229.2.toNat x267).set ((IntKind.i64.wrap (s229.2 - 1)).toNat) x274, IntKind.i64.wrap (s229.2 - 1)))) else (
  some (.out s229.1)))) (s150.1, s150.2) : Option ((List ViewCount))).bind fun (x164 : (List ViewCount)) =>
  some (.go (x164, IntKind.i64.wrap (s150.2 + 1))))) else (
  some (.out s150.1))) (a0, IntKind.i64.wrap (a1 + 1))
theorem c_slices_insertionSortCmpFunc_impl_ViewCount__io0_impl_gathered_1 {a0 : (List ViewCount)} {a1 : Int} {a2 : Int} {r : (List ViewCount)} (hr : F_slices_insertionSortCmpFunc_impl_ViewCount__io0_impl_gathered_1 a0 a1 a2 = some r) : PCalls Try.prog 123 [(.io, .sl true 2 (a0.map row_ViewCount_z)), (.sh, .int .i64 a1), (.sh, .int .i64 a2), (.sh, .func (.func 109) [] [])] (fun o os => o = .junk ∧ os = [.sl true 2 (r.map row_ViewCount_z), .junk, .junk, .junk]) := by
  refine pcalls_lift (R := fun (r : (List ViewCount)) o os => o = .junk ∧ os = [.sl true 2 (r.map row_ViewCount_z), .junk, .junk, .junk]) [] [] hr cl123 Try.func123 rfl (by simp [Try.f123]) fun Φ hΦ hF => ?_
  unfold F_slices_insertionSortCmpFunc_impl_ViewCount__io0_impl_gathered_1 at hF
  simp only [Try.f123, ioL_nil, ioL_sh, ioL_mv, ioL_io]
  try simp [-List.map_set, go_sem]
  refine pw_wkL [(0, .v (.sl true 2 (a0.map row_ViewCount_z))), (1, .v (.int .i64 a1)), (2, .v (.int .i64 a2)), (3, .v (.func (.func 109) [] [])), (8, .v (.int .i64 (IntKind.i64.wrap (a1 + 1))))] (by simp [-List.map_set, go_sem]) ?_
  repeat rw [pw_seq]
  rw [pw_block]
  try simp [-List.map_set, go_sem]
  obtain ⟨b299, hb300, hψ154⟩ := hF
  refine pw_wloop (fun (s150 : (List ViewCount) × Int) => [(0, .v (.sl true 2 (s150.1.map row_ViewCount_z))), (1, .v (.int .i64 a1)), (2, .v (.int .i64 a2)), (3, .v (.func (.func 109) [] [])), (8, .v (.int .i64 s150.2))]) hb300 (by simp [-List.map_set, go_sem]) ?_
  intro s150 φ155 N156 ho152 hg153 hF157
  try dsimp only at hF157
  try simp [-List.map_set, go_sem]
  refine pw_wkL [(0, .v (.sl true 2 (s150.1.map row_ViewCount_z))), (1, .v (.int .i64 a1)), (2, .v (.int .i64 a2)), (3, .v (.func (.func 109) [] [])), (8, .v (.int .i64 s150.2)), (14, .v (.bool (decide (s150.2 < a2))))] (by simp [-List.map_set, go_sem]) ?_
  repeat rw [pw_seq]
  refine pw_cond' (v := decide (s150.2 < a2)) (by simp [-List.map_set, go_sem]) (fun h158 => ?_) (fun h158 => ?_)
  · have hF159 := Rn_t hF157 h158
    try simp [-List.map_set, go_sem, h158]
    refine pw_wkL [(0, .v (.sl true 2 (s150.1.map row_ViewCount_z))), (1, .v (.int .i64 a1)), (2, .v (.int .i64 a2)), (3, .v (.func (.func 109) [] [])), (8, .v (.int .i64 s150.2))] (by simp [-List.map_set, go_sem, h158]) ?_
    repeat rw [pw_seq]
    refine pw_joinF (fun (x164 : (List ViewCount)) => [(0, .v (.sl true 2 (x164.map row_ViewCount_z))), (1, .v (.int .i64 a1)), (2, .v (.int .i64 a2)), (3, .v (.func (.func 109) [] [])), (8, .v (.int .i64 s150.2))]) hF159 ?_ ?_
    · intro x164 hF165
      try dsimp only at hF165
      try simp [-List.map_set, go_sem, h158]
      have h294 := Rn_some hF165
      exact hg153 (x164, IntKind.i64.wrap (s150.2 + 1)) _ (by simp [-List.map_set, go_sem, h158]) h294
    · intro ψ162 hj160 hF163
      repeat rw [pw_seq]
      rw [pw_block]
      try simp [-List.map_set, go_sem, h158]
      refine pw_wkL [(0, .v (.sl true 2 (s150.1.map row_ViewCount_z))), (1, .v (.int .i64 a1)), (2, .v (.int .i64 a2)), (3, .v (.func (.func 109) [] [])), (8, .v (.int .i64 s150.2)), (9, .v (.int .i64 s150.2))] (by simp [-List.map_set, go_sem, h158]) ?_
      repeat rw [pw_seq]
      rw [pw_block]
      try simp [-List.map_set, go_sem]
      obtain ⟨b292, hb293, hψ233⟩ := hF163
      refine pw_wloop (fun (s229 : (List ViewCount) × Int) => [(0, .v (.sl true 2 (s229.1.map row_ViewCount_z))), (1, .v (.int .i64 a1)), (2, .v (.int .i64 a2)), (3, .v (.func (.func 109) [] [])), (8, .v (.int .i64 s150.2)), (9, .v (.int .i64 s229.2))]) hb293 (by simp [-List.map_set, go_sem, h158]) ?_
      intro s229 φ234 N235 ho231 hg232 hF236
      try dsimp only at hF236
      repeat rw [pw_seq]
      refine pw_joinF (fun (x241 : Bool) => [(0, .v (.sl true 2 (s229.1.map row_ViewCount_z))), (1, .v (.int .i64 a1)), (2, .v (.int .i64 a2)), (3, .v (.func (.func 109) [] [])), (8, .v (.int .i64 s150.2)), (9, .v (.int .i64 s229.2)), (34, .v (.bool x241))]) hF236 ?_ ?_
      · intro x241 hF242
        try dsimp only at hF242
        repeat rw [pw_seq]
        refine pw_cond' (v := x241) (by simp [-List.map_set, go_sem, h158]) (fun h265 => ?_) (fun h265 => ?_)
        · have hF266 := Rn_t hF242 h265
          try simp [-List.map_set, go_sem, h158, h265]
          refine pw_wkL [(0, .v (.sl true 2 (s229.1.map row_ViewCount_z))), (1, .v (.int .i64 a1)), (2, .v (.int .i64 a2)), (3, .v (.func (.func 109) [] [])), (8, .v (.int .i64 s150.2)), (9, .v (.int .i64 s229.2))] (by simp [-List.map_set, go_sem, h158, h265]) ?_
          repeat rw [pw_seq]
          rw [pw_block]
          repeat rw [pw_seq]
          refine pw_draw D123_6 follows (by kernel_rfl) rfl ?_
          try simp only [go_sem, D123_6]
          obtain ⟨x267, e268, hF269⟩ := Rn_bind hF266
          obtain ⟨g270, g271, g272⟩ := ix_some e268
          have g273 := ix_get e268
          try simp only [Int.toNat_natCast, Int.toNat_zero, Int.toNat_one, Int.reduceToNat] at g272 g273
          obtain ⟨x274, e275, hF276⟩ := Rn_bind hF269
          obtain ⟨g277, g278, g279⟩ := ix_some e275
          have g280 := ix_get e275
          try simp only [Int.toNat_natCast, Int.toNat_zero, Int.toNat_one, Int.reduceToNat] at g279 g280
          obtain ⟨x281, e282, hF283⟩ := Rn_bind hF276
          obtain ⟨g284, g285, g286⟩ := ix_some e282
          have g287 := ix_get e282
          try simp only [Int.toNat_natCast, Int.toNat_zero, Int.toNat_one, Int.reduceToNat] at g286 g287
          try simp [-List.map_set, go_sem, h158, h265, g270, g271, g272, g273, g277, g278, g279, g280, g284, g285, g286, g287]
          refine pw_wkL [(0, .v (.sl true 2 (((s229.1.set s229.2.toNat x267).set ((IntKind.i64.wrap (s229.2 - 1)).toNat) x274).map row_ViewCount_z))), (1, .v (.int .i64 a1)), (2, .v (.int .i64 a2)), (3, .v (.func (.func 109) [] [])), (8, .v (.int .i64 s150.2)), (9, .v (.int .i64 s229.2))] (by simp [-List.map_set, go_sem, h158, h265, g270, g271, g272, g273, g277, g278, g279, g280, g284, g285, g286, g287]) ?_
          try simp [-List.map_set, go_sem, h158, h265, g270, g271, g272, g273, g277, g278, g279, g280, g284, g285, g286, g287]
          have h288 := Rn_some hF283
          exact hg232 ((s229.1.set s229.2.toNat x267).set ((IntKind.i64.wrap (s229.2 - 1)).toNat) x274, IntKind.i64.wrap (s229.2 - 1)) _ (by simp [-List.map_set, go_sem, h158, h265, g270, g271, g272, g273, g277, g278, g279, g280, g284, g285, g286, g287]) h288
        · have hF289 := Rn_f hF242 h265
          try simp [-List.map_set, go_sem, h158, h265]
          have h290 := Rn_some hF289
          have h291 := ho231 _ h290
          subst h291
          exact hj160 s229.1 _ (by simp [-List.map_set, go_sem, h158, h265]) hψ233
      · intro ψ239 hj237 hF240
        repeat rw [pw_seq]
        refine pw_draw D123_4 follows (by kernel_rfl) rfl ?_
        try simp only [go_sem, D123_4]
        try simp [-List.map_set, go_sem, h158]
        refine pwgD_split (fun h243 => ?_) (fun h243 => ?_)
        · have hF244 := Rn_t hF240 h243
          obtain ⟨x245, e246, hF247⟩ := Rn_bind hF244
          obtain ⟨g248, g249, g250⟩ := ix_some e246
          have g251 := ix_get e246
          try simp only [Int.toNat_natCast, Int.toNat_zero, Int.toNat_one, Int.reduceToNat] at g250 g251
          obtain ⟨x252, e253, hF254⟩ := Rn_bind hF247
          obtain ⟨g255, g256, g257⟩ := ix_some e253
          have g258 := ix_get e253
          try simp only [Int.toNat_natCast, Int.toNat_zero, Int.toNat_one, Int.reduceToNat] at g257 g258
          obtain ⟨z259, e260, hF261⟩ := Rn_bind hF254
          try simp [-List.map_set, go_sem, h158, h243, g248, g249, g250, g251, g255, g256, g257, g258]
          refine pw_callE [.sh, .sh] rfl rfl (by (try simp [-List.map_set, go_sem, clE, h158, h243, g248, g249, g250, g251, g255, g256, g257, g258]); first | rfl | done) (by rfl) (c_impl_gathered_1 e260) (by (try simp [-List.map_set, go_sem, h158, h243, g248, g249, g250, g251, g255, g256, g257, g258]); first | rfl | done) (fun r0 os0 ho0 => ?_)
          obtain ⟨ho1, ho2⟩ := ho0
          subst ho1
          subst ho2
          refine ⟨by simp [-List.map_set, go_sem, h158, h243, g248, g249, g250, g251, g255, g256, g257, g258], ?_⟩
          try simp [-List.map_set, go_sem, h158, h243, g248, g249, g250, g251, g255, g256, g257, g258]
          have h262 := Rn_some hF261
          exact hj237 (decide (z259 < 0)) _ (by simp [-List.map_set, go_sem, h158, h243, g248, g249, g250, g251, g255, g256, g257, g258]) h262
        · have hF263 := Rn_f hF240 h243
          try simp [-List.map_set, go_sem, h158, h243]
          have h264 := Rn_some hF263
          exact hj237 false _ (by simp [-List.map_set, go_sem, h158, h243]) h264
  · have hF295 := Rn_f hF157 h158
    try simp [-List.map_set, go_sem, h158]
    have h296 := Rn_some hF295
    have h297 := ho152 _ h296
    subst h297
    have h298 := hΦ _ hψ154
    subst h298
    try simp [-List.map_set, go_sem, h158]
noncomputable def F_slices_swapRangeCmpFunc_impl_ViewCount__io0_impl_gathered_1 (a0 : (List ViewCount)) (a1 : Int) (a2 : Int) (a3 : Int) : Option ((List ViewCount)) :=
  wloop (σ := (List ViewCount) × Int) (β := (List ViewCount)) (fun s37 =>
  if decide (s37.2 < a3) = true then (
  (ix s37.1 (IntKind.i64.wrap (a2 + s37.2))).bind fun x47 =>
  (ix s37.1 (IntKind.i64.wrap (a1 + s37.2))).bind fun x54 =>
  (ix (s37.1.set ((IntKind.i64.wrap (a1 + s37.2)).toNat) x47) (IntKind.i64.wrap (a2 + s37.2))).bind fun x61 =>
  some (.go ((s37.1.set ((IntKind.i64.wrap (a1 + s37.2)).toNat) x47).set ((IntKind.i64.wrap (a2 + s37.2)).toNat) x54, IntKind.i64.wrap (s37.2 + 1)))) else (
  some (.out s37.1))) (a0, 0)
theorem c_slices_swapRangeCmpFunc_impl_ViewCount__io0_impl_gathered_1 {a0 : (List ViewCount)} {a1 : Int} {a2 : Int} {a3 : Int} {r : (List ViewCount)} (hr : F_slices_swapRangeCmpFunc_impl_ViewCount__io0_impl_gathered_1 a0 a1 a2 a3 = some r) : PCalls Try.prog 126 [(.io, .sl true 2 (a0.map row_ViewCount_z)), (.sh, .int .i64 a1), (.sh, .int .i64 a2), (.sh, .int .i64 a3), (.sh, .func (.func 109) [] [])] (fun o os => o = .junk ∧ os = [.sl true 2 (r.map row_ViewCount_z), .junk, .junk, .junk, .junk]) := by
  refine pcalls_lift (R := fun (r : (List ViewCount)) o os => o = .junk ∧ os = [.sl true 2 (r.map row_ViewCount_z), .junk, .junk, .junk, .junk]) [] [] hr cl126 Try.func126 rfl (by simp [Try.f126]) fun Φ hΦ hF => ?_
  unfold F_slices_swapRangeCmpFunc_impl_ViewCount__io0_impl_gathered_1 at hF
  simp only [Try.f126, ioL_nil, ioL_sh, ioL_mv, ioL_io]
  try simp [-List.map_set, go_sem]
  refine pw_wkL [(0, .v (.sl true 2 (a0.map row_ViewCount_z))), (1, .v (.int .i64 a1)), (2, .v (.int .i64 a2)), (3, .v (.int .i64 a3)), (10, .v (.int .i64 0))] (by simp [-List.map_set, go_sem]) ?_
  repeat rw [pw_seq]
  rw [pw_block]
  try simp [-List.map_set, go_sem]
  obtain ⟨b73, hb74, hψ41⟩ := hF
  refine pw_wloop (fun (s37 : (List ViewCount) × Int) => [(0, .v (.sl true 2 (s37.1.map row_ViewCount_z))), (1, .v (.int .i64 a1)), (2, .v (.int .i64 a2)), (3, .v (.int .i64 a3)), (10, .v (.int .i64 s37.2))]) hb74 (by simp [-List.map_set, go_sem]) ?_
  intro s37 φ42 N43 ho39 hg40 hF44
  try dsimp only at hF44
  try simp [-List.map_set, go_sem]
  refine pw_wkL [(0, .v (.sl true 2 (s37.1.map row_ViewCount_z))), (1, .v (.int .i64 a1)), (2, .v (.int .i64 a2)), (3, .v (.int .i64 a3)), (10, .v (.int .i64 s37.2)), (13, .v (.bool (decide (s37.2 < a3))))] (by simp [-List.map_set, go_sem]) ?_
  repeat rw [pw_seq]
  refine pw_cond' (v := decide (s37.2 < a3)) (by simp [-List.map_set, go_sem]) (fun h45 => ?_) (fun h45 => ?_)
  · have hF46 := Rn_t hF44 h45
    try simp [-List.map_set, go_sem, h45]
    refine pw_wkL [(0, .v (.sl true 2 (s37.1.map row_ViewCount_z))), (1, .v (.int .i64 a1)), (2, .v (.int .i64 a2)), (3, .v (.int .i64 a3)), (10, .v (.int .i64 s37.2))] (by simp [-List.map_set, go_sem, h45]) ?_
    repeat rw [pw_seq]
    rw [pw_block]
    repeat rw [pw_seq]
    refine pw_draw D126_3 follows (by kernel_rfl) rfl ?_
    try simp only [go_sem, D126_3]
    obtain ⟨x47, e48, hF49⟩ := Rn_bind hF46
    obtain ⟨g50, g51, g52⟩ := ix_some e48
    have g53 := ix_get e48
    try simp only [Int.toNat_natCast, Int.toNat_zero, Int.toNat_one, Int.reduceToNat] at g52 g53
    obtain ⟨x54, e55, hF56⟩ := Rn_bind hF49
    obtain ⟨g57, g58, g59⟩ := ix_some e55
    have g60 := ix_get e55
    try simp only [Int.toNat_natCast, Int.toNat_zero, Int.toNat_one, Int.reduceToNat] at g59 g60
    obtain ⟨x61, e62, hF63⟩ := Rn_bind hF56
    obtain ⟨g64, g65, g66⟩ := ix_some e62
    have g67 := ix_get e62
    try simp only [Int.toNat_natCast, Int.toNat_zero, Int.toNat_one, Int.reduceToNat] at g66 g67
    try simp [-List.map_set, go_sem, h45, g50, g51, g52, g53, g57, g58, g59, g60, g64, g65, g66, g67]
    refine pw_wkL [(0, .v (.sl true 2 (((s37.1.set ((IntKind.i64.wrap (a1 + s37.2)).toNat) x47).set ((IntKind.i64.wrap (a2 + s37.2)).toNat) x54).map row_ViewCount_z))), (1, .v (.int .i64 a1)), (2, .v (.int .i64 a2)), (3, .v (.int .i64 a3)), (10, .v (.int .i64 s37.2))] (by simp [-List.map_set, go_sem, h45, g50, g51, g52, g53, g57, g58, g59, g60, g64, g65, g66, g67]) ?_
    try simp [-List.map_set, go_sem, h45, g50, g51, g52, g53, g57, g58, g59, g60, g64, g65, g66, g67]
    have h68 := Rn_some hF63
    exact hg40 ((s37.1.set ((IntKind.i64.wrap (a1 + s37.2)).toNat) x47).set ((IntKind.i64.wrap (a2 + s37.2)).toNat) x54, IntKind.i64.wrap (s37.2 + 1)) _ (by simp [-List.map_set, go_sem, h45, g50, g51, g52, g53, g57, g58, g59, g60, g64, g65, g66, g67]) h68
  · have hF69 := Rn_f hF44 h45
    try simp [-List.map_set, go_sem, h45]
    have h70 := Rn_some hF69
    have h71 := ho39 _ h70
    subst h71
    have h72 := hΦ _ hψ41
    subst h72
    try simp [-List.map_set, go_sem, h45]
noncomputable def F_slices_rotateCmpFunc_impl_ViewCount__io0_impl_gathered_1 (a0 : (List ViewCount)) (a1 : Int) (a2 : Int) (a3 : Int) : Option ((List ViewCount)) :=
  ((wloop (σ := (List ViewCount) × Int × Int) (β := ((List ViewCount) × Int)) (fun s31 =>
  if (s31.2.1 != s31.2.2) = true then (
  if decide (s31.2.2 < s31.2.1) = true then (
  (F_slices_swapRangeCmpFunc_impl_ViewCount__io0_impl_gathered_1 s31.1 (IntKind.i64.wrap (a2 - s31.2.1)) a2 s31.2.2).bind fun z43 =>
  some (.go (z43, IntKind.i64.wrap (s31.2.1 - s31.2.2), s31.2.2))) else (
  (F_slices_swapRangeCmpFunc_impl_ViewCount__io0_impl_gathered_1 s31.1 (IntKind.i64.wrap (a2 - s31.2.1)) (IntKind.i64.wrap ((IntKind.i64.wrap (a2 + s31.2.2)) - s31.2.1)) s31.2.1).bind fun z48 =>
  some (.go (z48, s31.2.1, IntKind.i64.wrap (s31.2.2 - s31.2.1))))) else (
  some (.out (s31.1, s31.2.1)))) (a0, IntKind.i64.wrap (a2 - a1), IntKind.i64.wrap (a3 - a2)) : Option (((List ViewCount) × Int))).bind fun (x5 : (List ViewCount) × Int) =>
  (F_slices_swapRangeCmpFunc_impl_ViewCount__io0_impl_gathered_1 x5.1 (IntKind.i64.wrap (a2 - x5.2)) a2 x5.2).bind fun z57 =>
  some z57)
theorem c_slices_rotateCmpFunc_impl_ViewCount__io0_impl_gathered_1 {a0 : (List ViewCount)} {a1 : Int} {a2 : Int} {a3 : Int} {r : (List ViewCount)} (hr : F_slices_rotateCmpFunc_impl_ViewCount__io0_impl_gathered_1 a0 a1 a2 a3 = some r) : PCalls Try.prog 125 [(.io, .sl true 2 (a0.map row_ViewCount_z)), (.sh, .int .i64 a1), (.sh, .int .i64 a2), (.sh, .int .i64 a3), (.sh, .func (.func 109) [] [])] (fun o os => o = .junk ∧ os = [.sl true 2 (r.map row_ViewCount_z), .junk, .junk, .junk, .junk]) := by
  refine pcalls_lift (R := fun (r : (List ViewCount)) o os => o = .junk ∧ os = [.sl true 2 (r.map row_ViewCount_z), .junk, .junk, .junk, .junk]) [] [] hr cl125 Try.func125 rfl (by simp [Try.f125]) fun Φ hΦ hF => ?_
  unfold F_slices_rotateCmpFunc_impl_ViewCount__io0_impl_gathered_1 at hF
  simp only [Try.f125, ioL_nil, ioL_sh, ioL_mv, ioL_io]
  try simp [-List.map_set, go_sem]
  refine pw_wkL [(0, .v (.sl true 2 (a0.map row_ViewCount_z))), (2, .v (.int .i64 a2)), (3, .v (.int .i64 a3)), (4, .v (.func (.func 109) [] [])), (10, .v (.int .i64 (IntKind.i64.wrap (a2 - a1))))] (by simp [-List.map_set, go_sem]) ?_
  try simp [-List.map_set, go_sem]
  refine pw_wkL [(0, .v (.sl true 2 (a0.map row_ViewCount_z))), (2, .v (.int .i64 a2)), (4, .v (.func (.func 109) [] [])), (10, .v (.int .i64 (IntKind.i64.wrap (a2 - a1)))), (11, .v (.int .i64 (IntKind.i64.wrap (a3 - a2))))] (by simp [-List.map_set, go_sem]) ?_
  repeat rw [pw_seq]
  refine pw_joinF (fun (x5 : (List ViewCount) × Int) => [(0, .v (.sl true 2 (x5.1.map row_ViewCount_z))), (2, .v (.int .i64 a2)), (4, .v (.func (.func 109) [] [])), (10, .v (.int .i64 x5.2))]) hF ?_ ?_
  · intro x5 hF6
    try dsimp only at hF6
    obtain ⟨z57, e58, hF59⟩ := Rn_bind hF6
    try simp [-List.map_set, go_sem]
    refine pw_callE [.io, .sh, .sh, .sh, .sh] rfl rfl (by (try simp [-List.map_set, go_sem, clE]); first | rfl | done) (by rfl) (c_slices_swapRangeCmpFunc_impl_ViewCount__io0_impl_gathered_1 e58) (by (try simp [-List.map_set, go_sem]); first | rfl | done) (fun r0 os0 ho0 => ?_)
    obtain ⟨ho1, ho2⟩ := ho0
    subst ho1
    subst ho2
    refine ⟨by simp [-List.map_set, go_sem], ?_⟩
    try simp [-List.map_set, go_sem]
    have h60 := Rn_some hF59
    have h61 := hΦ _ h60
    subst h61
    try simp [-List.map_set, go_sem]
  · intro ψ3 hj1 hF4
    repeat rw [pw_seq]
    rw [pw_block]
    try simp [-List.map_set, go_sem]
    obtain ⟨b55, hb56, hψ35⟩ := hF4
    refine pw_wloop (fun (s31 : (List ViewCount) × Int × Int) => [(0, .v (.sl true 2 (s31.1.map row_ViewCount_z))), (2, .v (.int .i64 a2)), (4, .v (.func (.func 109) [] [])), (10, .v (.int .i64 s31.2.1)), (11, .v (.int .i64 s31.2.2))]) hb56 (by simp [-List.map_set, go_sem]) ?_
    intro s31 φ36 N37 ho33 hg34 hF38
    try dsimp only at hF38
    try simp [-List.map_set, go_sem]
    refine pw_wkL [(0, .v (.sl true 2 (s31.1.map row_ViewCount_z))), (2, .v (.int .i64 a2)), (4, .v (.func (.func 109) [] [])), (10, .v (.int .i64 s31.2.1)), (11, .v (.int .i64 s31.2.2)), (20, .v (.bool (s31.2.1 != s31.2.2)))] (by simp [-List.map_set, go_sem]) ?_
    repeat rw [pw_seq]
    refine pw_cond' (v := (s31.2.1 != s31.2.2)) (by simp [-List.map_set, go_sem]) (fun h39 => ?_) (fun h39 => ?_)
    · have hF40 := Rn_t hF38 h39
      try simp [-List.map_set, go_sem, h39]
      refine pw_wkL [(0, .v (.sl true 2 (s31.1.map row_ViewCount_z))), (2, .v (.int .i64 a2)), (4, .v (.func (.func 109) [] [])), (10, .v (.int .i64 s31.2.1)), (11, .v (.int .i64 s31.2.2))] (by simp [-List.map_set, go_sem, h39]) ?_
      repeat rw [pw_seq]
      rw [pw_block]
      try simp [-List.map_set, go_sem, h39]
      refine pw_wkL [(0, .v (.sl true 2 (s31.1.map row_ViewCount_z))), (2, .v (.int .i64 a2)), (4, .v (.func (.func 109) [] [])), (10, .v (.int .i64 s31.2.1)), (11, .v (.int .i64 s31.2.2)), (23, .v (.bool (decide (s31.2.2 < s31.2.1))))] (by simp [-List.map_set, go_sem, h39]) ?_
      repeat rw [pw_seq]
      refine pw_cond' (v := decide (s31.2.2 < s31.2.1)) (by simp [-List.map_set, go_sem, h39]) (fun h41 => ?_) (fun h41 => ?_)
      · have hF42 := Rn_t hF40 h41
        obtain ⟨z43, e44, hF45⟩ := Rn_bind hF42
        try simp [-List.map_set, go_sem, h39, h41]
        refine pw_callE [.io, .sh, .sh, .sh, .sh] rfl rfl (by (try simp [-List.map_set, go_sem, clE, h39, h41]); first | rfl | done) (by rfl) (c_slices_swapRangeCmpFunc_impl_ViewCount__io0_impl_gathered_1 e44) (by (try simp [-List.map_set, go_sem, h39, h41]); first | rfl | done) (fun r0 os0 ho0 => ?_)
        obtain ⟨ho1, ho2⟩ := ho0
        subst ho1
        subst ho2
        refine ⟨by simp [-List.map_set, go_sem, h39, h41], ?_⟩
        try simp [-List.map_set, go_sem, h39, h41]
        refine pw_wkL [(0, .v (.sl true 2 (z43.map row_ViewCount_z))), (2, .v (.int .i64 a2)), (4, .v (.func (.func 109) [] [])), (10, .v (.int .i64 s31.2.1)), (11, .v (.int .i64 s31.2.2))] (by simp [-List.map_set, go_sem, h39, h41]) ?_
        try simp [-List.map_set, go_sem, h39, h41]
        have h46 := Rn_some hF45
        exact hg34 (z43, IntKind.i64.wrap (s31.2.1 - s31.2.2), s31.2.2) _ (by simp [-List.map_set, go_sem, h39, h41]) h46
      · have hF47 := Rn_f hF40 h41
        obtain ⟨z48, e49, hF50⟩ := Rn_bind hF47
        try simp [-List.map_set, go_sem, h39, h41]
        refine pw_callE [.io, .sh, .sh, .sh, .sh] rfl rfl (by (try simp [-List.map_set, go_sem, clE, h39, h41]); first | rfl | done) (by rfl) (c_slices_swapRangeCmpFunc_impl_ViewCount__io0_impl_gathered_1 e49) (by (try simp [-List.map_set, go_sem, h39, h41]); first | rfl | done) (fun r0 os0 ho0 => ?_)
        obtain ⟨ho1, ho2⟩ := ho0
        subst ho1
        subst ho2
        refine ⟨by simp [-List.map_set, go_sem, h39, h41], ?_⟩
        try simp [-List.map_set, go_sem, h39, h41]
        refine pw_wkL [(0, .v (.sl true 2 (z48.map row_ViewCount_z))), (2, .v (.int .i64 a2)), (4, .v (.func (.func 109) [] [])), (10, .v (.int .i64 s31.2.1)), (11, .v (.int .i64 s31.2.2))] (by simp [-List.map_set, go_sem, h39, h41]) ?_
        try simp [-List.map_set, go_sem, h39, h41]
        have h51 := Rn_some hF50
        exact hg34 (z48, s31.2.1, IntKind.i64.wrap (s31.2.2 - s31.2.1)) _ (by simp [-List.map_set, go_sem, h39, h41]) h51
    · have hF52 := Rn_f hF38 h39
      try simp [-List.map_set, go_sem, h39]
      have h53 := Rn_some hF52
      have h54 := ho33 _ h53
      subst h54
      exact hj1 (s31.1, s31.2.1) _ (by simp [-List.map_set, go_sem, h39]) hψ35
noncomputable def F_slices_symMergeCmpFunc_impl_ViewCount__io0_impl_gathered_1_r : Nat → (List ViewCount) → Int → Int → Int → Option ((List ViewCount))
  | 0, _, _, _, _ => none
  | n_ + 1, a0, a1, a2, a3 =>
  if ((IntKind.i64.wrap (a2 - a1)) == 1) = true then (
  ((wloop (σ := Int × Int) (β := Int) (fun s9 =>
  if decide (s9.1 < s9.2) = true then (
  (ix a0 (IntKind.i64.wrap ((IntKind.u64.wrap (IntKind.i64.wrap (s9.1 + s9.2))).fdiv 2))).bind fun x20 =>
  (ix a0 a1).bind fun x27 =>
  (F_impl_gathered_1 x20 x27).bind fun z34 =>
  if decide (z34 < 0) = true then (
  some (.go (IntKind.i64.wrap ((IntKind.i64.wrap ((IntKind.u64.wrap (IntKind.i64.wrap (s9.1 + s9.2))).fdiv 2)) + 1), s9.2))) else (
  some (.go (s9.1, IntKind.i64.wrap ((IntKind.u64.wrap (IntKind.i64.wrap (s9.1 + s9.2))).fdiv 2))))) else (
  some (.out s9.1))) (a2, a3) : Option (Int)).bind fun (x7 : Int) =>
  ((wloop (σ := (List ViewCount) × Int) (β := (List ViewCount)) (fun s88 =>
  if decide (s88.2 < (IntKind.i64.wrap (x7 - 1))) = true then (
  (ix s88.1 (IntKind.i64.wrap (s88.2 + 1))).bind fun x98 =>
  (ix s88.1 s88.2).bind fun x105 =>
  (ix (s88.1.set s88.2.toNat x98) (IntKind.i64.wrap (s88.2 + 1))).bind fun x112 =>
  some (.go ((s88.1.set s88.2.toNat x98).set ((IntKind.i64.wrap (s88.2 + 1)).toNat) x105, IntKind.i64.wrap (s88.2 + 1)))) else (
  some (.out s88.1))) (a0, a1) : Option ((List ViewCount))).bind fun (x51 : (List ViewCount)) =>
  some x51))) else (
  if ((IntKind.i64.wrap (a3 - a2)) == 1) = true then (
  ((wloop (σ := Int × Int) (β := Int) (fun s136 =>
  if decide (s136.1 < s136.2) = true then (
  (ix a0 a2).bind fun x147 =>
  (ix a0 (IntKind.i64.wrap ((IntKind.u64.wrap (IntKind.i64.wrap (s136.1 + s136.2))).fdiv 2))).bind fun x154 =>
  (F_impl_gathered_1 x147 x154).bind fun z161 =>
  if (!(decide (z161 < 0))) = true then (
  some (.go (IntKind.i64.wrap ((IntKind.i64.wrap ((IntKind.u64.wrap (IntKind.i64.wrap (s136.1 + s136.2))).fdiv 2)) + 1), s136.2))) else (
  some (.go (s136.1, IntKind.i64.wrap ((IntKind.u64.wrap (IntKind.i64.wrap (s136.1 + s136.2))).fdiv 2))))) else (
  some (.out s136.1))) (a1, a2) : Option (Int)).bind fun (x134 : Int) =>
  ((wloop (σ := (List ViewCount) × Int) (β := (List ViewCount)) (fun s215 =>
  if decide (x134 < s215.2) = true then (
  (ix s215.1 (IntKind.i64.wrap (s215.2 - 1))).bind fun x225 =>
  (ix s215.1 s215.2).bind fun x232 =>
  (ix (s215.1.set s215.2.toNat x225) (IntKind.i64.wrap (s215.2 - 1))).bind fun x239 =>
  some (.go ((s215.1.set s215.2.toNat x225).set ((IntKind.i64.wrap (s215.2 - 1)).toNat) x232, IntKind.i64.wrap (s215.2 - 1)))) else (
  some (.out s215.1))) (a0, a2) : Option ((List ViewCount))).bind fun (x178 : (List ViewCount)) =>
  some x178))) else (
  ((if decide ((IntKind.i64.wrap ((IntKind.u64.wrap (IntKind.i64.wrap (a1 + a3))).fdiv 2)) < a2) = true then (
  some (IntKind.i64.wrap ((IntKind.i64.wrap ((IntKind.i64.wrap ((IntKind.u64.wrap (IntKind.i64.wrap (a1 + a3))).fdiv 2)) + a2)) - a3), IntKind.i64.wrap ((IntKind.u64.wrap (IntKind.i64.wrap (a1 + a3))).fdiv 2))) else (
  some (a1, a2)) : Option ((Int × Int))).bind fun (x260 : Int × Int) =>
  ((wloop (σ := Int × Int) (β := Int) (fun s273 =>
  if decide (s273.1 < s273.2) = true then (
  (ix a0 (IntKind.i64.wrap ((IntKind.i64.wrap ((IntKind.i64.wrap ((IntKind.i64.wrap ((IntKind.u64.wrap (IntKind.i64.wrap (a1 + a3))).fdiv 2)) + a2)) - 1)) - (IntKind.i64.wrap ((IntKind.u64.wrap (IntKind.i64.wrap (s273.1 + s273.2))).fdiv 2))))).bind fun x284 =>
  (ix a0 (IntKind.i64.wrap ((IntKind.u64.wrap (IntKind.i64.wrap (s273.1 + s273.2))).fdiv 2))).bind fun x291 =>
  (F_impl_gathered_1 x284 x291).bind fun z298 =>
  if (!(decide (z298 < 0))) = true then (
  some (.go (IntKind.i64.wrap ((IntKind.i64.wrap ((IntKind.u64.wrap (IntKind.i64.wrap (s273.1 + s273.2))).fdiv 2)) + 1), s273.2))) else (
  some (.go (s273.1, IntKind.i64.wrap ((IntKind.u64.wrap (IntKind.i64.wrap (s273.1 + s273.2))).fdiv 2))))) else (
  some (.out s273.1))) (x260.1, x260.2) : Option (Int)).bind fun (x271 : Int) =>
  ((if decide (x271 < a2) = true then (
  some (decide (a2 < (IntKind.i64.wrap ((IntKind.i64.wrap ((IntKind.i64.wrap ((IntKind.u64.wrap (IntKind.i64.wrap (a1 + a3))).fdiv 2)) + a2)) - x271))))) else (
  some false) : Option (Bool)).bind fun (x315 : Bool) =>
  ((if x315 = true then (
  (F_slices_rotateCmpFunc_impl_ViewCount__io0_impl_gathered_1 a0 x271 a2 (IntKind.i64.wrap ((IntKind.i64.wrap ((IntKind.i64.wrap ((IntKind.u64.wrap (IntKind.i64.wrap (a1 + a3))).fdiv 2)) + a2)) - x271))).bind fun z330 =>
  some z330) else (
  some a0) : Option ((List ViewCount))).bind fun (x326 : (List ViewCount)) =>
  ((if decide (a1 < x271) = true then (
  some (decide (x271 < (IntKind.i64.wrap ((IntKind.u64.wrap (IntKind.i64.wrap (a1 + a3))).fdiv 2))))) else (
  some false) : Option (Bool)).bind fun (x340 : Bool) =>
  ((if x340 = true then (
  (F_slices_symMergeCmpFunc_impl_ViewCount__io0_impl_gathered_1_r n_ x326 a1 x271 (IntKind.i64.wrap ((IntKind.u64.wrap (IntKind.i64.wrap (a1 + a3))).fdiv 2))).bind fun z355 =>
  some z355) else (
  some x326) : Option ((List ViewCount))).bind fun (x351 : (List ViewCount)) =>
  ((if decide ((IntKind.i64.wrap ((IntKind.u64.wrap (IntKind.i64.wrap (a1 + a3))).fdiv 2)) < (IntKind.i64.wrap ((IntKind.i64.wrap ((IntKind.i64.wrap ((IntKind.u64.wrap (IntKind.i64.wrap (a1 + a3))).fdiv 2)) + a2)) - x271))) = true then (
  some (decide ((IntKind.i64.wrap ((IntKind.i64.wrap ((IntKind.i64.wrap ((IntKind.u64.wrap (IntKind.i64.wrap (a1 + a3))).fdiv 2)) + a2)) - x271)) < a3))) else (
  some false) : Option (Bool)).bind fun (x365 : Bool) =>
  if x365 = true then (
  (F_slices_symMergeCmpFunc_impl_ViewCount__io0_impl_gathered_1_r n_ x351 (IntKind.i64.wrap ((IntKind.u64.wrap (IntKind.i64.wrap (a1 + a3))).fdiv 2)) (IntKind.i64.wrap ((IntKind.i64.wrap ((IntKind.i64.wrap ((IntKind.u64.wrap (IntKind.i64.wrap (a1 + a3))).fdiv 2)) + a2)) - x271)) a3).bind fun z374 =>
  some z374) else (
  some x351))))))))))
noncomputable def F_slices_symMergeCmpFunc_impl_ViewCount__io0_impl_gathered_1 (a0 : (List ViewCount)) (a1 : Int) (a2 : Int) (a3 : Int) : Option ((List ViewCount)) := frec fun n_ => F_slices_symMergeCmpFunc_impl_ViewCount__io0_impl_gathered_1_r n_ a0 a1 a2 a3
theorem c_slices_symMergeCmpFunc_impl_ViewCount__io0_impl_gathered_1_r : ∀ {n_ : Nat} {a0 : (List ViewCount)} {a1 : Int} {a2 : Int} {a3 : Int} {r : (List ViewCount)} (hr : F_slices_symMergeCmpFunc_impl_ViewCount__io0_impl_gathered_1_r n_ a0 a1 a2 a3 = some r), PCalls Try.prog 124 [(.io, .sl true 2 (a0.map row_ViewCount_z)), (.sh, .int .i64 a1), (.sh, .int .i64 a2), (.sh, .int .i64 a3), (.sh, .func (.func 109) [] [])] (fun o os => o = .junk ∧ os = [.sl true 2 (r.map row_ViewCount_z), .junk, .junk, .junk, .junk]) := by
  intro n_
  induction n_ with
  | zero => intro a0 a1 a2 a3 r hr; cases hr
  | succ n_ ih =>
    intro a0 a1 a2 a3 r hr
    refine pcalls_lift (R := fun (r : (List ViewCount)) o os => o = .junk ∧ os = [.sl true 2 (r.map row_ViewCount_z), .junk, .junk, .junk, .junk]) [] [] hr cl124 Try.func124 rfl (by simp [Try.f124]) fun Φ hΦ hF => ?_
    simp only [F_slices_symMergeCmpFunc_impl_ViewCount__io0_impl_gathered_1_r] at hF
    simp only [Try.f124, ioL_nil, ioL_sh, ioL_mv, ioL_io]
    try simp [-List.map_set, go_sem]
    refine pw_wkL [(0, .v (.sl true 2 (a0.map row_ViewCount_z))), (1, .v (.int .i64 a1)), (2, .v (.int .i64 a2)), (3, .v (.int .i64 a3)), (4, .v (.func (.func 109) [] [])), (28, .v (.bool ((IntKind.i64.wrap (a2 - a1)) == 1)))] (by simp [-List.map_set, go_sem]) ?_
    repeat rw [pw_seq]
    refine pw_cond' (v := ((IntKind.i64.wrap (a2 - a1)) == 1)) (by simp [-List.map_set, go_sem]) (fun h1 => ?_) (fun h1 => ?_)
    · have hF2 := Rn_t hF h1
      try simp [-List.map_set, go_sem, h1]
      refine pw_wkL [(0, .v (.sl true 2 (a0.map row_ViewCount_z))), (1, .v (.int .i64 a1)), (3, .v (.int .i64 a3)), (4, .v (.func (.func 109) [] [])), (10, .v (.int .i64 a2))] (by simp [-List.map_set, go_sem, h1]) ?_
      try simp [-List.map_set, go_sem, h1]
      refine pw_wkL [(0, .v (.sl true 2 (a0.map row_ViewCount_z))), (1, .v (.int .i64 a1)), (4, .v (.func (.func 109) [] [])), (10, .v (.int .i64 a2)), (11, .v (.int .i64 a3))] (by simp [-List.map_set, go_sem, h1]) ?_
      repeat rw [pw_seq]
      refine pw_joinF (fun (x7 : Int) => [(0, .v (.sl true 2 (a0.map row_ViewCount_z))), (1, .v (.int .i64 a1)), (10, .v (.int .i64 x7))]) hF2 ?_ ?_
      · intro x7 hF8
        try dsimp only at hF8
        try simp [-List.map_set, go_sem, h1]
        refine pw_wkL [(0, .v (.sl true 2 (a0.map row_ViewCount_z))), (10, .v (.int .i64 x7)), (13, .v (.int .i64 a1))] (by simp [-List.map_set, go_sem, h1]) ?_
        repeat rw [pw_seq]
        refine pw_joinF (fun (x51 : (List ViewCount)) => [(0, .v (.sl true 2 (x51.map row_ViewCount_z)))]) hF8 ?_ ?_
        · intro x51 hF52
          try dsimp only at hF52
          try simp [-List.map_set, go_sem, h1]
          have h125 := Rn_some hF52
          have h126 := hΦ _ h125
          subst h126
          try simp [-List.map_set, go_sem, h1]
        · intro ψ49 hj47 hF50
          repeat rw [pw_seq]
          rw [pw_block]
          try simp [-List.map_set, go_sem]
          obtain ⟨b123, hb124, hψ92⟩ := hF50
          refine pw_wloop (fun (s88 : (List ViewCount) × Int) => [(0, .v (.sl true 2 (s88.1.map row_ViewCount_z))), (10, .v (.int .i64 x7)), (13, .v (.int .i64 s88.2))]) hb124 (by simp [-List.map_set, go_sem, h1]) ?_
          intro s88 φ93 N94 ho90 hg91 hF95
          try dsimp only at hF95
          try simp [-List.map_set, go_sem, h1]
          refine pw_wkL [(0, .v (.sl true 2 (s88.1.map row_ViewCount_z))), (10, .v (.int .i64 x7)), (13, .v (.int .i64 s88.2)), (58, .v (.bool (decide (s88.2 < (IntKind.i64.wrap (x7 - 1))))))] (by simp [-List.map_set, go_sem, h1]) ?_
          repeat rw [pw_seq]
          refine pw_cond' (v := decide (s88.2 < (IntKind.i64.wrap (x7 - 1)))) (by simp [-List.map_set, go_sem, h1]) (fun h96 => ?_) (fun h96 => ?_)
          · have hF97 := Rn_t hF95 h96
            try simp [-List.map_set, go_sem, h1, h96]
            refine pw_wkL [(0, .v (.sl true 2 (s88.1.map row_ViewCount_z))), (10, .v (.int .i64 x7)), (13, .v (.int .i64 s88.2))] (by simp [-List.map_set, go_sem, h1, h96]) ?_
            repeat rw [pw_seq]
            rw [pw_block]
            repeat rw [pw_seq]
            refine pw_draw D124_11 follows (by kernel_rfl) rfl ?_
            try simp only [go_sem, D124_11]
            obtain ⟨x98, e99, hF100⟩ := Rn_bind hF97
            obtain ⟨g101, g102, g103⟩ := ix_some e99
            have g104 := ix_get e99
            try simp only [Int.toNat_natCast, Int.toNat_zero, Int.toNat_one, Int.reduceToNat] at g103 g104
            obtain ⟨x105, e106, hF107⟩ := Rn_bind hF100
            obtain ⟨g108, g109, g110⟩ := ix_some e106
            have g111 := ix_get e106
            try simp only [Int.toNat_natCast, Int.toNat_zero, Int.toNat_one, Int.reduceToNat] at g110 g111
            obtain ⟨x112, e113, hF114⟩ := Rn_bind hF107
            obtain ⟨g115, g116, g117⟩ := ix_some e113
            have g118 := ix_get e113
            try simp only [Int.toNat_natCast, Int.toNat_zero, Int.toNat_one, Int.reduceToNat] at g117 g118
            try simp [-List.map_set, go_sem, h1, h96, g101, g102, g103, g104, g108, g109, g110, g111, g115, g116, g117, g118]
            refine pw_wkL [(0, .v (.sl true 2 (((s88.1.set s88.2.toNat x98).set ((IntKind.i64.wrap (s88.2 + 1)).toNat) x105).map row_ViewCount_z))), (10, .v (.int .i64 x7)), (13, .v (.int .i64 s88.2))] (by simp [-List.map_set, go_sem, h1, h96, g101, g102, g103, g104, g108, g109, g110, g111, g115, g116, g117, g118]) ?_
            try simp [-List.map_set, go_sem, h1, h96, g101, g102, g103, g104, g108, g109, g110, g111, g115, g116, g117, g118]
            have h119 := Rn_some hF114
            exact hg91 ((s88.1.set s88.2.toNat x98).set ((IntKind.i64.wrap (s88.2 + 1)).toNat) x105, IntKind.i64.wrap (s88.2 + 1)) _ (by simp [-List.map_set, go_sem, h1, h96, g101, g102, g103, g104, g108, g109, g110, g111, g115, g116, g117, g118]) h119
          · have hF120 := Rn_f hF95 h96
            try simp [-List.map_set, go_sem, h1, h96]
            have h121 := Rn_some hF120
            have h122 := ho90 _ h121
            subst h122
            exact hj47 s88.1 _ (by simp [-List.map_set, go_sem, h1, h96]) hψ92
      · intro ψ5 hj3 hF6
        repeat rw [pw_seq]
        rw [pw_block]
        try simp [-List.map_set, go_sem]
        obtain ⟨b45, hb46, hψ13⟩ := hF6
        refine pw_wloop (fun (s9 : Int × Int) => [(0, .v (.sl true 2 (a0.map row_ViewCount_z))), (1, .v (.int .i64 a1)), (4, .v (.func (.func 109) [] [])), (10, .v (.int .i64 s9.1)), (11, .v (.int .i64 s9.2))]) hb46 (by simp [-List.map_set, go_sem, h1]) ?_
        intro s9 φ14 N15 ho11 hg12 hF16
        try dsimp only at hF16
        try simp [-List.map_set, go_sem, h1]
        refine pw_wkL [(0, .v (.sl true 2 (a0.map row_ViewCount_z))), (1, .v (.int .i64 a1)), (4, .v (.func (.func 109) [] [])), (10, .v (.int .i64 s9.1)), (11, .v (.int .i64 s9.2)), (33, .v (.bool (decide (s9.1 < s9.2))))] (by simp [-List.map_set, go_sem, h1]) ?_
        repeat rw [pw_seq]
        refine pw_cond' (v := decide (s9.1 < s9.2)) (by simp [-List.map_set, go_sem, h1]) (fun h17 => ?_) (fun h17 => ?_)
        · have hF18 := Rn_t hF16 h17
          try simp [-List.map_set, go_sem, h1, h17]
          refine pw_wkL [(0, .v (.sl true 2 (a0.map row_ViewCount_z))), (1, .v (.int .i64 a1)), (4, .v (.func (.func 109) [] [])), (10, .v (.int .i64 s9.1)), (11, .v (.int .i64 s9.2))] (by simp [-List.map_set, go_sem, h1, h17]) ?_
          repeat rw [pw_seq]
          rw [pw_block]
          have g19 := fun x => shV0_ge (b := 1) (x := x) (by decide)
          try simp [-List.map_set, go_sem, h1, h17, g19]
          refine pw_wkL [(0, .v (.sl true 2 (a0.map row_ViewCount_z))), (1, .v (.int .i64 a1)), (4, .v (.func (.func 109) [] [])), (10, .v (.int .i64 s9.1)), (11, .v (.int .i64 s9.2)), (12, .v (.int .i64 (IntKind.i64.wrap ((IntKind.u64.wrap (IntKind.i64.wrap (s9.1 + s9.2))).fdiv 2))))] (by simp [-List.map_set, go_sem, h1, h17, g19]) ?_
          repeat rw [pw_seq]
          refine pw_draw D124_5 follows (by kernel_rfl) rfl ?_
          try simp only [go_sem, D124_5]
          obtain ⟨x20, e21, hF22⟩ := Rn_bind hF18
          obtain ⟨g23, g24, g25⟩ := ix_some e21
          have g26 := ix_get e21
          try simp only [Int.toNat_natCast, Int.toNat_zero, Int.toNat_one, Int.reduceToNat] at g25 g26
          obtain ⟨x27, e28, hF29⟩ := Rn_bind hF22
          obtain ⟨g30, g31, g32⟩ := ix_some e28
          have g33 := ix_get e28
          try simp only [Int.toNat_natCast, Int.toNat_zero, Int.toNat_one, Int.reduceToNat] at g32 g33
          obtain ⟨z34, e35, hF36⟩ := Rn_bind hF29
          try simp [-List.map_set, go_sem, h1, h17, g19, g23, g24, g25, g26, g30, g31, g32, g33]
          refine pw_callE [.sh, .sh] rfl rfl (by (try simp [-List.map_set, go_sem, clE, h1, h17, g19, g23, g24, g25, g26, g30, g31, g32, g33]); first | rfl | done) (by rfl) (c_impl_gathered_1 e35) (by (try simp [-List.map_set, go_sem, h1, h17, g19, g23, g24, g25, g26, g30, g31, g32, g33]); first | rfl | done) (fun r0 os0 ho0 => ?_)
          obtain ⟨ho1, ho2⟩ := ho0
          subst ho1
          subst ho2
          refine ⟨by simp [-List.map_set, go_sem, h1, h17, g19, g23, g24, g25, g26, g30, g31, g32, g33], ?_⟩
          try simp [-List.map_set, go_sem, h1, h17, g19, g23, g24, g25, g26, g30, g31, g32, g33]
          refine pw_wkL [(0, .v (.sl true 2 (a0.map row_ViewCount_z))), (1, .v (.int .i64 a1)), (4, .v (.func (.func 109) [] [])), (10, .v (.int .i64 s9.1)), (11, .v (.int .i64 s9.2)), (12, .v (.int .i64 (IntKind.i64.wrap ((IntKind.u64.wrap (IntKind.i64.wrap (s9.1 + s9.2))).fdiv 2)))), (50, .v (.bool (decide (z34 < 0))))] (by simp [-List.map_set, go_sem, h1, h17, g19, g23, g24, g25, g26, g30, g31, g32, g33]) ?_
          repeat rw [pw_seq]
          refine pw_cond' (v := decide (z34 < 0)) (by simp [-List.map_set, go_sem, h1, h17, g19, g23, g24, g25, g26, g30, g31, g32, g33]) (fun h37 => ?_) (fun h37 => ?_)
          · have hF38 := Rn_t hF36 h37
            try simp [-List.map_set, go_sem, h1, h17, g19, g23, g24, g25, g26, g30, g31, g32, g33, h37]
            have h39 := Rn_some hF38
            exact hg12 (IntKind.i64.wrap ((IntKind.i64.wrap ((IntKind.u64.wrap (IntKind.i64.wrap (s9.1 + s9.2))).fdiv 2)) + 1), s9.2) _ (by simp [-List.map_set, go_sem, h1, h17, g19, g23, g24, g25, g26, g30, g31, g32, g33, h37]) h39
          · have hF40 := Rn_f hF36 h37
            try simp [-List.map_set, go_sem, h1, h17, g19, g23, g24, g25, g26, g30, g31, g32, g33, h37]
            have h41 := Rn_some hF40
            exact hg12 (s9.1, IntKind.i64.wrap ((IntKind.u64.wrap (IntKind.i64.wrap (s9.1 + s9.2))).fdiv 2)) _ (by simp [-List.map_set, go_sem, h1, h17, g19, g23, g24, g25, g26, g30, g31, g32, g33, h37]) h41
        · have hF42 := Rn_f hF16 h17
          try simp [-List.map_set, go_sem, h1, h17]
          have h43 := Rn_some hF42
          have h44 := ho11 _ h43
          subst h44
          exact hj3 s9.1 _ (by simp [-List.map_set, go_sem, h1, h17]) hψ13
    · have hF127 := Rn_f hF h1
      try simp [-List.map_set, go_sem, h1]
      refine pw_wkL [(0, .v (.sl true 2 (a0.map row_ViewCount_z))), (1, .v (.int .i64 a1)), (2, .v (.int .i64 a2)), (3, .v (.int .i64 a3)), (4, .v (.func (.func 109) [] []))] (by simp [-List.map_set, go_sem, h1]) ?_
      try simp [-List.map_set, go_sem, h1]
      refine pw_wkL [(0, .v (.sl true 2 (a0.map row_ViewCount_z))), (1, .v (.int .i64 a1)), (2, .v (.int .i64 a2)), (3, .v (.int .i64 a3)), (4, .v (.func (.func 109) [] [])), (80, .v (.bool ((IntKind.i64.wrap (a3 - a2)) == 1)))] (by simp [-List.map_set, go_sem, h1]) ?_
      repeat rw [pw_seq]
      refine pw_cond' (v := ((IntKind.i64.wrap (a3 - a2)) == 1)) (by simp [-List.map_set, go_sem, h1]) (fun h128 => ?_) (fun h128 => ?_)
      · have hF129 := Rn_t hF127 h128
        try simp [-List.map_set, go_sem, h1, h128]
        refine pw_wkL [(0, .v (.sl true 2 (a0.map row_ViewCount_z))), (2, .v (.int .i64 a2)), (4, .v (.func (.func 109) [] [])), (14, .v (.int .i64 a1))] (by simp [-List.map_set, go_sem, h1, h128]) ?_
        try simp [-List.map_set, go_sem, h1, h128]
        refine pw_wkL [(0, .v (.sl true 2 (a0.map row_ViewCount_z))), (2, .v (.int .i64 a2)), (4, .v (.func (.func 109) [] [])), (14, .v (.int .i64 a1)), (15, .v (.int .i64 a2))] (by simp [-List.map_set, go_sem, h1, h128]) ?_
        repeat rw [pw_seq]
        refine pw_joinF (fun (x134 : Int) => [(0, .v (.sl true 2 (a0.map row_ViewCount_z))), (2, .v (.int .i64 a2)), (14, .v (.int .i64 x134))]) hF129 ?_ ?_
        · intro x134 hF135
          try dsimp only at hF135
          try simp [-List.map_set, go_sem, h1, h128]
          refine pw_wkL [(0, .v (.sl true 2 (a0.map row_ViewCount_z))), (14, .v (.int .i64 x134)), (17, .v (.int .i64 a2))] (by simp [-List.map_set, go_sem, h1, h128]) ?_
          repeat rw [pw_seq]
          refine pw_joinF (fun (x178 : (List ViewCount)) => [(0, .v (.sl true 2 (x178.map row_ViewCount_z)))]) hF135 ?_ ?_
          · intro x178 hF179
            try dsimp only at hF179
            try simp [-List.map_set, go_sem, h1, h128]
            have h252 := Rn_some hF179
            have h253 := hΦ _ h252
            subst h253
            try simp [-List.map_set, go_sem, h1, h128]
          · intro ψ176 hj174 hF177
            repeat rw [pw_seq]
            rw [pw_block]
            try simp [-List.map_set, go_sem]
            obtain ⟨b250, hb251, hψ219⟩ := hF177
            refine pw_wloop (fun (s215 : (List ViewCount) × Int) => [(0, .v (.sl true 2 (s215.1.map row_ViewCount_z))), (14, .v (.int .i64 x134)), (17, .v (.int .i64 s215.2))]) hb251 (by simp [-List.map_set, go_sem, h1, h128]) ?_
            intro s215 φ220 N221 ho217 hg218 hF222
            try dsimp only at hF222
            try simp [-List.map_set, go_sem, h1, h128]
            refine pw_wkL [(0, .v (.sl true 2 (s215.1.map row_ViewCount_z))), (14, .v (.int .i64 x134)), (17, .v (.int .i64 s215.2)), (110, .v (.bool (decide (x134 < s215.2))))] (by simp [-List.map_set, go_sem, h1, h128]) ?_
            repeat rw [pw_seq]
            refine pw_cond' (v := decide (x134 < s215.2)) (by simp [-List.map_set, go_sem, h1, h128]) (fun h223 => ?_) (fun h223 => ?_)
            · have hF224 := Rn_t hF222 h223
              try simp [-List.map_set, go_sem, h1, h128, h223]
              refine pw_wkL [(0, .v (.sl true 2 (s215.1.map row_ViewCount_z))), (14, .v (.int .i64 x134)), (17, .v (.int .i64 s215.2))] (by simp [-List.map_set, go_sem, h1, h128, h223]) ?_
              repeat rw [pw_seq]
              rw [pw_block]
              repeat rw [pw_seq]
              refine pw_draw D124_23 follows (by kernel_rfl) rfl ?_
              try simp only [go_sem, D124_23]
              obtain ⟨x225, e226, hF227⟩ := Rn_bind hF224
              obtain ⟨g228, g229, g230⟩ := ix_some e226
              have g231 := ix_get e226
              try simp only [Int.toNat_natCast, Int.toNat_zero, Int.toNat_one, Int.reduceToNat] at g230 g231
              obtain ⟨x232, e233, hF234⟩ := Rn_bind hF227
              obtain ⟨g235, g236, g237⟩ := ix_some e233
              have g238 := ix_get e233
              try simp only [Int.toNat_natCast, Int.toNat_zero, Int.toNat_one, Int.reduceToNat] at g237 g238
              obtain ⟨x239, e240, hF241⟩ := Rn_bind hF234
              obtain ⟨g242, g243, g244⟩ := ix_some e240
              have g245 := ix_get e240
              try simp only [Int.toNat_natCast, Int.toNat_zero, Int.toNat_one, Int.reduceToNat] at g244 g245
              try simp [-List.map_set, go_sem, h1, h128, h223, g228, g229, g230, g231, g235, g236, g237, g238, g242, g243, g244, g245]
              refine pw_wkL [(0, .v (.sl true 2 (((s215.1.set s215.2.toNat x225).set ((IntKind.i64.wrap (s215.2 - 1)).toNat) x232).map row_ViewCount_z))), (14, .v (.int .i64 x134)), (17, .v (.int .i64 s215.2))] (by simp [-List.map_set, go_sem, h1, h128, h223, g228, g229, g230, g231, g235, g236, g237, g238, g242, g243, g244, g245]) ?_
              try simp [-List.map_set, go_sem, h1, h128, h223, g228, g229, g230, g231, g235, g236, g237, g238, g242, g243, g244, g245]
              have h246 := Rn_some hF241
              exact hg218 ((s215.1.set s215.2.toNat x225).set ((IntKind.i64.wrap (s215.2 - 1)).toNat) x232, IntKind.i64.wrap (s215.2 - 1)) _ (by simp [-List.map_set, go_sem, h1, h128, h223, g228, g229, g230, g231, g235, g236, g237, g238, g242, g243, g244, g245]) h246
            · have hF247 := Rn_f hF222 h223
              try simp [-List.map_set, go_sem, h1, h128, h223]
              have h248 := Rn_some hF247
              have h249 := ho217 _ h248
              subst h249
              exact hj174 s215.1 _ (by simp [-List.map_set, go_sem, h1, h128, h223]) hψ219
        · intro ψ132 hj130 hF133
          repeat rw [pw_seq]
          rw [pw_block]
          try simp [-List.map_set, go_sem]
          obtain ⟨b172, hb173, hψ140⟩ := hF133
          refine pw_wloop (fun (s136 : Int × Int) => [(0, .v (.sl true 2 (a0.map row_ViewCount_z))), (2, .v (.int .i64 a2)), (4, .v (.func (.func 109) [] [])), (14, .v (.int .i64 s136.1)), (15, .v (.int .i64 s136.2))]) hb173 (by simp [-List.map_set, go_sem, h1, h128]) ?_
          intro s136 φ141 N142 ho138 hg139 hF143
          try dsimp only at hF143
          try simp [-List.map_set, go_sem, h1, h128]
          refine pw_wkL [(0, .v (.sl true 2 (a0.map row_ViewCount_z))), (2, .v (.int .i64 a2)), (4, .v (.func (.func 109) [] [])), (14, .v (.int .i64 s136.1)), (15, .v (.int .i64 s136.2)), (85, .v (.bool (decide (s136.1 < s136.2))))] (by simp [-List.map_set, go_sem, h1, h128]) ?_
          repeat rw [pw_seq]
          refine pw_cond' (v := decide (s136.1 < s136.2)) (by simp [-List.map_set, go_sem, h1, h128]) (fun h144 => ?_) (fun h144 => ?_)
          · have hF145 := Rn_t hF143 h144
            try simp [-List.map_set, go_sem, h1, h128, h144]
            refine pw_wkL [(0, .v (.sl true 2 (a0.map row_ViewCount_z))), (2, .v (.int .i64 a2)), (4, .v (.func (.func 109) [] [])), (14, .v (.int .i64 s136.1)), (15, .v (.int .i64 s136.2))] (by simp [-List.map_set, go_sem, h1, h128, h144]) ?_
            repeat rw [pw_seq]
            rw [pw_block]
            have g146 := fun x => shV0_ge (b := 1) (x := x) (by decide)
            try simp [-List.map_set, go_sem, h1, h128, h144, g146]
            refine pw_wkL [(0, .v (.sl true 2 (a0.map row_ViewCount_z))), (2, .v (.int .i64 a2)), (4, .v (.func (.func 109) [] [])), (14, .v (.int .i64 s136.1)), (15, .v (.int .i64 s136.2)), (16, .v (.int .i64 (IntKind.i64.wrap ((IntKind.u64.wrap (IntKind.i64.wrap (s136.1 + s136.2))).fdiv 2))))] (by simp [-List.map_set, go_sem, h1, h128, h144, g146]) ?_
            repeat rw [pw_seq]
            refine pw_draw D124_17 follows (by kernel_rfl) rfl ?_
            try simp only [go_sem, D124_17]
            obtain ⟨x147, e148, hF149⟩ := Rn_bind hF145
            obtain ⟨g150, g151, g152⟩ := ix_some e148
            have g153 := ix_get e148
            try simp only [Int.toNat_natCast, Int.toNat_zero, Int.toNat_one, Int.reduceToNat] at g152 g153
            obtain ⟨x154, e155, hF156⟩ := Rn_bind hF149
            obtain ⟨g157, g158, g159⟩ := ix_some e155
            have g160 := ix_get e155
            try simp only [Int.toNat_natCast, Int.toNat_zero, Int.toNat_one, Int.reduceToNat] at g159 g160
            obtain ⟨z161, e162, hF163⟩ := Rn_bind hF156
            try simp [-List.map_set, go_sem, h1, h128, h144, g146, g150, g151, g152, g153, g157, g158, g159, g160]
            refine pw_callE [.sh, .sh] rfl rfl (by (try simp [-List.map_set, go_sem, clE, h1, h128, h144, g146, g150, g151, g152, g153, g157, g158, g159, g160]); first | rfl | done) (by rfl) (c_impl_gathered_1 e162) (by (try simp [-List.map_set, go_sem, h1, h128, h144, g146, g150, g151, g152, g153, g157, g158, g159, g160]); first | rfl | done) (fun r0 os0 ho0 => ?_)
            obtain ⟨ho1, ho2⟩ := ho0
            subst ho1
            subst ho2
            refine ⟨by simp [-List.map_set, go_sem, h1, h128, h144, g146, g150, g151, g152, g153, g157, g158, g159, g160], ?_⟩
            try simp [-List.map_set, go_sem, h1, h128, h144, g146, g150, g151, g152, g153, g157, g158, g159, g160]
            refine pw_wkL [(0, .v (.sl true 2 (a0.map row_ViewCount_z))), (2, .v (.int .i64 a2)), (4, .v (.func (.func 109) [] [])), (14, .v (.int .i64 s136.1)), (15, .v (.int .i64 s136.2)), (16, .v (.int .i64 (IntKind.i64.wrap ((IntKind.u64.wrap (IntKind.i64.wrap (s136.1 + s136.2))).fdiv 2)))), (103, .v (.bool (!(decide (z161 < 0)))))] (by simp [-List.map_set, go_sem, h1, h128, h144, g146, g150, g151, g152, g153, g157, g158, g159, g160]) ?_
            repeat rw [pw_seq]
            refine pw_cond' (v := (!(decide (z161 < 0)))) (by simp [-List.map_set, go_sem, h1, h128, h144, g146, g150, g151, g152, g153, g157, g158, g159, g160]) (fun h164 => ?_) (fun h164 => ?_)
            · have hF165 := Rn_t hF163 h164
              try simp [-List.map_set, go_sem, h1, h128, h144, g146, g150, g151, g152, g153, g157, g158, g159, g160, h164]
              have h166 := Rn_some hF165
              exact hg139 (IntKind.i64.wrap ((IntKind.i64.wrap ((IntKind.u64.wrap (IntKind.i64.wrap (s136.1 + s136.2))).fdiv 2)) + 1), s136.2) _ (by simp [-List.map_set, go_sem, h1, h128, h144, g146, g150, g151, g152, g153, g157, g158, g159, g160, h164]) h166
            · have hF167 := Rn_f hF163 h164
              try simp [-List.map_set, go_sem, h1, h128, h144, g146, g150, g151, g152, g153, g157, g158, g159, g160, h164]
              have h168 := Rn_some hF167
              exact hg139 (s136.1, IntKind.i64.wrap ((IntKind.u64.wrap (IntKind.i64.wrap (s136.1 + s136.2))).fdiv 2)) _ (by simp [-List.map_set, go_sem, h1, h128, h144, g146, g150, g151, g152, g153, g157, g158, g159, g160, h164]) h168
          · have hF169 := Rn_f hF143 h144
            try simp [-List.map_set, go_sem, h1, h128, h144]
            have h170 := Rn_some hF169
            have h171 := ho138 _ h170
            subst h171
            exact hj130 s136.1 _ (by simp [-List.map_set, go_sem, h1, h128, h144]) hψ140
      · have hF254 := Rn_f hF127 h128
        try simp [-List.map_set, go_sem, h1, h128]
        refine pw_wkL [(0, .v (.sl true 2 (a0.map row_ViewCount_z))), (1, .v (.int .i64 a1)), (2, .v (.int .i64 a2)), (3, .v (.int .i64 a3)), (4, .v (.func (.func 109) [] []))] (by simp [-List.map_set, go_sem, h1, h128]) ?_
        have g255 := fun x => shV0_ge (b := 1) (x := x) (by decide)
        try simp [-List.map_set, go_sem, h1, h128, g255]
        refine pw_wkL [(0, .v (.sl true 2 (a0.map row_ViewCount_z))), (1, .v (.int .i64 a1)), (2, .v (.int .i64 a2)), (3, .v (.int .i64 a3)), (4, .v (.func (.func 109) [] [])), (18, .v (.int .i64 (IntKind.i64.wrap ((IntKind.u64.wrap (IntKind.i64.wrap (a1 + a3))).fdiv 2))))] (by simp [-List.map_set, go_sem, h1, h128, g255]) ?_
        try simp [-List.map_set, go_sem, h1, h128, g255]
        refine pw_wkL [(0, .v (.sl true 2 (a0.map row_ViewCount_z))), (1, .v (.int .i64 a1)), (2, .v (.int .i64 a2)), (3, .v (.int .i64 a3)), (4, .v (.func (.func 109) [] [])), (18, .v (.int .i64 (IntKind.i64.wrap ((IntKind.u64.wrap (IntKind.i64.wrap (a1 + a3))).fdiv 2)))), (19, .v (.int .i64 (IntKind.i64.wrap ((IntKind.i64.wrap ((IntKind.u64.wrap (IntKind.i64.wrap (a1 + a3))).fdiv 2)) + a2))))] (by simp [-List.map_set, go_sem, h1, h128, g255]) ?_
        try simp [-List.map_set, go_sem, h1, h128, g255]
        refine pw_wkL [(0, .v (.sl true 2 (a0.map row_ViewCount_z))), (1, .v (.int .i64 a1)), (2, .v (.int .i64 a2)), (3, .v (.int .i64 a3)), (4, .v (.func (.func 109) [] [])), (18, .v (.int .i64 (IntKind.i64.wrap ((IntKind.u64.wrap (IntKind.i64.wrap (a1 + a3))).fdiv 2)))), (19, .v (.int .i64 (IntKind.i64.wrap ((IntKind.i64.wrap ((IntKind.u64.wrap (IntKind.i64.wrap (a1 + a3))).fdiv 2)) + a2))))] (by simp [-List.map_set, go_sem, h1, h128, g255]) ?_
        try simp [-List.map_set, go_sem, h1, h128, g255]
        refine pw_wkL [(0, .v (.sl true 2 (a0.map row_ViewCount_z))), (1, .v (.int .i64 a1)), (2, .v (.int .i64 a2)), (3, .v (.int .i64 a3)), (4, .v (.func (.func 109) [] [])), (18, .v (.int .i64 (IntKind.i64.wrap ((IntKind.u64.wrap (IntKind.i64.wrap (a1 + a3))).fdiv 2)))), (19, .v (.int .i64 (IntKind.i64.wrap ((IntKind.i64.wrap ((IntKind.u64.wrap (IntKind.i64.wrap (a1 + a3))).fdiv 2)) + a2)))), (140, .v (.bool (decide ((IntKind.i64.wrap ((IntKind.u64.wrap (IntKind.i64.wrap (a1 + a3))).fdiv 2)) < a2))))] (by simp [-List.map_set, go_sem, h1, h128, g255]) ?_
        repeat rw [pw_seq]
        refine pw_joinF (fun (x260 : Int × Int) => [(0, .v (.sl true 2 (a0.map row_ViewCount_z))), (1, .v (.int .i64 a1)), (2, .v (.int .i64 a2)), (3, .v (.int .i64 a3)), (4, .v (.func (.func 109) [] [])), (18, .v (.int .i64 (IntKind.i64.wrap ((IntKind.u64.wrap (IntKind.i64.wrap (a1 + a3))).fdiv 2)))), (19, .v (.int .i64 (IntKind.i64.wrap ((IntKind.i64.wrap ((IntKind.u64.wrap (IntKind.i64.wrap (a1 + a3))).fdiv 2)) + a2)))), (20, .v (.int .i64 x260.1)), (21, .v (.int .i64 x260.2))]) hF254 ?_ ?_
        · intro x260 hF261
          try dsimp only at hF261
          try simp [-List.map_set, go_sem, h1, h128, g255]
          refine pw_wkL [(0, .v (.sl true 2 (a0.map row_ViewCount_z))), (1, .v (.int .i64 a1)), (2, .v (.int .i64 a2)), (3, .v (.int .i64 a3)), (4, .v (.func (.func 109) [] [])), (18, .v (.int .i64 (IntKind.i64.wrap ((IntKind.u64.wrap (IntKind.i64.wrap (a1 + a3))).fdiv 2)))), (19, .v (.int .i64 (IntKind.i64.wrap ((IntKind.i64.wrap ((IntKind.u64.wrap (IntKind.i64.wrap (a1 + a3))).fdiv 2)) + a2)))), (20, .v (.int .i64 x260.1)), (21, .v (.int .i64 x260.2)), (22, .v (.int .i64 (IntKind.i64.wrap ((IntKind.i64.wrap ((IntKind.i64.wrap ((IntKind.u64.wrap (IntKind.i64.wrap (a1 + a3))).fdiv 2)) + a2)) - 1))))] (by simp [-List.map_set, go_sem, h1, h128, g255]) ?_
          repeat rw [pw_seq]
          refine pw_joinF (fun (x271 : Int) => [(0, .v (.sl true 2 (a0.map row_ViewCount_z))), (1, .v (.int .i64 a1)), (2, .v (.int .i64 a2)), (3, .v (.int .i64 a3)), (4, .v (.func (.func 109) [] [])), (18, .v (.int .i64 (IntKind.i64.wrap ((IntKind.u64.wrap (IntKind.i64.wrap (a1 + a3))).fdiv 2)))), (19, .v (.int .i64 (IntKind.i64.wrap ((IntKind.i64.wrap ((IntKind.u64.wrap (IntKind.i64.wrap (a1 + a3))).fdiv 2)) + a2)))), (20, .v (.int .i64 x271))]) hF261 ?_ ?_
          · intro x271 hF272
            try dsimp only at hF272
            try simp [-List.map_set, go_sem, h1, h128, g255]
            refine pw_wkL [(0, .v (.sl true 2 (a0.map row_ViewCount_z))), (1, .v (.int .i64 a1)), (2, .v (.int .i64 a2)), (3, .v (.int .i64 a3)), (4, .v (.func (.func 109) [] [])), (18, .v (.int .i64 (IntKind.i64.wrap ((IntKind.u64.wrap (IntKind.i64.wrap (a1 + a3))).fdiv 2)))), (20, .v (.int .i64 x271)), (24, .v (.int .i64 (IntKind.i64.wrap ((IntKind.i64.wrap ((IntKind.i64.wrap ((IntKind.u64.wrap (IntKind.i64.wrap (a1 + a3))).fdiv 2)) + a2)) - x271))))] (by simp [-List.map_set, go_sem, h1, h128, g255]) ?_
            repeat rw [pw_seq]
            refine pw_joinF (fun (x315 : Bool) => [(0, .v (.sl true 2 (a0.map row_ViewCount_z))), (1, .v (.int .i64 a1)), (2, .v (.int .i64 a2)), (3, .v (.int .i64 a3)), (4, .v (.func (.func 109) [] [])), (18, .v (.int .i64 (IntKind.i64.wrap ((IntKind.u64.wrap (IntKind.i64.wrap (a1 + a3))).fdiv 2)))), (20, .v (.int .i64 x271)), (24, .v (.int .i64 (IntKind.i64.wrap ((IntKind.i64.wrap ((IntKind.i64.wrap ((IntKind.u64.wrap (IntKind.i64.wrap (a1 + a3))).fdiv 2)) + a2)) - x271)))), (185, .v (.bool x315))]) hF272 ?_ ?_
            · intro x315 hF316
              try dsimp only at hF316
              repeat rw [pw_seq]
              refine pw_joinF (fun (x326 : (List ViewCount)) => [(0, .v (.sl true 2 (x326.map row_ViewCount_z))), (1, .v (.int .i64 a1)), (3, .v (.int .i64 a3)), (4, .v (.func (.func 109) [] [])), (18, .v (.int .i64 (IntKind.i64.wrap ((IntKind.u64.wrap (IntKind.i64.wrap (a1 + a3))).fdiv 2)))), (20, .v (.int .i64 x271)), (24, .v (.int .i64 (IntKind.i64.wrap ((IntKind.i64.wrap ((IntKind.i64.wrap ((IntKind.u64.wrap (IntKind.i64.wrap (a1 + a3))).fdiv 2)) + a2)) - x271))))]) hF316 ?_ ?_
              · intro x326 hF327
                try dsimp only at hF327
                repeat rw [pw_seq]
                refine pw_joinF (fun (x340 : Bool) => [(0, .v (.sl true 2 (x326.map row_ViewCount_z))), (1, .v (.int .i64 a1)), (3, .v (.int .i64 a3)), (4, .v (.func (.func 109) [] [])), (18, .v (.int .i64 (IntKind.i64.wrap ((IntKind.u64.wrap (IntKind.i64.wrap (a1 + a3))).fdiv 2)))), (20, .v (.int .i64 x271)), (24, .v (.int .i64 (IntKind.i64.wrap ((IntKind.i64.wrap ((IntKind.i64.wrap ((IntKind.u64.wrap (IntKind.i64.wrap (a1 + a3))).fdiv 2)) + a2)) - x271)))), (199, .v (.bool x340))]) hF327 ?_ ?_
                · intro x340 hF341
                  try dsimp only at hF341
                  repeat rw [pw_seq]
                  refine pw_joinF (fun (x351 : (List ViewCount)) => [(0, .v (.sl true 2 (x351.map row_ViewCount_z))), (3, .v (.int .i64 a3)), (4, .v (.func (.func 109) [] [])), (18, .v (.int .i64 (IntKind.i64.wrap ((IntKind.u64.wrap (IntKind.i64.wrap (a1 + a3))).fdiv 2)))), (24, .v (.int .i64 (IntKind.i64.wrap ((IntKind.i64.wrap ((IntKind.i64.wrap ((IntKind.u64.wrap (IntKind.i64.wrap (a1 + a3))).fdiv 2)) + a2)) - x271))))]) hF341 ?_ ?_
                  · intro x351 hF352
                    try dsimp only at hF352
                    repeat rw [pw_seq]
                    refine pw_joinF (fun (x365 : Bool) => [(0, .v (.sl true 2 (x351.map row_ViewCount_z))), (3, .v (.int .i64 a3)), (4, .v (.func (.func 109) [] [])), (18, .v (.int .i64 (IntKind.i64.wrap ((IntKind.u64.wrap (IntKind.i64.wrap (a1 + a3))).fdiv 2)))), (24, .v (.int .i64 (IntKind.i64.wrap ((IntKind.i64.wrap ((IntKind.i64.wrap ((IntKind.u64.wrap (IntKind.i64.wrap (a1 + a3))).fdiv 2)) + a2)) - x271)))), (213, .v (.bool x365))]) hF352 ?_ ?_
                    · intro x365 hF366
                      try dsimp only at hF366
                      repeat rw [pw_seq]
                      refine pw_cond' (v := x365) (by simp [-List.map_set, go_sem, h1, h128, g255]) (fun h372 => ?_) (fun h372 => ?_)
                      · have hF373 := Rn_t hF366 h372
                        obtain ⟨z374, e375, hF376⟩ := Rn_bind hF373
                        try simp [-List.map_set, go_sem, h1, h128, g255, h372]
                        refine pw_callE [.io, .sh, .sh, .sh, .sh] rfl rfl (by (try simp [-List.map_set, go_sem, clE, h1, h128, g255, h372]); first | rfl | done) (by rfl) (ih e375) (by (try simp [-List.map_set, go_sem, h1, h128, g255, h372]); first | rfl | done) (fun r0 os0 ho0 => ?_)
                        obtain ⟨ho1, ho2⟩ := ho0
                        subst ho1
                        subst ho2
                        refine ⟨by simp [-List.map_set, go_sem, h1, h128, g255, h372], ?_⟩
                        try simp [-List.map_set, go_sem, h1, h128, g255, h372]
                        have h377 := Rn_some hF376
                        have h378 := hΦ _ h377
                        subst h378
                        try simp [-List.map_set, go_sem, h1, h128, g255, h372]
                      · have hF379 := Rn_f hF366 h372
                        try simp [-List.map_set, go_sem, h1, h128, g255, h372]
                        have h380 := Rn_some hF379
                        have h381 := hΦ _ h380
                        subst h381
                        try simp [-List.map_set, go_sem, h1, h128, g255, h372]
                    · intro ψ363 hj361 hF364
                      try simp [-List.map_set, go_sem, h1, h128, g255]
                      refine pwg_split (fun h367 => ?_) (fun h367 => ?_)
                      · have hF368 := Rn_t hF364 h367
                        try simp [-List.map_set, go_sem, h1, h128, g255, h367]
                        have h369 := Rn_some hF368
                        exact hj361 (decide ((IntKind.i64.wrap ((IntKind.i64.wrap ((IntKind.i64.wrap ((IntKind.u64.wrap (IntKind.i64.wrap (a1 + a3))).fdiv 2)) + a2)) - x271)) < a3)) _ (by simp [-List.map_set, go_sem, h1, h128, g255, h367]) h369
                      · have hF370 := Rn_f hF364 h367
                        try simp [-List.map_set, go_sem, h1, h128, g255, h367]
                        have h371 := Rn_some hF370
                        exact hj361 false _ (by simp [-List.map_set, go_sem, h1, h128, g255, h367]) h371
                  · intro ψ349 hj347 hF350
                    repeat rw [pw_seq]
                    refine pw_cond' (v := x340) (by simp [-List.map_set, go_sem, h1, h128, g255]) (fun h353 => ?_) (fun h353 => ?_)
                    · have hF354 := Rn_t hF350 h353
                      obtain ⟨z355, e356, hF357⟩ := Rn_bind hF354
                      try simp [-List.map_set, go_sem, h1, h128, g255, h353]
                      refine pw_callE [.io, .sh, .sh, .sh, .sh] rfl rfl (by (try simp [-List.map_set, go_sem, clE, h1, h128, g255, h353]); first | rfl | done) (by rfl) (ih e356) (by (try simp [-List.map_set, go_sem, h1, h128, g255, h353]); first | rfl | done) (fun r0 os0 ho0 => ?_)
                      obtain ⟨ho1, ho2⟩ := ho0
                      subst ho1
                      subst ho2
                      refine ⟨by simp [-List.map_set, go_sem, h1, h128, g255, h353], ?_⟩
                      try simp [-List.map_set, go_sem, h1, h128, g255, h353]
                      have h358 := Rn_some hF357
                      exact hj347 z355 _ (by simp [-List.map_set, go_sem, h1, h128, g255, h353]) h358
                    · have hF359 := Rn_f hF350 h353
                      try simp [-List.map_set, go_sem, h1, h128, g255, h353]
                      have h360 := Rn_some hF359
                      exact hj347 x326 _ (by simp [-List.map_set, go_sem, h1, h128, g255, h353]) h360
                · intro ψ338 hj336 hF339
                  try simp [-List.map_set, go_sem, h1, h128, g255]
                  refine pwg_split (fun h342 => ?_) (fun h342 => ?_)
                  · have hF343 := Rn_t hF339 h342
                    try simp [-List.map_set, go_sem, h1, h128, g255, h342]
                    have h344 := Rn_some hF343
                    exact hj336 (decide (x271 < (IntKind.i64.wrap ((IntKind.u64.wrap (IntKind.i64.wrap (a1 + a3))).fdiv 2)))) _ (by simp [-List.map_set, go_sem, h1, h128, g255, h342]) h344
                  · have hF345 := Rn_f hF339 h342
                    try simp [-List.map_set, go_sem, h1, h128, g255, h342]
                    have h346 := Rn_some hF345
                    exact hj336 false _ (by simp [-List.map_set, go_sem, h1, h128, g255, h342]) h346
              · intro ψ324 hj322 hF325
                repeat rw [pw_seq]
                refine pw_cond' (v := x315) (by simp [-List.map_set, go_sem, h1, h128, g255]) (fun h328 => ?_) (fun h328 => ?_)
                · have hF329 := Rn_t hF325 h328
                  obtain ⟨z330, e331, hF332⟩ := Rn_bind hF329
                  try simp [-List.map_set, go_sem, h1, h128, g255, h328]
                  refine pw_callE [.io, .sh, .sh, .sh, .sh] rfl rfl (by (try simp [-List.map_set, go_sem, clE, h1, h128, g255, h328]); first | rfl | done) (by rfl) (c_slices_rotateCmpFunc_impl_ViewCount__io0_impl_gathered_1 e331) (by (try simp [-List.map_set, go_sem, h1, h128, g255, h328]); first | rfl | done) (fun r0 os0 ho0 => ?_)
                  obtain ⟨ho1, ho2⟩ := ho0
                  subst ho1
                  subst ho2
                  refine ⟨by simp [-List.map_set, go_sem, h1, h128, g255, h328], ?_⟩
                  try simp [-List.map_set, go_sem, h1, h128, g255, h328]
                  have h333 := Rn_some hF332
                  exact hj322 z330 _ (by simp [-List.map_set, go_sem, h1, h128, g255, h328]) h333
                · have hF334 := Rn_f hF325 h328
                  try simp [-List.map_set, go_sem, h1, h128, g255, h328]
                  have h335 := Rn_some hF334
                  exact hj322 a0 _ (by simp [-List.map_set, go_sem, h1, h128, g255, h328]) h335
            · intro ψ313 hj311 hF314
              try simp [-List.map_set, go_sem, h1, h128, g255]
              refine pwg_split (fun h317 => ?_) (fun h317 => ?_)
              · have hF318 := Rn_t hF314 h317
                try simp [-List.map_set, go_sem, h1, h128, g255, h317]
                have h319 := Rn_some hF318
                exact hj311 (decide (a2 < (IntKind.i64.wrap ((IntKind.i64.wrap ((IntKind.i64.wrap ((IntKind.u64.wrap (IntKind.i64.wrap (a1 + a3))).fdiv 2)) + a2)) - x271)))) _ (by simp [-List.map_set, go_sem, h1, h128, g255, h317]) h319
              · have hF320 := Rn_f hF314 h317
                try simp [-List.map_set, go_sem, h1, h128, g255, h317]
                have h321 := Rn_some hF320
                exact hj311 false _ (by simp [-List.map_set, go_sem, h1, h128, g255, h317]) h321
          · intro ψ269 hj267 hF270
            repeat rw [pw_seq]
            rw [pw_block]
            try simp [-List.map_set, go_sem]
            obtain ⟨b309, hb310, hψ277⟩ := hF270
            refine pw_wloop (fun (s273 : Int × Int) => [(0, .v (.sl true 2 (a0.map row_ViewCount_z))), (1, .v (.int .i64 a1)), (2, .v (.int .i64 a2)), (3, .v (.int .i64 a3)), (4, .v (.func (.func 109) [] [])), (18, .v (.int .i64 (IntKind.i64.wrap ((IntKind.u64.wrap (IntKind.i64.wrap (a1 + a3))).fdiv 2)))), (19, .v (.int .i64 (IntKind.i64.wrap ((IntKind.i64.wrap ((IntKind.u64.wrap (IntKind.i64.wrap (a1 + a3))).fdiv 2)) + a2)))), (20, .v (.int .i64 s273.1)), (21, .v (.int .i64 s273.2)), (22, .v (.int .i64 (IntKind.i64.wrap ((IntKind.i64.wrap ((IntKind.i64.wrap ((IntKind.u64.wrap (IntKind.i64.wrap (a1 + a3))).fdiv 2)) + a2)) - 1))))]) hb310 (by simp [-List.map_set, go_sem, h1, h128, g255]) ?_
            intro s273 φ278 N279 ho275 hg276 hF280
            try dsimp only at hF280
            try simp [-List.map_set, go_sem, h1, h128, g255]
            refine pw_wkL [(0, .v (.sl true 2 (a0.map row_ViewCount_z))), (1, .v (.int .i64 a1)), (2, .v (.int .i64 a2)), (3, .v (.int .i64 a3)), (4, .v (.func (.func 109) [] [])), (18, .v (.int .i64 (IntKind.i64.wrap ((IntKind.u64.wrap (IntKind.i64.wrap (a1 + a3))).fdiv 2)))), (19, .v (.int .i64 (IntKind.i64.wrap ((IntKind.i64.wrap ((IntKind.u64.wrap (IntKind.i64.wrap (a1 + a3))).fdiv 2)) + a2)))), (20, .v (.int .i64 s273.1)), (21, .v (.int .i64 s273.2)), (22, .v (.int .i64 (IntKind.i64.wrap ((IntKind.i64.wrap ((IntKind.i64.wrap ((IntKind.u64.wrap (IntKind.i64.wrap (a1 + a3))).fdiv 2)) + a2)) - 1)))), (151, .v (.bool (decide (s273.1 < s273.2))))] (by simp [-List.map_set, go_sem, h1, h128, g255]) ?_
            repeat rw [pw_seq]
            refine pw_cond' (v := decide (s273.1 < s273.2)) (by simp [-List.map_set, go_sem, h1, h128, g255]) (fun h281 => ?_) (fun h281 => ?_)
            · have hF282 := Rn_t hF280 h281
              try simp [-List.map_set, go_sem, h1, h128, g255, h281]
              refine pw_wkL [(0, .v (.sl true 2 (a0.map row_ViewCount_z))), (1, .v (.int .i64 a1)), (2, .v (.int .i64 a2)), (3, .v (.int .i64 a3)), (4, .v (.func (.func 109) [] [])), (18, .v (.int .i64 (IntKind.i64.wrap ((IntKind.u64.wrap (IntKind.i64.wrap (a1 + a3))).fdiv 2)))), (19, .v (.int .i64 (IntKind.i64.wrap ((IntKind.i64.wrap ((IntKind.u64.wrap (IntKind.i64.wrap (a1 + a3))).fdiv 2)) + a2)))), (20, .v (.int .i64 s273.1)), (21, .v (.int .i64 s273.2)), (22, .v (.int .i64 (IntKind.i64.wrap ((IntKind.i64.wrap ((IntKind.i64.wrap ((IntKind.u64.wrap (IntKind.i64.wrap (a1 + a3))).fdiv 2)) + a2)) - 1))))] (by simp [-List.map_set, go_sem, h1, h128, g255, h281]) ?_
              repeat rw [pw_seq]
              rw [pw_block]
              have g283 := fun x => shV0_ge (b := 1) (x := x) (by decide)
              try simp [-List.map_set, go_sem, h1, h128, g255, h281, g283]
              refine pw_wkL [(0, .v (.sl true 2 (a0.map row_ViewCount_z))), (1, .v (.int .i64 a1)), (2, .v (.int .i64 a2)), (3, .v (.int .i64 a3)), (4, .v (.func (.func 109) [] [])), (18, .v (.int .i64 (IntKind.i64.wrap ((IntKind.u64.wrap (IntKind.i64.wrap (a1 + a3))).fdiv 2)))), (19, .v (.int .i64 (IntKind.i64.wrap ((IntKind.i64.wrap ((IntKind.u64.wrap (IntKind.i64.wrap (a1 + a3))).fdiv 2)) + a2)))), (20, .v (.int .i64 s273.1)), (21, .v (.int .i64 s273.2)), (22, .v (.int .i64 (IntKind.i64.wrap ((IntKind.i64.wrap ((IntKind.i64.wrap ((IntKind.u64.wrap (IntKind.i64.wrap (a1 + a3))).fdiv 2)) + a2)) - 1)))), (23, .v (.int .i64 (IntKind.i64.wrap ((IntKind.u64.wrap (IntKind.i64.wrap (s273.1 + s273.2))).fdiv 2))))] (by simp [-List.map_set, go_sem, h1, h128, g255, h281, g283]) ?_
              repeat rw [pw_seq]
              refine pw_draw D124_35 follows (by kernel_rfl) rfl ?_
              try simp only [go_sem, D124_35]
              obtain ⟨x284, e285, hF286⟩ := Rn_bind hF282
              obtain ⟨g287, g288, g289⟩ := ix_some e285
              have g290 := ix_get e285
              try simp only [Int.toNat_natCast, Int.toNat_zero, Int.toNat_one, Int.reduceToNat] at g289 g290
              obtain ⟨x291, e292, hF293⟩ := Rn_bind hF286
              obtain ⟨g294, g295, g296⟩ := ix_some e292
              have g297 := ix_get e292
              try simp only [Int.toNat_natCast, Int.toNat_zero, Int.toNat_one, Int.reduceToNat] at g296 g297
              obtain ⟨z298, e299, hF300⟩ := Rn_bind hF293
              try simp [-List.map_set, go_sem, h1, h128, g255, h281, g283, g287, g288, g289, g290, g294, g295, g296, g297]
              refine pw_callE [.sh, .sh] rfl rfl (by (try simp [-List.map_set, go_sem, clE, h1, h128, g255, h281, g283, g287, g288, g289, g290, g294, g295, g296, g297]); first | rfl | done) (by rfl) (c_impl_gathered_1 e299) (by (try simp [-List.map_set, go_sem, h1, h128, g255, h281, g283, g287, g288, g289, g290, g294, g295, g296, g297]); first | rfl | done) (fun r0 os0 ho0 => ?_)
              obtain ⟨ho1, ho2⟩ := ho0
              subst ho1
              subst ho2
              refine ⟨by simp [-List.map_set, go_sem, h1, h128, g255, h281, g283, g287, g288, g289, g290, g294, g295, g296, g297], ?_⟩
              try simp [-List.map_set, go_sem, h1, h128, g255, h281, g283, g287, g288, g289, g290, g294, g295, g296, g297]
              refine pw_wkL [(0, .v (.sl true 2 (a0.map row_ViewCount_z))), (1, .v (.int .i64 a1)), (2, .v (.int .i64 a2)), (3, .v (.int .i64 a3)), (4, .v (.func (.func 109) [] [])), (18, .v (.int .i64 (IntKind.i64.wrap ((IntKind.u64.wrap (IntKind.i64.wrap (a1 + a3))).fdiv 2)))), (19, .v (.int .i64 (IntKind.i64.wrap ((IntKind.i64.wrap ((IntKind.u64.wrap (IntKind.i64.wrap (a1 + a3))).fdiv 2)) + a2)))), (20, .v (.int .i64 s273.1)), (21, .v (.int .i64 s273.2)), (22, .v (.int .i64 (IntKind.i64.wrap ((IntKind.i64.wrap ((IntKind.i64.wrap ((IntKind.u64.wrap (IntKind.i64.wrap (a1 + a3))).fdiv 2)) + a2)) - 1)))), (23, .v (.int .i64 (IntKind.i64.wrap ((IntKind.u64.wrap (IntKind.i64.wrap (s273.1 + s273.2))).fdiv 2)))), (171, .v (.bool (!(decide (z298 < 0)))))] (by simp [-List.map_set, go_sem, h1, h128, g255, h281, g283, g287, g288, g289, g290, g294, g295, g296, g297]) ?_
              repeat rw [pw_seq]
              refine pw_cond' (v := (!(decide (z298 < 0)))) (by simp [-List.map_set, go_sem, h1, h128, g255, h281, g283, g287, g288, g289, g290, g294, g295, g296, g297]) (fun h301 => ?_) (fun h301 => ?_)
              · have hF302 := Rn_t hF300 h301
                try simp [-List.map_set, go_sem, h1, h128, g255, h281, g283, g287, g288, g289, g290, g294, g295, g296, g297, h301]
                have h303 := Rn_some hF302
                exact hg276 (IntKind.i64.wrap ((IntKind.i64.wrap ((IntKind.u64.wrap (IntKind.i64.wrap (s273.1 + s273.2))).fdiv 2)) + 1), s273.2) _ (by simp [-List.map_set, go_sem, h1, h128, g255, h281, g283, g287, g288, g289, g290, g294, g295, g296, g297, h301]) h303
              · have hF304 := Rn_f hF300 h301
                try simp [-List.map_set, go_sem, h1, h128, g255, h281, g283, g287, g288, g289, g290, g294, g295, g296, g297, h301]
                have h305 := Rn_some hF304
                exact hg276 (s273.1, IntKind.i64.wrap ((IntKind.u64.wrap (IntKind.i64.wrap (s273.1 + s273.2))).fdiv 2)) _ (by simp [-List.map_set, go_sem, h1, h128, g255, h281, g283, g287, g288, g289, g290, g294, g295, g296, g297, h301]) h305
            · have hF306 := Rn_f hF280 h281
              try simp [-List.map_set, go_sem, h1, h128, g255, h281]
              have h307 := Rn_some hF306
              have h308 := ho275 _ h307
              subst h308
              exact hj267 s273.1 _ (by simp [-List.map_set, go_sem, h1, h128, g255, h281]) hψ277
        · intro ψ258 hj256 hF259
          repeat rw [pw_seq]
          refine pw_cond' (v := decide ((IntKind.i64.wrap ((IntKind.u64.wrap (IntKind.i64.wrap (a1 + a3))).fdiv 2)) < a2)) (by simp [-List.map_set, go_sem, h1, h128, g255]) (fun h262 => ?_) (fun h262 => ?_)
          · have hF263 := Rn_t hF259 h262
            try simp [-List.map_set, go_sem, h1, h128, g255, h262]
            refine pw_wkL [(0, .v (.sl true 2 (a0.map row_ViewCount_z))), (1, .v (.int .i64 a1)), (2, .v (.int .i64 a2)), (3, .v (.int .i64 a3)), (4, .v (.func (.func 109) [] [])), (18, .v (.int .i64 (IntKind.i64.wrap ((IntKind.u64.wrap (IntKind.i64.wrap (a1 + a3))).fdiv 2)))), (19, .v (.int .i64 (IntKind.i64.wrap ((IntKind.i64.wrap ((IntKind.u64.wrap (IntKind.i64.wrap (a1 + a3))).fdiv 2)) + a2)))), (20, .v (.int .i64 (IntKind.i64.wrap ((IntKind.i64.wrap ((IntKind.i64.wrap ((IntKind.u64.wrap (IntKind.i64.wrap (a1 + a3))).fdiv 2)) + a2)) - a3))))] (by simp [-List.map_set, go_sem, h1, h128, g255, h262]) ?_
            try simp [-List.map_set, go_sem, h1, h128, g255, h262]
            have h264 := Rn_some hF263
            exact hj256 (IntKind.i64.wrap ((IntKind.i64.wrap ((IntKind.i64.wrap ((IntKind.u64.wrap (IntKind.i64.wrap (a1 + a3))).fdiv 2)) + a2)) - a3), IntKind.i64.wrap ((IntKind.u64.wrap (IntKind.i64.wrap (a1 + a3))).fdiv 2)) _ (by simp [-List.map_set, go_sem, h1, h128, g255, h262]) h264
          · have hF265 := Rn_f hF259 h262
            try simp [-List.map_set, go_sem, h1, h128, g255, h262]
            refine pw_wkL [(0, .v (.sl true 2 (a0.map row_ViewCount_z))), (1, .v (.int .i64 a1)), (2, .v (.int .i64 a2)), (3, .v (.int .i64 a3)), (4, .v (.func (.func 109) [] [])), (18, .v (.int .i64 (IntKind.i64.wrap ((IntKind.u64.wrap (IntKind.i64.wrap (a1 + a3))).fdiv 2)))), (19, .v (.int .i64 (IntKind.i64.wrap ((IntKind.i64.wrap ((IntKind.u64.wrap (IntKind.i64.wrap (a1 + a3))).fdiv 2)) + a2)))), (20, .v (.int .i64 a1))] (by simp [-List.map_set, go_sem, h1, h128, g255, h262]) ?_
            try simp [-List.map_set, go_sem, h1, h128, g255, h262]
            have h266 := Rn_some hF265
            exact hj256 (a1, a2) _ (by simp [-List.map_set, go_sem, h1, h128, g255, h262]) h266
theorem c_slices_symMergeCmpFunc_impl_ViewCount__io0_impl_gathered_1 {a0 : (List ViewCount)} {a1 : Int} {a2 : Int} {a3 : Int} {r : (List ViewCount)} (hr : F_slices_symMergeCmpFunc_impl_ViewCount__io0_impl_gathered_1 a0 a1 a2 a3 = some r) : PCalls Try.prog 124 [(.io, .sl true 2 (a0.map row_ViewCount_z)), (.sh, .int .i64 a1), (.sh, .int .i64 a2), (.sh, .int .i64 a3), (.sh, .func (.func 109) [] [])] (fun o os => o = .junk ∧ os = [.sl true 2 (r.map row_ViewCount_z), .junk, .junk, .junk, .junk]) := by
  obtain ⟨n_, hn⟩ := frec_some hr
  exact c_slices_symMergeCmpFunc_impl_ViewCount__io0_impl_gathered_1_r hn
noncomputable def F_slices_stableCmpFunc_impl_ViewCount__io0_impl_gathered_1 (a0 : (List ViewCount)) (a1 : Int) : Option ((List ViewCount)) :=
  ((wloop (σ := (List ViewCount) × Int × Int) (β := ((List ViewCount) × Int)) (fun s24 =>
  if decide (s24.2.2 ≤ a1) = true then (
  (F_slices_insertionSortCmpFunc_impl_ViewCount__io0_impl_gathered_1 s24.1 s24.2.1 s24.2.2).bind fun z34 =>
  some (.go (z34, s24.2.2, IntKind.i64.wrap (s24.2.2 + 20)))) else (
  some (.out (s24.1, s24.2.1)))) (a0, 0, 20) : Option (((List ViewCount) × Int))).bind fun (x5 : (List ViewCount) × Int) =>
  (F_slices_insertionSortCmpFunc_impl_ViewCount__io0_impl_gathered_1 x5.1 x5.2 a1).bind fun z43 =>
  wloop (σ := (List ViewCount) × Int) (β := (List ViewCount)) (fun s117 =>
  if decide (s117.2 < a1) = true then (
  ((wloop (σ := (List ViewCount) × Int × Int) (β := ((List ViewCount) × Int)) (fun s150 =>
  if decide (s150.2.2 ≤ a1) = true then (
  (F_slices_symMergeCmpFunc_impl_ViewCount__io0_impl_gathered_1 s150.1 s150.2.1 (IntKind.i64.wrap (s150.2.1 + s117.2)) s150.2.2).bind fun z160 =>
  some (.go (z160, s150.2.2, IntKind.i64.wrap (s150.2.2 + (IntKind.i64.wrap (2 * s117.2)))))) else (
  some (.out (s150.1, s150.2.1)))) (s117.1, 0, IntKind.i64.wrap (2 * s117.2)) : Option (((List ViewCount) × Int))).bind fun (x131 : (List ViewCount) × Int) =>
  ((if decide ((IntKind.i64.wrap (x131.2 + s117.2)) < a1) = true then (
  (F_slices_symMergeCmpFunc_impl_ViewCount__io0_impl_gathered_1 x131.1 x131.2 (IntKind.i64.wrap (x131.2 + s117.2)) a1).bind fun z177 =>
  some z177) else (
  some x131.1) : Option ((List ViewCount))).bind fun (x173 : (List ViewCount)) =>
  some (.go (x173, IntKind.i64.wrap (s117.2 * 2)))))) else (
  some (.out s117.1))) (z43, 20))
theorem c_slices_stableCmpFunc_impl_ViewCount__io0_impl_gathered_1 {a0 : (List ViewCount)} {a1 : Int} {r : (List ViewCount)} (hr : F_slices_stableCmpFunc_impl_ViewCount__io0_impl_gathered_1 a0 a1 = some r) : PCalls Try.prog 120 [(.io, .sl true 2 (a0.map row_ViewCount_z)), (.sh, .int .i64 a1), (.sh, .func (.func 109) [] [])] (fun o os => o = .junk ∧ os = [.sl true 2 (r.map row_ViewCount_z), .junk, .junk]) := by
  refine pcalls_lift (R := fun (r : (List ViewCount)) o os => o = .junk ∧ os = [.sl true 2 (r.map row_ViewCount_z), .junk, .junk]) [] [] hr cl120 Try.func120 rfl (by simp [Try.f120]) fun Φ hΦ hF => ?_
  unfold F_slices_stableCmpFunc_impl_ViewCount__io0_impl_gathered_1 at hF
  simp only [Try.f120, ioL_nil, ioL_sh, ioL_mv, ioL_io]
  try simp [-List.map_set, go_sem]
  refine pw_wkL [(0, .v (.sl true 2 (a0.map row_ViewCount_z))), (1, .v (.int .i64 a1)), (2, .v (.func (.func 109) [] [])), (6, .v (.int .i64 20))] (by simp [-List.map_set, go_sem]) ?_
  try simp [-List.map_set, go_sem]
  refine pw_wkL [(0, .v (.sl true 2 (a0.map row_ViewCount_z))), (1, .v (.int .i64 a1)), (2, .v (.func (.func 109) [] [])), (6, .v (.int .i64 20)), (7, .v (.int .i64 0)), (8, .v (.int .i64 20))] (by simp [-List.map_set, go_sem]) ?_
  repeat rw [pw_seq]
  refine pw_joinF (fun (x5 : (List ViewCount) × Int) => [(0, .v (.sl true 2 (x5.1.map row_ViewCount_z))), (1, .v (.int .i64 a1)), (2, .v (.func (.func 109) [] [])), (6, .v (.int .i64 20)), (7, .v (.int .i64 x5.2))]) hF ?_ ?_
  · intro x5 hF6
    try dsimp only at hF6
    obtain ⟨z43, e44, hF45⟩ := Rn_bind hF6
    try simp [-List.map_set, go_sem]
    refine pw_callE [.io, .sh, .sh, .sh] rfl rfl (by (try simp [-List.map_set, go_sem, clE]); first | rfl | done) (by rfl) (c_slices_insertionSortCmpFunc_impl_ViewCount__io0_impl_gathered_1 e44) (by (try simp [-List.map_set, go_sem]); first | rfl | done) (fun r0 os0 ho0 => ?_)
    obtain ⟨ho1, ho2⟩ := ho0
    subst ho1
    subst ho2
    refine ⟨by simp [-List.map_set, go_sem], ?_⟩
    try simp [-List.map_set, go_sem]
    refine pw_wkL [(0, .v (.sl true 2 (z43.map row_ViewCount_z))), (1, .v (.int .i64 a1)), (2, .v (.func (.func 109) [] [])), (6, .v (.int .i64 20))] (by simp [-List.map_set, go_sem]) ?_
    repeat rw [pw_seq]
    rw [pw_block]
    try simp [-List.map_set, go_sem]
    obtain ⟨b188, hb189, hψ121⟩ := hF45
    refine pw_wloop (fun (s117 : (List ViewCount) × Int) => [(0, .v (.sl true 2 (s117.1.map row_ViewCount_z))), (1, .v (.int .i64 a1)), (2, .v (.func (.func 109) [] [])), (6, .v (.int .i64 s117.2))]) hb189 (by simp [-List.map_set, go_sem]) ?_
    intro s117 φ122 N123 ho119 hg120 hF124
    try dsimp only at hF124
    try simp [-List.map_set, go_sem]
    refine pw_wkL [(0, .v (.sl true 2 (s117.1.map row_ViewCount_z))), (1, .v (.int .i64 a1)), (2, .v (.func (.func 109) [] [])), (6, .v (.int .i64 s117.2)), (30, .v (.bool (decide (s117.2 < a1))))] (by simp [-List.map_set, go_sem]) ?_
    repeat rw [pw_seq]
    refine pw_cond' (v := decide (s117.2 < a1)) (by simp [-List.map_set, go_sem]) (fun h125 => ?_) (fun h125 => ?_)
    · have hF126 := Rn_t hF124 h125
      try simp [-List.map_set, go_sem, h125]
      refine pw_wkL [(0, .v (.sl true 2 (s117.1.map row_ViewCount_z))), (1, .v (.int .i64 a1)), (2, .v (.func (.func 109) [] [])), (6, .v (.int .i64 s117.2))] (by simp [-List.map_set, go_sem, h125]) ?_
      repeat rw [pw_seq]
      rw [pw_block]
      try simp [-List.map_set, go_sem, h125]
      refine pw_wkL [(0, .v (.sl true 2 (s117.1.map row_ViewCount_z))), (1, .v (.int .i64 a1)), (2, .v (.func (.func 109) [] [])), (6, .v (.int .i64 s117.2)), (7, .v (.int .i64 0)), (8, .v (.int .i64 (IntKind.i64.wrap (2 * s117.2))))] (by simp [-List.map_set, go_sem, h125]) ?_
      repeat rw [pw_seq]
      refine pw_joinF (fun (x131 : (List ViewCount) × Int) => [(0, .v (.sl true 2 (x131.1.map row_ViewCount_z))), (1, .v (.int .i64 a1)), (2, .v (.func (.func 109) [] [])), (6, .v (.int .i64 s117.2)), (7, .v (.int .i64 x131.2))]) hF126 ?_ ?_
      · intro x131 hF132
        try dsimp only at hF132
        try simp [-List.map_set, go_sem, h125]
        refine pw_wkL [(0, .v (.sl true 2 (x131.1.map row_ViewCount_z))), (1, .v (.int .i64 a1)), (2, .v (.func (.func 109) [] [])), (6, .v (.int .i64 s117.2)), (7, .v (.int .i64 x131.2)), (9, .v (.int .i64 (IntKind.i64.wrap (x131.2 + s117.2))))] (by simp [-List.map_set, go_sem, h125]) ?_
        try simp [-List.map_set, go_sem, h125]
        refine pw_wkL [(0, .v (.sl true 2 (x131.1.map row_ViewCount_z))), (1, .v (.int .i64 a1)), (2, .v (.func (.func 109) [] [])), (6, .v (.int .i64 s117.2)), (7, .v (.int .i64 x131.2)), (9, .v (.int .i64 (IntKind.i64.wrap (x131.2 + s117.2)))), (54, .v (.bool (decide ((IntKind.i64.wrap (x131.2 + s117.2)) < a1))))] (by simp [-List.map_set, go_sem, h125]) ?_
        repeat rw [pw_seq]
        refine pw_joinF (fun (x173 : (List ViewCount)) => [(0, .v (.sl true 2 (x173.map row_ViewCount_z))), (1, .v (.int .i64 a1)), (2, .v (.func (.func 109) [] [])), (6, .v (.int .i64 s117.2))]) hF132 ?_ ?_
        · intro x173 hF174
          try dsimp only at hF174
          try simp [-List.map_set, go_sem, h125]
          have h183 := Rn_some hF174
          exact hg120 (x173, IntKind.i64.wrap (s117.2 * 2)) _ (by simp [-List.map_set, go_sem, h125]) h183
        · intro ψ171 hj169 hF172
          repeat rw [pw_seq]
          refine pw_cond' (v := decide ((IntKind.i64.wrap (x131.2 + s117.2)) < a1)) (by simp [-List.map_set, go_sem, h125]) (fun h175 => ?_) (fun h175 => ?_)
          · have hF176 := Rn_t hF172 h175
            obtain ⟨z177, e178, hF179⟩ := Rn_bind hF176
            try simp [-List.map_set, go_sem, h125, h175]
            refine pw_callE [.io, .sh, .sh, .sh, .sh] rfl rfl (by (try simp [-List.map_set, go_sem, clE, h125, h175]); first | rfl | done) (by rfl) (c_slices_symMergeCmpFunc_impl_ViewCount__io0_impl_gathered_1 e178) (by (try simp [-List.map_set, go_sem, h125, h175]); first | rfl | done) (fun r0 os0 ho0 => ?_)
            obtain ⟨ho1, ho2⟩ := ho0
            subst ho1
            subst ho2
            refine ⟨by simp [-List.map_set, go_sem, h125, h175], ?_⟩
            try simp [-List.map_set, go_sem, h125, h175]
            have h180 := Rn_some hF179
            exact hj169 z177 _ (by simp [-List.map_set, go_sem, h125, h175]) h180
          · have hF181 := Rn_f hF172 h175
            try simp [-List.map_set, go_sem, h125, h175]
            have h182 := Rn_some hF181
            exact hj169 x131.1 _ (by simp [-List.map_set, go_sem, h125, h175]) h182
      · intro ψ129 hj127 hF130
        repeat rw [pw_seq]
        rw [pw_block]
        try simp [-List.map_set, go_sem]
        obtain ⟨b167, hb168, hψ154⟩ := hF130
        refine pw_wloop (fun (s150 : (List ViewCount) × Int × Int) => [(0, .v (.sl true 2 (s150.1.map row_ViewCount_z))), (1, .v (.int .i64 a1)), (2, .v (.func (.func 109) [] [])), (6, .v (.int .i64 s117.2)), (7, .v (.int .i64 s150.2.1)), (8, .v (.int .i64 s150.2.2))]) hb168 (by simp [-List.map_set, go_sem, h125]) ?_
        intro s150 φ155 N156 ho152 hg153 hF157
        try dsimp only at hF157
        try simp [-List.map_set, go_sem, h125]
        refine pw_wkL [(0, .v (.sl true 2 (s150.1.map row_ViewCount_z))), (1, .v (.int .i64 a1)), (2, .v (.func (.func 109) [] [])), (6, .v (.int .i64 s117.2)), (7, .v (.int .i64 s150.2.1)), (8, .v (.int .i64 s150.2.2)), (35, .v (.bool (decide (s150.2.2 ≤ a1))))] (by simp [-List.map_set, go_sem, h125]) ?_
        repeat rw [pw_seq]
        refine pw_cond' (v := decide (s150.2.2 ≤ a1)) (by simp [-List.map_set, go_sem, h125]) (fun h158 => ?_) (fun h158 => ?_)
        · have hF159 := Rn_t hF157 h158
          try simp [-List.map_set, go_sem, h125, h158]
          refine pw_wkL [(0, .v (.sl true 2 (s150.1.map row_ViewCount_z))), (1, .v (.int .i64 a1)), (2, .v (.func (.func 109) [] [])), (6, .v (.int .i64 s117.2)), (7, .v (.int .i64 s150.2.1)), (8, .v (.int .i64 s150.2.2))] (by simp [-List.map_set, go_sem, h125, h158]) ?_
          repeat rw [pw_seq]
          rw [pw_block]
          obtain ⟨z160, e161, hF162⟩ := Rn_bind hF159
          try simp [-List.map_set, go_sem, h125, h158]
          refine pw_callE [.io, .sh, .sh, .sh, .sh] rfl rfl (by (try simp [-List.map_set, go_sem, clE, h125, h158]); first | rfl | done) (by rfl) (c_slices_symMergeCmpFunc_impl_ViewCount__io0_impl_gathered_1 e161) (by (try simp [-List.map_set, go_sem, h125, h158]); first | rfl | done) (fun r0 os0 ho0 => ?_)
          obtain ⟨ho1, ho2⟩ := ho0
          subst ho1
          subst ho2
          refine ⟨by simp [-List.map_set, go_sem, h125, h158], ?_⟩
          try simp [-List.map_set, go_sem, h125, h158]
          refine pw_wkL [(0, .v (.sl true 2 (z160.map row_ViewCount_z))), (1, .v (.int .i64 a1)), (2, .v (.func (.func 109) [] [])), (6, .v (.int .i64 s117.2)), (8, .v (.int .i64 s150.2.2))] (by simp [-List.map_set, go_sem, h125, h158]) ?_
          try simp [-List.map_set, go_sem, h125, h158]
          refine pw_wkL [(0, .v (.sl true 2 (z160.map row_ViewCount_z))), (1, .v (.int .i64 a1)), (2, .v (.func (.func 109) [] [])), (6, .v (.int .i64 s117.2)), (7, .v (.int .i64 s150.2.2)), (8, .v (.int .i64 s150.2.2))] (by simp [-List.map_set, go_sem, h125, h158]) ?_
          try simp [-List.map_set, go_sem, h125, h158]
          have h163 := Rn_some hF162
          exact hg153 (z160, s150.2.2, IntKind.i64.wrap (s150.2.2 + (IntKind.i64.wrap (2 * s117.2)))) _ (by simp [-List.map_set, go_sem, h125, h158]) h163
        · have hF164 := Rn_f hF157 h158
          try simp [-List.map_set, go_sem, h125, h158]
          have h165 := Rn_some hF164
          have h166 := ho152 _ h165
          subst h166
          exact hj127 (s150.1, s150.2.1) _ (by simp [-List.map_set, go_sem, h125, h158]) hψ154
    · have hF184 := Rn_f hF124 h125
      try simp [-List.map_set, go_sem, h125]
      have h185 := Rn_some hF184
      have h186 := ho119 _ h185
      subst h186
      have h187 := hΦ _ hψ121
      subst h187
      try simp [-List.map_set, go_sem, h125]
  · intro ψ3 hj1 hF4
    repeat rw [pw_seq]
    rw [pw_block]
    try simp [-List.map_set, go_sem]
    obtain ⟨b41, hb42, hψ28⟩ := hF4
    refine pw_wloop (fun (s24 : (List ViewCount) × Int × Int) => [(0, .v (.sl true 2 (s24.1.map row_ViewCount_z))), (1, .v (.int .i64 a1)), (2, .v (.func (.func 109) [] [])), (6, .v (.int .i64 20)), (7, .v (.int .i64 s24.2.1)), (8, .v (.int .i64 s24.2.2))]) hb42 (by simp [-List.map_set, go_sem]) ?_
    intro s24 φ29 N30 ho26 hg27 hF31
    try dsimp only at hF31
    try simp [-List.map_set, go_sem]
    refine pw_wkL [(0, .v (.sl true 2 (s24.1.map row_ViewCount_z))), (1, .v (.int .i64 a1)), (2, .v (.func (.func 109) [] [])), (6, .v (.int .i64 20)), (7, .v (.int .i64 s24.2.1)), (8, .v (.int .i64 s24.2.2)), (13, .v (.bool (decide (s24.2.2 ≤ a1))))] (by simp [-List.map_set, go_sem]) ?_
    repeat rw [pw_seq]
    refine pw_cond' (v := decide (s24.2.2 ≤ a1)) (by simp [-List.map_set, go_sem]) (fun h32 => ?_) (fun h32 => ?_)
    · have hF33 := Rn_t hF31 h32
      try simp [-List.map_set, go_sem, h32]
      refine pw_wkL [(0, .v (.sl true 2 (s24.1.map row_ViewCount_z))), (1, .v (.int .i64 a1)), (2, .v (.func (.func 109) [] [])), (6, .v (.int .i64 20)), (7, .v (.int .i64 s24.2.1)), (8, .v (.int .i64 s24.2.2))] (by simp [-List.map_set, go_sem, h32]) ?_
      repeat rw [pw_seq]
      rw [pw_block]
      obtain ⟨z34, e35, hF36⟩ := Rn_bind hF33
      try simp [-List.map_set, go_sem, h32]
      refine pw_callE [.io, .sh, .sh, .sh] rfl rfl (by (try simp [-List.map_set, go_sem, clE, h32]); first | rfl | done) (by rfl) (c_slices_insertionSortCmpFunc_impl_ViewCount__io0_impl_gathered_1 e35) (by (try simp [-List.map_set, go_sem, h32]); first | rfl | done) (fun r0 os0 ho0 => ?_)
      obtain ⟨ho1, ho2⟩ := ho0
      subst ho1
      subst ho2
      refine ⟨by simp [-List.map_set, go_sem, h32], ?_⟩
      try simp [-List.map_set, go_sem, h32]
      refine pw_wkL [(0, .v (.sl true 2 (z34.map row_ViewCount_z))), (1, .v (.int .i64 a1)), (2, .v (.func (.func 109) [] [])), (6, .v (.int .i64 20)), (8, .v (.int .i64 s24.2.2))] (by simp [-List.map_set, go_sem, h32]) ?_
      try simp [-List.map_set, go_sem, h32]
      refine pw_wkL [(0, .v (.sl true 2 (z34.map row_ViewCount_z))), (1, .v (.int .i64 a1)), (2, .v (.func (.func 109) [] [])), (6, .v (.int .i64 20)), (7, .v (.int .i64 s24.2.2)), (8, .v (.int .i64 s24.2.2))] (by simp [-List.map_set, go_sem, h32]) ?_
      try simp [-List.map_set, go_sem, h32]
      have h37 := Rn_some hF36
      exact hg27 (z34, s24.2.2, IntKind.i64.wrap (s24.2.2 + 20)) _ (by simp [-List.map_set, go_sem, h32]) h37
    · have hF38 := Rn_f hF31 h32
      try simp [-List.map_set, go_sem, h32]
      have h39 := Rn_some hF38
      have h40 := ho26 _ h39
      subst h40
      exact hj1 (s24.1, s24.2.1) _ (by simp [-List.map_set, go_sem, h32]) hψ28
noncomputable def F_slices_SortStableFunc_impl_ViewCount_impl_ViewCount__io0_impl_gathered_1 (a0 : (List ViewCount)) : Option ((List ViewCount)) :=
  (F_slices_stableCmpFunc_impl_ViewCount__io0_impl_gathered_1 a0 (a0.length : Int)).bind fun z2 =>
  some z2
theorem c_slices_SortStableFunc_impl_ViewCount_impl_ViewCount__io0_impl_gathered_1 {a0 : (List ViewCount)} {r : (List ViewCount)} (hr : F_slices_SortStableFunc_impl_ViewCount_impl_ViewCount__io0_impl_gathered_1 a0 = some r) : PCalls Try.prog 108 [(.io, .sl true 2 (a0.map row_ViewCount_z)), (.sh, .func (.func 109) [] [])] (fun o os => o = .junk ∧ os = [.sl true 2 (r.map row_ViewCount_z), .junk]) := by
  refine pcalls_lift (R := fun (r : (List ViewCount)) o os => o = .junk ∧ os = [.sl true 2 (r.map row_ViewCount_z), .junk]) [] [] hr cl108 Try.func108 rfl (by simp [Try.f108]) fun Φ hΦ hF => ?_
  unfold F_slices_SortStableFunc_impl_ViewCount_impl_ViewCount__io0_impl_gathered_1 at hF
  simp only [Try.f108, ioL_nil, ioL_sh, ioL_mv, ioL_io]
  try simp [-List.map_set, go_sem]
  refine qln_some fun hl1 => ?_
  obtain ⟨z2, e3, hF4⟩ := Rn_bind hF
  try simp [-List.map_set, go_sem]
  refine pw_callE [.io, .sh, .sh] rfl rfl (by (try simp [-List.map_set, go_sem, clE]); first | rfl | done) (by rfl) (c_slices_stableCmpFunc_impl_ViewCount__io0_impl_gathered_1 e3) (by (try simp [-List.map_set, go_sem]); first | rfl | done) (fun r0 os0 ho0 => ?_)
  obtain ⟨ho1, ho2⟩ := ho0
  subst ho1
  subst ho2
  refine ⟨by simp [-List.map_set, go_sem], ?_⟩
  try simp [-List.map_set, go_sem]
  have h5 := Rn_some hF4
  have h6 := hΦ _ h5
  subst h6
  try simp [-List.map_set, go_sem]
noncomputable def F_slices_Equal_int_int (a0 : (List Int)) (a1 : (List Int)) : Option (Bool) :=
  if ((a0.length : Int) != (a1.length : Int)) = true then (
  some false) else (
  ((rloop (σ := Unit) (β := Unit ⊕ Bool) (fun i16 s15 =>
  (ix a0 i16).bind fun x25 =>
  (ix a1 i16).bind fun x32 =>
  if (x25 != x32) = true then (
  some (.out (.inr false))) else (
  some (.go ()))) (fun s15 => .inl ()) (a0.length) 0 () : Option (Unit ⊕ Bool)).bind (Sum.elim (fun (x13 : Unit) =>
  some true) some)))
theorem c_slices_Equal_int_int {a0 : (List Int)} {a1 : (List Int)} {r : Bool} (hr : F_slices_Equal_int_int a0 a1 = some r) : PCalls Try.prog 110 [(.sh, .sl false 1 (a0.map row_i64)), (.sh, .sl false 1 (a1.map row_i64))] (fun o os => o = .bool r ∧ os = [.junk, .junk]) := by
  refine pcalls_lift (R := fun (r : Bool) o os => o = .bool r ∧ os = [.junk, .junk]) [] [] hr cl110 Try.func110 rfl (by simp [Try.f110]) fun Φ hΦ hF => ?_
  unfold F_slices_Equal_int_int at hF
  simp only [Try.f110, ioL_nil, ioL_sh, ioL_mv, ioL_io]
  try simp [-List.map_set, go_sem]
  refine pw_wkL [(0, .v (.sl false 1 (a0.map row_i64))), (1, .v (.sl false 1 (a1.map row_i64)))] (by simp [-List.map_set, go_sem]) ?_
  try simp [-List.map_set, go_sem]
  refine qln_some fun hl1 => ?_
  try simp [-List.map_set, go_sem]
  refine qln_some fun hl2 => ?_
  try simp [-List.map_set, go_sem]
  refine pw_wkL [(0, .v (.sl false 1 (a0.map row_i64))), (1, .v (.sl false 1 (a1.map row_i64))), (10, .v (.bool ((a0.length : Int) != (a1.length : Int))))] (by simp [-List.map_set, go_sem]) ?_
  repeat rw [pw_seq]
  refine pw_cond' (v := ((a0.length : Int) != (a1.length : Int))) (by simp [-List.map_set, go_sem]) (fun h3 => ?_) (fun h3 => ?_)
  · have hF4 := Rn_t hF h3
    try simp [-List.map_set, go_sem, h3]
    refine pw_wkL [(4, .v (.bool false))] (by simp [-List.map_set, go_sem, h3]) ?_
    try simp [-List.map_set, go_sem, h3]
    have h5 := Rn_some hF4
    have h6 := hΦ _ h5
    subst h6
    try simp [-List.map_set, go_sem, h3]
  · have hF7 := Rn_f hF h3
    try simp [-List.map_set, go_sem, h3]
    refine pw_wkL [(0, .v (.sl false 1 (a0.map row_i64))), (1, .v (.sl false 1 (a1.map row_i64)))] (by simp [-List.map_set, go_sem, h3]) ?_
    try simp [-List.map_set, go_sem, h3]
    refine qln_some fun hl8 => ?_
    try simp [-List.map_set, go_sem, h3]
    refine pw_wkL [(0, .v (.sl false 1 (a0.map row_i64))), (1, .v (.sl false 1 (a1.map row_i64))), (12, .v (.int .i64 (a0.length : Int))), (13, .v (.int .i64 0))] (by simp [-List.map_set, go_sem, h3]) ?_
    repeat rw [pw_seq]
    refine pw_joinS (fun (x13 : Unit) => []) hF7 ?_ ?_
    · intro x13 hF14
      try dsimp only at hF14
      try simp [-List.map_set, go_sem, h3]
      refine pw_wkL [(4, .v (.bool true))] (by simp [-List.map_set, go_sem, h3]) ?_
      try simp [-List.map_set, go_sem, h3]
      have h51 := Rn_some hF14
      have h52 := hΦ _ h51
      subst h52
      try simp [-List.map_set, go_sem, h3]
    · intro ψ11 hj9 hr10 hF12
      repeat rw [pw_seq]
      rw [pw_block]
      try simp [-List.map_set, go_sem]
      obtain ⟨b47, hb48, hψ19⟩ := hF12
      refine pw_rloop (fun (i16 : Int) (s15 : Unit) => [(0, .v (.sl false 1 (a0.map row_i64))), (1, .v (.sl false 1 (a1.map row_i64))), (12, .v (.int .i64 (a0.length : Int))), (13, .v (.int .i64 i16))]) hb48 (by simp [-List.map_set, go_sem, h3]) ?_ ?_
      · intro s15 N50 hN49
        subst hN49
        try simp [-List.map_set, go_sem]
        refine pw_wk ?_
        repeat rw [pw_seq]
        refine pw_cond_f (by simp [-List.map_set, go_sem]) ?_
        try simp [-List.map_set, go_sem]
        exact hj9 () _ (by simp [-List.map_set, go_sem]) hψ19
      · intro i16 s15 φ20 N21 hi23 hi24 ho17 hg18 hF22
        try dsimp only at hF22
        rw [Int.zero_add] at hi24
        try simp [-List.map_set, go_sem, h3, hi23, hi24]
        refine pw_wkL [(0, .v (.sl false 1 (a0.map row_i64))), (1, .v (.sl false 1 (a1.map row_i64))), (12, .v (.int .i64 (a0.length : Int))), (13, .v (.int .i64 i16)), (14, .v (.bool (decide (i16 < (a0.length : Int)))))] (by simp [-List.map_set, go_sem, h3, hi23, hi24]) ?_
        repeat rw [pw_seq]
        refine pw_cond_t (by simp [-List.map_set, go_sem, h3, hi23, hi24]) ?_
        try simp [-List.map_set, go_sem, h3, hi23, hi24]
        refine pw_wkL [(0, .v (.sl false 1 (a0.map row_i64))), (1, .v (.sl false 1 (a1.map row_i64))), (12, .v (.int .i64 (a0.length : Int))), (13, .v (.int .i64 i16))] (by simp [-List.map_set, go_sem, h3, hi23, hi24]) ?_
        repeat rw [pw_seq]
        rw [pw_block]
        try simp [-List.map_set, go_sem, h3, hi23, hi24]
        refine pw_wkL [(0, .v (.sl false 1 (a0.map row_i64))), (1, .v (.sl false 1 (a1.map row_i64))), (5, .v (.int .i64 i16)), (12, .v (.int .i64 (a0.length : Int))), (13, .v (.int .i64 i16))] (by simp [-List.map_set, go_sem, h3, hi23, hi24]) ?_
        repeat rw [pw_seq]
        refine pw_draw D110_6 follows (by kernel_rfl) rfl ?_
        try simp only [go_sem, D110_6]
        obtain ⟨x25, e26, hF27⟩ := Rn_bind hF22
        obtain ⟨g28, g29, g30⟩ := ix_some e26
        have g31 := ix_get e26
        try simp only [Int.toNat_natCast, Int.toNat_zero, Int.toNat_one, Int.reduceToNat] at g30 g31
        obtain ⟨x32, e33, hF34⟩ := Rn_bind hF27
        obtain ⟨g35, g36, g37⟩ := ix_some e33
        have g38 := ix_get e33
        try simp only [Int.toNat_natCast, Int.toNat_zero, Int.toNat_one, Int.reduceToNat] at g37 g38
        try simp [-List.map_set, go_sem, h3, hi23, hi24, g28, g29, g30, g31, g35, g36, g37, g38]
        refine pw_wkL [(0, .v (.sl false 1 (a0.map row_i64))), (1, .v (.sl false 1 (a1.map row_i64))), (12, .v (.int .i64 (a0.length : Int))), (13, .v (.int .i64 i16)), (24, .v (.bool (x25 != x32)))] (by simp [-List.map_set, go_sem, h3, hi23, hi24, g28, g29, g30, g31, g35, g36, g37, g38]) ?_
        repeat rw [pw_seq]
        refine pw_cond' (v := (x25 != x32)) (by simp [-List.map_set, go_sem, h3, hi23, hi24, g28, g29, g30, g31, g35, g36, g37, g38]) (fun h39 => ?_) (fun h39 => ?_)
        · have hF40 := Rn_t hF34 h39
          try simp [-List.map_set, go_sem, h3, hi23, hi24, g28, g29, g30, g31, g35, g36, g37, g38, h39]
          refine pw_wkL [(4, .v (.bool false))] (by simp [-List.map_set, go_sem, h3, hi23, hi24, g28, g29, g30, g31, g35, g36, g37, g38, h39]) ?_
          try simp [-List.map_set, go_sem, h3, hi23, hi24, g28, g29, g30, g31, g35, g36, g37, g38, h39]
          have h41 := Rn_some hF40
          have h42 := ho17 _ h41
          subst h42
          have h43 := hr10 _ hψ19
          have h44 := hΦ _ h43
          subst h44
          try simp [-List.map_set, go_sem, h3, hi23, hi24, g28, g29, g30, g31, g35, g36, g37, g38, h39]
        · have hF45 := Rn_f hF34 h39
          try simp [-List.map_set, go_sem, h3, hi23, hi24, g28, g29, g30, g31, g35, g36, g37, g38, h39]
          refine pw_wkL [(0, .v (.sl false 1 (a0.map row_i64))), (1, .v (.sl false 1 (a1.map row_i64))), (12, .v (.int .i64 (a0.length : Int))), (13, .v (.int .i64 i16))] (by simp [-List.map_set, go_sem, h3, hi23, hi24, g28, g29, g30, g31, g35, g36, g37, g38, h39]) ?_
          try simp [-List.map_set, go_sem, h3, hi23, hi24, g28, g29, g30, g31, g35, g36, g37, g38, h39]
          have h46 := Rn_some hF45
          have hw : IntKind.i64.wrap (i16 + 1) = i16 + 1 := wrI (by have h0 := hl8; simp [maxLen] at h0; omega)
          exact hg18 () _ (by simp [-List.map_set, go_sem, h3, hi23, hi24, g28, g29, g30, g31, g35, g36, g37, g38, h39, hw]) h46
noncomputable def F_slices_Clone_int_int (a0 : (List Int)) : Option (List Int) :=
  gd (a0.length * 8 ≤ 140737488355328 ∧ a0.length ≤ 4611686018427387904) <|
  some a0
theorem c_slices_Clone_int_int {a0 : (List Int)} {r : (List Int)} (hr : F_slices_Clone_int_int a0 = some r) : PCalls Try.prog 111 [(.sh, .sl false 1 (a0.map row_i64))] (fun o os => o = .sl true 1 (r.map row_i64) ∧ os = [.junk]) := by
  refine pcalls_lift (R := fun (r : (List Int)) o os => o = .sl true 1 (r.map row_i64) ∧ os = [.junk]) [] [1000000] hr cl111 Try.func111 rfl (by simp [Try.f111]) fun Φ hΦ hF => ?_
  unfold F_slices_Clone_int_int at hF
  obtain ⟨g, hF⟩ := Rn_gd hF
  have h1 := hΦ _ (Rn_some hF)
  subst h1
  simp only [Try.f111, ioL_nil, ioL_sh, ioL_mv, ioL_io]
  try simp [-List.map_set, go_sem]
  refine pw_wkL [(0, .v (.sl false 1 (a0.map row_i64)))] (by simp [-List.map_set, go_sem]) ?_
  try simp [-List.map_set, go_sem]
  refine pw1_nil rfl rfl (by simp [go_sem]) rfl (by rfl) fun b hb => ?_
  try simp [-List.map_set, go_sem]
  refine pw_wk ?_
  repeat rw [pw_seq]
  cases b
  · refine pw_cond_f (by simp [-List.map_set, go_sem]) ?_
    try simp [-List.map_set, go_sem]
    refine pw_wk ?_
    try simp [-List.map_set, go_sem, g]
    refine pw_wk ?_
    try simp [-List.map_set, go_sem, g]
  · have hb0 : a0 = [] := by
      cases a0 with
      | nil => rfl
      | cons x l => exact absurd (hb (by simp)) (by simp)
    subst hb0
    refine pw_cond_t (by simp [-List.map_set, go_sem]) ?_
    try simp [-List.map_set, go_sem]
    refine pw_wk ?_
    try simp [-List.map_set, go_sem]
noncomputable def F_impl_isCount (a0 : (List ViewCount)) : Option (Bool) :=
  if decide (3000 < (a0.length : Int)) = true then (
  some false) else (
  ((rloop (σ := Int) (β := Unit ⊕ Bool) (fun i15 s14 =>
  (ix a0 i15).bind fun x24 =>
  ((if decide (24 < (x24.View.length : Int)) = true then (
  some true) else (
  (F_impl_within x24.Times 1 (IntKind.i64.wrap (1000000 - s14))).bind fun z42 =>
  if (!z42) = true then (
  some true) else (
  if decide (0 < i15) = true then (
  (ix a0 (IntKind.i64.wrap (i15 - 1))).bind fun x51 =>
  (F_slices_Compare_int_int x51.View x24.View).bind fun z58 =>
  some (decide (0 ≤ z58))) else (
  some false))) : Option (Bool)).bind fun (x35 : Bool) =>
  if x35 = true then (
  some (.out (.inr false))) else (
  some (.go (IntKind.i64.wrap (s14 + x24.Times)))))) (fun s14 => .inl ()) (a0.length) 0 0 : Option (Unit ⊕ Bool)).bind (Sum.elim (fun (x12 : Unit) =>
  some true) some)))
theorem c_impl_isCount {a0 : (List ViewCount)} {r : Bool} (hr : F_impl_isCount a0 = some r) : PCalls Try.prog 40 [(.sh, .sl false 2 (a0.map row_ViewCount_z))] (fun o os => o = .bool r ∧ os = [.junk]) := by
  refine pcalls_lift (R := fun (r : Bool) o os => o = .bool r ∧ os = [.junk]) [] [] hr cl40 Try.func40 rfl (by simp [Try.f40]) fun Φ hΦ hF => ?_
  unfold F_impl_isCount at hF
  simp only [Try.f40, ioL_nil, ioL_sh, ioL_mv, ioL_io]
  try simp [-List.map_set, go_sem]
  refine pw_wkL [(0, .v (.sl false 2 (a0.map row_ViewCount_z)))] (by simp [-List.map_set, go_sem]) ?_
  try simp [-List.map_set, go_sem]
  refine qln_some fun hl1 => ?_
  try simp [-List.map_set, go_sem]
  refine pw_wkL [(0, .v (.sl false 2 (a0.map row_ViewCount_z))), (8, .v (.bool (decide (3000 < (a0.length : Int)))))] (by simp [-List.map_set, go_sem]) ?_
  repeat rw [pw_seq]
  refine pw_cond' (v := decide (3000 < (a0.length : Int))) (by simp [-List.map_set, go_sem]) (fun h2 => ?_) (fun h2 => ?_)
  · have hF3 := Rn_t hF h2
    try simp [-List.map_set, go_sem, h2]
    refine pw_wkL [(2, .v (.bool false))] (by simp [-List.map_set, go_sem, h2]) ?_
    try simp [-List.map_set, go_sem, h2]
    have h4 := Rn_some hF3
    have h5 := hΦ _ h4
    subst h5
    try simp [-List.map_set, go_sem, h2]
  · have hF6 := Rn_f hF h2
    try simp [-List.map_set, go_sem, h2]
    refine pw_wkL [(0, .v (.sl false 2 (a0.map row_ViewCount_z)))] (by simp [-List.map_set, go_sem, h2]) ?_
    try simp [-List.map_set, go_sem, h2]
    refine pw_wkL [(0, .v (.sl false 2 (a0.map row_ViewCount_z))), (3, .v (.int .i64 0))] (by simp [-List.map_set, go_sem, h2]) ?_
    try simp [-List.map_set, go_sem, h2]
    refine qln_some fun hl7 => ?_
    try simp [-List.map_set, go_sem, h2]
    refine pw_wkL [(0, .v (.sl false 2 (a0.map row_ViewCount_z))), (3, .v (.int .i64 0)), (9, .v (.sl false 2 (a0.map row_ViewCount_z))), (10, .v (.int .i64 (a0.length : Int))), (11, .v (.int .i64 0))] (by simp [-List.map_set, go_sem, h2]) ?_
    repeat rw [pw_seq]
    refine pw_joinS (fun (x12 : Unit) => []) hF6 ?_ ?_
    · intro x12 hF13
      try dsimp only at hF13
      try simp [-List.map_set, go_sem, h2]
      refine pw_wkL [(2, .v (.bool true))] (by simp [-List.map_set, go_sem, h2]) ?_
      try simp [-List.map_set, go_sem, h2]
      have h76 := Rn_some hF13
      have h77 := hΦ _ h76
      subst h77
      try simp [-List.map_set, go_sem, h2]
    · intro ψ10 hj8 hr9 hF11
      repeat rw [pw_seq]
      rw [pw_block]
      try simp [-List.map_set, go_sem]
      obtain ⟨b72, hb73, hψ18⟩ := hF11
      refine pw_rloop (fun (i15 : Int) (s14 : Int) => [(0, .v (.sl false 2 (a0.map row_ViewCount_z))), (3, .v (.int .i64 s14)), (9, .v (.sl false 2 (a0.map row_ViewCount_z))), (10, .v (.int .i64 (a0.length : Int))), (11, .v (.int .i64 i15))]) hb73 (by simp [-List.map_set, go_sem, h2]) ?_ ?_
      · intro s14 N75 hN74
        subst hN74
        try simp [-List.map_set, go_sem]
        refine pw_wk ?_
        repeat rw [pw_seq]
        refine pw_cond_f (by simp [-List.map_set, go_sem]) ?_
        try simp [-List.map_set, go_sem]
        exact hj8 () _ (by simp [-List.map_set, go_sem]) hψ18
      · intro i15 s14 φ19 N20 hi22 hi23 ho16 hg17 hF21
        try dsimp only at hF21
        rw [Int.zero_add] at hi23
        try simp [-List.map_set, go_sem, h2, hi22, hi23]
        refine pw_wkL [(0, .v (.sl false 2 (a0.map row_ViewCount_z))), (3, .v (.int .i64 s14)), (9, .v (.sl false 2 (a0.map row_ViewCount_z))), (10, .v (.int .i64 (a0.length : Int))), (11, .v (.int .i64 i15)), (12, .v (.bool (decide (i15 < (a0.length : Int)))))] (by simp [-List.map_set, go_sem, h2, hi22, hi23]) ?_
        repeat rw [pw_seq]
        refine pw_cond_t (by simp [-List.map_set, go_sem, h2, hi22, hi23]) ?_
        try simp [-List.map_set, go_sem, h2, hi22, hi23]
        refine pw_wkL [(0, .v (.sl false 2 (a0.map row_ViewCount_z))), (3, .v (.int .i64 s14)), (9, .v (.sl false 2 (a0.map row_ViewCount_z))), (10, .v (.int .i64 (a0.length : Int))), (11, .v (.int .i64 i15))] (by simp [-List.map_set, go_sem, h2, hi22, hi23]) ?_
        repeat rw [pw_seq]
        rw [pw_block]
        obtain ⟨x24, e25, hF26⟩ := Rn_bind hF21
        obtain ⟨g27, g28, g29⟩ := ix_some e25
        have g30 := ix_get e25
        try simp only [Int.toNat_natCast, Int.toNat_zero, Int.toNat_one, Int.reduceToNat] at g29 g30
        try simp [-List.map_set, go_sem, h2, hi22, hi23, g27, g28, g29, g30]
        refine pw_wkL [(0, .v (.sl false 2 (a0.map row_ViewCount_z))), (3, .v (.int .i64 s14)), (4, .v (.int .i64 i15)), (5, .bl [.sl false 1 (x24.View.map row_i64), .int .i64 x24.Times]), (9, .v (.sl false 2 (a0.map row_ViewCount_z))), (10, .v (.int .i64 (a0.length : Int))), (11, .v (.int .i64 i15))] (by simp [-List.map_set, go_sem, h2, hi22, hi23, g27, g28, g29, g30]) ?_
        repeat rw [pw_seq]
        refine pw_joinF (fun (x35 : Bool) => [(0, .v (.sl false 2 (a0.map row_ViewCount_z))), (3, .v (.int .i64 s14)), (5, .bl [.sl false 1 (x24.View.map row_i64), .int .i64 x24.Times]), (9, .v (.sl false 2 (a0.map row_ViewCount_z))), (10, .v (.int .i64 (a0.length : Int))), (11, .v (.int .i64 i15)), (43, .v (.bool x35))]) hF26 ?_ ?_
        · intro x35 hF36
          try dsimp only at hF36
          repeat rw [pw_seq]
          refine pw_cond' (v := x35) (by simp [-List.map_set, go_sem, h2, hi22, hi23, g27, g28, g29, g30]) (fun h64 => ?_) (fun h64 => ?_)
          · have hF65 := Rn_t hF36 h64
            try simp [-List.map_set, go_sem, h2, hi22, hi23, g27, g28, g29, g30, h64]
            refine pw_wkL [(2, .v (.bool false))] (by simp [-List.map_set, go_sem, h2, hi22, hi23, g27, g28, g29, g30, h64]) ?_
            try simp [-List.map_set, go_sem, h2, hi22, hi23, g27, g28, g29, g30, h64]
            have h66 := Rn_some hF65
            have h67 := ho16 _ h66
            subst h67
            have h68 := hr9 _ hψ18
            have h69 := hΦ _ h68
            subst h69
            try simp [-List.map_set, go_sem, h2, hi22, hi23, g27, g28, g29, g30, h64]
          · have hF70 := Rn_f hF36 h64
            try simp [-List.map_set, go_sem, h2, hi22, hi23, g27, g28, g29, g30, h64]
            refine pw_wkL [(0, .v (.sl false 2 (a0.map row_ViewCount_z))), (3, .v (.int .i64 s14)), (5, .bl [.sl false 1 (x24.View.map row_i64), .int .i64 x24.Times]), (9, .v (.sl false 2 (a0.map row_ViewCount_z))), (10, .v (.int .i64 (a0.length : Int))), (11, .v (.int .i64 i15))] (by simp [-List.map_set, go_sem, h2, hi22, hi23, g27, g28, g29, g30, h64]) ?_
            try simp [-List.map_set, go_sem, h2, hi22, hi23, g27, g28, g29, g30, h64]
            refine pw_wkL [(0, .v (.sl false 2 (a0.map row_ViewCount_z))), (3, .v (.int .i64 (IntKind.i64.wrap (s14 + x24.Times)))), (9, .v (.sl false 2 (a0.map row_ViewCount_z))), (10, .v (.int .i64 (a0.length : Int))), (11, .v (.int .i64 i15))] (by simp [-List.map_set, go_sem, h2, hi22, hi23, g27, g28, g29, g30, h64]) ?_
            try simp [-List.map_set, go_sem, h2, hi22, hi23, g27, g28, g29, g30, h64]
            have h71 := Rn_some hF70
            have hw : IntKind.i64.wrap (i15 + 1) = i15 + 1 := wrI (by have h0 := hl7; simp [maxLen] at h0; omega)
            exact hg17 (IntKind.i64.wrap (s14 + x24.Times)) _ (by simp [-List.map_set, go_sem, h2, hi22, hi23, g27, g28, g29, g30, h64, hw]) h71
        · intro ψ33 hj31 hF34
          repeat rw [pw_seq]
          refine pw_draw D40_7 follows (by kernel_rfl) rfl ?_
          try simp only [go_sem, D40_7]
          try simp [-List.map_set, go_sem, h2, hi22, hi23, g27, g28, g29, g30]
          refine qln_some fun hl37 => ?_
          try simp [-List.map_set, go_sem, h2, hi22, hi23, g27, g28, g29, g30]
          refine pwgD_split (fun h38 => ?_) (fun h38 => ?_)
          · have hF39 := Rn_t hF34 h38
            try simp [-List.map_set, go_sem, h2, hi22, hi23, g27, g28, g29, g30, h38]
            have h40 := Rn_some hF39
            exact hj31 true _ (by simp [-List.map_set, go_sem, h2, hi22, hi23, g27, g28, g29, g30, h38]) h40
          · have hF41 := Rn_f hF34 h38
            obtain ⟨z42, e43, hF44⟩ := Rn_bind hF41
            try simp [-List.map_set, go_sem, h2, hi22, hi23, g27, g28, g29, g30, h38]
            refine pw_callE [.sh, .sh, .sh] rfl rfl (by (try simp [-List.map_set, go_sem, clE, h2, hi22, hi23, g27, g28, g29, g30, h38]); first | rfl | done) (by rfl) (c_impl_within e43) (by (try simp [-List.map_set, go_sem, h2, hi22, hi23, g27, g28, g29, g30, h38]); first | rfl | done) (fun r0 os0 ho0 => ?_)
            obtain ⟨ho1, ho2⟩ := ho0
            subst ho1
            subst ho2
            refine ⟨by simp [-List.map_set, go_sem, h2, hi22, hi23, g27, g28, g29, g30, h38], ?_⟩
            try simp [-List.map_set, go_sem, h2, hi22, hi23, g27, g28, g29, g30, h38]
            refine pwgD_split (fun h45 => ?_) (fun h45 => ?_)
            · have hF46 := Rn_t hF44 h45
              try simp [-List.map_set, go_sem, h2, hi22, hi23, g27, g28, g29, g30, h38, h45]
              have h47 := Rn_some hF46
              exact hj31 true _ (by simp [-List.map_set, go_sem, h2, hi22, hi23, g27, g28, g29, g30, h38, h45]) h47
            · have hF48 := Rn_f hF44 h45
              try simp [-List.map_set, go_sem, h2, hi22, hi23, g27, g28, g29, g30, h38, h45]
              refine pwgD_split (fun h49 => ?_) (fun h49 => ?_)
              · have hF50 := Rn_t hF48 h49
                obtain ⟨x51, e52, hF53⟩ := Rn_bind hF50
                obtain ⟨g54, g55, g56⟩ := ix_some e52
                have g57 := ix_get e52
                try simp only [Int.toNat_natCast, Int.toNat_zero, Int.toNat_one, Int.reduceToNat] at g56 g57
                obtain ⟨z58, e59, hF60⟩ := Rn_bind hF53
                try simp [-List.map_set, go_sem, h2, hi22, hi23, g27, g28, g29, g30, h38, h45, h49, g54, g55, g56, g57]
                refine pw_callE [.sh, .sh] rfl rfl (by (try simp [-List.map_set, go_sem, clE, h2, hi22, hi23, g27, g28, g29, g30, h38, h45, h49, g54, g55, g56, g57]); first | rfl | done) (by rfl) (c_slices_Compare_int_int e59) (by (try simp [-List.map_set, go_sem, h2, hi22, hi23, g27, g28, g29, g30, h38, h45, h49, g54, g55, g56, g57]); first | rfl | done) (fun r0 os0 ho0 => ?_)
                obtain ⟨ho1, ho2⟩ := ho0
                subst ho1
                subst ho2
                refine ⟨by simp [-List.map_set, go_sem, h2, hi22, hi23, g27, g28, g29, g30, h38, h45, h49, g54, g55, g56, g57], ?_⟩
                try simp [-List.map_set, go_sem, h2, hi22, hi23, g27, g28, g29, g30, h38, h45, h49, g54, g55, g56, g57]
                have h61 := Rn_some hF60
                exact hj31 (decide (0 ≤ z58)) _ (by simp [-List.map_set, go_sem, h2, hi22, hi23, g27, g28, g29, g30, h38, h45, h49, g54, g55, g56, g57]) h61
              · have hF62 := Rn_f hF48 h49
                try simp [-List.map_set, go_sem, h2, hi22, hi23, g27, g28, g29, g30, h38, h45, h49]
                have h63 := Rn_some hF62
                exact hj31 false _ (by simp [-List.map_set, go_sem, h2, hi22, hi23, g27, g28, g29, g30, h38, h45, h49]) h63
noncomputable def F_impl_gathered (a0 : (List ViewCount)) : Option ((List ViewCount) × Bool) :=
  (F_slices_Clone_impl_ViewCount_impl_ViewCount a0).bind fun z1 =>
  (F_slices_SortStableFunc_impl_ViewCount_impl_ViewCount__io0_impl_gathered_1 z1).bind fun z4 =>
  ((rloop (σ := (List ViewCount)) (β := (List ViewCount)) (fun i74 s73 =>
  (((ix z4 i74).bind fun x89 =>
  ((if decide (0 ≤ (IntKind.i64.wrap ((s73.length : Int) - 1))) = true then (
  (ix s73 (IntKind.i64.wrap ((s73.length : Int) - 1))).bind fun x105 =>
  (F_slices_Equal_int_int x105.View x89.View).bind fun z112 =>
  some z112) else (
  some false) : Option (Bool)).bind fun (x101 : Bool) =>
  if x101 = true then (
  (ix s73 (IntKind.i64.wrap ((s73.length : Int) - 1))).bind fun x120 =>
  some (s73.set ((IntKind.i64.wrap ((s73.length : Int) - 1)).toNat) (ViewCount.mk x120.View (IntKind.i64.wrap (x120.Times + x89.Times))))) else (
  (F_slices_Clone_int_int x89.View).bind fun z129 =>
  gd ((s73.length + 1) * 32 ≤ 140737488355328 ∧ s73.length + 1 ≤ 4611686018427387904) <|
  some (s73 ++ [(ViewCount.mk z129 x89.Times)]))) : Option ((List ViewCount))).bind fun (x87 : (List ViewCount)) =>
  some (.go x87))) (fun s73 => s73) (z4.length) 0 [] : Option ((List ViewCount))).bind fun (x12 : (List ViewCount)) =>
  (F_impl_isCount x12).bind fun z141 =>
  if (!z141) = true then (
  some ([], false)) else (
  some (x12, true)))
end Go.Pm
