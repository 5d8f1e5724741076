/-
  Plain functions and their walks. Written by wip/tools/lift.py.
-/
import Derived.Test.YthdjiekgolgmfaaPS
namespace Go.Pm
open Go.Am
open Go.Proofs
set_option maxRecDepth 100000
attribute [local irreducible] pw pwx pw1 pwg qv qz qf
set_option linter.unusedSimpArgs false
set_option linter.unusedVariables false
structure ViewCount where
  View : (List Int)
  Times : Int
def row_i64 (x : Int) : List PV := [.int .i64 x]
@[go_sem] theorem row_i64_eq {x : Int} : row_i64 x = [.int .i64 x] := (rfl)
@[go_sem] theorem row_i64_drop {l : List Int} : List.map (List.map drop ∘ row_i64) l = l.map row_i64 := by refine List.map_congr_left fun x _ => ?_; simp [-List.map_set, go_sem]
@[go_sem] theorem row_i64_drop' {l : List Int} : List.map (List.map drop) (l.map row_i64) = l.map row_i64 := by rw [List.map_map]; exact row_i64_drop
@[go_sem] theorem row_i64_set {l : List Int} {i : Nat} {a : Int} : (l.map row_i64).set i [.int .i64 a] = (l.set i a).map row_i64 := by simp [List.map_set, go_sem]
def row_ViewCount_z (x : ViewCount) : List PV := [.sl false 1 (x.View.map row_i64), .int .i64 x.Times]
@[go_sem] theorem row_ViewCount_z_eq {x : ViewCount} : row_ViewCount_z x = [.sl false 1 (x.View.map row_i64), .int .i64 x.Times] := (rfl)
@[go_sem] theorem row_ViewCount_z_drop {l : List ViewCount} : List.map (List.map drop ∘ row_ViewCount_z) l = l.map row_ViewCount_z := by refine List.map_congr_left fun x _ => ?_; simp [-List.map_set, go_sem]
@[go_sem] theorem row_ViewCount_z_drop' {l : List ViewCount} : List.map (List.map drop) (l.map row_ViewCount_z) = l.map row_ViewCount_z := by rw [List.map_map]; exact row_ViewCount_z_drop
@[go_sem] theorem row_ViewCount_z_set {l : List ViewCount} {i : Nat} {View : (List Int)} {Times : Int} : (l.map row_ViewCount_z).set i [.sl false 1 (View.map row_i64), .int .i64 Times] = (l.set i (ViewCount.mk View Times)).map row_ViewCount_z := by simp [List.map_set, go_sem]
def row_ViewCount_o (x : ViewCount) : List PV := [.sl true 1 (x.View.map row_i64), .int .i64 x.Times]
@[go_sem] theorem row_ViewCount_o_eq {x : ViewCount} : row_ViewCount_o x = [.sl true 1 (x.View.map row_i64), .int .i64 x.Times] := (rfl)
@[go_sem] theorem row_ViewCount_o_drop {l : List ViewCount} : List.map (List.map drop ∘ row_ViewCount_o) l = l.map row_ViewCount_z := by refine List.map_congr_left fun x _ => ?_; simp [-List.map_set, go_sem]
@[go_sem] theorem row_ViewCount_o_drop' {l : List ViewCount} : List.map (List.map drop) (l.map row_ViewCount_o) = l.map row_ViewCount_z := by rw [List.map_map]; exact row_ViewCount_o_drop
@[go_sem] theorem row_ViewCount_o_set {l : List ViewCount} {i : Nat} {View : (List Int)} {Times : Int} : (l.map row_ViewCount_o).set i [.sl true 1 (View.map row_i64), .int .i64 Times] = (l.set i (ViewCount.mk View Times)).map row_ViewCount_o := by simp [List.map_set, go_sem]
noncomputable def F_laws_szIntS (a0 : (List Int)) (a1 : Int) : Option (Int) :=
  if decide ((IntKind.i64.wrap (a1 - (a0.length : Int))) < 0) = true then (
  some (-1)) else (
  some (IntKind.i64.wrap (a1 - (a0.length : Int))))
theorem c_laws_szIntS {a0 : (List Int)} {a1 : Int} {r : Int} (hr : F_laws_szIntS a0 a1 = some r) : PCalls Try.prog 80 [(.sh, .sl false 1 (a0.map row_i64)), (.sh, .int .i64 a1)] (fun o os => o = .int .i64 r ∧ os = [.junk, .junk]) := by
  refine pcalls_lift (R := fun (r : Int) o os => o = .int .i64 r ∧ os = [.junk, .junk]) [] [] hr cl80 Try.func80 rfl (by simp [Try.f80]) fun Φ hΦ hF => ?_
  unfold F_laws_szIntS at hF
  simp only [Try.f80, ioL_nil, ioL_sh, ioL_mv, ioL_io]
  try simp [-List.map_set, go_sem]
  refine pw_wkL [(0, .v (.sl false 1 (a0.map row_i64))), (1, .v (.int .i64 a1))] (by simp [-List.map_set, go_sem]) ?_
  try simp [-List.map_set, go_sem]
  refine qln_some fun hl1 => ?_
  try simp [-List.map_set, go_sem]
  refine pw_wkL [(1, .v (.int .i64 (IntKind.i64.wrap (a1 - (a0.length : Int)))))] (by simp [-List.map_set, go_sem]) ?_
  try simp [-List.map_set, go_sem]
  refine pw_wkL [(1, .v (.int .i64 (IntKind.i64.wrap (a1 - (a0.length : Int))))), (10, .v (.bool (decide ((IntKind.i64.wrap (a1 - (a0.length : Int))) < 0))))] (by simp [-List.map_set, go_sem]) ?_
  repeat rw [pw_seq]
  refine pw_cond' (v := decide ((IntKind.i64.wrap (a1 - (a0.length : Int))) < 0)) (by simp [-List.map_set, go_sem]) (fun h2 => ?_) (fun h2 => ?_)
  · have hF3 := Rn_t hF h2
    try simp [-List.map_set, go_sem, h2]
    refine pw_wkL [(4, .v (.int .i64 (-1)))] (by simp [-List.map_set, go_sem, h2]) ?_
    try simp [-List.map_set, go_sem, h2]
    have h4 := Rn_some hF3
    have h5 := hΦ _ h4
    subst h5
    try simp [-List.map_set, go_sem, h2]
  · have hF6 := Rn_f hF h2
    try simp [-List.map_set, go_sem, h2]
    refine pw_wkL [(1, .v (.int .i64 (IntKind.i64.wrap (a1 - (a0.length : Int)))))] (by simp [-List.map_set, go_sem, h2]) ?_
    try simp [-List.map_set, go_sem, h2]
    refine pw_wkL [(4, .v (.int .i64 (IntKind.i64.wrap (a1 - (a0.length : Int)))))] (by simp [-List.map_set, go_sem, h2]) ?_
    try simp [-List.map_set, go_sem, h2]
    have h7 := Rn_some hF6
    have h8 := hΦ _ h7
    subst h8
    try simp [-List.map_set, go_sem, h2]
noncomputable def F_laws_szViewCount (a0 : ViewCount) (a1 : Int) : Option (Int) :=
  (F_laws_szIntS a0.View a1).bind fun z1 =>
  if decide (z1 < 0) = true then (
  some (-1)) else (
  some z1)
theorem c_laws_szViewCount {a0 : ViewCount} {a1 : Int} {r : Int} (hr : F_laws_szViewCount a0 a1 = some r) : PCalls Try.prog 37 [(.sh, .agg [.sl false 1 (a0.View.map row_i64), .int .i64 a0.Times]), (.sh, .int .i64 a1)] (fun o os => o = .int .i64 r ∧ os = [.junk, .junk]) := by
  refine pcalls_lift (R := fun (r : Int) o os => o = .int .i64 r ∧ os = [.junk, .junk]) [] [] hr cl37 Try.func37 rfl (by simp [Try.f37]) fun Φ hΦ hF => ?_
  unfold F_laws_szViewCount at hF
  simp only [Try.f37, ioL_nil, ioL_sh, ioL_mv, ioL_io]
  try simp [-List.map_set, go_sem]
  refine pw_wkL [(1, .v (.int .i64 a1)), (2, .bl [.sl false 1 (a0.View.map row_i64), .int .i64 a0.Times])] (by simp [-List.map_set, go_sem]) ?_
  obtain ⟨z1, e2, hF3⟩ := Rn_bind hF
  try simp [-List.map_set, go_sem]
  refine pw_callE [.sh, .sh] rfl rfl (by (try simp [-List.map_set, go_sem, clE]); first | rfl | done) (by rfl) (c_laws_szIntS e2) (by (try simp [-List.map_set, go_sem]); first | rfl | done) (fun r0 os0 ho0 => ?_)
  obtain ⟨ho1, ho2⟩ := ho0
  subst ho1
  subst ho2
  refine ⟨by simp [-List.map_set, go_sem], ?_⟩
  try simp [-List.map_set, go_sem]
  refine pw_wkL [(1, .v (.int .i64 z1))] (by simp [-List.map_set, go_sem]) ?_
  try simp [-List.map_set, go_sem]
  refine pw_wkL [(1, .v (.int .i64 z1)), (10, .v (.bool (decide (z1 < 0))))] (by simp [-List.map_set, go_sem]) ?_
  repeat rw [pw_seq]
  refine pw_cond' (v := decide (z1 < 0)) (by simp [-List.map_set, go_sem]) (fun h4 => ?_) (fun h4 => ?_)
  · have hF5 := Rn_t hF3 h4
    try simp [-List.map_set, go_sem, h4]
    refine pw_wkL [(4, .v (.int .i64 (-1)))] (by simp [-List.map_set, go_sem, h4]) ?_
    try simp [-List.map_set, go_sem, h4]
    have h6 := Rn_some hF5
    have h7 := hΦ _ h6
    subst h7
    try simp [-List.map_set, go_sem, h4]
  · have hF8 := Rn_f hF3 h4
    try simp [-List.map_set, go_sem, h4]
    refine pw_wkL [(1, .v (.int .i64 z1))] (by simp [-List.map_set, go_sem, h4]) ?_
    try simp [-List.map_set, go_sem, h4]
    refine pw_wkL [(4, .v (.int .i64 z1))] (by simp [-List.map_set, go_sem, h4]) ?_
    try simp [-List.map_set, go_sem, h4]
    have h9 := Rn_some hF8
    have h10 := hΦ _ h9
    subst h10
    try simp [-List.map_set, go_sem, h4]
noncomputable def F_laws_szViewCountS (a0 : (List ViewCount)) (a1 : Int) : Option (Int) :=
  if decide ((IntKind.i64.wrap (a1 - (a0.length : Int))) < 0) = true then (
  some (-1)) else (
  ((wloop (σ := Int × Int) (β := Int ⊕ Int) (fun s46 =>
  if decide (s46.2 < (a0.length : Int)) = true then (
  (ix a0 s46.2).bind fun x57 =>
  (F_laws_szViewCount x57 s46.1).bind fun z64 =>
  if decide (z64 < 0) = true then (
  some (.out (.inr (-1)))) else (
  some (.go (z64, IntKind.i64.wrap (s46.2 + 1))))) else (
  some (.out (.inl s46.1)))) (IntKind.i64.wrap (a1 - (a0.length : Int)), 0) : Option (Int ⊕ Int)).bind (Sum.elim (fun (x11 : Int) =>
  some x11) some)))
theorem c_laws_szViewCountS {a0 : (List ViewCount)} {a1 : Int} {r : Int} (hr : F_laws_szViewCountS a0 a1 = some r) : PCalls Try.prog 10 [(.sh, .sl false 2 (a0.map row_ViewCount_z)), (.sh, .int .i64 a1)] (fun o os => o = .int .i64 r ∧ os = [.junk, .junk]) := by
  refine pcalls_lift (R := fun (r : Int) o os => o = .int .i64 r ∧ os = [.junk, .junk]) [] [] hr cl10 Try.func10 rfl (by simp [Try.f10]) fun Φ hΦ hF => ?_
  unfold F_laws_szViewCountS at hF
  simp only [Try.f10, ioL_nil, ioL_sh, ioL_mv, ioL_io]
  try simp [-List.map_set, go_sem]
  refine pw_wkL [(0, .v (.sl false 2 (a0.map row_ViewCount_z))), (1, .v (.int .i64 a1))] (by simp [-List.map_set, go_sem]) ?_
  try simp [-List.map_set, go_sem]
  refine qln_some fun hl1 => ?_
  try simp [-List.map_set, go_sem]
  refine pw_wkL [(0, .v (.sl false 2 (a0.map row_ViewCount_z))), (1, .v (.int .i64 (IntKind.i64.wrap (a1 - (a0.length : Int)))))] (by simp [-List.map_set, go_sem]) ?_
  try simp [-List.map_set, go_sem]
  refine pw_wkL [(0, .v (.sl false 2 (a0.map row_ViewCount_z))), (1, .v (.int .i64 (IntKind.i64.wrap (a1 - (a0.length : Int))))), (11, .v (.bool (decide ((IntKind.i64.wrap (a1 - (a0.length : Int))) < 0))))] (by simp [-List.map_set, go_sem]) ?_
  repeat rw [pw_seq]
  refine pw_cond' (v := decide ((IntKind.i64.wrap (a1 - (a0.length : Int))) < 0)) (by simp [-List.map_set, go_sem]) (fun h2 => ?_) (fun h2 => ?_)
  · have hF3 := Rn_t hF h2
    try simp [-List.map_set, go_sem, h2]
    refine pw_wkL [(4, .v (.int .i64 (-1)))] (by simp [-List.map_set, go_sem, h2]) ?_
    try simp [-List.map_set, go_sem, h2]
    have h4 := Rn_some hF3
    have h5 := hΦ _ h4
    subst h5
    try simp [-List.map_set, go_sem, h2]
  · have hF6 := Rn_f hF h2
    try simp [-List.map_set, go_sem, h2]
    refine pw_wkL [(0, .v (.sl false 2 (a0.map row_ViewCount_z))), (1, .v (.int .i64 (IntKind.i64.wrap (a1 - (a0.length : Int)))))] (by simp [-List.map_set, go_sem, h2]) ?_
    try simp [-List.map_set, go_sem, h2]
    refine pw_wkL [(0, .v (.sl false 2 (a0.map row_ViewCount_z))), (1, .v (.int .i64 (IntKind.i64.wrap (a1 - (a0.length : Int))))), (5, .v (.int .i64 0))] (by simp [-List.map_set, go_sem, h2]) ?_
    repeat rw [pw_seq]
    refine pw_joinS (fun (x11 : Int) => [(1, .v (.int .i64 x11))]) hF6 ?_ ?_
    · intro x11 hF12
      try dsimp only at hF12
      try simp [-List.map_set, go_sem, h2]
      refine pw_wkL [(4, .v (.int .i64 x11))] (by simp [-List.map_set, go_sem, h2]) ?_
      try simp [-List.map_set, go_sem, h2]
      have h80 := Rn_some hF12
      have h81 := hΦ _ h80
      subst h81
      try simp [-List.map_set, go_sem, h2]
    · intro ψ9 hj7 hr8 hF10
      repeat rw [pw_seq]
      rw [pw_block]
      try simp [-List.map_set, go_sem]
      obtain ⟨b78, hb79, hψ50⟩ := hF10
      refine pw_wloop (fun (s46 : Int × Int) => [(0, .v (.sl false 2 (a0.map row_ViewCount_z))), (1, .v (.int .i64 s46.1)), (5, .v (.int .i64 s46.2))]) hb79 (by simp [-List.map_set, go_sem, h2]) ?_
      intro s46 φ51 N52 ho48 hg49 hF53
      try dsimp only at hF53
      try simp [-List.map_set, go_sem, h2]
      refine qln_some fun hl54 => ?_
      try simp [-List.map_set, go_sem, h2]
      refine pw_wkL [(0, .v (.sl false 2 (a0.map row_ViewCount_z))), (1, .v (.int .i64 s46.1)), (5, .v (.int .i64 s46.2)), (15, .v (.bool (decide (s46.2 < (a0.length : Int)))))] (by simp [-List.map_set, go_sem, h2]) ?_
      repeat rw [pw_seq]
      refine pw_cond' (v := decide (s46.2 < (a0.length : Int))) (by simp [-List.map_set, go_sem, h2]) (fun h55 => ?_) (fun h55 => ?_)
      · have hF56 := Rn_t hF53 h55
        try simp [-List.map_set, go_sem, h2, h55]
        refine pw_wkL [(0, .v (.sl false 2 (a0.map row_ViewCount_z))), (1, .v (.int .i64 s46.1)), (5, .v (.int .i64 s46.2))] (by simp [-List.map_set, go_sem, h2, h55]) ?_
        repeat rw [pw_seq]
        rw [pw_block]
        obtain ⟨x57, e58, hF59⟩ := Rn_bind hF56
        obtain ⟨g60, g61, g62⟩ := ix_some e58
        have g63 := ix_get e58
        try simp only [Int.toNat_natCast, Int.toNat_zero, Int.toNat_one, Int.reduceToNat] at g62 g63
        obtain ⟨z64, e65, hF66⟩ := Rn_bind hF59
        try simp [-List.map_set, go_sem, h2, h55, g60, g61, g62, g63]
        refine pw_callE [.sh, .sh] rfl rfl (by (try simp [-List.map_set, go_sem, clE, h2, h55, g60, g61, g62, g63]); first | rfl | done) (by rfl) (c_laws_szViewCount e65) (by (try simp [-List.map_set, go_sem, h2, h55, g60, g61, g62, g63]); first | rfl | done) (fun r0 os0 ho0 => ?_)
        obtain ⟨ho1, ho2⟩ := ho0
        subst ho1
        subst ho2
        refine ⟨by simp [-List.map_set, go_sem, h2, h55, g60, g61, g62, g63], ?_⟩
        try simp [-List.map_set, go_sem, h2, h55, g60, g61, g62, g63]
        refine pw_wkL [(0, .v (.sl false 2 (a0.map row_ViewCount_z))), (1, .v (.int .i64 z64)), (5, .v (.int .i64 s46.2))] (by simp [-List.map_set, go_sem, h2, h55, g60, g61, g62, g63]) ?_
        try simp [-List.map_set, go_sem, h2, h55, g60, g61, g62, g63]
        refine pw_wkL [(0, .v (.sl false 2 (a0.map row_ViewCount_z))), (1, .v (.int .i64 z64)), (5, .v (.int .i64 s46.2)), (25, .v (.bool (decide (z64 < 0))))] (by simp [-List.map_set, go_sem, h2, h55, g60, g61, g62, g63]) ?_
        repeat rw [pw_seq]
        refine pw_cond' (v := decide (z64 < 0)) (by simp [-List.map_set, go_sem, h2, h55, g60, g61, g62, g63]) (fun h67 => ?_) (fun h67 => ?_)
        · have hF68 := Rn_t hF66 h67
          try simp [-List.map_set, go_sem, h2, h55, g60, g61, g62, g63, h67]
          refine pw_wkL [(4, .v (.int .i64 (-1)))] (by simp [-List.map_set, go_sem, h2, h55, g60, g61, g62, g63, h67]) ?_
          try simp [-List.map_set, go_sem, h2, h55, g60, g61, g62, g63, h67]
          have h69 := Rn_some hF68
          have h70 := ho48 _ h69
          subst h70
          have h71 := hr8 _ hψ50
          have h72 := hΦ _ h71
          subst h72
          try simp [-List.map_set, go_sem, h2, h55, g60, g61, g62, g63, h67]
        · have hF73 := Rn_f hF66 h67
          try simp [-List.map_set, go_sem, h2, h55, g60, g61, g62, g63, h67]
          refine pw_wkL [(0, .v (.sl false 2 (a0.map row_ViewCount_z))), (1, .v (.int .i64 z64)), (5, .v (.int .i64 s46.2))] (by simp [-List.map_set, go_sem, h2, h55, g60, g61, g62, g63, h67]) ?_
          try simp [-List.map_set, go_sem, h2, h55, g60, g61, g62, g63, h67]
          have h74 := Rn_some hF73
          exact hg49 (z64, IntKind.i64.wrap (s46.2 + 1)) _ (by simp [-List.map_set, go_sem, h2, h55, g60, g61, g62, g63, h67]) h74
      · have hF75 := Rn_f hF53 h55
        try simp [-List.map_set, go_sem, h2, h55]
        have h76 := Rn_some hF75
        have h77 := ho48 _ h76
        subst h77
        exact hj7 s46.1 _ (by simp [-List.map_set, go_sem, h2, h55]) hψ50
noncomputable def F_laws_toIntS (a0 : (List Int)) : Option ((List Int)) :=
  gd (0 ≤ (a0.length : Int) ∧ (a0.length : Int) ≤ (a0.length : Int) ∧ 8 * (a0.length : Int) ≤ 140737488355328 ∧ (a0.length : Int) ≤ 4611686018427387904) <|
  ((wloop (σ := (List Int) × Int) (β := (List Int)) (fun s42 =>
  if decide (s42.2 < (a0.length : Int)) = true then (
  (ix a0 s42.2).bind fun x53 =>
  (ix s42.1 s42.2).bind fun x60 =>
  some (.go (s42.1.set s42.2.toNat x53, IntKind.i64.wrap (s42.2 + 1)))) else (
  some (.out s42.1))) (List.replicate a0.length 0, 0) : Option ((List Int))).bind fun (x9 : (List Int)) =>
  some x9)
theorem c_laws_toIntS {a0 : (List Int)} {r : (List Int)} (hr : F_laws_toIntS a0 = some r) : PCalls Try.prog 20 [(.sh, .sl false 1 (a0.map row_i64))] (fun o os => o = .sl true 1 (r.map row_i64) ∧ os = [.junk]) := by
  refine pcalls_lift (R := fun (r : (List Int)) o os => o = .sl true 1 (r.map row_i64) ∧ os = [.junk]) [] [] hr cl20 Try.func20 rfl (by simp [Try.f20]) fun Φ hΦ hF => ?_
  unfold F_laws_toIntS at hF
  simp only [Try.f20, ioL_nil, ioL_sh, ioL_mv, ioL_io]
  try simp [-List.map_set, go_sem]
  refine pw_wkL [(0, .v (.sl false 1 (a0.map row_i64)))] (by simp [-List.map_set, go_sem]) ?_
  try simp [-List.map_set, go_sem]
  refine qln_some fun hl1 => ?_
  obtain ⟨g2, hF3⟩ := Rn_gd hF
  have g4 := g2
  try simp at g4
  try simp [-List.map_set, go_sem, g2, g4]
  refine pw_wkL [(0, .v (.sl false 1 (a0.map row_i64))), (3, .v (.sl true 1 ((List.replicate a0.length 0).map row_i64)))] (by simp [-List.map_set, go_sem, g2, g4]) ?_
  try simp [-List.map_set, go_sem, g2, g4]
  refine pw_wkL [(0, .v (.sl false 1 (a0.map row_i64))), (3, .v (.sl true 1 ((List.replicate a0.length 0).map row_i64))), (4, .v (.int .i64 0))] (by simp [-List.map_set, go_sem, g2, g4]) ?_
  repeat rw [pw_seq]
  refine pw_joinF (fun (x9 : (List Int)) => [(3, .v (.sl true 1 (x9.map row_i64)))]) hF3 ?_ ?_
  · intro x9 hF10
    try dsimp only at hF10
    try simp [-List.map_set, go_sem, g2, g4]
    refine pw_wkL [(2, .v (.sl true 1 (x9.map row_i64)))] (by simp [-List.map_set, go_sem, g2, g4]) ?_
    try simp [-List.map_set, go_sem, g2, g4]
    have h73 := Rn_some hF10
    have h74 := hΦ _ h73
    subst h74
    try simp [-List.map_set, go_sem, g2, g4]
  · intro ψ7 hj5 hF8
    repeat rw [pw_seq]
    rw [pw_block]
    try simp [-List.map_set, go_sem]
    obtain ⟨b71, hb72, hψ46⟩ := hF8
    refine pw_wloop (fun (s42 : (List Int) × Int) => [(0, .v (.sl false 1 (a0.map row_i64))), (3, .v (.sl true 1 (s42.1.map row_i64))), (4, .v (.int .i64 s42.2))]) hb72 (by simp [-List.map_set, go_sem, g2, g4]) ?_
    intro s42 φ47 N48 ho44 hg45 hF49
    try dsimp only at hF49
    try simp [-List.map_set, go_sem, g2, g4]
    refine qln_some fun hl50 => ?_
    try simp [-List.map_set, go_sem, g2, g4]
    refine pw_wkL [(0, .v (.sl false 1 (a0.map row_i64))), (3, .v (.sl true 1 (s42.1.map row_i64))), (4, .v (.int .i64 s42.2)), (11, .v (.bool (decide (s42.2 < (a0.length : Int)))))] (by simp [-List.map_set, go_sem, g2, g4]) ?_
    repeat rw [pw_seq]
    refine pw_cond' (v := decide (s42.2 < (a0.length : Int))) (by simp [-List.map_set, go_sem, g2, g4]) (fun h51 => ?_) (fun h51 => ?_)
    · have hF52 := Rn_t hF49 h51
      try simp [-List.map_set, go_sem, g2, g4, h51]
      refine pw_wkL [(0, .v (.sl false 1 (a0.map row_i64))), (3, .v (.sl true 1 (s42.1.map row_i64))), (4, .v (.int .i64 s42.2))] (by simp [-List.map_set, go_sem, g2, g4, h51]) ?_
      repeat rw [pw_seq]
      rw [pw_block]
      obtain ⟨x53, e54, hF55⟩ := Rn_bind hF52
      obtain ⟨g56, g57, g58⟩ := ix_some e54
      have g59 := ix_get e54
      try simp only [Int.toNat_natCast, Int.toNat_zero, Int.toNat_one, Int.reduceToNat] at g58 g59
      obtain ⟨x60, e61, hF62⟩ := Rn_bind hF55
      obtain ⟨g63, g64, g65⟩ := ix_some e61
      have g66 := ix_get e61
      try simp only [Int.toNat_natCast, Int.toNat_zero, Int.toNat_one, Int.reduceToNat] at g65 g66
      try simp [-List.map_set, go_sem, g2, g4, h51, g56, g57, g58, g59, g63, g64, g65, g66]
      refine pw_wkL [(0, .v (.sl false 1 (a0.map row_i64))), (3, .v (.sl true 1 ((s42.1.set s42.2.toNat x53).map row_i64))), (4, .v (.int .i64 s42.2))] (by simp [-List.map_set, go_sem, g2, g4, h51, g56, g57, g58, g59, g63, g64, g65, g66]) ?_
      try simp [-List.map_set, go_sem, g2, g4, h51, g56, g57, g58, g59, g63, g64, g65, g66]
      have h67 := Rn_some hF62
      exact hg45 (s42.1.set s42.2.toNat x53, IntKind.i64.wrap (s42.2 + 1)) _ (by simp [-List.map_set, go_sem, g2, g4, h51, g56, g57, g58, g59, g63, g64, g65, g66]) h67
    · have hF68 := Rn_f hF49 h51
      try simp [-List.map_set, go_sem, g2, g4, h51]
      have h69 := Rn_some hF68
      have h70 := ho44 _ h69
      subst h70
      exact hj5 s42.1 _ (by simp [-List.map_set, go_sem, g2, g4, h51]) hψ46
noncomputable def F_laws_toViewCount (a0 : ViewCount) : Option (ViewCount) :=
  (F_laws_toIntS a0.View).bind fun z1 =>
  some (ViewCount.mk z1 a0.Times)
theorem c_laws_toViewCount {a0 : ViewCount} {r : ViewCount} (hr : F_laws_toViewCount a0 = some r) : PCalls Try.prog 39 [(.sh, .agg [.sl false 1 (a0.View.map row_i64), .int .i64 a0.Times])] (fun o os => o = .agg [.sl true 1 (r.View.map row_i64), .int .i64 r.Times] ∧ os = [.junk]) := by
  refine pcalls_lift (R := fun (r : ViewCount) o os => o = .agg [.sl true 1 (r.View.map row_i64), .int .i64 r.Times] ∧ os = [.junk]) [] [] hr cl39 Try.func39 rfl (by simp [Try.f39]) fun Φ hΦ hF => ?_
  unfold F_laws_toViewCount at hF
  simp only [Try.f39, ioL_nil, ioL_sh, ioL_mv, ioL_io]
  try simp [-List.map_set, go_sem]
  refine pw_wkL [(1, .bl [.sl false 1 (a0.View.map row_i64), .int .i64 a0.Times]), (2, .bl [.sl true 1 [], .int .i64 0])] (by simp [-List.map_set, go_sem]) ?_
  try simp [-List.map_set, go_sem]
  refine pw_wkL [(1, .bl [.sl false 1 (a0.View.map row_i64), .int .i64 a0.Times]), (2, .bl [.sl true 1 [], .int .i64 0]), (3, .bl [.sl true 1 [], .int .i64 0])] (by simp [-List.map_set, go_sem]) ?_
  obtain ⟨z1, e2, hF3⟩ := Rn_bind hF
  try simp [-List.map_set, go_sem]
  refine pw_callE [.sh] rfl rfl (by (try simp [-List.map_set, go_sem, clE]); first | rfl | done) (by rfl) (c_laws_toIntS e2) (by (try simp [-List.map_set, go_sem]); first | rfl | done) (fun r0 os0 ho0 => ?_)
  obtain ⟨ho1, ho2⟩ := ho0
  subst ho1
  subst ho2
  refine ⟨by simp [-List.map_set, go_sem], ?_⟩
  try simp [-List.map_set, go_sem]
  refine pw_wkL [(1, .bl [.sl false 1 (a0.View.map row_i64), .int .i64 a0.Times]), (2, .bl [.sl true 1 [], .int .i64 0]), (3, .bl [.sl true 1 (z1.map row_i64), .int .i64 0])] (by simp [-List.map_set, go_sem]) ?_
  try simp [-List.map_set, go_sem]
  refine pw_wkL [(2, .bl [.sl true 1 [], .int .i64 0]), (3, .bl [.sl true 1 (z1.map row_i64), .int .i64 a0.Times])] (by simp [-List.map_set, go_sem]) ?_
  try simp [-List.map_set, go_sem]
  refine pw_wkL [(2, .bl [.sl true 1 (z1.map row_i64), .int .i64 a0.Times])] (by simp [-List.map_set, go_sem]) ?_
  try simp [-List.map_set, go_sem]
  have h4 := Rn_some hF3
  have h5 := hΦ _ h4
  subst h5
  try simp [-List.map_set, go_sem]
noncomputable def F_laws_toViewCountS (a0 : (List ViewCount)) : Option ((List ViewCount)) :=
  gd (0 ≤ (a0.length : Int) ∧ (a0.length : Int) ≤ (a0.length : Int) ∧ 32 * (a0.length : Int) ≤ 140737488355328 ∧ (a0.length : Int) ≤ 4611686018427387904) <|
  ((wloop (σ := (List ViewCount) × Int) (β := (List ViewCount)) (fun s45 =>
  if decide (s45.2 < (a0.length : Int)) = true then (
  (ix a0 s45.2).bind fun x56 =>
  (F_laws_toViewCount x56).bind fun z63 =>
  (ix s45.1 s45.2).bind fun x66 =>
  some (.go (s45.1.set s45.2.toNat z63, IntKind.i64.wrap (s45.2 + 1)))) else (
  some (.out s45.1))) (List.replicate a0.length (ViewCount.mk [] 0), 0) : Option ((List ViewCount))).bind fun (x9 : (List ViewCount)) =>
  some x9)
theorem c_laws_toViewCountS {a0 : (List ViewCount)} {r : (List ViewCount)} (hr : F_laws_toViewCountS a0 = some r) : PCalls Try.prog 12 [(.sh, .sl false 2 (a0.map row_ViewCount_z))] (fun o os => o = .sl true 2 (r.map row_ViewCount_o) ∧ os = [.junk]) := by
  refine pcalls_lift (R := fun (r : (List ViewCount)) o os => o = .sl true 2 (r.map row_ViewCount_o) ∧ os = [.junk]) [30] [] hr cl12 Try.func12 rfl (by simp [Try.f12]) fun Φ hΦ hF => ?_
  unfold F_laws_toViewCountS at hF
  simp only [Try.f12, ioL_nil, ioL_sh, ioL_mv, ioL_io]
  try simp [-List.map_set, go_sem]
  refine pw_wkL [(0, .v (.sl false 2 (a0.map row_ViewCount_z)))] (by simp [-List.map_set, go_sem]) ?_
  try simp [-List.map_set, go_sem]
  refine qln_some fun hl1 => ?_
  obtain ⟨g2, hF3⟩ := Rn_gd hF
  have g4 := g2
  try simp at g4
  try simp [-List.map_set, go_sem, g2, g4]
  refine pw_wkL [(0, .v (.sl false 2 (a0.map row_ViewCount_z))), (3, .v (.sl true 2 ((List.replicate a0.length (ViewCount.mk [] 0)).map row_ViewCount_o)))] (by simp [-List.map_set, go_sem, g2, g4]) ?_
  try simp [-List.map_set, go_sem, g2, g4]
  refine pw_wkL [(0, .v (.sl false 2 (a0.map row_ViewCount_z))), (3, .v (.sl true 2 ((List.replicate a0.length (ViewCount.mk [] 0)).map row_ViewCount_o))), (4, .v (.int .i64 0))] (by simp [-List.map_set, go_sem, g2, g4]) ?_
  repeat rw [pw_seq]
  refine pw_joinF (fun (x9 : (List ViewCount)) => [(3, .v (.sl true 2 (x9.map row_ViewCount_o)))]) hF3 ?_ ?_
  · intro x9 hF10
    try dsimp only at hF10
    try simp [-List.map_set, go_sem, g2, g4]
    refine pw_wkL [(2, .v (.sl true 2 (x9.map row_ViewCount_o)))] (by simp [-List.map_set, go_sem, g2, g4]) ?_
    try simp [-List.map_set, go_sem, g2, g4]
    have h79 := Rn_some hF10
    have h80 := hΦ _ h79
    subst h80
    try simp [-List.map_set, go_sem, g2, g4]
  · intro ψ7 hj5 hF8
    repeat rw [pw_seq]
    rw [pw_block]
    try simp [-List.map_set, go_sem]
    obtain ⟨b77, hb78, hψ49⟩ := hF8
    refine pw_wloop (fun (s45 : (List ViewCount) × Int) => [(0, .v (.sl false 2 (a0.map row_ViewCount_z))), (3, .v (.sl true 2 (s45.1.map row_ViewCount_o))), (4, .v (.int .i64 s45.2))]) hb78 (by simp [-List.map_set, go_sem, g2, g4]) ?_
    intro s45 φ50 N51 ho47 hg48 hF52
    try dsimp only at hF52
    try simp [-List.map_set, go_sem, g2, g4]
    refine qln_some fun hl53 => ?_
    try simp [-List.map_set, go_sem, g2, g4]
    refine pw_wkL [(0, .v (.sl false 2 (a0.map row_ViewCount_z))), (3, .v (.sl true 2 (s45.1.map row_ViewCount_o))), (4, .v (.int .i64 s45.2)), (11, .v (.bool (decide (s45.2 < (a0.length : Int)))))] (by simp [-List.map_set, go_sem, g2, g4]) ?_
    repeat rw [pw_seq]
    refine pw_cond' (v := decide (s45.2 < (a0.length : Int))) (by simp [-List.map_set, go_sem, g2, g4]) (fun h54 => ?_) (fun h54 => ?_)
    · have hF55 := Rn_t hF52 h54
      try simp [-List.map_set, go_sem, g2, g4, h54]
      refine pw_wkL [(0, .v (.sl false 2 (a0.map row_ViewCount_z))), (3, .v (.sl true 2 (s45.1.map row_ViewCount_o))), (4, .v (.int .i64 s45.2))] (by simp [-List.map_set, go_sem, g2, g4, h54]) ?_
      repeat rw [pw_seq]
      rw [pw_block]
      obtain ⟨x56, e57, hF58⟩ := Rn_bind hF55
      obtain ⟨g59, g60, g61⟩ := ix_some e57
      have g62 := ix_get e57
      try simp only [Int.toNat_natCast, Int.toNat_zero, Int.toNat_one, Int.reduceToNat] at g61 g62
      obtain ⟨z63, e64, hF65⟩ := Rn_bind hF58
      try simp [-List.map_set, go_sem, g2, g4, h54, g59, g60, g61, g62]
      refine pw_callE [.sh] rfl rfl (by (try simp [-List.map_set, go_sem, clE, g2, g4, h54, g59, g60, g61, g62]); first | rfl | done) (by rfl) (c_laws_toViewCount e64) (by (try simp [-List.map_set, go_sem, g2, g4, h54, g59, g60, g61, g62]); first | rfl | done) (fun r0 os0 ho0 => ?_)
      obtain ⟨ho1, ho2⟩ := ho0
      subst ho1
      subst ho2
      refine ⟨by simp [-List.map_set, go_sem, g2, g4, h54, g59, g60, g61, g62], ?_⟩
      obtain ⟨x66, e67, hF68⟩ := Rn_bind hF65
      obtain ⟨g69, g70, g71⟩ := ix_some e67
      have g72 := ix_get e67
      try simp only [Int.toNat_natCast, Int.toNat_zero, Int.toNat_one, Int.reduceToNat] at g71 g72
      try simp [-List.map_set, go_sem, g2, g4, h54, g59, g60, g61, g62, g69, g70, g71, g72]
      refine pw_wkL [(0, .v (.sl false 2 (a0.map row_ViewCount_z))), (3, .v (.sl true 2 ((s45.1.set s45.2.toNat z63).map row_ViewCount_o))), (4, .v (.int .i64 s45.2))] (by simp [-List.map_set, go_sem, g2, g4, h54, g59, g60, g61, g62, g69, g70, g71, g72]) ?_
      try simp [-List.map_set, go_sem, g2, g4, h54, g59, g60, g61, g62, g69, g70, g71, g72]
      have h73 := Rn_some hF68
      exact hg48 (s45.1.set s45.2.toNat z63, IntKind.i64.wrap (s45.2 + 1)) _ (by simp [-List.map_set, go_sem, g2, g4, h54, g59, g60, g61, g62, g69, g70, g71, g72]) h73
    · have hF74 := Rn_f hF52 h54
      try simp [-List.map_set, go_sem, g2, g4, h54]
      have h75 := Rn_some hF74
      have h76 := ho47 _ h75
      subst h76
      exact hj5 s45.1 _ (by simp [-List.map_set, go_sem, g2, g4, h54]) hψ49
noncomputable def F_spec_l1In (a0 : Int) (a1 : Int) (a2 : Int) : Option (Bool) :=
  ((if decide (a1 ≤ a0) = true then (
  some (decide (a0 ≤ a2))) else (
  some false) : Option (Bool)).bind fun (x5 : Bool) =>
  some x5)
theorem c_spec_l1In {a0 : Int} {a1 : Int} {a2 : Int} {r : Bool} (hr : F_spec_l1In a0 a1 a2 = some r) : PCalls Try.prog 54 [(.sh, .int .i64 a0), (.sh, .int .i64 a1), (.sh, .int .i64 a2)] (fun o os => o = .bool r ∧ os = [.junk, .junk, .junk]) := by
  refine pcalls_lift (R := fun (r : Bool) o os => o = .bool r ∧ os = [.junk, .junk, .junk]) [] [] hr cl54 Try.func54 rfl (by simp [Try.f54]) fun Φ hΦ hF => ?_
  unfold F_spec_l1In at hF
  simp only [Try.f54, ioL_nil, ioL_sh, ioL_mv, ioL_io]
  try simp [-List.map_set, go_sem]
  refine pw_wkL [(0, .v (.int .i64 a0)), (1, .v (.int .i64 a1)), (2, .v (.int .i64 a2))] (by simp [-List.map_set, go_sem]) ?_
  repeat rw [pw_seq]
  refine pw_joinF (fun (x5 : Bool) => [(6, .v (.bool x5))]) hF ?_ ?_
  · intro x5 hF6
    try dsimp only at hF6
    try simp [-List.map_set, go_sem]
    have h12 := Rn_some hF6
    have h13 := hΦ _ h12
    subst h13
    try simp [-List.map_set, go_sem]
  · intro ψ3 hj1 hF4
    try simp [-List.map_set, go_sem]
    refine pwg_split (fun h7 => ?_) (fun h7 => ?_)
    · have hF8 := Rn_t hF4 h7
      try simp [-List.map_set, go_sem, h7]
      have h9 := Rn_some hF8
      exact hj1 (decide (a0 ≤ a2)) _ (by simp [-List.map_set, go_sem, h7]) h9
    · have hF10 := Rn_f hF4 h7
      try simp [-List.map_set, go_sem, h7]
      have h11 := Rn_some hF10
      exact hj1 false _ (by simp [-List.map_set, go_sem, h7]) h11
noncomputable def F_spec_wLess (a0 : (List Int)) (a1 : (List Int)) : Option (Bool) :=
  ((rloop (σ := Unit) (β := Unit ⊕ Bool) (fun i9 s8 =>
  if (i9 == (a1.length : Int)) = true then (
  some (.out (.inr false))) else (
  (ix a0 i9).bind fun x26 =>
  (ix a1 i9).bind fun x33 =>
  if (x26 != x33) = true then (
  some (.out (.inr (decide (x26 < x33))))) else (
  some (.go ())))) (fun s8 => .inl ()) (a0.length) 0 () : Option (Unit ⊕ Bool)).bind (Sum.elim (fun (x6 : Unit) =>
  some (decide ((a0.length : Int) < (a1.length : Int)))) some))
theorem c_spec_wLess {a0 : (List Int)} {a1 : (List Int)} {r : Bool} (hr : F_spec_wLess a0 a1 = some r) : PCalls Try.prog 84 [(.sh, .sl false 1 (a0.map row_i64)), (.sh, .sl false 1 (a1.map row_i64))] (fun o os => o = .bool r ∧ os = [.junk, .junk]) := by
  refine pcalls_lift (R := fun (r : Bool) o os => o = .bool r ∧ os = [.junk, .junk]) [] [] hr cl84 Try.func84 rfl (by simp [Try.f84]) fun Φ hΦ hF => ?_
  unfold F_spec_wLess at hF
  simp only [Try.f84, ioL_nil, ioL_sh, ioL_mv, ioL_io]
  try simp [-List.map_set, go_sem]
  refine pw_wkL [(0, .v (.sl false 1 (a0.map row_i64))), (1, .v (.sl false 1 (a1.map row_i64)))] (by simp [-List.map_set, go_sem]) ?_
  try simp [-List.map_set, go_sem]
  refine qln_some fun hl1 => ?_
  try simp [-List.map_set, go_sem]
  refine pw_wkL [(0, .v (.sl false 1 (a0.map row_i64))), (1, .v (.sl false 1 (a1.map row_i64))), (7, .v (.int .i64 (a0.length : Int))), (8, .v (.int .i64 0))] (by simp [-List.map_set, go_sem]) ?_
  repeat rw [pw_seq]
  refine pw_joinS (fun (x6 : Unit) => [(0, .v (.sl false 1 (a0.map row_i64))), (1, .v (.sl false 1 (a1.map row_i64)))]) hF ?_ ?_
  · intro x6 hF7
    try dsimp only at hF7
    try simp [-List.map_set, go_sem]
    refine qln_some fun hl52 => ?_
    try simp [-List.map_set, go_sem]
    refine qln_some fun hl53 => ?_
    try simp [-List.map_set, go_sem]
    refine pw_wkL [(4, .v (.bool (decide ((a0.length : Int) < (a1.length : Int)))))] (by simp [-List.map_set, go_sem]) ?_
    try simp [-List.map_set, go_sem]
    have h54 := Rn_some hF7
    have h55 := hΦ _ h54
    subst h55
    try simp [-List.map_set, go_sem]
  · intro ψ4 hj2 hr3 hF5
    repeat rw [pw_seq]
    rw [pw_block]
    try simp [-List.map_set, go_sem]
    obtain ⟨b48, hb49, hψ12⟩ := hF5
    refine pw_rloop (fun (i9 : Int) (s8 : Unit) => [(0, .v (.sl false 1 (a0.map row_i64))), (1, .v (.sl false 1 (a1.map row_i64))), (7, .v (.int .i64 (a0.length : Int))), (8, .v (.int .i64 i9))]) hb49 (by simp [-List.map_set, go_sem]) ?_ ?_
    · intro s8 N51 hN50
      subst hN50
      try simp [-List.map_set, go_sem]
      refine pw_wk ?_
      repeat rw [pw_seq]
      refine pw_cond_f (by simp [-List.map_set, go_sem]) ?_
      try simp [-List.map_set, go_sem]
      exact hj2 () _ (by simp [-List.map_set, go_sem]) hψ12
    · intro i9 s8 φ13 N14 hi16 hi17 ho10 hg11 hF15
      try dsimp only at hF15
      rw [Int.zero_add] at hi17
      try simp [-List.map_set, go_sem, hi16, hi17]
      refine pw_wkL [(0, .v (.sl false 1 (a0.map row_i64))), (1, .v (.sl false 1 (a1.map row_i64))), (7, .v (.int .i64 (a0.length : Int))), (8, .v (.int .i64 i9)), (9, .v (.bool (decide (i9 < (a0.length : Int)))))] (by simp [-List.map_set, go_sem, hi16, hi17]) ?_
      repeat rw [pw_seq]
      refine pw_cond_t (by simp [-List.map_set, go_sem, hi16, hi17]) ?_
      try simp [-List.map_set, go_sem, hi16, hi17]
      refine pw_wkL [(0, .v (.sl false 1 (a0.map row_i64))), (1, .v (.sl false 1 (a1.map row_i64))), (7, .v (.int .i64 (a0.length : Int))), (8, .v (.int .i64 i9))] (by simp [-List.map_set, go_sem, hi16, hi17]) ?_
      repeat rw [pw_seq]
      rw [pw_block]
      try simp [-List.map_set, go_sem, hi16, hi17]
      refine pw_wkL [(0, .v (.sl false 1 (a0.map row_i64))), (1, .v (.sl false 1 (a1.map row_i64))), (5, .v (.int .i64 i9)), (7, .v (.int .i64 (a0.length : Int))), (8, .v (.int .i64 i9))] (by simp [-List.map_set, go_sem, hi16, hi17]) ?_
      try simp [-List.map_set, go_sem, hi16, hi17]
      refine qln_some fun hl18 => ?_
      try simp [-List.map_set, go_sem, hi16, hi17]
      refine pw_wkL [(0, .v (.sl false 1 (a0.map row_i64))), (1, .v (.sl false 1 (a1.map row_i64))), (5, .v (.int .i64 i9)), (7, .v (.int .i64 (a0.length : Int))), (8, .v (.int .i64 i9)), (14, .v (.bool (i9 == (a1.length : Int))))] (by simp [-List.map_set, go_sem, hi16, hi17]) ?_
      repeat rw [pw_seq]
      refine pw_cond' (v := (i9 == (a1.length : Int))) (by simp [-List.map_set, go_sem, hi16, hi17]) (fun h19 => ?_) (fun h19 => ?_)
      · have hF20 := Rn_t hF15 h19
        try simp [-List.map_set, go_sem, hi16, hi17, h19]
        refine pw_wkL [(4, .v (.bool false))] (by simp [-List.map_set, go_sem, hi16, hi17, h19]) ?_
        try simp [-List.map_set, go_sem, hi16, hi17, h19]
        have h21 := Rn_some hF20
        have h22 := ho10 _ h21
        subst h22
        have h23 := hr3 _ hψ12
        have h24 := hΦ _ h23
        subst h24
        try simp [-List.map_set, go_sem, hi16, hi17, h19]
      · have hF25 := Rn_f hF15 h19
        try simp [-List.map_set, go_sem, hi16, hi17, h19]
        refine pw_wkL [(0, .v (.sl false 1 (a0.map row_i64))), (1, .v (.sl false 1 (a1.map row_i64))), (5, .v (.int .i64 i9)), (7, .v (.int .i64 (a0.length : Int))), (8, .v (.int .i64 i9))] (by simp [-List.map_set, go_sem, hi16, hi17, h19]) ?_
        repeat rw [pw_seq]
        refine pw_draw D84_6 follows (by kernel_rfl) rfl ?_
        try simp only [go_sem, D84_6]
        obtain ⟨x26, e27, hF28⟩ := Rn_bind hF25
        obtain ⟨g29, g30, g31⟩ := ix_some e27
        have g32 := ix_get e27
        try simp only [Int.toNat_natCast, Int.toNat_zero, Int.toNat_one, Int.reduceToNat] at g31 g32
        obtain ⟨x33, e34, hF35⟩ := Rn_bind hF28
        obtain ⟨g36, g37, g38⟩ := ix_some e34
        have g39 := ix_get e34
        try simp only [Int.toNat_natCast, Int.toNat_zero, Int.toNat_one, Int.reduceToNat] at g38 g39
        try simp [-List.map_set, go_sem, hi16, hi17, h19, g29, g30, g31, g32, g36, g37, g38, g39]
        refine pw_wkL [(0, .v (.sl false 1 (a0.map row_i64))), (1, .v (.sl false 1 (a1.map row_i64))), (5, .v (.int .i64 i9)), (7, .v (.int .i64 (a0.length : Int))), (8, .v (.int .i64 i9)), (23, .v (.bool (x26 != x33)))] (by simp [-List.map_set, go_sem, hi16, hi17, h19, g29, g30, g31, g32, g36, g37, g38, g39]) ?_
        repeat rw [pw_seq]
        refine pw_cond' (v := (x26 != x33)) (by simp [-List.map_set, go_sem, hi16, hi17, h19, g29, g30, g31, g32, g36, g37, g38, g39]) (fun h40 => ?_) (fun h40 => ?_)
        · have hF41 := Rn_t hF35 h40
          repeat rw [pw_seq]
          refine pw_draw D84_7 follows (by kernel_rfl) rfl ?_
          try simp only [go_sem, D84_7]
          try simp [-List.map_set, go_sem, hi16, hi17, h19, g29, g30, g31, g32, g36, g37, g38, g39, h40]
          refine pw_wkL [(4, .v (.bool (decide (x26 < x33))))] (by simp [-List.map_set, go_sem, hi16, hi17, h19, g29, g30, g31, g32, g36, g37, g38, g39, h40]) ?_
          try simp [-List.map_set, go_sem, hi16, hi17, h19, g29, g30, g31, g32, g36, g37, g38, g39, h40]
          have h42 := Rn_some hF41
          have h43 := ho10 _ h42
          subst h43
          have h44 := hr3 _ hψ12
          have h45 := hΦ _ h44
          subst h45
          try simp [-List.map_set, go_sem, hi16, hi17, h19, g29, g30, g31, g32, g36, g37, g38, g39, h40]
        · have hF46 := Rn_f hF35 h40
          try simp [-List.map_set, go_sem, hi16, hi17, h19, g29, g30, g31, g32, g36, g37, g38, g39, h40]
          refine pw_wkL [(0, .v (.sl false 1 (a0.map row_i64))), (1, .v (.sl false 1 (a1.map row_i64))), (7, .v (.int .i64 (a0.length : Int))), (8, .v (.int .i64 i9))] (by simp [-List.map_set, go_sem, hi16, hi17, h19, g29, g30, g31, g32, g36, g37, g38, g39, h40]) ?_
          try simp [-List.map_set, go_sem, hi16, hi17, h19, g29, g30, g31, g32, g36, g37, g38, g39, h40]
          have h47 := Rn_some hF46
          have hw : IntKind.i64.wrap (i9 + 1) = i9 + 1 := wrI (by have h0 := hl1; simp [maxLen] at h0; omega)
          exact hg11 () _ (by simp [-List.map_set, go_sem, hi16, hi17, h19, g29, g30, g31, g32, g36, g37, g38, g39, h40, hw]) h47
noncomputable def F_spec_wSum (a0 : (List ViewCount)) : Option (Int) :=
  ((rloop (σ := Int) (β := Int) (fun i27 s26 =>
  (ix a0 i27).bind fun x36 =>
  some (.go (IntKind.i64.wrap (s26 + x36.Times)))) (fun s26 => s26) (a0.length) 0 0 : Option (Int)).bind fun (x6 : Int) =>
  some x6)
theorem c_spec_wSum {a0 : (List ViewCount)} {r : Int} (hr : F_spec_wSum a0 = some r) : PCalls Try.prog 42 [(.sh, .sl false 2 (a0.map row_ViewCount_z))] (fun o os => o = .int .i64 r ∧ os = [.junk]) := by
  refine pcalls_lift (R := fun (r : Int) o os => o = .int .i64 r ∧ os = [.junk]) [] [] hr cl42 Try.func42 rfl (by simp [Try.f42]) fun Φ hΦ hF => ?_
  unfold F_spec_wSum at hF
  simp only [Try.f42, ioL_nil, ioL_sh, ioL_mv, ioL_io]
  try simp [-List.map_set, go_sem]
  refine pw_wkL [(0, .v (.sl false 2 (a0.map row_ViewCount_z)))] (by simp [-List.map_set, go_sem]) ?_
  try simp [-List.map_set, go_sem]
  refine pw_wkL [(0, .v (.sl false 2 (a0.map row_ViewCount_z))), (3, .v (.int .i64 0))] (by simp [-List.map_set, go_sem]) ?_
  try simp [-List.map_set, go_sem]
  refine qln_some fun hl1 => ?_
  try simp [-List.map_set, go_sem]
  refine pw_wkL [(3, .v (.int .i64 0)), (6, .v (.sl false 2 (a0.map row_ViewCount_z))), (7, .v (.int .i64 (a0.length : Int))), (8, .v (.int .i64 0))] (by simp [-List.map_set, go_sem]) ?_
  repeat rw [pw_seq]
  refine pw_joinF (fun (x6 : Int) => [(3, .v (.int .i64 x6))]) hF ?_ ?_
  · intro x6 hF7
    try dsimp only at hF7
    try simp [-List.map_set, go_sem]
    refine pw_wkL [(2, .v (.int .i64 x6))] (by simp [-List.map_set, go_sem]) ?_
    try simp [-List.map_set, go_sem]
    have h48 := Rn_some hF7
    have h49 := hΦ _ h48
    subst h49
    try simp [-List.map_set, go_sem]
  · intro ψ4 hj2 hF5
    repeat rw [pw_seq]
    rw [pw_block]
    try simp [-List.map_set, go_sem]
    obtain ⟨b44, hb45, hψ30⟩ := hF5
    refine pw_rloop (fun (i27 : Int) (s26 : Int) => [(3, .v (.int .i64 s26)), (6, .v (.sl false 2 (a0.map row_ViewCount_z))), (7, .v (.int .i64 (a0.length : Int))), (8, .v (.int .i64 i27))]) hb45 (by simp [-List.map_set, go_sem]) ?_ ?_
    · intro s26 N47 hN46
      subst hN46
      try simp [-List.map_set, go_sem]
      refine pw_wk ?_
      repeat rw [pw_seq]
      refine pw_cond_f (by simp [-List.map_set, go_sem]) ?_
      try simp [-List.map_set, go_sem]
      exact hj2 s26 _ (by simp [-List.map_set, go_sem]) hψ30
    · intro i27 s26 φ31 N32 hi34 hi35 ho28 hg29 hF33
      try dsimp only at hF33
      rw [Int.zero_add] at hi35
      try simp [-List.map_set, go_sem, hi34, hi35]
      refine pw_wkL [(3, .v (.int .i64 s26)), (6, .v (.sl false 2 (a0.map row_ViewCount_z))), (7, .v (.int .i64 (a0.length : Int))), (8, .v (.int .i64 i27)), (9, .v (.bool (decide (i27 < (a0.length : Int)))))] (by simp [-List.map_set, go_sem, hi34, hi35]) ?_
      repeat rw [pw_seq]
      refine pw_cond_t (by simp [-List.map_set, go_sem, hi34, hi35]) ?_
      try simp [-List.map_set, go_sem, hi34, hi35]
      refine pw_wkL [(3, .v (.int .i64 s26)), (6, .v (.sl false 2 (a0.map row_ViewCount_z))), (7, .v (.int .i64 (a0.length : Int))), (8, .v (.int .i64 i27))] (by simp [-List.map_set, go_sem, hi34, hi35]) ?_
      repeat rw [pw_seq]
      rw [pw_block]
      obtain ⟨x36, e37, hF38⟩ := Rn_bind hF33
      obtain ⟨g39, g40, g41⟩ := ix_some e37
      have g42 := ix_get e37
      try simp only [Int.toNat_natCast, Int.toNat_zero, Int.toNat_one, Int.reduceToNat] at g41 g42
      try simp [-List.map_set, go_sem, hi34, hi35, g39, g40, g41, g42]
      refine pw_wkL [(3, .v (.int .i64 s26)), (5, .bl [.sl false 1 (x36.View.map row_i64), .int .i64 x36.Times]), (6, .v (.sl false 2 (a0.map row_ViewCount_z))), (7, .v (.int .i64 (a0.length : Int))), (8, .v (.int .i64 i27))] (by simp [-List.map_set, go_sem, hi34, hi35, g39, g40, g41, g42]) ?_
      try simp [-List.map_set, go_sem, hi34, hi35, g39, g40, g41, g42]
      refine pw_wkL [(3, .v (.int .i64 (IntKind.i64.wrap (s26 + x36.Times)))), (6, .v (.sl false 2 (a0.map row_ViewCount_z))), (7, .v (.int .i64 (a0.length : Int))), (8, .v (.int .i64 i27))] (by simp [-List.map_set, go_sem, hi34, hi35, g39, g40, g41, g42]) ?_
      try simp [-List.map_set, go_sem, hi34, hi35, g39, g40, g41, g42]
      have h43 := Rn_some hF38
      have hw : IntKind.i64.wrap (i27 + 1) = i27 + 1 := wrI (by have h0 := hl1; simp [maxLen] at h0; omega)
      exact hg29 (IntKind.i64.wrap (s26 + x36.Times)) _ (by simp [-List.map_set, go_sem, hi34, hi35, g39, g40, g41, g42, hw]) h43
noncomputable def F_spec_wGood (a0 : (List ViewCount)) : Option (Bool) :=
  if decide (3000 < (a0.length : Int)) = true then (
  some false) else (
  ((rloop (σ := Unit) (β := Unit ⊕ Bool) (fun i15 s14 =>
  (ix a0 i15).bind fun x24 =>
  (((F_spec_l1In x24.Times 1 1000000).bind fun z37 =>
  if (!z37) = true then (
  some true) else (
  if decide (24 < (x24.View.length : Int)) = true then (
  some true) else (
  if decide (0 < i15) = true then (
  (ix a0 (IntKind.i64.wrap (i15 - 1))).bind fun x51 =>
  (F_spec_wLess x51.View x24.View).bind fun z58 =>
  some (!z58)) else (
  some false))) : Option (Bool)).bind fun (x35 : Bool) =>
  if x35 = true then (
  some (.out (.inr false))) else (
  some (.go ())))) (fun s14 => .inl ()) (a0.length) 0 () : Option (Unit ⊕ Bool)).bind (Sum.elim (fun (x12 : Unit) =>
  (F_spec_wSum a0).bind fun z76 =>
  some (decide (z76 ≤ 1000000))) some)))
theorem c_spec_wGood {a0 : (List ViewCount)} {r : Bool} (hr : F_spec_wGood a0 = some r) : PCalls Try.prog 38 [(.sh, .sl false 2 (a0.map row_ViewCount_z))] (fun o os => o = .bool r ∧ os = [.junk]) := by
  refine pcalls_lift (R := fun (r : Bool) o os => o = .bool r ∧ os = [.junk]) [] [] hr cl38 Try.func38 rfl (by simp [Try.f38]) fun Φ hΦ hF => ?_
  unfold F_spec_wGood at hF
  simp only [Try.f38, ioL_nil, ioL_sh, ioL_mv, ioL_io]
  try simp [-List.map_set, go_sem]
  refine pw_wkL [(0, .v (.sl false 2 (a0.map row_ViewCount_z)))] (by simp [-List.map_set, go_sem]) ?_
  try simp [-List.map_set, go_sem]
  refine qln_some fun hl1 => ?_
  try simp [-List.map_set, go_sem]
  refine pw_wkL [(0, .v (.sl false 2 (a0.map row_ViewCount_z))), (7, .v (.bool (decide (3000 < (a0.length : Int)))))] (by simp [-List.map_set, go_sem]) ?_
  repeat rw [pw_seq]
  refine pw_cond' (v := decide (3000 < (a0.length : Int))) (by simp [-List.map_set, go_sem]) (fun h2 => ?_) (fun h2 => ?_)
  · have hF3 := Rn_t hF h2
    try simp [-List.map_set, go_sem, h2]
    refine pw_wkL [(2, .v (.bool false))] (by simp [-List.map_set, go_sem, h2]) ?_
    try simp [-List.map_set, go_sem, h2]
    have h4 := Rn_some hF3
    have h5 := hΦ _ h4
    subst h5
    try simp [-List.map_set, go_sem, h2]
  · have hF6 := Rn_f hF h2
    try simp [-List.map_set, go_sem, h2]
    refine pw_wkL [(0, .v (.sl false 2 (a0.map row_ViewCount_z)))] (by simp [-List.map_set, go_sem, h2]) ?_
    try simp [-List.map_set, go_sem, h2]
    refine qln_some fun hl7 => ?_
    try simp [-List.map_set, go_sem, h2]
    refine pw_wkL [(0, .v (.sl false 2 (a0.map row_ViewCount_z))), (8, .v (.sl false 2 (a0.map row_ViewCount_z))), (9, .v (.int .i64 (a0.length : Int))), (10, .v (.int .i64 0))] (by simp [-List.map_set, go_sem, h2]) ?_
    repeat rw [pw_seq]
    refine pw_joinS (fun (x12 : Unit) => [(0, .v (.sl false 2 (a0.map row_ViewCount_z)))]) hF6 ?_ ?_
    · intro x12 hF13
      try dsimp only at hF13
      obtain ⟨z76, e77, hF78⟩ := Rn_bind hF13
      try simp [-List.map_set, go_sem, h2]
      refine pw_callE [.sh] rfl rfl (by (try simp [-List.map_set, go_sem, clE, h2]); first | rfl | done) (by rfl) (c_spec_wSum e77) (by (try simp [-List.map_set, go_sem, h2]); first | rfl | done) (fun r0 os0 ho0 => ?_)
      obtain ⟨ho1, ho2⟩ := ho0
      subst ho1
      subst ho2
      refine ⟨by simp [-List.map_set, go_sem, h2], ?_⟩
      try simp [-List.map_set, go_sem, h2]
      refine pw_wkL [(2, .v (.bool (decide (z76 ≤ 1000000))))] (by simp [-List.map_set, go_sem, h2]) ?_
      try simp [-List.map_set, go_sem, h2]
      have h79 := Rn_some hF78
      have h80 := hΦ _ h79
      subst h80
      try simp [-List.map_set, go_sem, h2]
    · intro ψ10 hj8 hr9 hF11
      repeat rw [pw_seq]
      rw [pw_block]
      try simp [-List.map_set, go_sem]
      obtain ⟨b72, hb73, hψ18⟩ := hF11
      refine pw_rloop (fun (i15 : Int) (s14 : Unit) => [(0, .v (.sl false 2 (a0.map row_ViewCount_z))), (8, .v (.sl false 2 (a0.map row_ViewCount_z))), (9, .v (.int .i64 (a0.length : Int))), (10, .v (.int .i64 i15))]) hb73 (by simp [-List.map_set, go_sem, h2]) ?_ ?_
      · intro s14 N75 hN74
        subst hN74
        try simp [-List.map_set, go_sem]
        refine pw_wk ?_
        repeat rw [pw_seq]
        refine pw_cond_f (by simp [-List.map_set, go_sem]) ?_
        try simp [-List.map_set, go_sem]
        exact hj8 () _ (by simp [-List.map_set, go_sem]) hψ18
      · intro i15 s14 φ19 N20 hi22 hi23 ho16 hg17 hF21
        try dsimp only at hF21
        rw [Int.zero_add] at hi23
        try simp [-List.map_set, go_sem, h2, hi22, hi23]
        refine pw_wkL [(0, .v (.sl false 2 (a0.map row_ViewCount_z))), (8, .v (.sl false 2 (a0.map row_ViewCount_z))), (9, .v (.int .i64 (a0.length : Int))), (10, .v (.int .i64 i15)), (11, .v (.bool (decide (i15 < (a0.length : Int)))))] (by simp [-List.map_set, go_sem, h2, hi22, hi23]) ?_
        repeat rw [pw_seq]
        refine pw_cond_t (by simp [-List.map_set, go_sem, h2, hi22, hi23]) ?_
        try simp [-List.map_set, go_sem, h2, hi22, hi23]
        refine pw_wkL [(0, .v (.sl false 2 (a0.map row_ViewCount_z))), (8, .v (.sl false 2 (a0.map row_ViewCount_z))), (9, .v (.int .i64 (a0.length : Int))), (10, .v (.int .i64 i15))] (by simp [-List.map_set, go_sem, h2, hi22, hi23]) ?_
        repeat rw [pw_seq]
        rw [pw_block]
        obtain ⟨x24, e25, hF26⟩ := Rn_bind hF21
        obtain ⟨g27, g28, g29⟩ := ix_some e25
        have g30 := ix_get e25
        try simp only [Int.toNat_natCast, Int.toNat_zero, Int.toNat_one, Int.reduceToNat] at g29 g30
        try simp [-List.map_set, go_sem, h2, hi22, hi23, g27, g28, g29, g30]
        refine pw_wkL [(0, .v (.sl false 2 (a0.map row_ViewCount_z))), (3, .v (.int .i64 i15)), (4, .bl [.sl false 1 (x24.View.map row_i64), .int .i64 x24.Times]), (8, .v (.sl false 2 (a0.map row_ViewCount_z))), (9, .v (.int .i64 (a0.length : Int))), (10, .v (.int .i64 i15))] (by simp [-List.map_set, go_sem, h2, hi22, hi23, g27, g28, g29, g30]) ?_
        repeat rw [pw_seq]
        refine pw_joinF (fun (x35 : Bool) => [(0, .v (.sl false 2 (a0.map row_ViewCount_z))), (8, .v (.sl false 2 (a0.map row_ViewCount_z))), (9, .v (.int .i64 (a0.length : Int))), (10, .v (.int .i64 i15)), (40, .v (.bool x35))]) hF26 ?_ ?_
        · intro x35 hF36
          try dsimp only at hF36
          repeat rw [pw_seq]
          refine pw_cond' (v := x35) (by simp [-List.map_set, go_sem, h2, hi22, hi23, g27, g28, g29, g30]) (fun h64 => ?_) (fun h64 => ?_)
          · have hF65 := Rn_t hF36 h64
            try simp [-List.map_set, go_sem, h2, hi22, hi23, g27, g28, g29, g30, h64]
            refine pw_wkL [(2, .v (.bool false))] (by simp [-List.map_set, go_sem, h2, hi22, hi23, g27, g28, g29, g30, h64]) ?_
            try simp [-List.map_set, go_sem, h2, hi22, hi23, g27, g28, g29, g30, h64]
            have h66 := Rn_some hF65
            have h67 := ho16 _ h66
            subst h67
            have h68 := hr9 _ hψ18
            have h69 := hΦ _ h68
            subst h69
            try simp [-List.map_set, go_sem, h2, hi22, hi23, g27, g28, g29, g30, h64]
          · have hF70 := Rn_f hF36 h64
            try simp [-List.map_set, go_sem, h2, hi22, hi23, g27, g28, g29, g30, h64]
            refine pw_wkL [(0, .v (.sl false 2 (a0.map row_ViewCount_z))), (8, .v (.sl false 2 (a0.map row_ViewCount_z))), (9, .v (.int .i64 (a0.length : Int))), (10, .v (.int .i64 i15))] (by simp [-List.map_set, go_sem, h2, hi22, hi23, g27, g28, g29, g30, h64]) ?_
            try simp [-List.map_set, go_sem, h2, hi22, hi23, g27, g28, g29, g30, h64]
            have h71 := Rn_some hF70
            have hw : IntKind.i64.wrap (i15 + 1) = i15 + 1 := wrI (by have h0 := hl7; simp [maxLen] at h0; omega)
            exact hg17 () _ (by simp [-List.map_set, go_sem, h2, hi22, hi23, g27, g28, g29, g30, h64, hw]) h71
        · intro ψ33 hj31 hF34
          repeat rw [pw_seq]
          refine pw_draw D38_6 follows (by kernel_rfl) rfl ?_
          try simp only [go_sem, D38_6]
          obtain ⟨z37, e38, hF39⟩ := Rn_bind hF34
          try simp [-List.map_set, go_sem, h2, hi22, hi23, g27, g28, g29, g30]
          refine pw_callE [.sh, .sh, .sh] rfl rfl (by (try simp [-List.map_set, go_sem, clE, h2, hi22, hi23, g27, g28, g29, g30]); first | rfl | done) (by rfl) (c_spec_l1In e38) (by (try simp [-List.map_set, go_sem, h2, hi22, hi23, g27, g28, g29, g30]); first | rfl | done) (fun r0 os0 ho0 => ?_)
          obtain ⟨ho1, ho2⟩ := ho0
          subst ho1
          subst ho2
          refine ⟨by simp [-List.map_set, go_sem, h2, hi22, hi23, g27, g28, g29, g30], ?_⟩
          try simp [-List.map_set, go_sem, h2, hi22, hi23, g27, g28, g29, g30]
          refine pwgD_split (fun h40 => ?_) (fun h40 => ?_)
          · have hF41 := Rn_t hF39 h40
            try simp [-List.map_set, go_sem, h2, hi22, hi23, g27, g28, g29, g30, h40]
            have h42 := Rn_some hF41
            exact hj31 true _ (by simp [-List.map_set, go_sem, h2, hi22, hi23, g27, g28, g29, g30, h40]) h42
          · have hF43 := Rn_f hF39 h40
            try simp [-List.map_set, go_sem, h2, hi22, hi23, g27, g28, g29, g30, h40]
            refine qln_some fun hl44 => ?_
            try simp [-List.map_set, go_sem, h2, hi22, hi23, g27, g28, g29, g30, h40]
            refine pwgD_split (fun h45 => ?_) (fun h45 => ?_)
            · have hF46 := Rn_t hF43 h45
              try simp [-List.map_set, go_sem, h2, hi22, hi23, g27, g28, g29, g30, h40, h45]
              have h47 := Rn_some hF46
              exact hj31 true _ (by simp [-List.map_set, go_sem, h2, hi22, hi23, g27, g28, g29, g30, h40, h45]) h47
            · have hF48 := Rn_f hF43 h45
              try simp [-List.map_set, go_sem, h2, hi22, hi23, g27, g28, g29, g30, h40, h45]
              refine pwgD_split (fun h49 => ?_) (fun h49 => ?_)
              · have hF50 := Rn_t hF48 h49
                obtain ⟨x51, e52, hF53⟩ := Rn_bind hF50
                obtain ⟨g54, g55, g56⟩ := ix_some e52
                have g57 := ix_get e52
                try simp only [Int.toNat_natCast, Int.toNat_zero, Int.toNat_one, Int.reduceToNat] at g56 g57
                obtain ⟨z58, e59, hF60⟩ := Rn_bind hF53
                try simp [-List.map_set, go_sem, h2, hi22, hi23, g27, g28, g29, g30, h40, h45, h49, g54, g55, g56, g57]
                refine pw_callE [.sh, .sh] rfl rfl (by (try simp [-List.map_set, go_sem, clE, h2, hi22, hi23, g27, g28, g29, g30, h40, h45, h49, g54, g55, g56, g57]); first | rfl | done) (by rfl) (c_spec_wLess e59) (by (try simp [-List.map_set, go_sem, h2, hi22, hi23, g27, g28, g29, g30, h40, h45, h49, g54, g55, g56, g57]); first | rfl | done) (fun r0 os0 ho0 => ?_)
                obtain ⟨ho1, ho2⟩ := ho0
                subst ho1
                subst ho2
                refine ⟨by simp [-List.map_set, go_sem, h2, hi22, hi23, g27, g28, g29, g30, h40, h45, h49, g54, g55, g56, g57], ?_⟩
                try simp [-List.map_set, go_sem, h2, hi22, hi23, g27, g28, g29, g30, h40, h45, h49, g54, g55, g56, g57]
                have h61 := Rn_some hF60
                exact hj31 (!z58) _ (by simp [-List.map_set, go_sem, h2, hi22, hi23, g27, g28, g29, g30, h40, h45, h49, g54, g55, g56, g57]) h61
              · have hF62 := Rn_f hF48 h49
                try simp [-List.map_set, go_sem, h2, hi22, hi23, g27, g28, g29, g30, h40, h45, h49]
                have h63 := Rn_some hF62
                exact hj31 false _ (by simp [-List.map_set, go_sem, h2, hi22, hi23, g27, g28, g29, g30, h40, h45, h49]) h63
noncomputable def F_spec_l1Same (a0 : (List Int)) (a1 : (List Int)) : Option (Bool) :=
  if ((a0.length : Int) != (a1.length : Int)) = true then (
  some false) else (
  ((rloop (σ := Unit) (β := Unit ⊕ Bool) (fun i16 s15 =>
  (ix a0 i16).bind fun x25 =>
  (ix a1 i16).bind fun x32 =>
  if (x25 != x32) = true then (
  some (.out (.inr false))) else (
  some (.go ()))) (fun s15 => .inl ()) (a0.length) 0 () : Option (Unit ⊕ Bool)).bind (Sum.elim (fun (x13 : Unit) =>
  some true) some)))
theorem c_spec_l1Same {a0 : (List Int)} {a1 : (List Int)} {r : Bool} (hr : F_spec_l1Same a0 a1 = some r) : PCalls Try.prog 86 [(.sh, .sl false 1 (a0.map row_i64)), (.sh, .sl false 1 (a1.map row_i64))] (fun o os => o = .bool r ∧ os = [.junk, .junk]) := by
  refine pcalls_lift (R := fun (r : Bool) o os => o = .bool r ∧ os = [.junk, .junk]) [] [] hr cl86 Try.func86 rfl (by simp [Try.f86]) fun Φ hΦ hF => ?_
  unfold F_spec_l1Same at hF
  simp only [Try.f86, ioL_nil, ioL_sh, ioL_mv, ioL_io]
  try simp [-List.map_set, go_sem]
  refine pw_wkL [(0, .v (.sl false 1 (a0.map row_i64))), (1, .v (.sl false 1 (a1.map row_i64)))] (by simp [-List.map_set, go_sem]) ?_
  try simp [-List.map_set, go_sem]
  refine qln_some fun hl1 => ?_
  try simp [-List.map_set, go_sem]
  refine qln_some fun hl2 => ?_
  try simp [-List.map_set, go_sem]
  refine pw_wkL [(0, .v (.sl false 1 (a0.map row_i64))), (1, .v (.sl false 1 (a1.map row_i64))), (10, .v (.bool ((a0.length : Int) != (a1.length : Int))))] (by simp [-List.map_set, go_sem]) ?_
  repeat rw [pw_seq]
  refine pw_cond' (v := ((a0.length : Int) != (a1.length : Int))) (by simp [-List.map_set, go_sem]) (fun h3 => ?_) (fun h3 => ?_)
  · have hF4 := Rn_t hF h3
    try simp [-List.map_set, go_sem, h3]
    refine pw_wkL [(4, .v (.bool false))] (by simp [-List.map_set, go_sem, h3]) ?_
    try simp [-List.map_set, go_sem, h3]
    have h5 := Rn_some hF4
    have h6 := hΦ _ h5
    subst h6
    try simp [-List.map_set, go_sem, h3]
  · have hF7 := Rn_f hF h3
    try simp [-List.map_set, go_sem, h3]
    refine pw_wkL [(0, .v (.sl false 1 (a0.map row_i64))), (1, .v (.sl false 1 (a1.map row_i64)))] (by simp [-List.map_set, go_sem, h3]) ?_
    try simp [-List.map_set, go_sem, h3]
    refine qln_some fun hl8 => ?_
    try simp [-List.map_set, go_sem, h3]
    refine pw_wkL [(0, .v (.sl false 1 (a0.map row_i64))), (1, .v (.sl false 1 (a1.map row_i64))), (12, .v (.int .i64 (a0.length : Int))), (13, .v (.int .i64 0))] (by simp [-List.map_set, go_sem, h3]) ?_
    repeat rw [pw_seq]
    refine pw_joinS (fun (x13 : Unit) => []) hF7 ?_ ?_
    · intro x13 hF14
      try dsimp only at hF14
      try simp [-List.map_set, go_sem, h3]
      refine pw_wkL [(4, .v (.bool true))] (by simp [-List.map_set, go_sem, h3]) ?_
      try simp [-List.map_set, go_sem, h3]
      have h51 := Rn_some hF14
      have h52 := hΦ _ h51
      subst h52
      try simp [-List.map_set, go_sem, h3]
    · intro ψ11 hj9 hr10 hF12
      repeat rw [pw_seq]
      rw [pw_block]
      try simp [-List.map_set, go_sem]
      obtain ⟨b47, hb48, hψ19⟩ := hF12
      refine pw_rloop (fun (i16 : Int) (s15 : Unit) => [(0, .v (.sl false 1 (a0.map row_i64))), (1, .v (.sl false 1 (a1.map row_i64))), (12, .v (.int .i64 (a0.length : Int))), (13, .v (.int .i64 i16))]) hb48 (by simp [-List.map_set, go_sem, h3]) ?_ ?_
      · intro s15 N50 hN49
        subst hN49
        try simp [-List.map_set, go_sem]
        refine pw_wk ?_
        repeat rw [pw_seq]
        refine pw_cond_f (by simp [-List.map_set, go_sem]) ?_
        try simp [-List.map_set, go_sem]
        exact hj9 () _ (by simp [-List.map_set, go_sem]) hψ19
      · intro i16 s15 φ20 N21 hi23 hi24 ho17 hg18 hF22
        try dsimp only at hF22
        rw [Int.zero_add] at hi24
        try simp [-List.map_set, go_sem, h3, hi23, hi24]
        refine pw_wkL [(0, .v (.sl false 1 (a0.map row_i64))), (1, .v (.sl false 1 (a1.map row_i64))), (12, .v (.int .i64 (a0.length : Int))), (13, .v (.int .i64 i16)), (14, .v (.bool (decide (i16 < (a0.length : Int)))))] (by simp [-List.map_set, go_sem, h3, hi23, hi24]) ?_
        repeat rw [pw_seq]
        refine pw_cond_t (by simp [-List.map_set, go_sem, h3, hi23, hi24]) ?_
        try simp [-List.map_set, go_sem, h3, hi23, hi24]
        refine pw_wkL [(0, .v (.sl false 1 (a0.map row_i64))), (1, .v (.sl false 1 (a1.map row_i64))), (12, .v (.int .i64 (a0.length : Int))), (13, .v (.int .i64 i16))] (by simp [-List.map_set, go_sem, h3, hi23, hi24]) ?_
        repeat rw [pw_seq]
        rw [pw_block]
        try simp [-List.map_set, go_sem, h3, hi23, hi24]
        refine pw_wkL [(0, .v (.sl false 1 (a0.map row_i64))), (1, .v (.sl false 1 (a1.map row_i64))), (5, .v (.int .i64 i16)), (12, .v (.int .i64 (a0.length : Int))), (13, .v (.int .i64 i16))] (by simp [-List.map_set, go_sem, h3, hi23, hi24]) ?_
        repeat rw [pw_seq]
        refine pw_draw D86_6 follows (by kernel_rfl) rfl ?_
        try simp only [go_sem, D86_6]
        obtain ⟨x25, e26, hF27⟩ := Rn_bind hF22
        obtain ⟨g28, g29, g30⟩ := ix_some e26
        have g31 := ix_get e26
        try simp only [Int.toNat_natCast, Int.toNat_zero, Int.toNat_one, Int.reduceToNat] at g30 g31
        obtain ⟨x32, e33, hF34⟩ := Rn_bind hF27
        obtain ⟨g35, g36, g37⟩ := ix_some e33
        have g38 := ix_get e33
        try simp only [Int.toNat_natCast, Int.toNat_zero, Int.toNat_one, Int.reduceToNat] at g37 g38
        try simp [-List.map_set, go_sem, h3, hi23, hi24, g28, g29, g30, g31, g35, g36, g37, g38]
        refine pw_wkL [(0, .v (.sl false 1 (a0.map row_i64))), (1, .v (.sl false 1 (a1.map row_i64))), (12, .v (.int .i64 (a0.length : Int))), (13, .v (.int .i64 i16)), (24, .v (.bool (x25 != x32)))] (by simp [-List.map_set, go_sem, h3, hi23, hi24, g28, g29, g30, g31, g35, g36, g37, g38]) ?_
        repeat rw [pw_seq]
        refine pw_cond' (v := (x25 != x32)) (by simp [-List.map_set, go_sem, h3, hi23, hi24, g28, g29, g30, g31, g35, g36, g37, g38]) (fun h39 => ?_) (fun h39 => ?_)
        · have hF40 := Rn_t hF34 h39
          try simp [-List.map_set, go_sem, h3, hi23, hi24, g28, g29, g30, g31, g35, g36, g37, g38, h39]
          refine pw_wkL [(4, .v (.bool false))] (by simp [-List.map_set, go_sem, h3, hi23, hi24, g28, g29, g30, g31, g35, g36, g37, g38, h39]) ?_
          try simp [-List.map_set, go_sem, h3, hi23, hi24, g28, g29, g30, g31, g35, g36, g37, g38, h39]
          have h41 := Rn_some hF40
          have h42 := ho17 _ h41
          subst h42
          have h43 := hr10 _ hψ19
          have h44 := hΦ _ h43
          subst h44
          try simp [-List.map_set, go_sem, h3, hi23, hi24, g28, g29, g30, g31, g35, g36, g37, g38, h39]
        · have hF45 := Rn_f hF34 h39
          try simp [-List.map_set, go_sem, h3, hi23, hi24, g28, g29, g30, g31, g35, g36, g37, g38, h39]
          refine pw_wkL [(0, .v (.sl false 1 (a0.map row_i64))), (1, .v (.sl false 1 (a1.map row_i64))), (12, .v (.int .i64 (a0.length : Int))), (13, .v (.int .i64 i16))] (by simp [-List.map_set, go_sem, h3, hi23, hi24, g28, g29, g30, g31, g35, g36, g37, g38, h39]) ?_
          try simp [-List.map_set, go_sem, h3, hi23, hi24, g28, g29, g30, g31, g35, g36, g37, g38, h39]
          have h46 := Rn_some hF45
          have hw : IntKind.i64.wrap (i16 + 1) = i16 + 1 := wrI (by have h0 := hl8; simp [maxLen] at h0; omega)
          exact hg18 () _ (by simp [-List.map_set, go_sem, h3, hi23, hi24, g28, g29, g30, g31, g35, g36, g37, g38, h39, hw]) h46
noncomputable def F_spec_wTimes (a0 : (List ViewCount)) (a1 : (List Int)) : Option (Int) :=
  ((rloop (σ := Unit) (β := Unit ⊕ Int) (fun i9 s8 =>
  (ix a0 i9).bind fun x18 =>
  (F_spec_l1Same x18.View a1).bind fun z25 =>
  if z25 = true then (
  some (.out (.inr x18.Times))) else (
  some (.go ()))) (fun s8 => .inl ()) (a0.length) 0 () : Option (Unit ⊕ Int)).bind (Sum.elim (fun (x6 : Unit) =>
  some 0) some))
theorem c_spec_wTimes {a0 : (List ViewCount)} {a1 : (List Int)} {r : Int} (hr : F_spec_wTimes a0 a1 = some r) : PCalls Try.prog 43 [(.sh, .sl false 2 (a0.map row_ViewCount_z)), (.sh, .sl false 1 (a1.map row_i64))] (fun o os => o = .int .i64 r ∧ os = [.junk, .junk]) := by
  refine pcalls_lift (R := fun (r : Int) o os => o = .int .i64 r ∧ os = [.junk, .junk]) [] [] hr cl43 Try.func43 rfl (by simp [Try.f43]) fun Φ hΦ hF => ?_
  unfold F_spec_wTimes at hF
  simp only [Try.f43, ioL_nil, ioL_sh, ioL_mv, ioL_io]
  try simp [-List.map_set, go_sem]
  refine pw_wkL [(0, .v (.sl false 2 (a0.map row_ViewCount_z))), (1, .v (.sl false 1 (a1.map row_i64)))] (by simp [-List.map_set, go_sem]) ?_
  try simp [-List.map_set, go_sem]
  refine qln_some fun hl1 => ?_
  try simp [-List.map_set, go_sem]
  refine pw_wkL [(1, .v (.sl false 1 (a1.map row_i64))), (7, .v (.sl false 2 (a0.map row_ViewCount_z))), (8, .v (.int .i64 (a0.length : Int))), (9, .v (.int .i64 0))] (by simp [-List.map_set, go_sem]) ?_
  repeat rw [pw_seq]
  refine pw_joinS (fun (x6 : Unit) => []) hF ?_ ?_
  · intro x6 hF7
    try dsimp only at hF7
    try simp [-List.map_set, go_sem]
    refine pw_wkL [(4, .v (.int .i64 0))] (by simp [-List.map_set, go_sem]) ?_
    try simp [-List.map_set, go_sem]
    have h40 := Rn_some hF7
    have h41 := hΦ _ h40
    subst h41
    try simp [-List.map_set, go_sem]
  · intro ψ4 hj2 hr3 hF5
    repeat rw [pw_seq]
    rw [pw_block]
    try simp [-List.map_set, go_sem]
    obtain ⟨b36, hb37, hψ12⟩ := hF5
    refine pw_rloop (fun (i9 : Int) (s8 : Unit) => [(1, .v (.sl false 1 (a1.map row_i64))), (7, .v (.sl false 2 (a0.map row_ViewCount_z))), (8, .v (.int .i64 (a0.length : Int))), (9, .v (.int .i64 i9))]) hb37 (by simp [-List.map_set, go_sem]) ?_ ?_
    · intro s8 N39 hN38
      subst hN38
      try simp [-List.map_set, go_sem]
      refine pw_wk ?_
      repeat rw [pw_seq]
      refine pw_cond_f (by simp [-List.map_set, go_sem]) ?_
      try simp [-List.map_set, go_sem]
      exact hj2 () _ (by simp [-List.map_set, go_sem]) hψ12
    · intro i9 s8 φ13 N14 hi16 hi17 ho10 hg11 hF15
      try dsimp only at hF15
      rw [Int.zero_add] at hi17
      try simp [-List.map_set, go_sem, hi16, hi17]
      refine pw_wkL [(1, .v (.sl false 1 (a1.map row_i64))), (7, .v (.sl false 2 (a0.map row_ViewCount_z))), (8, .v (.int .i64 (a0.length : Int))), (9, .v (.int .i64 i9)), (10, .v (.bool (decide (i9 < (a0.length : Int)))))] (by simp [-List.map_set, go_sem, hi16, hi17]) ?_
      repeat rw [pw_seq]
      refine pw_cond_t (by simp [-List.map_set, go_sem, hi16, hi17]) ?_
      try simp [-List.map_set, go_sem, hi16, hi17]
      refine pw_wkL [(1, .v (.sl false 1 (a1.map row_i64))), (7, .v (.sl false 2 (a0.map row_ViewCount_z))), (8, .v (.int .i64 (a0.length : Int))), (9, .v (.int .i64 i9))] (by simp [-List.map_set, go_sem, hi16, hi17]) ?_
      repeat rw [pw_seq]
      rw [pw_block]
      obtain ⟨x18, e19, hF20⟩ := Rn_bind hF15
      obtain ⟨g21, g22, g23⟩ := ix_some e19
      have g24 := ix_get e19
      try simp only [Int.toNat_natCast, Int.toNat_zero, Int.toNat_one, Int.reduceToNat] at g23 g24
      try simp [-List.map_set, go_sem, hi16, hi17, g21, g22, g23, g24]
      refine pw_wkL [(1, .v (.sl false 1 (a1.map row_i64))), (6, .bl [.sl false 1 (x18.View.map row_i64), .int .i64 x18.Times]), (7, .v (.sl false 2 (a0.map row_ViewCount_z))), (8, .v (.int .i64 (a0.length : Int))), (9, .v (.int .i64 i9))] (by simp [-List.map_set, go_sem, hi16, hi17, g21, g22, g23, g24]) ?_
      obtain ⟨z25, e26, hF27⟩ := Rn_bind hF20
      try simp [-List.map_set, go_sem, hi16, hi17, g21, g22, g23, g24]
      refine pw_callE [.sh, .sh] rfl rfl (by (try simp [-List.map_set, go_sem, clE, hi16, hi17, g21, g22, g23, g24]); first | rfl | done) (by rfl) (c_spec_l1Same e26) (by (try simp [-List.map_set, go_sem, hi16, hi17, g21, g22, g23, g24]); first | rfl | done) (fun r0 os0 ho0 => ?_)
      obtain ⟨ho1, ho2⟩ := ho0
      subst ho1
      subst ho2
      refine ⟨by simp [-List.map_set, go_sem, hi16, hi17, g21, g22, g23, g24], ?_⟩
      try simp [-List.map_set, go_sem, hi16, hi17, g21, g22, g23, g24]
      refine pw_wkL [(1, .v (.sl false 1 (a1.map row_i64))), (6, .bl [.sl false 1 (x18.View.map row_i64), .int .i64 x18.Times]), (7, .v (.sl false 2 (a0.map row_ViewCount_z))), (8, .v (.int .i64 (a0.length : Int))), (9, .v (.int .i64 i9)), (16, .v (.bool z25))] (by simp [-List.map_set, go_sem, hi16, hi17, g21, g22, g23, g24]) ?_
      repeat rw [pw_seq]
      refine pw_cond' (v := z25) (by simp [-List.map_set, go_sem, hi16, hi17, g21, g22, g23, g24]) (fun h28 => ?_) (fun h28 => ?_)
      · have hF29 := Rn_t hF27 h28
        try simp [-List.map_set, go_sem, hi16, hi17, g21, g22, g23, g24, h28]
        refine pw_wkL [(4, .v (.int .i64 x18.Times))] (by simp [-List.map_set, go_sem, hi16, hi17, g21, g22, g23, g24, h28]) ?_
        try simp [-List.map_set, go_sem, hi16, hi17, g21, g22, g23, g24, h28]
        have h30 := Rn_some hF29
        have h31 := ho10 _ h30
        subst h31
        have h32 := hr3 _ hψ12
        have h33 := hΦ _ h32
        subst h33
        try simp [-List.map_set, go_sem, hi16, hi17, g21, g22, g23, g24, h28]
      · have hF34 := Rn_f hF27 h28
        try simp [-List.map_set, go_sem, hi16, hi17, g21, g22, g23, g24, h28]
        refine pw_wkL [(1, .v (.sl false 1 (a1.map row_i64))), (7, .v (.sl false 2 (a0.map row_ViewCount_z))), (8, .v (.int .i64 (a0.length : Int))), (9, .v (.int .i64 i9))] (by simp [-List.map_set, go_sem, hi16, hi17, g21, g22, g23, g24, h28]) ?_
        try simp [-List.map_set, go_sem, hi16, hi17, g21, g22, g23, g24, h28]
        have h35 := Rn_some hF34
        have hw : IntKind.i64.wrap (i9 + 1) = i9 + 1 := wrI (by have h0 := hl1; simp [maxLen] at h0; omega)
        exact hg11 () _ (by simp [-List.map_set, go_sem, hi16, hi17, g21, g22, g23, g24, h28, hw]) h35
noncomputable def F_spec_l1Most (a0 : Int) (a1 : Int) : Option (Int) :=
  if decide (a1 < a0) = true then (
  some a0) else (
  some a1)
theorem c_spec_l1Most {a0 : Int} {a1 : Int} {r : Int} (hr : F_spec_l1Most a0 a1 = some r) : PCalls Try.prog 44 [(.sh, .int .i64 a0), (.sh, .int .i64 a1)] (fun o os => o = .int .i64 r ∧ os = [.junk, .junk]) := by
  refine pcalls_lift (R := fun (r : Int) o os => o = .int .i64 r ∧ os = [.junk, .junk]) [] [] hr cl44 Try.func44 rfl (by simp [Try.f44]) fun Φ hΦ hF => ?_
  unfold F_spec_l1Most at hF
  simp only [Try.f44, ioL_nil, ioL_sh, ioL_mv, ioL_io]
  try simp [-List.map_set, go_sem]
  refine pw_wkL [(0, .v (.int .i64 a0)), (1, .v (.int .i64 a1))] (by simp [-List.map_set, go_sem]) ?_
  try simp [-List.map_set, go_sem]
  refine pw_wkL [(0, .v (.int .i64 a0)), (1, .v (.int .i64 a1)), (7, .v (.bool (decide (a1 < a0))))] (by simp [-List.map_set, go_sem]) ?_
  repeat rw [pw_seq]
  refine pw_cond' (v := decide (a1 < a0)) (by simp [-List.map_set, go_sem]) (fun h1 => ?_) (fun h1 => ?_)
  · have hF2 := Rn_t hF h1
    try simp [-List.map_set, go_sem, h1]
    refine pw_wkL [(4, .v (.int .i64 a0))] (by simp [-List.map_set, go_sem, h1]) ?_
    try simp [-List.map_set, go_sem, h1]
    have h3 := Rn_some hF2
    have h4 := hΦ _ h3
    subst h4
    try simp [-List.map_set, go_sem, h1]
  · have hF5 := Rn_f hF h1
    try simp [-List.map_set, go_sem, h1]
    refine pw_wkL [(1, .v (.int .i64 a1))] (by simp [-List.map_set, go_sem, h1]) ?_
    try simp [-List.map_set, go_sem, h1]
    refine pw_wkL [(4, .v (.int .i64 a1))] (by simp [-List.map_set, go_sem, h1]) ?_
    try simp [-List.map_set, go_sem, h1]
    have h6 := Rn_some hF5
    have h7 := hΦ _ h6
    subst h7
    try simp [-List.map_set, go_sem, h1]
noncomputable def F_spec_nGcd (a0 : Int) (a1 : Int) : Option (Int) :=
  ((wloop (σ := Int × Int) (β := Int) (fun s24 =>
  if (s24.2 != 0) = true then (
  gd (s24.2 ≠ 0) <|
  some (.go (s24.2, s24.1.tmod s24.2))) else (
  some (.out s24.1))) (a0, a1) : Option (Int)).bind fun (x5 : Int) =>
  some x5)
theorem c_spec_nGcd {a0 : Int} {a1 : Int} {r : Int} (hr : F_spec_nGcd a0 a1 = some r) : PCalls Try.prog 45 [(.sh, .int .i64 a0), (.sh, .int .i64 a1)] (fun o os => o = .int .i64 r ∧ os = [.junk, .junk]) := by
  refine pcalls_lift (R := fun (r : Int) o os => o = .int .i64 r ∧ os = [.junk, .junk]) [] [] hr cl45 Try.func45 rfl (by simp [Try.f45]) fun Φ hΦ hF => ?_
  unfold F_spec_nGcd at hF
  simp only [Try.f45, ioL_nil, ioL_sh, ioL_mv, ioL_io]
  try simp [-List.map_set, go_sem]
  refine pw_wkL [(0, .v (.int .i64 a0)), (1, .v (.int .i64 a1))] (by simp [-List.map_set, go_sem]) ?_
  repeat rw [pw_seq]
  refine pw_joinF (fun (x5 : Int) => [(0, .v (.int .i64 x5))]) hF ?_ ?_
  · intro x5 hF6
    try dsimp only at hF6
    try simp [-List.map_set, go_sem]
    refine pw_wkL [(4, .v (.int .i64 x5))] (by simp [-List.map_set, go_sem]) ?_
    try simp [-List.map_set, go_sem]
    have h43 := Rn_some hF6
    have h44 := hΦ _ h43
    subst h44
    try simp [-List.map_set, go_sem]
  · intro ψ3 hj1 hF4
    repeat rw [pw_seq]
    rw [pw_block]
    try simp [-List.map_set, go_sem]
    obtain ⟨b41, hb42, hψ28⟩ := hF4
    refine pw_wloop (fun (s24 : Int × Int) => [(0, .v (.int .i64 s24.1)), (1, .v (.int .i64 s24.2))]) hb42 (by simp [-List.map_set, go_sem]) ?_
    intro s24 φ29 N30 ho26 hg27 hF31
    try dsimp only at hF31
    try simp [-List.map_set, go_sem]
    refine pw_wkL [(0, .v (.int .i64 s24.1)), (1, .v (.int .i64 s24.2)), (7, .v (.bool (s24.2 != 0)))] (by simp [-List.map_set, go_sem]) ?_
    repeat rw [pw_seq]
    refine pw_cond' (v := (s24.2 != 0)) (by simp [-List.map_set, go_sem]) (fun h32 => ?_) (fun h32 => ?_)
    · have hF33 := Rn_t hF31 h32
      try simp [-List.map_set, go_sem, h32]
      refine pw_wkL [(0, .v (.int .i64 s24.1)), (1, .v (.int .i64 s24.2))] (by simp [-List.map_set, go_sem, h32]) ?_
      repeat rw [pw_seq]
      rw [pw_block]
      obtain ⟨g34, hF35⟩ := Rn_gd hF33
      have g36 := fun x => divV_ne (x := x) g34
      try simp [-List.map_set, go_sem, h32, g34, g36]
      refine pw_wkL [(1, .v (.int .i64 s24.2)), (5, .v (.int .i64 (s24.1.tmod s24.2)))] (by simp [-List.map_set, go_sem, h32, g34, g36]) ?_
      try simp [-List.map_set, go_sem, h32, g34, g36]
      refine pw_wkL [(0, .v (.int .i64 s24.2)), (5, .v (.int .i64 (s24.1.tmod s24.2)))] (by simp [-List.map_set, go_sem, h32, g34, g36]) ?_
      try simp [-List.map_set, go_sem, h32, g34, g36]
      have h37 := Rn_some hF35
      exact hg27 (s24.2, s24.1.tmod s24.2) _ (by simp [-List.map_set, go_sem, h32, g34, g36]) h37
    · have hF38 := Rn_f hF31 h32
      try simp [-List.map_set, go_sem, h32]
      have h39 := Rn_some hF38
      have h40 := ho26 _ h39
      subst h40
      exact hj1 s24.1 _ (by simp [-List.map_set, go_sem, h32]) hψ28
noncomputable def F_spec_DistanceOf (a0 : (List ViewCount)) (a1 : (List ViewCount)) : Option (Int × Int × Bool) :=
  (((F_spec_wGood a0).bind fun z7 =>
  if (!z7) = true then (
  some true) else (
  (F_spec_wGood a1).bind fun z14 =>
  if (!z14) = true then (
  some true) else (
  if ((a0.length : Int) == 0) = true then (
  some true) else (
  some ((a1.length : Int) == 0)))) : Option (Bool)).bind fun (x5 : Bool) =>
  if x5 = true then (
  some (0, 0, false)) else (
  (F_spec_wSum a0).bind fun z33 =>
  (F_spec_wSum a1).bind fun z36 =>
  ((rloop (σ := Int) (β := Int) (fun i71 s70 =>
  (ix a0 i71).bind fun x80 =>
  (F_spec_wTimes a1 x80.View).bind fun z87 =>
  (F_spec_l1Most (IntKind.i64.wrap ((IntKind.i64.wrap (x80.Times * z36)) - (IntKind.i64.wrap (z87 * z33)))) (IntKind.i64.wrap (0 - (IntKind.i64.wrap ((IntKind.i64.wrap (x80.Times * z36)) - (IntKind.i64.wrap (z87 * z33))))))).bind fun z90 =>
  some (.go (IntKind.i64.wrap (s70 + z90)))) (fun s70 => s70) (a0.length) 0 0 : Option (Int)).bind fun (x44 : Int) =>
  ((rloop (σ := Int) (β := Int) (fun i138 s137 =>
  (((ix a1 i138).bind fun x153 =>
  (F_spec_wTimes a0 x153.View).bind fun z160 =>
  if (z160 == 0) = true then (
  some (IntKind.i64.wrap (s137 + (IntKind.i64.wrap (x153.Times * z33))))) else (
  some s137) : Option (Int)).bind fun (x151 : Int) =>
  some (.go x151))) (fun s137 => s137) (a1.length) 0 x44 : Option (Int)).bind fun (x103 : Int) =>
  (F_spec_nGcd x103 (IntKind.i64.wrap ((IntKind.i64.wrap (2 * z33)) * z36))).bind fun z173 =>
  gd (z173 ≠ 0) <|
  gd (z173 ≠ 0) <|
  some (IntKind.i64.wrap (x103.tdiv z173), IntKind.i64.wrap ((IntKind.i64.wrap ((IntKind.i64.wrap (2 * z33)) * z36)).tdiv z173), true)))))
theorem c_spec_DistanceOf {a0 : (List ViewCount)} {a1 : (List ViewCount)} {r : Int × Int × Bool} (hr : F_spec_DistanceOf a0 a1 = some r) : PCalls Try.prog 15 [(.sh, .sl false 2 (a0.map row_ViewCount_z)), (.sh, .sl false 2 (a1.map row_ViewCount_z))] (fun o os => o = .tup [.int .i64 r.1, .int .i64 r.2.1, .bool r.2.2] ∧ os = [.junk, .junk]) := by
  refine pcalls_lift (R := fun (r : Int × Int × Bool) o os => o = .tup [.int .i64 r.1, .int .i64 r.2.1, .bool r.2.2] ∧ os = [.junk, .junk]) [] [] hr cl15 Try.func15 rfl (by simp [Try.f15]) fun Φ hΦ hF => ?_
  unfold F_spec_DistanceOf at hF
  simp only [Try.f15, ioL_nil, ioL_sh, ioL_mv, ioL_io]
  try simp [-List.map_set, go_sem]
  refine pw_wkL [(0, .v (.sl false 2 (a0.map row_ViewCount_z))), (1, .v (.sl false 2 (a1.map row_ViewCount_z)))] (by simp [-List.map_set, go_sem]) ?_
  repeat rw [pw_seq]
  refine pw_joinF (fun (x5 : Bool) => [(0, .v (.sl false 2 (a0.map row_ViewCount_z))), (1, .v (.sl false 2 (a1.map row_ViewCount_z))), (33, .v (.bool x5))]) hF ?_ ?_
  · intro x5 hF6
    try dsimp only at hF6
    repeat rw [pw_seq]
    refine pw_cond' (v := x5) (by simp [-List.map_set, go_sem]) (fun h28 => ?_) (fun h28 => ?_)
    · have hF29 := Rn_t hF6 h28
      try simp [-List.map_set, go_sem, h28]
      refine pw_wkL [(4, .v (.int .i64 0)), (5, .v (.int .i64 0)), (6, .v (.bool false))] (by simp [-List.map_set, go_sem, h28]) ?_
      try simp [-List.map_set, go_sem, h28]
      have h30 := Rn_some hF29
      have h31 := hΦ _ h30
      subst h31
      try simp [-List.map_set, go_sem, h28]
    · have hF32 := Rn_f hF6 h28
      try simp [-List.map_set, go_sem, h28]
      refine pw_wkL [(0, .v (.sl false 2 (a0.map row_ViewCount_z))), (1, .v (.sl false 2 (a1.map row_ViewCount_z)))] (by simp [-List.map_set, go_sem, h28]) ?_
      obtain ⟨z33, e34, hF35⟩ := Rn_bind hF32
      try simp [-List.map_set, go_sem, h28]
      refine pw_callE [.sh] rfl rfl (by (try simp [-List.map_set, go_sem, clE, h28]); first | rfl | done) (by rfl) (c_spec_wSum e34) (by (try simp [-List.map_set, go_sem, h28]); first | rfl | done) (fun r0 os0 ho0 => ?_)
      obtain ⟨ho1, ho2⟩ := ho0
      subst ho1
      subst ho2
      refine ⟨by simp [-List.map_set, go_sem, h28], ?_⟩
      obtain ⟨z36, e37, hF38⟩ := Rn_bind hF35
      try simp [-List.map_set, go_sem, h28]
      refine pw_callE [.sh] rfl rfl (by (try simp [-List.map_set, go_sem, clE, h28]); first | rfl | done) (by rfl) (c_spec_wSum e37) (by (try simp [-List.map_set, go_sem, h28]); first | rfl | done) (fun r0 os0 ho0 => ?_)
      obtain ⟨ho1, ho2⟩ := ho0
      subst ho1
      subst ho2
      refine ⟨by simp [-List.map_set, go_sem, h28], ?_⟩
      try simp [-List.map_set, go_sem, h28]
      refine pw_wkL [(0, .v (.sl false 2 (a0.map row_ViewCount_z))), (1, .v (.sl false 2 (a1.map row_ViewCount_z))), (7, .v (.int .i64 z33)), (8, .v (.int .i64 z36))] (by simp [-List.map_set, go_sem, h28]) ?_
      try simp [-List.map_set, go_sem, h28]
      refine pw_wkL [(0, .v (.sl false 2 (a0.map row_ViewCount_z))), (1, .v (.sl false 2 (a1.map row_ViewCount_z))), (7, .v (.int .i64 z33)), (8, .v (.int .i64 z36)), (9, .v (.int .i64 0))] (by simp [-List.map_set, go_sem, h28]) ?_
      try simp [-List.map_set, go_sem, h28]
      refine qln_some fun hl39 => ?_
      try simp [-List.map_set, go_sem, h28]
      refine pw_wkL [(0, .v (.sl false 2 (a0.map row_ViewCount_z))), (1, .v (.sl false 2 (a1.map row_ViewCount_z))), (7, .v (.int .i64 z33)), (8, .v (.int .i64 z36)), (9, .v (.int .i64 0)), (38, .v (.sl false 2 (a0.map row_ViewCount_z))), (39, .v (.int .i64 (a0.length : Int))), (40, .v (.int .i64 0))] (by simp [-List.map_set, go_sem, h28]) ?_
      repeat rw [pw_seq]
      refine pw_joinF (fun (x44 : Int) => [(0, .v (.sl false 2 (a0.map row_ViewCount_z))), (1, .v (.sl false 2 (a1.map row_ViewCount_z))), (7, .v (.int .i64 z33)), (8, .v (.int .i64 z36)), (9, .v (.int .i64 x44))]) hF38 ?_ ?_
      · intro x44 hF45
        try dsimp only at hF45
        try simp [-List.map_set, go_sem, h28]
        refine qln_some fun hl98 => ?_
        try simp [-List.map_set, go_sem, h28]
        refine pw_wkL [(0, .v (.sl false 2 (a0.map row_ViewCount_z))), (7, .v (.int .i64 z33)), (8, .v (.int .i64 z36)), (9, .v (.int .i64 x44)), (62, .v (.sl false 2 (a1.map row_ViewCount_z))), (63, .v (.int .i64 (a1.length : Int))), (64, .v (.int .i64 0))] (by simp [-List.map_set, go_sem, h28]) ?_
        repeat rw [pw_seq]
        refine pw_joinF (fun (x103 : Int) => [(7, .v (.int .i64 z33)), (8, .v (.int .i64 z36)), (9, .v (.int .i64 x103))]) hF45 ?_ ?_
        · intro x103 hF104
          try dsimp only at hF104
          obtain ⟨z173, e174, hF175⟩ := Rn_bind hF104
          try simp [-List.map_set, go_sem, h28]
          refine pw_callE [.sh, .sh] rfl rfl (by (try simp [-List.map_set, go_sem, clE, h28]); first | rfl | done) (by rfl) (c_spec_nGcd e174) (by (try simp [-List.map_set, go_sem, h28]); first | rfl | done) (fun r0 os0 ho0 => ?_)
          obtain ⟨ho1, ho2⟩ := ho0
          subst ho1
          subst ho2
          refine ⟨by simp [-List.map_set, go_sem, h28], ?_⟩
          try simp [-List.map_set, go_sem, h28]
          refine pw_wkL [(7, .v (.int .i64 z33)), (8, .v (.int .i64 z36)), (9, .v (.int .i64 x103)), (15, .v (.int .i64 z173))] (by simp [-List.map_set, go_sem, h28]) ?_
          repeat rw [pw_seq]
          refine pw_draw D15_18 follows (by kernel_rfl) rfl ?_
          try simp only [go_sem, D15_18]
          obtain ⟨g176, hF177⟩ := Rn_gd hF175
          have g178 := fun x => divV_ne (x := x) g176
          obtain ⟨g179, hF180⟩ := Rn_gd hF177
          have g181 := fun x => divV_ne (x := x) g179
          try simp [-List.map_set, go_sem, h28, g176, g178, g179, g181]
          refine pw_wkL [(4, .v (.int .i64 (IntKind.i64.wrap (x103.tdiv z173)))), (5, .v (.int .i64 (IntKind.i64.wrap ((IntKind.i64.wrap ((IntKind.i64.wrap (2 * z33)) * z36)).tdiv z173)))), (6, .v (.bool true))] (by simp [-List.map_set, go_sem, h28, g176, g178, g179, g181]) ?_
          try simp [-List.map_set, go_sem, h28, g176, g178, g179, g181]
          have h182 := Rn_some hF180
          have h183 := hΦ _ h182
          subst h183
          try simp [-List.map_set, go_sem, h28, g176, g178, g179, g181]
        · intro ψ101 hj99 hF102
          repeat rw [pw_seq]
          rw [pw_block]
          try simp [-List.map_set, go_sem]
          obtain ⟨b169, hb170, hψ141⟩ := hF102
          refine pw_rloop (fun (i138 : Int) (s137 : Int) => [(0, .v (.sl false 2 (a0.map row_ViewCount_z))), (7, .v (.int .i64 z33)), (8, .v (.int .i64 z36)), (9, .v (.int .i64 s137)), (62, .v (.sl false 2 (a1.map row_ViewCount_z))), (63, .v (.int .i64 (a1.length : Int))), (64, .v (.int .i64 i138))]) hb170 (by simp [-List.map_set, go_sem, h28]) ?_ ?_
          · intro s137 N172 hN171
            subst hN171
            try simp [-List.map_set, go_sem]
            refine pw_wk ?_
            repeat rw [pw_seq]
            refine pw_cond_f (by simp [-List.map_set, go_sem]) ?_
            try simp [-List.map_set, go_sem]
            exact hj99 s137 _ (by simp [-List.map_set, go_sem]) hψ141
          · intro i138 s137 φ142 N143 hi145 hi146 ho139 hg140 hF144
            try dsimp only at hF144
            rw [Int.zero_add] at hi146
            try simp [-List.map_set, go_sem, h28, hi145, hi146]
            refine pw_wkL [(0, .v (.sl false 2 (a0.map row_ViewCount_z))), (7, .v (.int .i64 z33)), (8, .v (.int .i64 z36)), (9, .v (.int .i64 s137)), (62, .v (.sl false 2 (a1.map row_ViewCount_z))), (63, .v (.int .i64 (a1.length : Int))), (64, .v (.int .i64 i138)), (65, .v (.bool (decide (i138 < (a1.length : Int)))))] (by simp [-List.map_set, go_sem, h28, hi145, hi146]) ?_
            repeat rw [pw_seq]
            refine pw_cond_t (by simp [-List.map_set, go_sem, h28, hi145, hi146]) ?_
            try simp [-List.map_set, go_sem, h28, hi145, hi146]
            refine pw_wkL [(0, .v (.sl false 2 (a0.map row_ViewCount_z))), (7, .v (.int .i64 z33)), (8, .v (.int .i64 z36)), (9, .v (.int .i64 s137)), (62, .v (.sl false 2 (a1.map row_ViewCount_z))), (63, .v (.int .i64 (a1.length : Int))), (64, .v (.int .i64 i138))] (by simp [-List.map_set, go_sem, h28, hi145, hi146]) ?_
            repeat rw [pw_seq]
            refine pw_joinF (fun (x151 : Int) => [(0, .v (.sl false 2 (a0.map row_ViewCount_z))), (7, .v (.int .i64 z33)), (8, .v (.int .i64 z36)), (9, .v (.int .i64 x151)), (62, .v (.sl false 2 (a1.map row_ViewCount_z))), (63, .v (.int .i64 (a1.length : Int))), (64, .v (.int .i64 i138))]) hF144 ?_ ?_
            · intro x151 hF152
              try dsimp only at hF152
              try simp [-List.map_set, go_sem, h28, hi145, hi146]
              have h168 := Rn_some hF152
              have hw : IntKind.i64.wrap (i138 + 1) = i138 + 1 := wrI (by have h0 := hl98; simp [maxLen] at h0; omega)
              exact hg140 x151 _ (by simp [-List.map_set, go_sem, h28, hi145, hi146, hw]) h168
            · intro ψ149 hj147 hF150
              repeat rw [pw_seq]
              rw [pw_block]
              obtain ⟨x153, e154, hF155⟩ := Rn_bind hF150
              obtain ⟨g156, g157, g158⟩ := ix_some e154
              have g159 := ix_get e154
              try simp only [Int.toNat_natCast, Int.toNat_zero, Int.toNat_one, Int.reduceToNat] at g158 g159
              try simp [-List.map_set, go_sem, h28, hi145, hi146, g156, g157, g158, g159]
              refine pw_wkL [(0, .v (.sl false 2 (a0.map row_ViewCount_z))), (7, .v (.int .i64 z33)), (8, .v (.int .i64 z36)), (9, .v (.int .i64 s137)), (14, .bl [.sl false 1 (x153.View.map row_i64), .int .i64 x153.Times]), (62, .v (.sl false 2 (a1.map row_ViewCount_z))), (63, .v (.int .i64 (a1.length : Int))), (64, .v (.int .i64 i138))] (by simp [-List.map_set, go_sem, h28, hi145, hi146, g156, g157, g158, g159]) ?_
              obtain ⟨z160, e161, hF162⟩ := Rn_bind hF155
              try simp [-List.map_set, go_sem, h28, hi145, hi146, g156, g157, g158, g159]
              refine pw_callE [.sh, .sh] rfl rfl (by (try simp [-List.map_set, go_sem, clE, h28, hi145, hi146, g156, g157, g158, g159]); first | rfl | done) (by rfl) (c_spec_wTimes e161) (by (try simp [-List.map_set, go_sem, h28, hi145, hi146, g156, g157, g158, g159]); first | rfl | done) (fun r0 os0 ho0 => ?_)
              obtain ⟨ho1, ho2⟩ := ho0
              subst ho1
              subst ho2
              refine ⟨by simp [-List.map_set, go_sem, h28, hi145, hi146, g156, g157, g158, g159], ?_⟩
              try simp [-List.map_set, go_sem, h28, hi145, hi146, g156, g157, g158, g159]
              refine pw_wkL [(0, .v (.sl false 2 (a0.map row_ViewCount_z))), (7, .v (.int .i64 z33)), (8, .v (.int .i64 z36)), (9, .v (.int .i64 s137)), (14, .bl [.sl false 1 (x153.View.map row_i64), .int .i64 x153.Times]), (62, .v (.sl false 2 (a1.map row_ViewCount_z))), (63, .v (.int .i64 (a1.length : Int))), (64, .v (.int .i64 i138)), (72, .v (.bool (z160 == 0)))] (by simp [-List.map_set, go_sem, h28, hi145, hi146, g156, g157, g158, g159]) ?_
              repeat rw [pw_seq]
              refine pw_cond' (v := (z160 == 0)) (by simp [-List.map_set, go_sem, h28, hi145, hi146, g156, g157, g158, g159]) (fun h163 => ?_) (fun h163 => ?_)
              · have hF164 := Rn_t hF162 h163
                try simp [-List.map_set, go_sem, h28, hi145, hi146, g156, g157, g158, g159, h163]
                have h165 := Rn_some hF164
                exact hj147 (IntKind.i64.wrap (s137 + (IntKind.i64.wrap (x153.Times * z33)))) _ (by simp [-List.map_set, go_sem, h28, hi145, hi146, g156, g157, g158, g159, h163]) h165
              · have hF166 := Rn_f hF162 h163
                try simp [-List.map_set, go_sem, h28, hi145, hi146, g156, g157, g158, g159, h163]
                have h167 := Rn_some hF166
                exact hj147 s137 _ (by simp [-List.map_set, go_sem, h28, hi145, hi146, g156, g157, g158, g159, h163]) h167
      · intro ψ42 hj40 hF43
        repeat rw [pw_seq]
        rw [pw_block]
        try simp [-List.map_set, go_sem]
        obtain ⟨b94, hb95, hψ74⟩ := hF43
        refine pw_rloop (fun (i71 : Int) (s70 : Int) => [(0, .v (.sl false 2 (a0.map row_ViewCount_z))), (1, .v (.sl false 2 (a1.map row_ViewCount_z))), (7, .v (.int .i64 z33)), (8, .v (.int .i64 z36)), (9, .v (.int .i64 s70)), (38, .v (.sl false 2 (a0.map row_ViewCount_z))), (39, .v (.int .i64 (a0.length : Int))), (40, .v (.int .i64 i71))]) hb95 (by simp [-List.map_set, go_sem, h28]) ?_ ?_
        · intro s70 N97 hN96
          subst hN96
          try simp [-List.map_set, go_sem]
          refine pw_wk ?_
          repeat rw [pw_seq]
          refine pw_cond_f (by simp [-List.map_set, go_sem]) ?_
          try simp [-List.map_set, go_sem]
          exact hj40 s70 _ (by simp [-List.map_set, go_sem]) hψ74
        · intro i71 s70 φ75 N76 hi78 hi79 ho72 hg73 hF77
          try dsimp only at hF77
          rw [Int.zero_add] at hi79
          try simp [-List.map_set, go_sem, h28, hi78, hi79]
          refine pw_wkL [(0, .v (.sl false 2 (a0.map row_ViewCount_z))), (1, .v (.sl false 2 (a1.map row_ViewCount_z))), (7, .v (.int .i64 z33)), (8, .v (.int .i64 z36)), (9, .v (.int .i64 s70)), (38, .v (.sl false 2 (a0.map row_ViewCount_z))), (39, .v (.int .i64 (a0.length : Int))), (40, .v (.int .i64 i71)), (41, .v (.bool (decide (i71 < (a0.length : Int)))))] (by simp [-List.map_set, go_sem, h28, hi78, hi79]) ?_
          repeat rw [pw_seq]
          refine pw_cond_t (by simp [-List.map_set, go_sem, h28, hi78, hi79]) ?_
          try simp [-List.map_set, go_sem, h28, hi78, hi79]
          refine pw_wkL [(0, .v (.sl false 2 (a0.map row_ViewCount_z))), (1, .v (.sl false 2 (a1.map row_ViewCount_z))), (7, .v (.int .i64 z33)), (8, .v (.int .i64 z36)), (9, .v (.int .i64 s70)), (38, .v (.sl false 2 (a0.map row_ViewCount_z))), (39, .v (.int .i64 (a0.length : Int))), (40, .v (.int .i64 i71))] (by simp [-List.map_set, go_sem, h28, hi78, hi79]) ?_
          repeat rw [pw_seq]
          rw [pw_block]
          obtain ⟨x80, e81, hF82⟩ := Rn_bind hF77
          obtain ⟨g83, g84, g85⟩ := ix_some e81
          have g86 := ix_get e81
          try simp only [Int.toNat_natCast, Int.toNat_zero, Int.toNat_one, Int.reduceToNat] at g85 g86
          try simp [-List.map_set, go_sem, h28, hi78, hi79, g83, g84, g85, g86]
          refine pw_wkL [(0, .v (.sl false 2 (a0.map row_ViewCount_z))), (1, .v (.sl false 2 (a1.map row_ViewCount_z))), (7, .v (.int .i64 z33)), (8, .v (.int .i64 z36)), (9, .v (.int .i64 s70)), (11, .bl [.sl false 1 (x80.View.map row_i64), .int .i64 x80.Times]), (38, .v (.sl false 2 (a0.map row_ViewCount_z))), (39, .v (.int .i64 (a0.length : Int))), (40, .v (.int .i64 i71))] (by simp [-List.map_set, go_sem, h28, hi78, hi79, g83, g84, g85, g86]) ?_
          repeat rw [pw_seq]
          refine pw_draw D15_8 follows (by kernel_rfl) rfl ?_
          try simp only [go_sem, D15_8]
          obtain ⟨z87, e88, hF89⟩ := Rn_bind hF82
          try simp [-List.map_set, go_sem, h28, hi78, hi79, g83, g84, g85, g86]
          refine pw_callDE (by rfl) (by (try simp [-List.map_set, go_sem, clE, h28, hi78, hi79, g83, g84, g85, g86]); first | rfl | done) (by rfl) (c_spec_wTimes e88) (by (try simp [-List.map_set, go_sem, h28, hi78, hi79, g83, g84, g85, g86]); first | rfl | done) (fun r0 os0 ho0 => ?_)
          obtain ⟨ho1, ho2⟩ := ho0
          subst ho1
          subst ho2
          refine ⟨by simp [-List.map_set, go_sem, h28, hi78, hi79, g83, g84, g85, g86], ?_⟩
          try simp [-List.map_set, go_sem, h28, hi78, hi79, g83, g84, g85, g86]
          refine pw_wkL [(0, .v (.sl false 2 (a0.map row_ViewCount_z))), (1, .v (.sl false 2 (a1.map row_ViewCount_z))), (7, .v (.int .i64 z33)), (8, .v (.int .i64 z36)), (9, .v (.int .i64 s70)), (12, .v (.int .i64 (IntKind.i64.wrap ((IntKind.i64.wrap (x80.Times * z36)) - (IntKind.i64.wrap (z87 * z33)))))), (38, .v (.sl false 2 (a0.map row_ViewCount_z))), (39, .v (.int .i64 (a0.length : Int))), (40, .v (.int .i64 i71))] (by simp [-List.map_set, go_sem, h28, hi78, hi79, g83, g84, g85, g86]) ?_
          obtain ⟨z90, e91, hF92⟩ := Rn_bind hF89
          try simp [-List.map_set, go_sem, h28, hi78, hi79, g83, g84, g85, g86]
          refine pw_callE [.sh, .sh] rfl rfl (by (try simp [-List.map_set, go_sem, clE, h28, hi78, hi79, g83, g84, g85, g86]); first | rfl | done) (by rfl) (c_spec_l1Most e91) (by (try simp [-List.map_set, go_sem, h28, hi78, hi79, g83, g84, g85, g86]); first | rfl | done) (fun r0 os0 ho0 => ?_)
          obtain ⟨ho1, ho2⟩ := ho0
          subst ho1
          subst ho2
          refine ⟨by simp [-List.map_set, go_sem, h28, hi78, hi79, g83, g84, g85, g86], ?_⟩
          try simp [-List.map_set, go_sem, h28, hi78, hi79, g83, g84, g85, g86]
          refine pw_wkL [(0, .v (.sl false 2 (a0.map row_ViewCount_z))), (1, .v (.sl false 2 (a1.map row_ViewCount_z))), (7, .v (.int .i64 z33)), (8, .v (.int .i64 z36)), (9, .v (.int .i64 (IntKind.i64.wrap (s70 + z90)))), (38, .v (.sl false 2 (a0.map row_ViewCount_z))), (39, .v (.int .i64 (a0.length : Int))), (40, .v (.int .i64 i71))] (by simp [-List.map_set, go_sem, h28, hi78, hi79, g83, g84, g85, g86]) ?_
          try simp [-List.map_set, go_sem, h28, hi78, hi79, g83, g84, g85, g86]
          have h93 := Rn_some hF92
          have hw : IntKind.i64.wrap (i71 + 1) = i71 + 1 := wrI (by have h0 := hl39; simp [maxLen] at h0; omega)
          exact hg73 (IntKind.i64.wrap (s70 + z90)) _ (by simp [-List.map_set, go_sem, h28, hi78, hi79, g83, g84, g85, g86, hw]) h93
  · intro ψ3 hj1 hF4
    obtain ⟨z7, e8, hF9⟩ := Rn_bind hF4
    try simp [-List.map_set, go_sem]
    refine pw_callE [.sh] rfl rfl (by (try simp [-List.map_set, go_sem, clE]); first | rfl | done) (by rfl) (c_spec_wGood e8) (by (try simp [-List.map_set, go_sem]); first | rfl | done) (fun r0 os0 ho0 => ?_)
    obtain ⟨ho1, ho2⟩ := ho0
    subst ho1
    subst ho2
    refine ⟨by simp [-List.map_set, go_sem], ?_⟩
    try simp [-List.map_set, go_sem]
    refine pwg_split (fun h10 => ?_) (fun h10 => ?_)
    · have hF11 := Rn_t hF9 h10
      try simp [-List.map_set, go_sem, h10]
      have h12 := Rn_some hF11
      exact hj1 true _ (by simp [-List.map_set, go_sem, h10]) h12
    · have hF13 := Rn_f hF9 h10
      obtain ⟨z14, e15, hF16⟩ := Rn_bind hF13
      try simp [-List.map_set, go_sem, h10]
      refine pw_callE [.sh] rfl rfl (by (try simp [-List.map_set, go_sem, clE, h10]); first | rfl | done) (by rfl) (c_spec_wGood e15) (by (try simp [-List.map_set, go_sem, h10]); first | rfl | done) (fun r0 os0 ho0 => ?_)
      obtain ⟨ho1, ho2⟩ := ho0
      subst ho1
      subst ho2
      refine ⟨by simp [-List.map_set, go_sem, h10], ?_⟩
      try simp [-List.map_set, go_sem, h10]
      refine pwg_split (fun h17 => ?_) (fun h17 => ?_)
      · have hF18 := Rn_t hF16 h17
        try simp [-List.map_set, go_sem, h10, h17]
        have h19 := Rn_some hF18
        exact hj1 true _ (by simp [-List.map_set, go_sem, h10, h17]) h19
      · have hF20 := Rn_f hF16 h17
        try simp [-List.map_set, go_sem, h10, h17]
        refine qln_some fun hl21 => ?_
        try simp [-List.map_set, go_sem, h10, h17]
        refine pwg_split (fun h22 => ?_) (fun h22 => ?_)
        · have hF23 := Rn_t hF20 h22
          try simp [-List.map_set, go_sem, h10, h17, h22]
          have h24 := Rn_some hF23
          exact hj1 true _ (by simp [-List.map_set, go_sem, h10, h17, h22]) h24
        · have hF25 := Rn_f hF20 h22
          try simp [-List.map_set, go_sem, h10, h17, h22]
          refine qln_some fun hl26 => ?_
          try simp [-List.map_set, go_sem, h10, h17, h22]
          have h27 := Rn_some hF25
          exact hj1 ((a1.length : Int) == 0) _ (by simp [-List.map_set, go_sem, h10, h17, h22]) h27
noncomputable def F_impl_within (a0 : Int) (a1 : Int) (a2 : Int) : Option (Bool) :=
  ((if decide (a1 ≤ a0) = true then (
  some (decide (a0 ≤ a2))) else (
  some false) : Option (Bool)).bind fun (x5 : Bool) =>
  some x5)
theorem c_impl_within {a0 : Int} {a1 : Int} {a2 : Int} {r : Bool} (hr : F_impl_within a0 a1 a2 = some r) : PCalls Try.prog 74 [(.sh, .int .i64 a0), (.sh, .int .i64 a1), (.sh, .int .i64 a2)] (fun o os => o = .bool r ∧ os = [.junk, .junk, .junk]) := by
  refine pcalls_lift (R := fun (r : Bool) o os => o = .bool r ∧ os = [.junk, .junk, .junk]) [] [] hr cl74 Try.func74 rfl (by simp [Try.f74]) fun Φ hΦ hF => ?_
  unfold F_impl_within at hF
  simp only [Try.f74, ioL_nil, ioL_sh, ioL_mv, ioL_io]
  try simp [-List.map_set, go_sem]
  refine pw_wkL [(0, .v (.int .i64 a0)), (1, .v (.int .i64 a1)), (2, .v (.int .i64 a2))] (by simp [-List.map_set, go_sem]) ?_
  repeat rw [pw_seq]
  refine pw_joinF (fun (x5 : Bool) => [(6, .v (.bool x5))]) hF ?_ ?_
  · intro x5 hF6
    try dsimp only at hF6
    try simp [-List.map_set, go_sem]
    have h12 := Rn_some hF6
    have h13 := hΦ _ h12
    subst h13
    try simp [-List.map_set, go_sem]
  · intro ψ3 hj1 hF4
    try simp [-List.map_set, go_sem]
    refine pwg_split (fun h7 => ?_) (fun h7 => ?_)
    · have hF8 := Rn_t hF4 h7
      try simp [-List.map_set, go_sem, h7]
      have h9 := Rn_some hF8
      exact hj1 (decide (a0 ≤ a2)) _ (by simp [-List.map_set, go_sem, h7]) h9
    · have hF10 := Rn_f hF4 h7
      try simp [-List.map_set, go_sem, h7]
      have h11 := Rn_some hF10
      exact hj1 false _ (by simp [-List.map_set, go_sem, h7]) h11
noncomputable def F_cmp_isNaN_int (a0 : Int) : Option (Bool) :=
  some (a0 != a0)
theorem c_cmp_isNaN_int {a0 : Int} {r : Bool} (hr : F_cmp_isNaN_int a0 = some r) : PCalls Try.prog 121 [(.sh, .int .i64 a0)] (fun o os => o = .bool r ∧ os = [.junk]) := by
  refine pcalls_lift (R := fun (r : Bool) o os => o = .bool r ∧ os = [.junk]) [] [] hr cl121 Try.func121 rfl (by simp [Try.f121]) fun Φ hΦ hF => ?_
  unfold F_cmp_isNaN_int at hF
  simp only [Try.f121, ioL_nil, ioL_sh, ioL_mv, ioL_io]
  try simp [-List.map_set, go_sem]
  refine pw_wkL [(0, .v (.int .i64 a0))] (by simp [-List.map_set, go_sem]) ?_
  try simp [-List.map_set, go_sem]
  refine pw_wkL [(2, .v (.bool (a0 != a0)))] (by simp [-List.map_set, go_sem]) ?_
  try simp [-List.map_set, go_sem]
  have h1 := Rn_some hF
  have h2 := hΦ _ h1
  subst h2
  try simp [-List.map_set, go_sem]
noncomputable def F_cmp_Compare_int (a0 : Int) (a1 : Int) : Option (Int) :=
  (F_cmp_isNaN_int a0).bind fun z1 =>
  (F_cmp_isNaN_int a1).bind fun z4 =>
  if z1 = true then (
  if z4 = true then (
  some 0) else (
  some (-1))) else (
  if z4 = true then (
  some 1) else (
  if decide (a0 < a1) = true then (
  some (-1)) else (
  if decide (a1 < a0) = true then (
  some 1) else (
  some 0))))
theorem c_cmp_Compare_int {a0 : Int} {a1 : Int} {r : Int} (hr : F_cmp_Compare_int a0 a1 = some r) : PCalls Try.prog 113 [(.sh, .int .i64 a0), (.sh, .int .i64 a1)] (fun o os => o = .int .i64 r ∧ os = [.junk, .junk]) := by
  refine pcalls_lift (R := fun (r : Int) o os => o = .int .i64 r ∧ os = [.junk, .junk]) [] [] hr cl113 Try.func113 rfl (by simp [Try.f113]) fun Φ hΦ hF => ?_
  unfold F_cmp_Compare_int at hF
  simp only [Try.f113, ioL_nil, ioL_sh, ioL_mv, ioL_io]
  try simp [-List.map_set, go_sem]
  refine pw_wkL [(0, .v (.int .i64 a0)), (1, .v (.int .i64 a1))] (by simp [-List.map_set, go_sem]) ?_
  obtain ⟨z1, e2, hF3⟩ := Rn_bind hF
  try simp [-List.map_set, go_sem]
  refine pw_callE [.sh] rfl rfl (by (try simp [-List.map_set, go_sem, clE]); first | rfl | done) (by rfl) (c_cmp_isNaN_int e2) (by (try simp [-List.map_set, go_sem]); first | rfl | done) (fun r0 os0 ho0 => ?_)
  obtain ⟨ho1, ho2⟩ := ho0
  subst ho1
  subst ho2
  refine ⟨by simp [-List.map_set, go_sem], ?_⟩
  try simp [-List.map_set, go_sem]
  refine pw_wkL [(0, .v (.int .i64 a0)), (1, .v (.int .i64 a1)), (5, .v (.bool z1))] (by simp [-List.map_set, go_sem]) ?_
  obtain ⟨z4, e5, hF6⟩ := Rn_bind hF3
  try simp [-List.map_set, go_sem]
  refine pw_callE [.sh] rfl rfl (by (try simp [-List.map_set, go_sem, clE]); first | rfl | done) (by rfl) (c_cmp_isNaN_int e5) (by (try simp [-List.map_set, go_sem]); first | rfl | done) (fun r0 os0 ho0 => ?_)
  obtain ⟨ho1, ho2⟩ := ho0
  subst ho1
  subst ho2
  refine ⟨by simp [-List.map_set, go_sem], ?_⟩
  try simp [-List.map_set, go_sem]
  refine pw_wkL [(0, .v (.int .i64 a0)), (1, .v (.int .i64 a1)), (5, .v (.bool z1)), (6, .v (.bool z4))] (by simp [-List.map_set, go_sem]) ?_
  try simp [-List.map_set, go_sem]
  refine pw_wkL [(0, .v (.int .i64 a0)), (1, .v (.int .i64 a1)), (6, .v (.bool z4)), (11, .v (.bool z1))] (by simp [-List.map_set, go_sem]) ?_
  repeat rw [pw_seq]
  refine pw_cond' (v := z1) (by simp [-List.map_set, go_sem]) (fun h7 => ?_) (fun h7 => ?_)
  · have hF8 := Rn_t hF6 h7
    try simp [-List.map_set, go_sem, h7]
    refine pw_wkL [(12, .v (.bool z4))] (by simp [-List.map_set, go_sem, h7]) ?_
    repeat rw [pw_seq]
    refine pw_cond' (v := z4) (by simp [-List.map_set, go_sem, h7]) (fun h9 => ?_) (fun h9 => ?_)
    · have hF10 := Rn_t hF8 h9
      try simp [-List.map_set, go_sem, h7, h9]
      refine pw_wkL [(4, .v (.int .i64 0))] (by simp [-List.map_set, go_sem, h7, h9]) ?_
      try simp [-List.map_set, go_sem, h7, h9]
      have h11 := Rn_some hF10
      have h12 := hΦ _ h11
      subst h12
      try simp [-List.map_set, go_sem, h7, h9]
    · have hF13 := Rn_f hF8 h9
      try simp [-List.map_set, go_sem, h7, h9]
      refine pw_wkL [] (by simp [-List.map_set, go_sem, h7, h9]) ?_
      try simp [-List.map_set, go_sem, h7, h9]
      refine pw_wkL [(4, .v (.int .i64 (-1)))] (by simp [-List.map_set, go_sem, h7, h9]) ?_
      try simp [-List.map_set, go_sem, h7, h9]
      have h14 := Rn_some hF13
      have h15 := hΦ _ h14
      subst h15
      try simp [-List.map_set, go_sem, h7, h9]
  · have hF16 := Rn_f hF6 h7
    try simp [-List.map_set, go_sem, h7]
    refine pw_wkL [(0, .v (.int .i64 a0)), (1, .v (.int .i64 a1)), (6, .v (.bool z4))] (by simp [-List.map_set, go_sem, h7]) ?_
    try simp [-List.map_set, go_sem, h7]
    refine pw_wkL [(0, .v (.int .i64 a0)), (1, .v (.int .i64 a1)), (13, .v (.bool z4))] (by simp [-List.map_set, go_sem, h7]) ?_
    repeat rw [pw_seq]
    refine pw_cond' (v := z4) (by simp [-List.map_set, go_sem, h7]) (fun h17 => ?_) (fun h17 => ?_)
    · have hF18 := Rn_t hF16 h17
      try simp [-List.map_set, go_sem, h7, h17]
      refine pw_wkL [(4, .v (.int .i64 1))] (by simp [-List.map_set, go_sem, h7, h17]) ?_
      try simp [-List.map_set, go_sem, h7, h17]
      have h19 := Rn_some hF18
      have h20 := hΦ _ h19
      subst h20
      try simp [-List.map_set, go_sem, h7, h17]
    · have hF21 := Rn_f hF16 h17
      try simp [-List.map_set, go_sem, h7, h17]
      refine pw_wkL [(0, .v (.int .i64 a0)), (1, .v (.int .i64 a1))] (by simp [-List.map_set, go_sem, h7, h17]) ?_
      try simp [-List.map_set, go_sem, h7, h17]
      refine pw_wkL [(0, .v (.int .i64 a0)), (1, .v (.int .i64 a1)), (16, .v (.bool (decide (a0 < a1))))] (by simp [-List.map_set, go_sem, h7, h17]) ?_
      repeat rw [pw_seq]
      refine pw_cond' (v := decide (a0 < a1)) (by simp [-List.map_set, go_sem, h7, h17]) (fun h22 => ?_) (fun h22 => ?_)
      · have hF23 := Rn_t hF21 h22
        try simp [-List.map_set, go_sem, h7, h17, h22]
        refine pw_wkL [(4, .v (.int .i64 (-1)))] (by simp [-List.map_set, go_sem, h7, h17, h22]) ?_
        try simp [-List.map_set, go_sem, h7, h17, h22]
        have h24 := Rn_some hF23
        have h25 := hΦ _ h24
        subst h25
        try simp [-List.map_set, go_sem, h7, h17, h22]
      · have hF26 := Rn_f hF21 h22
        try simp [-List.map_set, go_sem, h7, h17, h22]
        refine pw_wkL [(0, .v (.int .i64 a0)), (1, .v (.int .i64 a1))] (by simp [-List.map_set, go_sem, h7, h17, h22]) ?_
        try simp [-List.map_set, go_sem, h7, h17, h22]
        refine pw_wkL [(19, .v (.bool (decide (a1 < a0))))] (by simp [-List.map_set, go_sem, h7, h17, h22]) ?_
        repeat rw [pw_seq]
        refine pw_cond' (v := decide (a1 < a0)) (by simp [-List.map_set, go_sem, h7, h17, h22]) (fun h27 => ?_) (fun h27 => ?_)
        · have hF28 := Rn_t hF26 h27
          try simp [-List.map_set, go_sem, h7, h17, h22, h27]
          refine pw_wkL [(4, .v (.int .i64 1))] (by simp [-List.map_set, go_sem, h7, h17, h22, h27]) ?_
          try simp [-List.map_set, go_sem, h7, h17, h22, h27]
          have h29 := Rn_some hF28
          have h30 := hΦ _ h29
          subst h30
          try simp [-List.map_set, go_sem, h7, h17, h22, h27]
        · have hF31 := Rn_f hF26 h27
          try simp [-List.map_set, go_sem, h7, h17, h22, h27]
          refine pw_wkL [] (by simp [-List.map_set, go_sem, h7, h17, h22, h27]) ?_
          try simp [-List.map_set, go_sem, h7, h17, h22, h27]
          refine pw_wkL [(4, .v (.int .i64 0))] (by simp [-List.map_set, go_sem, h7, h17, h22, h27]) ?_
          try simp [-List.map_set, go_sem, h7, h17, h22, h27]
          have h32 := Rn_some hF31
          have h33 := hΦ _ h32
          subst h33
          try simp [-List.map_set, go_sem, h7, h17, h22, h27]
noncomputable def F_slices_Compare_int_int (a0 : (List Int)) (a1 : (List Int)) : Option (Int) :=
  ((rloop (σ := Unit) (β := Unit ⊕ Int) (fun i9 s8 =>
  (ix a0 i9).bind fun x18 =>
  if decide ((a1.length : Int) ≤ i9) = true then (
  some (.out (.inr 1))) else (
  (ix a1 i9).bind fun x33 =>
  (F_cmp_Compare_int x18 x33).bind fun z40 =>
  if (z40 != 0) = true then (
  some (.out (.inr z40))) else (
  some (.go ())))) (fun s8 => .inl ()) (a0.length) 0 () : Option (Unit ⊕ Int)).bind (Sum.elim (fun (x6 : Unit) =>
  if decide ((a0.length : Int) < (a1.length : Int)) = true then (
  some (-1)) else (
  some 0)) some))
theorem c_slices_Compare_int_int {a0 : (List Int)} {a1 : (List Int)} {r : Int} (hr : F_slices_Compare_int_int a0 a1 = some r) : PCalls Try.prog 85 [(.sh, .sl false 1 (a0.map row_i64)), (.sh, .sl false 1 (a1.map row_i64))] (fun o os => o = .int .i64 r ∧ os = [.junk, .junk]) := by
  refine pcalls_lift (R := fun (r : Int) o os => o = .int .i64 r ∧ os = [.junk, .junk]) [] [] hr cl85 Try.func85 rfl (by simp [Try.f85]) fun Φ hΦ hF => ?_
  unfold F_slices_Compare_int_int at hF
  simp only [Try.f85, ioL_nil, ioL_sh, ioL_mv, ioL_io]
  try simp [-List.map_set, go_sem]
  refine pw_wkL [(0, .v (.sl false 1 (a0.map row_i64))), (1, .v (.sl false 1 (a1.map row_i64)))] (by simp [-List.map_set, go_sem]) ?_
  try simp [-List.map_set, go_sem]
  refine qln_some fun hl1 => ?_
  try simp [-List.map_set, go_sem]
  refine pw_wkL [(0, .v (.sl false 1 (a0.map row_i64))), (1, .v (.sl false 1 (a1.map row_i64))), (9, .v (.sl false 1 (a0.map row_i64))), (10, .v (.int .i64 (a0.length : Int))), (11, .v (.int .i64 0))] (by simp [-List.map_set, go_sem]) ?_
  repeat rw [pw_seq]
  refine pw_joinS (fun (x6 : Unit) => [(0, .v (.sl false 1 (a0.map row_i64))), (1, .v (.sl false 1 (a1.map row_i64)))]) hF ?_ ?_
  · intro x6 hF7
    try dsimp only at hF7
    try simp [-List.map_set, go_sem]
    refine qln_some fun hl55 => ?_
    try simp [-List.map_set, go_sem]
    refine qln_some fun hl56 => ?_
    try simp [-List.map_set, go_sem]
    refine pw_wkL [(35, .v (.bool (decide ((a0.length : Int) < (a1.length : Int)))))] (by simp [-List.map_set, go_sem]) ?_
    repeat rw [pw_seq]
    refine pw_cond' (v := decide ((a0.length : Int) < (a1.length : Int))) (by simp [-List.map_set, go_sem]) (fun h57 => ?_) (fun h57 => ?_)
    · have hF58 := Rn_t hF7 h57
      try simp [-List.map_set, go_sem, h57]
      refine pw_wkL [(4, .v (.int .i64 (-1)))] (by simp [-List.map_set, go_sem, h57]) ?_
      try simp [-List.map_set, go_sem, h57]
      have h59 := Rn_some hF58
      have h60 := hΦ _ h59
      subst h60
      try simp [-List.map_set, go_sem, h57]
    · have hF61 := Rn_f hF7 h57
      try simp [-List.map_set, go_sem, h57]
      refine pw_wkL [] (by simp [-List.map_set, go_sem, h57]) ?_
      try simp [-List.map_set, go_sem, h57]
      refine pw_wkL [(4, .v (.int .i64 0))] (by simp [-List.map_set, go_sem, h57]) ?_
      try simp [-List.map_set, go_sem, h57]
      have h62 := Rn_some hF61
      have h63 := hΦ _ h62
      subst h63
      try simp [-List.map_set, go_sem, h57]
  · intro ψ4 hj2 hr3 hF5
    repeat rw [pw_seq]
    rw [pw_block]
    try simp [-List.map_set, go_sem]
    obtain ⟨b51, hb52, hψ12⟩ := hF5
    refine pw_rloop (fun (i9 : Int) (s8 : Unit) => [(0, .v (.sl false 1 (a0.map row_i64))), (1, .v (.sl false 1 (a1.map row_i64))), (9, .v (.sl false 1 (a0.map row_i64))), (10, .v (.int .i64 (a0.length : Int))), (11, .v (.int .i64 i9))]) hb52 (by simp [-List.map_set, go_sem]) ?_ ?_
    · intro s8 N54 hN53
      subst hN53
      try simp [-List.map_set, go_sem]
      refine pw_wk ?_
      repeat rw [pw_seq]
      refine pw_cond_f (by simp [-List.map_set, go_sem]) ?_
      try simp [-List.map_set, go_sem]
      exact hj2 () _ (by simp [-List.map_set, go_sem]) hψ12
    · intro i9 s8 φ13 N14 hi16 hi17 ho10 hg11 hF15
      try dsimp only at hF15
      rw [Int.zero_add] at hi17
      try simp [-List.map_set, go_sem, hi16, hi17]
      refine pw_wkL [(0, .v (.sl false 1 (a0.map row_i64))), (1, .v (.sl false 1 (a1.map row_i64))), (9, .v (.sl false 1 (a0.map row_i64))), (10, .v (.int .i64 (a0.length : Int))), (11, .v (.int .i64 i9)), (12, .v (.bool (decide (i9 < (a0.length : Int)))))] (by simp [-List.map_set, go_sem, hi16, hi17]) ?_
      repeat rw [pw_seq]
      refine pw_cond_t (by simp [-List.map_set, go_sem, hi16, hi17]) ?_
      try simp [-List.map_set, go_sem, hi16, hi17]
      refine pw_wkL [(0, .v (.sl false 1 (a0.map row_i64))), (1, .v (.sl false 1 (a1.map row_i64))), (9, .v (.sl false 1 (a0.map row_i64))), (10, .v (.int .i64 (a0.length : Int))), (11, .v (.int .i64 i9))] (by simp [-List.map_set, go_sem, hi16, hi17]) ?_
      repeat rw [pw_seq]
      rw [pw_block]
      obtain ⟨x18, e19, hF20⟩ := Rn_bind hF15
      obtain ⟨g21, g22, g23⟩ := ix_some e19
      have g24 := ix_get e19
      try simp only [Int.toNat_natCast, Int.toNat_zero, Int.toNat_one, Int.reduceToNat] at g23 g24
      try simp [-List.map_set, go_sem, hi16, hi17, g21, g22, g23, g24]
      refine pw_wkL [(0, .v (.sl false 1 (a0.map row_i64))), (1, .v (.sl false 1 (a1.map row_i64))), (5, .v (.int .i64 i9)), (6, .v (.int .i64 x18)), (9, .v (.sl false 1 (a0.map row_i64))), (10, .v (.int .i64 (a0.length : Int))), (11, .v (.int .i64 i9))] (by simp [-List.map_set, go_sem, hi16, hi17, g21, g22, g23, g24]) ?_
      try simp [-List.map_set, go_sem, hi16, hi17, g21, g22, g23, g24]
      refine qln_some fun hl25 => ?_
      try simp [-List.map_set, go_sem, hi16, hi17, g21, g22, g23, g24]
      refine pw_wkL [(0, .v (.sl false 1 (a0.map row_i64))), (1, .v (.sl false 1 (a1.map row_i64))), (5, .v (.int .i64 i9)), (6, .v (.int .i64 x18)), (9, .v (.sl false 1 (a0.map row_i64))), (10, .v (.int .i64 (a0.length : Int))), (11, .v (.int .i64 i9)), (19, .v (.bool (decide ((a1.length : Int) ≤ i9))))] (by simp [-List.map_set, go_sem, hi16, hi17, g21, g22, g23, g24]) ?_
      repeat rw [pw_seq]
      refine pw_cond' (v := decide ((a1.length : Int) ≤ i9)) (by simp [-List.map_set, go_sem, hi16, hi17, g21, g22, g23, g24]) (fun h26 => ?_) (fun h26 => ?_)
      · have hF27 := Rn_t hF20 h26
        try simp [-List.map_set, go_sem, hi16, hi17, g21, g22, g23, g24, h26]
        refine pw_wkL [(4, .v (.int .i64 1))] (by simp [-List.map_set, go_sem, hi16, hi17, g21, g22, g23, g24, h26]) ?_
        try simp [-List.map_set, go_sem, hi16, hi17, g21, g22, g23, g24, h26]
        have h28 := Rn_some hF27
        have h29 := ho10 _ h28
        subst h29
        have h30 := hr3 _ hψ12
        have h31 := hΦ _ h30
        subst h31
        try simp [-List.map_set, go_sem, hi16, hi17, g21, g22, g23, g24, h26]
      · have hF32 := Rn_f hF20 h26
        try simp [-List.map_set, go_sem, hi16, hi17, g21, g22, g23, g24, h26]
        refine pw_wkL [(0, .v (.sl false 1 (a0.map row_i64))), (1, .v (.sl false 1 (a1.map row_i64))), (5, .v (.int .i64 i9)), (6, .v (.int .i64 x18)), (9, .v (.sl false 1 (a0.map row_i64))), (10, .v (.int .i64 (a0.length : Int))), (11, .v (.int .i64 i9))] (by simp [-List.map_set, go_sem, hi16, hi17, g21, g22, g23, g24, h26]) ?_
        obtain ⟨x33, e34, hF35⟩ := Rn_bind hF32
        obtain ⟨g36, g37, g38⟩ := ix_some e34
        have g39 := ix_get e34
        try simp only [Int.toNat_natCast, Int.toNat_zero, Int.toNat_one, Int.reduceToNat] at g38 g39
        try simp [-List.map_set, go_sem, hi16, hi17, g21, g22, g23, g24, h26, g36, g37, g38, g39]
        refine pw_wkL [(0, .v (.sl false 1 (a0.map row_i64))), (1, .v (.sl false 1 (a1.map row_i64))), (6, .v (.int .i64 x18)), (7, .v (.int .i64 x33)), (9, .v (.sl false 1 (a0.map row_i64))), (10, .v (.int .i64 (a0.length : Int))), (11, .v (.int .i64 i9))] (by simp [-List.map_set, go_sem, hi16, hi17, g21, g22, g23, g24, h26, g36, g37, g38, g39]) ?_
        obtain ⟨z40, e41, hF42⟩ := Rn_bind hF35
        try simp [-List.map_set, go_sem, hi16, hi17, g21, g22, g23, g24, h26, g36, g37, g38, g39]
        refine pw_callE [.sh, .sh] rfl rfl (by (try simp [-List.map_set, go_sem, clE, hi16, hi17, g21, g22, g23, g24, h26, g36, g37, g38, g39]); first | rfl | done) (by rfl) (c_cmp_Compare_int e41) (by (try simp [-List.map_set, go_sem, hi16, hi17, g21, g22, g23, g24, h26, g36, g37, g38, g39]); first | rfl | done) (fun r0 os0 ho0 => ?_)
        obtain ⟨ho1, ho2⟩ := ho0
        subst ho1
        subst ho2
        refine ⟨by simp [-List.map_set, go_sem, hi16, hi17, g21, g22, g23, g24, h26, g36, g37, g38, g39], ?_⟩
        try simp [-List.map_set, go_sem, hi16, hi17, g21, g22, g23, g24, h26, g36, g37, g38, g39]
        refine pw_wkL [(0, .v (.sl false 1 (a0.map row_i64))), (1, .v (.sl false 1 (a1.map row_i64))), (8, .v (.int .i64 z40)), (9, .v (.sl false 1 (a0.map row_i64))), (10, .v (.int .i64 (a0.length : Int))), (11, .v (.int .i64 i9))] (by simp [-List.map_set, go_sem, hi16, hi17, g21, g22, g23, g24, h26, g36, g37, g38, g39]) ?_
        try simp [-List.map_set, go_sem, hi16, hi17, g21, g22, g23, g24, h26, g36, g37, g38, g39]
        refine pw_wkL [(0, .v (.sl false 1 (a0.map row_i64))), (1, .v (.sl false 1 (a1.map row_i64))), (8, .v (.int .i64 z40)), (9, .v (.sl false 1 (a0.map row_i64))), (10, .v (.int .i64 (a0.length : Int))), (11, .v (.int .i64 i9)), (28, .v (.bool (z40 != 0)))] (by simp [-List.map_set, go_sem, hi16, hi17, g21, g22, g23, g24, h26, g36, g37, g38, g39]) ?_
        repeat rw [pw_seq]
        refine pw_cond' (v := (z40 != 0)) (by simp [-List.map_set, go_sem, hi16, hi17, g21, g22, g23, g24, h26, g36, g37, g38, g39]) (fun h43 => ?_) (fun h43 => ?_)
        · have hF44 := Rn_t hF42 h43
          try simp [-List.map_set, go_sem, hi16, hi17, g21, g22, g23, g24, h26, g36, g37, g38, g39, h43]
          refine pw_wkL [(4, .v (.int .i64 z40))] (by simp [-List.map_set, go_sem, hi16, hi17, g21, g22, g23, g24, h26, g36, g37, g38, g39, h43]) ?_
          try simp [-List.map_set, go_sem, hi16, hi17, g21, g22, g23, g24, h26, g36, g37, g38, g39, h43]
          have h45 := Rn_some hF44
          have h46 := ho10 _ h45
          subst h46
          have h47 := hr3 _ hψ12
          have h48 := hΦ _ h47
          subst h48
          try simp [-List.map_set, go_sem, hi16, hi17, g21, g22, g23, g24, h26, g36, g37, g38, g39, h43]
        · have hF49 := Rn_f hF42 h43
          try simp [-List.map_set, go_sem, hi16, hi17, g21, g22, g23, g24, h26, g36, g37, g38, g39, h43]
          refine pw_wkL [(0, .v (.sl false 1 (a0.map row_i64))), (1, .v (.sl false 1 (a1.map row_i64))), (9, .v (.sl false 1 (a0.map row_i64))), (10, .v (.int .i64 (a0.length : Int))), (11, .v (.int .i64 i9))] (by simp [-List.map_set, go_sem, hi16, hi17, g21, g22, g23, g24, h26, g36, g37, g38, g39, h43]) ?_
          try simp [-List.map_set, go_sem, hi16, hi17, g21, g22, g23, g24, h26, g36, g37, g38, g39, h43]
          have h50 := Rn_some hF49
          have hw : IntKind.i64.wrap (i9 + 1) = i9 + 1 := wrI (by have h0 := hl1; simp [maxLen] at h0; omega)
          exact hg11 () _ (by simp [-List.map_set, go_sem, hi16, hi17, g21, g22, g23, g24, h26, g36, g37, g38, g39, h43, hw]) h50
noncomputable def F_impl_isCount (a0 : (List ViewCount)) : Option (Bool) :=
  if decide (3000 < (a0.length : Int)) = true then (
  some false) else (
  ((rloop (σ := Int) (β := Unit ⊕ Bool) (fun i73 s72 =>
  (ix a0 i73).bind fun x82 =>
  ((if decide (24 < (x82.View.length : Int)) = true then (
  some true) else (
  (F_impl_within x82.Times 1 (IntKind.i64.wrap (1000000 - s72))).bind fun z100 =>
  if (!z100) = true then (
  some true) else (
  if decide (0 < i73) = true then (
  (ix a0 (IntKind.i64.wrap (i73 - 1))).bind fun x109 =>
  (F_slices_Compare_int_int x109.View x82.View).bind fun z116 =>
  some (decide (0 ≤ z116))) else (
  some false))) : Option (Bool)).bind fun (x93 : Bool) =>
  if x93 = true then (
  some (.out (.inr false))) else (
  some (.go (IntKind.i64.wrap (s72 + x82.Times)))))) (fun s72 => .inl ()) (a0.length) 0 0 : Option (Unit ⊕ Bool)).bind (Sum.elim (fun (x12 : Unit) =>
  some true) some)))
theorem c_impl_isCount {a0 : (List ViewCount)} {r : Bool} (hr : F_impl_isCount a0 = some r) : PCalls Try.prog 40 [(.sh, .sl false 2 (a0.map row_ViewCount_z))] (fun o os => o = .bool r ∧ os = [.junk]) := by
  refine pcalls_lift (R := fun (r : Bool) o os => o = .bool r ∧ os = [.junk]) [] [] hr cl40 Try.func40 rfl (by simp [Try.f40]) fun Φ hΦ hF => ?_
  unfold F_impl_isCount at hF
  simp only [Try.f40, ioL_nil, ioL_sh, ioL_mv, ioL_io]
  try simp [-List.map_set, go_sem]
  refine pw_wkL [(0, .v (.sl false 2 (a0.map row_ViewCount_z)))] (by simp [-List.map_set, go_sem]) ?_
  try simp [-List.map_set, go_sem]
  refine qln_some fun hl1 => ?_
  try simp [-List.map_set, go_sem]
  refine pw_wkL [(0, .v (.sl false 2 (a0.map row_ViewCount_z))), (8, .v (.bool (decide (3000 < (a0.length : Int)))))] (by simp [-List.map_set, go_sem]) ?_
  repeat rw [pw_seq]
  refine pw_cond' (v := decide (3000 < (a0.length : Int))) (by simp [-List.map_set, go_sem]) (fun h2 => ?_) (fun h2 => ?_)
  · have hF3 := Rn_t hF h2
    try simp [-List.map_set, go_sem, h2]
    refine pw_wkL [(2, .v (.bool false))] (by simp [-List.map_set, go_sem, h2]) ?_
    try simp [-List.map_set, go_sem, h2]
    have h4 := Rn_some hF3
    have h5 := hΦ _ h4
    subst h5
    try simp [-List.map_set, go_sem, h2]
  · have hF6 := Rn_f hF h2
    try simp [-List.map_set, go_sem, h2]
    refine pw_wkL [(0, .v (.sl false 2 (a0.map row_ViewCount_z)))] (by simp [-List.map_set, go_sem, h2]) ?_
    try simp [-List.map_set, go_sem, h2]
    refine pw_wkL [(0, .v (.sl false 2 (a0.map row_ViewCount_z))), (3, .v (.int .i64 0))] (by simp [-List.map_set, go_sem, h2]) ?_
    try simp [-List.map_set, go_sem, h2]
    refine qln_some fun hl7 => ?_
    try simp [-List.map_set, go_sem, h2]
    refine pw_wkL [(0, .v (.sl false 2 (a0.map row_ViewCount_z))), (3, .v (.int .i64 0)), (9, .v (.sl false 2 (a0.map row_ViewCount_z))), (10, .v (.int .i64 (a0.length : Int))), (11, .v (.int .i64 0))] (by simp [-List.map_set, go_sem, h2]) ?_
    repeat rw [pw_seq]
    refine pw_joinS (fun (x12 : Unit) => []) hF6 ?_ ?_
    · intro x12 hF13
      try dsimp only at hF13
      try simp [-List.map_set, go_sem, h2]
      refine pw_wkL [(2, .v (.bool true))] (by simp [-List.map_set, go_sem, h2]) ?_
      try simp [-List.map_set, go_sem, h2]
      have h134 := Rn_some hF13
      have h135 := hΦ _ h134
      subst h135
      try simp [-List.map_set, go_sem, h2]
    · intro ψ10 hj8 hr9 hF11
      repeat rw [pw_seq]
      rw [pw_block]
      try simp [-List.map_set, go_sem]
      obtain ⟨b130, hb131, hψ76⟩ := hF11
      refine pw_rloop (fun (i73 : Int) (s72 : Int) => [(0, .v (.sl false 2 (a0.map row_ViewCount_z))), (3, .v (.int .i64 s72)), (9, .v (.sl false 2 (a0.map row_ViewCount_z))), (10, .v (.int .i64 (a0.length : Int))), (11, .v (.int .i64 i73))]) hb131 (by simp [-List.map_set, go_sem, h2]) ?_ ?_
      · intro s72 N133 hN132
        subst hN132
        try simp [-List.map_set, go_sem]
        refine pw_wk ?_
        repeat rw [pw_seq]
        refine pw_cond_f (by simp [-List.map_set, go_sem]) ?_
        try simp [-List.map_set, go_sem]
        exact hj8 () _ (by simp [-List.map_set, go_sem]) hψ76
      · intro i73 s72 φ77 N78 hi80 hi81 ho74 hg75 hF79
        try dsimp only at hF79
        rw [Int.zero_add] at hi81
        try simp [-List.map_set, go_sem, h2, hi80, hi81]
        refine pw_wkL [(0, .v (.sl false 2 (a0.map row_ViewCount_z))), (3, .v (.int .i64 s72)), (9, .v (.sl false 2 (a0.map row_ViewCount_z))), (10, .v (.int .i64 (a0.length : Int))), (11, .v (.int .i64 i73)), (12, .v (.bool (decide (i73 < (a0.length : Int)))))] (by simp [-List.map_set, go_sem, h2, hi80, hi81]) ?_
        repeat rw [pw_seq]
        refine pw_cond_t (by simp [-List.map_set, go_sem, h2, hi80, hi81]) ?_
        try simp [-List.map_set, go_sem, h2, hi80, hi81]
        refine pw_wkL [(0, .v (.sl false 2 (a0.map row_ViewCount_z))), (3, .v (.int .i64 s72)), (9, .v (.sl false 2 (a0.map row_ViewCount_z))), (10, .v (.int .i64 (a0.length : Int))), (11, .v (.int .i64 i73))] (by simp [-List.map_set, go_sem, h2, hi80, hi81]) ?_
        repeat rw [pw_seq]
        rw [pw_block]
        obtain ⟨x82, e83, hF84⟩ := Rn_bind hF79
        obtain ⟨g85, g86, g87⟩ := ix_some e83
        have g88 := ix_get e83
        try simp only [Int.toNat_natCast, Int.toNat_zero, Int.toNat_one, Int.reduceToNat] at g87 g88
        try simp [-List.map_set, go_sem, h2, hi80, hi81, g85, g86, g87, g88]
        refine pw_wkL [(0, .v (.sl false 2 (a0.map row_ViewCount_z))), (3, .v (.int .i64 s72)), (4, .v (.int .i64 i73)), (5, .bl [.sl false 1 (x82.View.map row_i64), .int .i64 x82.Times]), (9, .v (.sl false 2 (a0.map row_ViewCount_z))), (10, .v (.int .i64 (a0.length : Int))), (11, .v (.int .i64 i73))] (by simp [-List.map_set, go_sem, h2, hi80, hi81, g85, g86, g87, g88]) ?_
        repeat rw [pw_seq]
        refine pw_joinF (fun (x93 : Bool) => [(0, .v (.sl false 2 (a0.map row_ViewCount_z))), (3, .v (.int .i64 s72)), (5, .bl [.sl false 1 (x82.View.map row_i64), .int .i64 x82.Times]), (9, .v (.sl false 2 (a0.map row_ViewCount_z))), (10, .v (.int .i64 (a0.length : Int))), (11, .v (.int .i64 i73)), (43, .v (.bool x93))]) hF84 ?_ ?_
        · intro x93 hF94
          try dsimp only at hF94
          repeat rw [pw_seq]
          refine pw_cond' (v := x93) (by simp [-List.map_set, go_sem, h2, hi80, hi81, g85, g86, g87, g88]) (fun h122 => ?_) (fun h122 => ?_)
          · have hF123 := Rn_t hF94 h122
            try simp [-List.map_set, go_sem, h2, hi80, hi81, g85, g86, g87, g88, h122]
            refine pw_wkL [(2, .v (.bool false))] (by simp [-List.map_set, go_sem, h2, hi80, hi81, g85, g86, g87, g88, h122]) ?_
            try simp [-List.map_set, go_sem, h2, hi80, hi81, g85, g86, g87, g88, h122]
            have h124 := Rn_some hF123
            have h125 := ho74 _ h124
            subst h125
            have h126 := hr9 _ hψ76
            have h127 := hΦ _ h126
            subst h127
            try simp [-List.map_set, go_sem, h2, hi80, hi81, g85, g86, g87, g88, h122]
          · have hF128 := Rn_f hF94 h122
            try simp [-List.map_set, go_sem, h2, hi80, hi81, g85, g86, g87, g88, h122]
            refine pw_wkL [(0, .v (.sl false 2 (a0.map row_ViewCount_z))), (3, .v (.int .i64 s72)), (5, .bl [.sl false 1 (x82.View.map row_i64), .int .i64 x82.Times]), (9, .v (.sl false 2 (a0.map row_ViewCount_z))), (10, .v (.int .i64 (a0.length : Int))), (11, .v (.int .i64 i73))] (by simp [-List.map_set, go_sem, h2, hi80, hi81, g85, g86, g87, g88, h122]) ?_
            try simp [-List.map_set, go_sem, h2, hi80, hi81, g85, g86, g87, g88, h122]
            refine pw_wkL [(0, .v (.sl false 2 (a0.map row_ViewCount_z))), (3, .v (.int .i64 (IntKind.i64.wrap (s72 + x82.Times)))), (9, .v (.sl false 2 (a0.map row_ViewCount_z))), (10, .v (.int .i64 (a0.length : Int))), (11, .v (.int .i64 i73))] (by simp [-List.map_set, go_sem, h2, hi80, hi81, g85, g86, g87, g88, h122]) ?_
            try simp [-List.map_set, go_sem, h2, hi80, hi81, g85, g86, g87, g88, h122]
            have h129 := Rn_some hF128
            have hw : IntKind.i64.wrap (i73 + 1) = i73 + 1 := wrI (by have h0 := hl7; simp [maxLen] at h0; omega)
            exact hg75 (IntKind.i64.wrap (s72 + x82.Times)) _ (by simp [-List.map_set, go_sem, h2, hi80, hi81, g85, g86, g87, g88, h122, hw]) h129
        · intro ψ91 hj89 hF92
          repeat rw [pw_seq]
          refine pw_draw D40_7 follows (by kernel_rfl) rfl ?_
          try simp only [go_sem, D40_7]
          try simp [-List.map_set, go_sem, h2, hi80, hi81, g85, g86, g87, g88]
          refine qln_some fun hl95 => ?_
          try simp [-List.map_set, go_sem, h2, hi80, hi81, g85, g86, g87, g88]
          refine pwgD_split (fun h96 => ?_) (fun h96 => ?_)
          · have hF97 := Rn_t hF92 h96
            try simp [-List.map_set, go_sem, h2, hi80, hi81, g85, g86, g87, g88, h96]
            have h98 := Rn_some hF97
            exact hj89 true _ (by simp [-List.map_set, go_sem, h2, hi80, hi81, g85, g86, g87, g88, h96]) h98
          · have hF99 := Rn_f hF92 h96
            obtain ⟨z100, e101, hF102⟩ := Rn_bind hF99
            try simp [-List.map_set, go_sem, h2, hi80, hi81, g85, g86, g87, g88, h96]
            refine pw_callE [.sh, .sh, .sh] rfl rfl (by (try simp [-List.map_set, go_sem, clE, h2, hi80, hi81, g85, g86, g87, g88, h96]); first | rfl | done) (by rfl) (c_impl_within e101) (by (try simp [-List.map_set, go_sem, h2, hi80, hi81, g85, g86, g87, g88, h96]); first | rfl | done) (fun r0 os0 ho0 => ?_)
            obtain ⟨ho1, ho2⟩ := ho0
            subst ho1
            subst ho2
            refine ⟨by simp [-List.map_set, go_sem, h2, hi80, hi81, g85, g86, g87, g88, h96], ?_⟩
            try simp [-List.map_set, go_sem, h2, hi80, hi81, g85, g86, g87, g88, h96]
            refine pwgD_split (fun h103 => ?_) (fun h103 => ?_)
            · have hF104 := Rn_t hF102 h103
              try simp [-List.map_set, go_sem, h2, hi80, hi81, g85, g86, g87, g88, h96, h103]
              have h105 := Rn_some hF104
              exact hj89 true _ (by simp [-List.map_set, go_sem, h2, hi80, hi81, g85, g86, g87, g88, h96, h103]) h105
            · have hF106 := Rn_f hF102 h103
              try simp [-List.map_set, go_sem, h2, hi80, hi81, g85, g86, g87, g88, h96, h103]
              refine pwgD_split (fun h107 => ?_) (fun h107 => ?_)
              · have hF108 := Rn_t hF106 h107
                obtain ⟨x109, e110, hF111⟩ := Rn_bind hF108
                obtain ⟨g112, g113, g114⟩ := ix_some e110
                have g115 := ix_get e110
                try simp only [Int.toNat_natCast, Int.toNat_zero, Int.toNat_one, Int.reduceToNat] at g114 g115
                obtain ⟨z116, e117, hF118⟩ := Rn_bind hF111
                try simp [-List.map_set, go_sem, h2, hi80, hi81, g85, g86, g87, g88, h96, h103, h107, g112, g113, g114, g115]
                refine pw_callE [.sh, .sh] rfl rfl (by (try simp [-List.map_set, go_sem, clE, h2, hi80, hi81, g85, g86, g87, g88, h96, h103, h107, g112, g113, g114, g115]); first | rfl | done) (by rfl) (c_slices_Compare_int_int e117) (by (try simp [-List.map_set, go_sem, h2, hi80, hi81, g85, g86, g87, g88, h96, h103, h107, g112, g113, g114, g115]); first | rfl | done) (fun r0 os0 ho0 => ?_)
                obtain ⟨ho1, ho2⟩ := ho0
                subst ho1
                subst ho2
                refine ⟨by simp [-List.map_set, go_sem, h2, hi80, hi81, g85, g86, g87, g88, h96, h103, h107, g112, g113, g114, g115], ?_⟩
                try simp [-List.map_set, go_sem, h2, hi80, hi81, g85, g86, g87, g88, h96, h103, h107, g112, g113, g114, g115]
                have h119 := Rn_some hF118
                exact hj89 (decide (0 ≤ z116)) _ (by simp [-List.map_set, go_sem, h2, hi80, hi81, g85, g86, g87, g88, h96, h103, h107, g112, g113, g114, g115]) h119
              · have hF120 := Rn_f hF106 h107
                try simp [-List.map_set, go_sem, h2, hi80, hi81, g85, g86, g87, g88, h96, h103, h107]
                have h121 := Rn_some hF120
                exact hj89 false _ (by simp [-List.map_set, go_sem, h2, hi80, hi81, g85, g86, g87, g88, h96, h103, h107]) h121
noncomputable def F_impl_total (a0 : (List ViewCount)) : Option (Int) :=
  ((rloop (σ := Int) (β := Int) (fun i27 s26 =>
  (ix a0 i27).bind fun x36 =>
  some (.go (IntKind.i64.wrap (s26 + x36.Times)))) (fun s26 => s26) (a0.length) 0 0 : Option (Int)).bind fun (x6 : Int) =>
  some x6)
theorem c_impl_total {a0 : (List ViewCount)} {r : Int} (hr : F_impl_total a0 = some r) : PCalls Try.prog 46 [(.sh, .sl false 2 (a0.map row_ViewCount_z))] (fun o os => o = .int .i64 r ∧ os = [.junk]) := by
  refine pcalls_lift (R := fun (r : Int) o os => o = .int .i64 r ∧ os = [.junk]) [] [] hr cl46 Try.func46 rfl (by simp [Try.f46]) fun Φ hΦ hF => ?_
  unfold F_impl_total at hF
  simp only [Try.f46, ioL_nil, ioL_sh, ioL_mv, ioL_io]
  try simp [-List.map_set, go_sem]
  refine pw_wkL [(0, .v (.sl false 2 (a0.map row_ViewCount_z)))] (by simp [-List.map_set, go_sem]) ?_
  try simp [-List.map_set, go_sem]
  refine pw_wkL [(0, .v (.sl false 2 (a0.map row_ViewCount_z))), (3, .v (.int .i64 0))] (by simp [-List.map_set, go_sem]) ?_
  try simp [-List.map_set, go_sem]
  refine qln_some fun hl1 => ?_
  try simp [-List.map_set, go_sem]
  refine pw_wkL [(3, .v (.int .i64 0)), (6, .v (.sl false 2 (a0.map row_ViewCount_z))), (7, .v (.int .i64 (a0.length : Int))), (8, .v (.int .i64 0))] (by simp [-List.map_set, go_sem]) ?_
  repeat rw [pw_seq]
  refine pw_joinF (fun (x6 : Int) => [(3, .v (.int .i64 x6))]) hF ?_ ?_
  · intro x6 hF7
    try dsimp only at hF7
    try simp [-List.map_set, go_sem]
    refine pw_wkL [(2, .v (.int .i64 x6))] (by simp [-List.map_set, go_sem]) ?_
    try simp [-List.map_set, go_sem]
    have h48 := Rn_some hF7
    have h49 := hΦ _ h48
    subst h49
    try simp [-List.map_set, go_sem]
  · intro ψ4 hj2 hF5
    repeat rw [pw_seq]
    rw [pw_block]
    try simp [-List.map_set, go_sem]
    obtain ⟨b44, hb45, hψ30⟩ := hF5
    refine pw_rloop (fun (i27 : Int) (s26 : Int) => [(3, .v (.int .i64 s26)), (6, .v (.sl false 2 (a0.map row_ViewCount_z))), (7, .v (.int .i64 (a0.length : Int))), (8, .v (.int .i64 i27))]) hb45 (by simp [-List.map_set, go_sem]) ?_ ?_
    · intro s26 N47 hN46
      subst hN46
      try simp [-List.map_set, go_sem]
      refine pw_wk ?_
      repeat rw [pw_seq]
      refine pw_cond_f (by simp [-List.map_set, go_sem]) ?_
      try simp [-List.map_set, go_sem]
      exact hj2 s26 _ (by simp [-List.map_set, go_sem]) hψ30
    · intro i27 s26 φ31 N32 hi34 hi35 ho28 hg29 hF33
      try dsimp only at hF33
      rw [Int.zero_add] at hi35
      try simp [-List.map_set, go_sem, hi34, hi35]
      refine pw_wkL [(3, .v (.int .i64 s26)), (6, .v (.sl false 2 (a0.map row_ViewCount_z))), (7, .v (.int .i64 (a0.length : Int))), (8, .v (.int .i64 i27)), (9, .v (.bool (decide (i27 < (a0.length : Int)))))] (by simp [-List.map_set, go_sem, hi34, hi35]) ?_
      repeat rw [pw_seq]
      refine pw_cond_t (by simp [-List.map_set, go_sem, hi34, hi35]) ?_
      try simp [-List.map_set, go_sem, hi34, hi35]
      refine pw_wkL [(3, .v (.int .i64 s26)), (6, .v (.sl false 2 (a0.map row_ViewCount_z))), (7, .v (.int .i64 (a0.length : Int))), (8, .v (.int .i64 i27))] (by simp [-List.map_set, go_sem, hi34, hi35]) ?_
      repeat rw [pw_seq]
      rw [pw_block]
      obtain ⟨x36, e37, hF38⟩ := Rn_bind hF33
      obtain ⟨g39, g40, g41⟩ := ix_some e37
      have g42 := ix_get e37
      try simp only [Int.toNat_natCast, Int.toNat_zero, Int.toNat_one, Int.reduceToNat] at g41 g42
      try simp [-List.map_set, go_sem, hi34, hi35, g39, g40, g41, g42]
      refine pw_wkL [(3, .v (.int .i64 s26)), (5, .bl [.sl false 1 (x36.View.map row_i64), .int .i64 x36.Times]), (6, .v (.sl false 2 (a0.map row_ViewCount_z))), (7, .v (.int .i64 (a0.length : Int))), (8, .v (.int .i64 i27))] (by simp [-List.map_set, go_sem, hi34, hi35, g39, g40, g41, g42]) ?_
      try simp [-List.map_set, go_sem, hi34, hi35, g39, g40, g41, g42]
      refine pw_wkL [(3, .v (.int .i64 (IntKind.i64.wrap (s26 + x36.Times)))), (6, .v (.sl false 2 (a0.map row_ViewCount_z))), (7, .v (.int .i64 (a0.length : Int))), (8, .v (.int .i64 i27))] (by simp [-List.map_set, go_sem, hi34, hi35, g39, g40, g41, g42]) ?_
      try simp [-List.map_set, go_sem, hi34, hi35, g39, g40, g41, g42]
      have h43 := Rn_some hF38
      have hw : IntKind.i64.wrap (i27 + 1) = i27 + 1 := wrI (by have h0 := hl1; simp [maxLen] at h0; omega)
      exact hg29 (IntKind.i64.wrap (s26 + x36.Times)) _ (by simp [-List.map_set, go_sem, hi34, hi35, g39, g40, g41, g42, hw]) h43
noncomputable def F_impl_timesOf_1 (a0 : ViewCount) (a1 : (List Int)) : Option (Int) :=
  (F_slices_Compare_int_int a0.View a1).bind fun z1 =>
  some z1
theorem c_impl_timesOf_1 {a0 : ViewCount} {a1 : (List Int)} {r : Int} (hr : F_impl_timesOf_1 a0 a1 = some r) : PCalls Try.prog 88 [(.sh, .agg [.sl false 1 (a0.View.map row_i64), .int .i64 a0.Times]), (.sh, .sl false 1 (a1.map row_i64))] (fun o os => o = .int .i64 r ∧ os = [.junk, .junk]) := by
  refine pcalls_lift (R := fun (r : Int) o os => o = .int .i64 r ∧ os = [.junk, .junk]) [] [] hr cl88 Try.func88 rfl (by simp [Try.f88]) fun Φ hΦ hF => ?_
  unfold F_impl_timesOf_1 at hF
  simp only [Try.f88, ioL_nil, ioL_sh, ioL_mv, ioL_io]
  try simp [-List.map_set, go_sem]
  refine pw_wkL [(1, .v (.sl false 1 (a1.map row_i64))), (2, .bl [.sl false 1 (a0.View.map row_i64), .int .i64 a0.Times])] (by simp [-List.map_set, go_sem]) ?_
  obtain ⟨z1, e2, hF3⟩ := Rn_bind hF
  try simp [-List.map_set, go_sem]
  refine pw_callE [.sh, .sh] rfl rfl (by (try simp [-List.map_set, go_sem, clE]); first | rfl | done) (by rfl) (c_slices_Compare_int_int e2) (by (try simp [-List.map_set, go_sem]); first | rfl | done) (fun r0 os0 ho0 => ?_)
  obtain ⟨ho1, ho2⟩ := ho0
  subst ho1
  subst ho2
  refine ⟨by simp [-List.map_set, go_sem], ?_⟩
  try simp [-List.map_set, go_sem]
  refine pw_wkL [(4, .v (.int .i64 z1))] (by simp [-List.map_set, go_sem]) ?_
  try simp [-List.map_set, go_sem]
  have h4 := Rn_some hF3
  have h5 := hΦ _ h4
  subst h5
  try simp [-List.map_set, go_sem]
noncomputable def F_slices_BinarySearchFunc_impl_ViewCount_impl_ViewCount_int__impl_timesOf_1 (a0 : (List ViewCount)) (a1 : (List Int)) : Option (Int × Bool) :=
  ((wloop (σ := Int × Int) (β := Int) (fun s37 =>
  if decide (s37.1 < s37.2) = true then (
  (ix a0 (IntKind.i64.wrap ((IntKind.u64.wrap (IntKind.i64.wrap (s37.1 + s37.2))).fdiv 2))).bind fun x48 =>
  (F_impl_timesOf_1 x48 a1).bind fun z55 =>
  if decide (z55 < 0) = true then (
  some (.go (IntKind.i64.wrap ((IntKind.i64.wrap ((IntKind.u64.wrap (IntKind.i64.wrap (s37.1 + s37.2))).fdiv 2)) + 1), s37.2))) else (
  some (.go (s37.1, IntKind.i64.wrap ((IntKind.u64.wrap (IntKind.i64.wrap (s37.1 + s37.2))).fdiv 2))))) else (
  some (.out s37.1))) (0, (a0.length : Int)) : Option (Int)).bind fun (x6 : Int) =>
  ((if decide (x6 < (a0.length : Int)) = true then (
  (ix a0 x6).bind fun x76 =>
  (F_impl_timesOf_1 x76 a1).bind fun z83 =>
  some (z83 == 0)) else (
  some false) : Option (Bool)).bind fun (x72 : Bool) =>
  some (x6, x72)))
theorem c_slices_BinarySearchFunc_impl_ViewCount_impl_ViewCount_int__impl_timesOf_1 {a0 : (List ViewCount)} {a1 : (List Int)} {r : Int × Bool} (hr : F_slices_BinarySearchFunc_impl_ViewCount_impl_ViewCount_int__impl_timesOf_1 a0 a1 = some r) : PCalls Try.prog 87 [(.sh, .sl false 2 (a0.map row_ViewCount_z)), (.sh, .sl false 1 (a1.map row_i64)), (.sh, .func (.func 88) [] [])] (fun o os => o = .tup [.int .i64 r.1, .bool r.2] ∧ os = [.junk, .junk, .junk]) := by
  refine pcalls_lift (R := fun (r : Int × Bool) o os => o = .tup [.int .i64 r.1, .bool r.2] ∧ os = [.junk, .junk, .junk]) [] [] hr cl87 Try.func87 rfl (by simp [Try.f87]) fun Φ hΦ hF => ?_
  unfold F_slices_BinarySearchFunc_impl_ViewCount_impl_ViewCount_int__impl_timesOf_1 at hF
  simp only [Try.f87, ioL_nil, ioL_sh, ioL_mv, ioL_io]
  try simp [-List.map_set, go_sem]
  refine pw_wkL [(0, .v (.sl false 2 (a0.map row_ViewCount_z))), (1, .v (.sl false 1 (a1.map row_i64))), (2, .v (.func (.func 88) [] []))] (by simp [-List.map_set, go_sem]) ?_
  try simp [-List.map_set, go_sem]
  refine qln_some fun hl1 => ?_
  try simp [-List.map_set, go_sem]
  refine pw_wkL [(0, .v (.sl false 2 (a0.map row_ViewCount_z))), (1, .v (.sl false 1 (a1.map row_i64))), (2, .v (.func (.func 88) [] [])), (8, .v (.int .i64 (a0.length : Int)))] (by simp [-List.map_set, go_sem]) ?_
  try simp [-List.map_set, go_sem]
  refine pw_wkL [(0, .v (.sl false 2 (a0.map row_ViewCount_z))), (1, .v (.sl false 1 (a1.map row_i64))), (2, .v (.func (.func 88) [] [])), (8, .v (.int .i64 (a0.length : Int))), (9, .v (.int .i64 0)), (10, .v (.int .i64 (a0.length : Int)))] (by simp [-List.map_set, go_sem]) ?_
  repeat rw [pw_seq]
  refine pw_joinF (fun (x6 : Int) => [(0, .v (.sl false 2 (a0.map row_ViewCount_z))), (1, .v (.sl false 1 (a1.map row_i64))), (2, .v (.func (.func 88) [] [])), (8, .v (.int .i64 (a0.length : Int))), (9, .v (.int .i64 x6))]) hF ?_ ?_
  · intro x6 hF7
    try dsimp only at hF7
    repeat rw [pw_seq]
    refine pw_joinF (fun (x72 : Bool) => [(6, .v (.int .i64 x6)), (7, .v (.bool x72))]) hF7 ?_ ?_
    · intro x72 hF73
      try dsimp only at hF73
      try simp [-List.map_set, go_sem]
      have h89 := Rn_some hF73
      have h90 := hΦ _ h89
      subst h90
      try simp [-List.map_set, go_sem]
    · intro ψ70 hj68 hF71
      try simp [-List.map_set, go_sem]
      refine pwg_split (fun h74 => ?_) (fun h74 => ?_)
      · have hF75 := Rn_t hF71 h74
        obtain ⟨x76, e77, hF78⟩ := Rn_bind hF75
        obtain ⟨g79, g80, g81⟩ := ix_some e77
        have g82 := ix_get e77
        try simp only [Int.toNat_natCast, Int.toNat_zero, Int.toNat_one, Int.reduceToNat] at g81 g82
        obtain ⟨z83, e84, hF85⟩ := Rn_bind hF78
        try simp [-List.map_set, go_sem, h74, g79, g80, g81, g82]
        refine pw_callE [.sh, .sh] rfl rfl (by (try simp [-List.map_set, go_sem, clE, h74, g79, g80, g81, g82]); first | rfl | done) (by rfl) (c_impl_timesOf_1 e84) (by (try simp [-List.map_set, go_sem, h74, g79, g80, g81, g82]); first | rfl | done) (fun r0 os0 ho0 => ?_)
        obtain ⟨ho1, ho2⟩ := ho0
        subst ho1
        subst ho2
        refine ⟨by simp [-List.map_set, go_sem, h74, g79, g80, g81, g82], ?_⟩
        try simp [-List.map_set, go_sem, h74, g79, g80, g81, g82]
        have h86 := Rn_some hF85
        exact hj68 (z83 == 0) _ (by simp [-List.map_set, go_sem, h74, g79, g80, g81, g82]) h86
      · have hF87 := Rn_f hF71 h74
        try simp [-List.map_set, go_sem, h74]
        have h88 := Rn_some hF87
        exact hj68 false _ (by simp [-List.map_set, go_sem, h74]) h88
  · intro ψ4 hj2 hF5
    repeat rw [pw_seq]
    rw [pw_block]
    try simp [-List.map_set, go_sem]
    obtain ⟨b66, hb67, hψ41⟩ := hF5
    refine pw_wloop (fun (s37 : Int × Int) => [(0, .v (.sl false 2 (a0.map row_ViewCount_z))), (1, .v (.sl false 1 (a1.map row_i64))), (2, .v (.func (.func 88) [] [])), (8, .v (.int .i64 (a0.length : Int))), (9, .v (.int .i64 s37.1)), (10, .v (.int .i64 s37.2))]) hb67 (by simp [-List.map_set, go_sem]) ?_
    intro s37 φ42 N43 ho39 hg40 hF44
    try dsimp only at hF44
    try simp [-List.map_set, go_sem]
    refine pw_wkL [(0, .v (.sl false 2 (a0.map row_ViewCount_z))), (1, .v (.sl false 1 (a1.map row_i64))), (2, .v (.func (.func 88) [] [])), (8, .v (.int .i64 (a0.length : Int))), (9, .v (.int .i64 s37.1)), (10, .v (.int .i64 s37.2)), (17, .v (.bool (decide (s37.1 < s37.2))))] (by simp [-List.map_set, go_sem]) ?_
    repeat rw [pw_seq]
    refine pw_cond' (v := decide (s37.1 < s37.2)) (by simp [-List.map_set, go_sem]) (fun h45 => ?_) (fun h45 => ?_)
    · have hF46 := Rn_t hF44 h45
      try simp [-List.map_set, go_sem, h45]
      refine pw_wkL [(0, .v (.sl false 2 (a0.map row_ViewCount_z))), (1, .v (.sl false 1 (a1.map row_i64))), (2, .v (.func (.func 88) [] [])), (8, .v (.int .i64 (a0.length : Int))), (9, .v (.int .i64 s37.1)), (10, .v (.int .i64 s37.2))] (by simp [-List.map_set, go_sem, h45]) ?_
      repeat rw [pw_seq]
      rw [pw_block]
      have g47 := fun x => shV0_ge (b := 1) (x := x) (by decide)
      try simp [-List.map_set, go_sem, h45, g47]
      refine pw_wkL [(0, .v (.sl false 2 (a0.map row_ViewCount_z))), (1, .v (.sl false 1 (a1.map row_i64))), (2, .v (.func (.func 88) [] [])), (8, .v (.int .i64 (a0.length : Int))), (9, .v (.int .i64 s37.1)), (10, .v (.int .i64 s37.2)), (11, .v (.int .i64 (IntKind.i64.wrap ((IntKind.u64.wrap (IntKind.i64.wrap (s37.1 + s37.2))).fdiv 2))))] (by simp [-List.map_set, go_sem, h45, g47]) ?_
      obtain ⟨x48, e49, hF50⟩ := Rn_bind hF46
      obtain ⟨g51, g52, g53⟩ := ix_some e49
      have g54 := ix_get e49
      try simp only [Int.toNat_natCast, Int.toNat_zero, Int.toNat_one, Int.reduceToNat] at g53 g54
      obtain ⟨z55, e56, hF57⟩ := Rn_bind hF50
      try simp [-List.map_set, go_sem, h45, g47, g51, g52, g53, g54]
      refine pw_callE [.sh, .sh] rfl rfl (by (try simp [-List.map_set, go_sem, clE, h45, g47, g51, g52, g53, g54]); first | rfl | done) (by rfl) (c_impl_timesOf_1 e56) (by (try simp [-List.map_set, go_sem, h45, g47, g51, g52, g53, g54]); first | rfl | done) (fun r0 os0 ho0 => ?_)
      obtain ⟨ho1, ho2⟩ := ho0
      subst ho1
      subst ho2
      refine ⟨by simp [-List.map_set, go_sem, h45, g47, g51, g52, g53, g54], ?_⟩
      try simp [-List.map_set, go_sem, h45, g47, g51, g52, g53, g54]
      refine pw_wkL [(0, .v (.sl false 2 (a0.map row_ViewCount_z))), (1, .v (.sl false 1 (a1.map row_i64))), (2, .v (.func (.func 88) [] [])), (8, .v (.int .i64 (a0.length : Int))), (9, .v (.int .i64 s37.1)), (10, .v (.int .i64 s37.2)), (11, .v (.int .i64 (IntKind.i64.wrap ((IntKind.u64.wrap (IntKind.i64.wrap (s37.1 + s37.2))).fdiv 2)))), (31, .v (.bool (decide (z55 < 0))))] (by simp [-List.map_set, go_sem, h45, g47, g51, g52, g53, g54]) ?_
      repeat rw [pw_seq]
      refine pw_cond' (v := decide (z55 < 0)) (by simp [-List.map_set, go_sem, h45, g47, g51, g52, g53, g54]) (fun h58 => ?_) (fun h58 => ?_)
      · have hF59 := Rn_t hF57 h58
        try simp [-List.map_set, go_sem, h45, g47, g51, g52, g53, g54, h58]
        have h60 := Rn_some hF59
        exact hg40 (IntKind.i64.wrap ((IntKind.i64.wrap ((IntKind.u64.wrap (IntKind.i64.wrap (s37.1 + s37.2))).fdiv 2)) + 1), s37.2) _ (by simp [-List.map_set, go_sem, h45, g47, g51, g52, g53, g54, h58]) h60
      · have hF61 := Rn_f hF57 h58
        try simp [-List.map_set, go_sem, h45, g47, g51, g52, g53, g54, h58]
        have h62 := Rn_some hF61
        exact hg40 (s37.1, IntKind.i64.wrap ((IntKind.u64.wrap (IntKind.i64.wrap (s37.1 + s37.2))).fdiv 2)) _ (by simp [-List.map_set, go_sem, h45, g47, g51, g52, g53, g54, h58]) h62
    · have hF63 := Rn_f hF44 h45
      try simp [-List.map_set, go_sem, h45]
      have h64 := Rn_some hF63
      have h65 := ho39 _ h64
      subst h65
      exact hj2 s37.1 _ (by simp [-List.map_set, go_sem, h45]) hψ41
noncomputable def F_impl_timesOf (a0 : (List ViewCount)) (a1 : (List Int)) : Option (Int) :=
  (F_slices_BinarySearchFunc_impl_ViewCount_impl_ViewCount_int__impl_timesOf_1 a0 a1).bind fun z1 =>
  if (!z1.2) = true then (
  some 0) else (
  (ix a0 z1.1).bind fun x9 =>
  some x9.Times)
theorem c_impl_timesOf {a0 : (List ViewCount)} {a1 : (List Int)} {r : Int} (hr : F_impl_timesOf a0 a1 = some r) : PCalls Try.prog 47 [(.sh, .sl false 2 (a0.map row_ViewCount_z)), (.sh, .sl false 1 (a1.map row_i64))] (fun o os => o = .int .i64 r ∧ os = [.junk, .junk]) := by
  refine pcalls_lift (R := fun (r : Int) o os => o = .int .i64 r ∧ os = [.junk, .junk]) [] [] hr cl47 Try.func47 rfl (by simp [Try.f47]) fun Φ hΦ hF => ?_
  unfold F_impl_timesOf at hF
  simp only [Try.f47, ioL_nil, ioL_sh, ioL_mv, ioL_io]
  try simp [-List.map_set, go_sem]
  refine pw_wkL [(0, .v (.sl false 2 (a0.map row_ViewCount_z))), (1, .v (.sl false 1 (a1.map row_i64)))] (by simp [-List.map_set, go_sem]) ?_
  obtain ⟨z1, e2, hF3⟩ := Rn_bind hF
  try simp [-List.map_set, go_sem]
  refine pw_callE [.sh, .sh, .sh] rfl rfl (by (try simp [-List.map_set, go_sem, clE]); first | rfl | done) (by rfl) (c_slices_BinarySearchFunc_impl_ViewCount_impl_ViewCount_int__impl_timesOf_1 e2) (by (try simp [-List.map_set, go_sem]); first | rfl | done) (fun r0 os0 ho0 => ?_)
  obtain ⟨ho1, ho2⟩ := ho0
  subst ho1
  subst ho2
  refine ⟨by simp [-List.map_set, go_sem], ?_⟩
  try simp [-List.map_set, go_sem]
  refine pw_wkL [(0, .v (.sl false 2 (a0.map row_ViewCount_z))), (5, .v (.int .i64 z1.1)), (6, .v (.bool z1.2))] (by simp [-List.map_set, go_sem]) ?_
  try simp [-List.map_set, go_sem]
  refine pw_wkL [(0, .v (.sl false 2 (a0.map row_ViewCount_z))), (5, .v (.int .i64 z1.1)), (14, .v (.bool (!z1.2)))] (by simp [-List.map_set, go_sem]) ?_
  repeat rw [pw_seq]
  refine pw_cond' (v := (!z1.2)) (by simp [-List.map_set, go_sem]) (fun h4 => ?_) (fun h4 => ?_)
  · have hF5 := Rn_t hF3 h4
    try simp [-List.map_set, go_sem, h4]
    refine pw_wkL [(4, .v (.int .i64 0))] (by simp [-List.map_set, go_sem, h4]) ?_
    try simp [-List.map_set, go_sem, h4]
    have h6 := Rn_some hF5
    have h7 := hΦ _ h6
    subst h7
    try simp [-List.map_set, go_sem, h4]
  · have hF8 := Rn_f hF3 h4
    try simp [-List.map_set, go_sem, h4]
    refine pw_wkL [(0, .v (.sl false 2 (a0.map row_ViewCount_z))), (5, .v (.int .i64 z1.1))] (by simp [-List.map_set, go_sem, h4]) ?_
    obtain ⟨x9, e10, hF11⟩ := Rn_bind hF8
    obtain ⟨g12, g13, g14⟩ := ix_some e10
    have g15 := ix_get e10
    try simp only [Int.toNat_natCast, Int.toNat_zero, Int.toNat_one, Int.reduceToNat] at g14 g15
    try simp [-List.map_set, go_sem, h4, g12, g13, g14, g15]
    refine pw_wkL [(4, .v (.int .i64 x9.Times))] (by simp [-List.map_set, go_sem, h4, g12, g13, g14, g15]) ?_
    try simp [-List.map_set, go_sem, h4, g12, g13, g14, g15]
    have h16 := Rn_some hF11
    have h17 := hΦ _ h16
    subst h17
    try simp [-List.map_set, go_sem, h4, g12, g13, g14, g15]
noncomputable def F_impl_reduced (a0 : Int) (a1 : Int) : Option (Int × Int) :=
  ((wloop (σ := Int × Int) (β := Int) (fun s24 =>
  if (s24.2 != 0) = true then (
  gd (s24.2 ≠ 0) <|
  some (.go (s24.2, s24.1.tmod s24.2))) else (
  some (.out s24.1))) (a0, a1) : Option (Int)).bind fun (x5 : Int) =>
  gd (x5 ≠ 0) <|
  gd (x5 ≠ 0) <|
  some (IntKind.i64.wrap (a0.tdiv x5), IntKind.i64.wrap (a1.tdiv x5)))
theorem c_impl_reduced {a0 : Int} {a1 : Int} {r : Int × Int} (hr : F_impl_reduced a0 a1 = some r) : PCalls Try.prog 48 [(.sh, .int .i64 a0), (.sh, .int .i64 a1)] (fun o os => o = .tup [.int .i64 r.1, .int .i64 r.2] ∧ os = [.junk, .junk]) := by
  refine pcalls_lift (R := fun (r : Int × Int) o os => o = .tup [.int .i64 r.1, .int .i64 r.2] ∧ os = [.junk, .junk]) [] [] hr cl48 Try.func48 rfl (by simp [Try.f48]) fun Φ hΦ hF => ?_
  unfold F_impl_reduced at hF
  simp only [Try.f48, ioL_nil, ioL_sh, ioL_mv, ioL_io]
  try simp [-List.map_set, go_sem]
  refine pw_wkL [(0, .v (.int .i64 a0)), (1, .v (.int .i64 a1))] (by simp [-List.map_set, go_sem]) ?_
  try simp [-List.map_set, go_sem]
  refine pw_wkL [(0, .v (.int .i64 a0)), (1, .v (.int .i64 a1)), (6, .v (.int .i64 a0)), (7, .v (.int .i64 a1))] (by simp [-List.map_set, go_sem]) ?_
  repeat rw [pw_seq]
  refine pw_joinF (fun (x5 : Int) => [(0, .v (.int .i64 a0)), (1, .v (.int .i64 a1)), (6, .v (.int .i64 x5))]) hF ?_ ?_
  · intro x5 hF6
    try dsimp only at hF6
    repeat rw [pw_seq]
    refine pw_draw D48_4 follows (by kernel_rfl) rfl ?_
    try simp only [go_sem, D48_4]
    obtain ⟨g43, hF44⟩ := Rn_gd hF6
    have g45 := fun x => divV_ne (x := x) g43
    obtain ⟨g46, hF47⟩ := Rn_gd hF44
    have g48 := fun x => divV_ne (x := x) g46
    try simp [-List.map_set, go_sem, g43, g45, g46, g48]
    refine pw_wkL [(4, .v (.int .i64 (IntKind.i64.wrap (a0.tdiv x5)))), (5, .v (.int .i64 (IntKind.i64.wrap (a1.tdiv x5))))] (by simp [-List.map_set, go_sem, g43, g45, g46, g48]) ?_
    try simp [-List.map_set, go_sem, g43, g45, g46, g48]
    have h49 := Rn_some hF47
    have h50 := hΦ _ h49
    subst h50
    try simp [-List.map_set, go_sem, g43, g45, g46, g48]
  · intro ψ3 hj1 hF4
    repeat rw [pw_seq]
    rw [pw_block]
    try simp [-List.map_set, go_sem]
    obtain ⟨b41, hb42, hψ28⟩ := hF4
    refine pw_wloop (fun (s24 : Int × Int) => [(0, .v (.int .i64 a0)), (1, .v (.int .i64 a1)), (6, .v (.int .i64 s24.1)), (7, .v (.int .i64 s24.2))]) hb42 (by simp [-List.map_set, go_sem]) ?_
    intro s24 φ29 N30 ho26 hg27 hF31
    try dsimp only at hF31
    try simp [-List.map_set, go_sem]
    refine pw_wkL [(0, .v (.int .i64 a0)), (1, .v (.int .i64 a1)), (6, .v (.int .i64 s24.1)), (7, .v (.int .i64 s24.2)), (11, .v (.bool (s24.2 != 0)))] (by simp [-List.map_set, go_sem]) ?_
    repeat rw [pw_seq]
    refine pw_cond' (v := (s24.2 != 0)) (by simp [-List.map_set, go_sem]) (fun h32 => ?_) (fun h32 => ?_)
    · have hF33 := Rn_t hF31 h32
      try simp [-List.map_set, go_sem, h32]
      refine pw_wkL [(0, .v (.int .i64 a0)), (1, .v (.int .i64 a1)), (6, .v (.int .i64 s24.1)), (7, .v (.int .i64 s24.2))] (by simp [-List.map_set, go_sem, h32]) ?_
      repeat rw [pw_seq]
      rw [pw_block]
      repeat rw [pw_seq]
      refine pw_draw D48_3 follows (by kernel_rfl) rfl ?_
      try simp only [go_sem, D48_3]
      obtain ⟨g34, hF35⟩ := Rn_gd hF33
      have g36 := fun x => divV_ne (x := x) g34
      try simp [-List.map_set, go_sem, h32, g34, g36]
      have h37 := Rn_some hF35
      exact hg27 (s24.2, s24.1.tmod s24.2) _ (by simp [-List.map_set, go_sem, h32, g34, g36]) h37
    · have hF38 := Rn_f hF31 h32
      try simp [-List.map_set, go_sem, h32]
      have h39 := Rn_some hF38
      have h40 := ho26 _ h39
      subst h40
      exact hj1 s24.1 _ (by simp [-List.map_set, go_sem, h32]) hψ28
noncomputable def F_impl_DistanceOf (a0 : (List ViewCount)) (a1 : (List ViewCount)) : Option (Int × Int × Bool) :=
  (((F_impl_isCount a0).bind fun z7 =>
  if (!z7) = true then (
  some true) else (
  (F_impl_isCount a1).bind fun z14 =>
  if (!z14) = true then (
  some true) else (
  if ((a0.length : Int) == 0) = true then (
  some true) else (
  some ((a1.length : Int) == 0)))) : Option (Bool)).bind fun (x5 : Bool) =>
  if x5 = true then (
  some (0, 0, false)) else (
  (F_impl_total a0).bind fun z33 =>
  (F_impl_total a1).bind fun z36 =>
  ((rloop (σ := Int) (β := Int) (fun i68 s67 =>
  (ix a0 i68).bind fun x77 =>
  (F_impl_timesOf a1 x77.View).bind fun z84 =>
  some (.go (IntKind.i64.wrap (s67 + (if (IntKind.i64.wrap ((IntKind.i64.wrap (x77.Times * z36)) - (IntKind.i64.wrap (z84 * z33)))) < (IntKind.i64.wrap (0 - (IntKind.i64.wrap ((IntKind.i64.wrap (x77.Times * z36)) - (IntKind.i64.wrap (z84 * z33)))))) then (IntKind.i64.wrap (0 - (IntKind.i64.wrap ((IntKind.i64.wrap (x77.Times * z36)) - (IntKind.i64.wrap (z84 * z33)))))) else (IntKind.i64.wrap ((IntKind.i64.wrap (x77.Times * z36)) - (IntKind.i64.wrap (z84 * z33))))))))) (fun s67 => s67) (a0.length) 0 0 : Option (Int)).bind fun (x44 : Int) =>
  ((rloop (σ := Int) (β := Int) (fun i132 s131 =>
  (((ix a1 i132).bind fun x147 =>
  (F_impl_timesOf a0 x147.View).bind fun z154 =>
  if (z154 == 0) = true then (
  some (IntKind.i64.wrap (s131 + (IntKind.i64.wrap (x147.Times * z33))))) else (
  some s131) : Option (Int)).bind fun (x145 : Int) =>
  some (.go x145))) (fun s131 => s131) (a1.length) 0 x44 : Option (Int)).bind fun (x97 : Int) =>
  (F_impl_reduced x97 (IntKind.i64.wrap ((IntKind.i64.wrap (2 * z33)) * z36))).bind fun z167 =>
  some (z167.1, z167.2, true)))))
theorem c_impl_DistanceOf {a0 : (List ViewCount)} {a1 : (List ViewCount)} {r : Int × Int × Bool} (hr : F_impl_DistanceOf a0 a1 = some r) : PCalls Try.prog 16 [(.sh, .sl false 2 (a0.map row_ViewCount_z)), (.sh, .sl false 2 (a1.map row_ViewCount_z))] (fun o os => o = .tup [.int .i64 r.1, .int .i64 r.2.1, .bool r.2.2] ∧ os = [.junk, .junk]) := by
  refine pcalls_lift (R := fun (r : Int × Int × Bool) o os => o = .tup [.int .i64 r.1, .int .i64 r.2.1, .bool r.2.2] ∧ os = [.junk, .junk]) [] [] hr cl16 Try.func16 rfl (by simp [Try.f16]) fun Φ hΦ hF => ?_
  unfold F_impl_DistanceOf at hF
  simp only [Try.f16, ioL_nil, ioL_sh, ioL_mv, ioL_io]
  try simp [-List.map_set, go_sem]
  refine pw_wkL [(0, .v (.sl false 2 (a0.map row_ViewCount_z))), (1, .v (.sl false 2 (a1.map row_ViewCount_z)))] (by simp [-List.map_set, go_sem]) ?_
  repeat rw [pw_seq]
  refine pw_joinF (fun (x5 : Bool) => [(0, .v (.sl false 2 (a0.map row_ViewCount_z))), (1, .v (.sl false 2 (a1.map row_ViewCount_z))), (34, .v (.bool x5))]) hF ?_ ?_
  · intro x5 hF6
    try dsimp only at hF6
    repeat rw [pw_seq]
    refine pw_cond' (v := x5) (by simp [-List.map_set, go_sem]) (fun h28 => ?_) (fun h28 => ?_)
    · have hF29 := Rn_t hF6 h28
      try simp [-List.map_set, go_sem, h28]
      refine pw_wkL [(4, .v (.int .i64 0)), (5, .v (.int .i64 0)), (6, .v (.bool false))] (by simp [-List.map_set, go_sem, h28]) ?_
      try simp [-List.map_set, go_sem, h28]
      have h30 := Rn_some hF29
      have h31 := hΦ _ h30
      subst h31
      try simp [-List.map_set, go_sem, h28]
    · have hF32 := Rn_f hF6 h28
      try simp [-List.map_set, go_sem, h28]
      refine pw_wkL [(0, .v (.sl false 2 (a0.map row_ViewCount_z))), (1, .v (.sl false 2 (a1.map row_ViewCount_z)))] (by simp [-List.map_set, go_sem, h28]) ?_
      obtain ⟨z33, e34, hF35⟩ := Rn_bind hF32
      try simp [-List.map_set, go_sem, h28]
      refine pw_callE [.sh] rfl rfl (by (try simp [-List.map_set, go_sem, clE, h28]); first | rfl | done) (by rfl) (c_impl_total e34) (by (try simp [-List.map_set, go_sem, h28]); first | rfl | done) (fun r0 os0 ho0 => ?_)
      obtain ⟨ho1, ho2⟩ := ho0
      subst ho1
      subst ho2
      refine ⟨by simp [-List.map_set, go_sem, h28], ?_⟩
      obtain ⟨z36, e37, hF38⟩ := Rn_bind hF35
      try simp [-List.map_set, go_sem, h28]
      refine pw_callE [.sh] rfl rfl (by (try simp [-List.map_set, go_sem, clE, h28]); first | rfl | done) (by rfl) (c_impl_total e37) (by (try simp [-List.map_set, go_sem, h28]); first | rfl | done) (fun r0 os0 ho0 => ?_)
      obtain ⟨ho1, ho2⟩ := ho0
      subst ho1
      subst ho2
      refine ⟨by simp [-List.map_set, go_sem, h28], ?_⟩
      try simp [-List.map_set, go_sem, h28]
      refine pw_wkL [(0, .v (.sl false 2 (a0.map row_ViewCount_z))), (1, .v (.sl false 2 (a1.map row_ViewCount_z))), (7, .v (.int .i64 z33)), (8, .v (.int .i64 z36)), (9, .v (.int .i64 0))] (by simp [-List.map_set, go_sem, h28]) ?_
      try simp [-List.map_set, go_sem, h28]
      refine qln_some fun hl39 => ?_
      try simp [-List.map_set, go_sem, h28]
      refine pw_wkL [(0, .v (.sl false 2 (a0.map row_ViewCount_z))), (1, .v (.sl false 2 (a1.map row_ViewCount_z))), (7, .v (.int .i64 z33)), (8, .v (.int .i64 z36)), (9, .v (.int .i64 0)), (39, .v (.sl false 2 (a0.map row_ViewCount_z))), (40, .v (.int .i64 (a0.length : Int))), (41, .v (.int .i64 0))] (by simp [-List.map_set, go_sem, h28]) ?_
      repeat rw [pw_seq]
      refine pw_joinF (fun (x44 : Int) => [(0, .v (.sl false 2 (a0.map row_ViewCount_z))), (1, .v (.sl false 2 (a1.map row_ViewCount_z))), (7, .v (.int .i64 z33)), (8, .v (.int .i64 z36)), (9, .v (.int .i64 x44))]) hF38 ?_ ?_
      · intro x44 hF45
        try dsimp only at hF45
        try simp [-List.map_set, go_sem, h28]
        refine qln_some fun hl92 => ?_
        try simp [-List.map_set, go_sem, h28]
        refine pw_wkL [(0, .v (.sl false 2 (a0.map row_ViewCount_z))), (7, .v (.int .i64 z33)), (8, .v (.int .i64 z36)), (9, .v (.int .i64 x44)), (63, .v (.sl false 2 (a1.map row_ViewCount_z))), (64, .v (.int .i64 (a1.length : Int))), (65, .v (.int .i64 0))] (by simp [-List.map_set, go_sem, h28]) ?_
        repeat rw [pw_seq]
        refine pw_joinF (fun (x97 : Int) => [(7, .v (.int .i64 z33)), (8, .v (.int .i64 z36)), (9, .v (.int .i64 x97))]) hF45 ?_ ?_
        · intro x97 hF98
          try dsimp only at hF98
          obtain ⟨z167, e168, hF169⟩ := Rn_bind hF98
          try simp [-List.map_set, go_sem, h28]
          refine pw_callE [.sh, .sh] rfl rfl (by (try simp [-List.map_set, go_sem, clE, h28]); first | rfl | done) (by rfl) (c_impl_reduced e168) (by (try simp [-List.map_set, go_sem, h28]); first | rfl | done) (fun r0 os0 ho0 => ?_)
          obtain ⟨ho1, ho2⟩ := ho0
          subst ho1
          subst ho2
          refine ⟨by simp [-List.map_set, go_sem, h28], ?_⟩
          try simp [-List.map_set, go_sem, h28]
          refine pw_wkL [(15, .v (.int .i64 z167.1)), (16, .v (.int .i64 z167.2))] (by simp [-List.map_set, go_sem, h28]) ?_
          try simp [-List.map_set, go_sem, h28]
          refine pw_wkL [(4, .v (.int .i64 z167.1)), (5, .v (.int .i64 z167.2)), (6, .v (.bool true))] (by simp [-List.map_set, go_sem, h28]) ?_
          try simp [-List.map_set, go_sem, h28]
          have h170 := Rn_some hF169
          have h171 := hΦ _ h170
          subst h171
          try simp [-List.map_set, go_sem, h28]
        · intro ψ95 hj93 hF96
          repeat rw [pw_seq]
          rw [pw_block]
          try simp [-List.map_set, go_sem]
          obtain ⟨b163, hb164, hψ135⟩ := hF96
          refine pw_rloop (fun (i132 : Int) (s131 : Int) => [(0, .v (.sl false 2 (a0.map row_ViewCount_z))), (7, .v (.int .i64 z33)), (8, .v (.int .i64 z36)), (9, .v (.int .i64 s131)), (63, .v (.sl false 2 (a1.map row_ViewCount_z))), (64, .v (.int .i64 (a1.length : Int))), (65, .v (.int .i64 i132))]) hb164 (by simp [-List.map_set, go_sem, h28]) ?_ ?_
          · intro s131 N166 hN165
            subst hN165
            try simp [-List.map_set, go_sem]
            refine pw_wk ?_
            repeat rw [pw_seq]
            refine pw_cond_f (by simp [-List.map_set, go_sem]) ?_
            try simp [-List.map_set, go_sem]
            exact hj93 s131 _ (by simp [-List.map_set, go_sem]) hψ135
          · intro i132 s131 φ136 N137 hi139 hi140 ho133 hg134 hF138
            try dsimp only at hF138
            rw [Int.zero_add] at hi140
            try simp [-List.map_set, go_sem, h28, hi139, hi140]
            refine pw_wkL [(0, .v (.sl false 2 (a0.map row_ViewCount_z))), (7, .v (.int .i64 z33)), (8, .v (.int .i64 z36)), (9, .v (.int .i64 s131)), (63, .v (.sl false 2 (a1.map row_ViewCount_z))), (64, .v (.int .i64 (a1.length : Int))), (65, .v (.int .i64 i132)), (66, .v (.bool (decide (i132 < (a1.length : Int)))))] (by simp [-List.map_set, go_sem, h28, hi139, hi140]) ?_
            repeat rw [pw_seq]
            refine pw_cond_t (by simp [-List.map_set, go_sem, h28, hi139, hi140]) ?_
            try simp [-List.map_set, go_sem, h28, hi139, hi140]
            refine pw_wkL [(0, .v (.sl false 2 (a0.map row_ViewCount_z))), (7, .v (.int .i64 z33)), (8, .v (.int .i64 z36)), (9, .v (.int .i64 s131)), (63, .v (.sl false 2 (a1.map row_ViewCount_z))), (64, .v (.int .i64 (a1.length : Int))), (65, .v (.int .i64 i132))] (by simp [-List.map_set, go_sem, h28, hi139, hi140]) ?_
            repeat rw [pw_seq]
            refine pw_joinF (fun (x145 : Int) => [(0, .v (.sl false 2 (a0.map row_ViewCount_z))), (7, .v (.int .i64 z33)), (8, .v (.int .i64 z36)), (9, .v (.int .i64 x145)), (63, .v (.sl false 2 (a1.map row_ViewCount_z))), (64, .v (.int .i64 (a1.length : Int))), (65, .v (.int .i64 i132))]) hF138 ?_ ?_
            · intro x145 hF146
              try dsimp only at hF146
              try simp [-List.map_set, go_sem, h28, hi139, hi140]
              have h162 := Rn_some hF146
              have hw : IntKind.i64.wrap (i132 + 1) = i132 + 1 := wrI (by have h0 := hl92; simp [maxLen] at h0; omega)
              exact hg134 x145 _ (by simp [-List.map_set, go_sem, h28, hi139, hi140, hw]) h162
            · intro ψ143 hj141 hF144
              repeat rw [pw_seq]
              rw [pw_block]
              obtain ⟨x147, e148, hF149⟩ := Rn_bind hF144
              obtain ⟨g150, g151, g152⟩ := ix_some e148
              have g153 := ix_get e148
              try simp only [Int.toNat_natCast, Int.toNat_zero, Int.toNat_one, Int.reduceToNat] at g152 g153
              try simp [-List.map_set, go_sem, h28, hi139, hi140, g150, g151, g152, g153]
              refine pw_wkL [(0, .v (.sl false 2 (a0.map row_ViewCount_z))), (7, .v (.int .i64 z33)), (8, .v (.int .i64 z36)), (9, .v (.int .i64 s131)), (14, .bl [.sl false 1 (x147.View.map row_i64), .int .i64 x147.Times]), (63, .v (.sl false 2 (a1.map row_ViewCount_z))), (64, .v (.int .i64 (a1.length : Int))), (65, .v (.int .i64 i132))] (by simp [-List.map_set, go_sem, h28, hi139, hi140, g150, g151, g152, g153]) ?_
              obtain ⟨z154, e155, hF156⟩ := Rn_bind hF149
              try simp [-List.map_set, go_sem, h28, hi139, hi140, g150, g151, g152, g153]
              refine pw_callE [.sh, .sh] rfl rfl (by (try simp [-List.map_set, go_sem, clE, h28, hi139, hi140, g150, g151, g152, g153]); first | rfl | done) (by rfl) (c_impl_timesOf e155) (by (try simp [-List.map_set, go_sem, h28, hi139, hi140, g150, g151, g152, g153]); first | rfl | done) (fun r0 os0 ho0 => ?_)
              obtain ⟨ho1, ho2⟩ := ho0
              subst ho1
              subst ho2
              refine ⟨by simp [-List.map_set, go_sem, h28, hi139, hi140, g150, g151, g152, g153], ?_⟩
              try simp [-List.map_set, go_sem, h28, hi139, hi140, g150, g151, g152, g153]
              refine pw_wkL [(0, .v (.sl false 2 (a0.map row_ViewCount_z))), (7, .v (.int .i64 z33)), (8, .v (.int .i64 z36)), (9, .v (.int .i64 s131)), (14, .bl [.sl false 1 (x147.View.map row_i64), .int .i64 x147.Times]), (63, .v (.sl false 2 (a1.map row_ViewCount_z))), (64, .v (.int .i64 (a1.length : Int))), (65, .v (.int .i64 i132)), (73, .v (.bool (z154 == 0)))] (by simp [-List.map_set, go_sem, h28, hi139, hi140, g150, g151, g152, g153]) ?_
              repeat rw [pw_seq]
              refine pw_cond' (v := (z154 == 0)) (by simp [-List.map_set, go_sem, h28, hi139, hi140, g150, g151, g152, g153]) (fun h157 => ?_) (fun h157 => ?_)
              · have hF158 := Rn_t hF156 h157
                try simp [-List.map_set, go_sem, h28, hi139, hi140, g150, g151, g152, g153, h157]
                have h159 := Rn_some hF158
                exact hj141 (IntKind.i64.wrap (s131 + (IntKind.i64.wrap (x147.Times * z33)))) _ (by simp [-List.map_set, go_sem, h28, hi139, hi140, g150, g151, g152, g153, h157]) h159
              · have hF160 := Rn_f hF156 h157
                try simp [-List.map_set, go_sem, h28, hi139, hi140, g150, g151, g152, g153, h157]
                have h161 := Rn_some hF160
                exact hj141 s131 _ (by simp [-List.map_set, go_sem, h28, hi139, hi140, g150, g151, g152, g153, h157]) h161
      · intro ψ42 hj40 hF43
        repeat rw [pw_seq]
        rw [pw_block]
        try simp [-List.map_set, go_sem]
        obtain ⟨b88, hb89, hψ71⟩ := hF43
        refine pw_rloop (fun (i68 : Int) (s67 : Int) => [(0, .v (.sl false 2 (a0.map row_ViewCount_z))), (1, .v (.sl false 2 (a1.map row_ViewCount_z))), (7, .v (.int .i64 z33)), (8, .v (.int .i64 z36)), (9, .v (.int .i64 s67)), (39, .v (.sl false 2 (a0.map row_ViewCount_z))), (40, .v (.int .i64 (a0.length : Int))), (41, .v (.int .i64 i68))]) hb89 (by simp [-List.map_set, go_sem, h28]) ?_ ?_
        · intro s67 N91 hN90
          subst hN90
          try simp [-List.map_set, go_sem]
          refine pw_wk ?_
          repeat rw [pw_seq]
          refine pw_cond_f (by simp [-List.map_set, go_sem]) ?_
          try simp [-List.map_set, go_sem]
          exact hj40 s67 _ (by simp [-List.map_set, go_sem]) hψ71
        · intro i68 s67 φ72 N73 hi75 hi76 ho69 hg70 hF74
          try dsimp only at hF74
          rw [Int.zero_add] at hi76
          try simp [-List.map_set, go_sem, h28, hi75, hi76]
          refine pw_wkL [(0, .v (.sl false 2 (a0.map row_ViewCount_z))), (1, .v (.sl false 2 (a1.map row_ViewCount_z))), (7, .v (.int .i64 z33)), (8, .v (.int .i64 z36)), (9, .v (.int .i64 s67)), (39, .v (.sl false 2 (a0.map row_ViewCount_z))), (40, .v (.int .i64 (a0.length : Int))), (41, .v (.int .i64 i68)), (42, .v (.bool (decide (i68 < (a0.length : Int)))))] (by simp [-List.map_set, go_sem, h28, hi75, hi76]) ?_
          repeat rw [pw_seq]
          refine pw_cond_t (by simp [-List.map_set, go_sem, h28, hi75, hi76]) ?_
          try simp [-List.map_set, go_sem, h28, hi75, hi76]
          refine pw_wkL [(0, .v (.sl false 2 (a0.map row_ViewCount_z))), (1, .v (.sl false 2 (a1.map row_ViewCount_z))), (7, .v (.int .i64 z33)), (8, .v (.int .i64 z36)), (9, .v (.int .i64 s67)), (39, .v (.sl false 2 (a0.map row_ViewCount_z))), (40, .v (.int .i64 (a0.length : Int))), (41, .v (.int .i64 i68))] (by simp [-List.map_set, go_sem, h28, hi75, hi76]) ?_
          repeat rw [pw_seq]
          rw [pw_block]
          obtain ⟨x77, e78, hF79⟩ := Rn_bind hF74
          obtain ⟨g80, g81, g82⟩ := ix_some e78
          have g83 := ix_get e78
          try simp only [Int.toNat_natCast, Int.toNat_zero, Int.toNat_one, Int.reduceToNat] at g82 g83
          try simp [-List.map_set, go_sem, h28, hi75, hi76, g80, g81, g82, g83]
          refine pw_wkL [(0, .v (.sl false 2 (a0.map row_ViewCount_z))), (1, .v (.sl false 2 (a1.map row_ViewCount_z))), (7, .v (.int .i64 z33)), (8, .v (.int .i64 z36)), (9, .v (.int .i64 s67)), (11, .bl [.sl false 1 (x77.View.map row_i64), .int .i64 x77.Times]), (39, .v (.sl false 2 (a0.map row_ViewCount_z))), (40, .v (.int .i64 (a0.length : Int))), (41, .v (.int .i64 i68))] (by simp [-List.map_set, go_sem, h28, hi75, hi76, g80, g81, g82, g83]) ?_
          repeat rw [pw_seq]
          refine pw_draw D16_7 follows (by kernel_rfl) rfl ?_
          try simp only [go_sem, D16_7]
          obtain ⟨z84, e85, hF86⟩ := Rn_bind hF79
          try simp [-List.map_set, go_sem, h28, hi75, hi76, g80, g81, g82, g83]
          refine pw_callDE (by rfl) (by (try simp [-List.map_set, go_sem, clE, h28, hi75, hi76, g80, g81, g82, g83]); first | rfl | done) (by rfl) (c_impl_timesOf e85) (by (try simp [-List.map_set, go_sem, h28, hi75, hi76, g80, g81, g82, g83]); first | rfl | done) (fun r0 os0 ho0 => ?_)
          obtain ⟨ho1, ho2⟩ := ho0
          subst ho1
          subst ho2
          refine ⟨by simp [-List.map_set, go_sem, h28, hi75, hi76, g80, g81, g82, g83], ?_⟩
          try simp [-List.map_set, go_sem, h28, hi75, hi76, g80, g81, g82, g83]
          refine pw_wkL [(0, .v (.sl false 2 (a0.map row_ViewCount_z))), (1, .v (.sl false 2 (a1.map row_ViewCount_z))), (7, .v (.int .i64 z33)), (8, .v (.int .i64 z36)), (9, .v (.int .i64 s67)), (12, .v (.int .i64 (IntKind.i64.wrap ((IntKind.i64.wrap (x77.Times * z36)) - (IntKind.i64.wrap (z84 * z33)))))), (39, .v (.sl false 2 (a0.map row_ViewCount_z))), (40, .v (.int .i64 (a0.length : Int))), (41, .v (.int .i64 i68))] (by simp [-List.map_set, go_sem, h28, hi75, hi76, g80, g81, g82, g83]) ?_
          try simp [-List.map_set, go_sem, h28, hi75, hi76, g80, g81, g82, g83]
          refine pw_wkL [(0, .v (.sl false 2 (a0.map row_ViewCount_z))), (1, .v (.sl false 2 (a1.map row_ViewCount_z))), (7, .v (.int .i64 z33)), (8, .v (.int .i64 z36)), (9, .v (.int .i64 (IntKind.i64.wrap (s67 + (if (IntKind.i64.wrap ((IntKind.i64.wrap (x77.Times * z36)) - (IntKind.i64.wrap (z84 * z33)))) < (IntKind.i64.wrap (0 - (IntKind.i64.wrap ((IntKind.i64.wrap (x77.Times * z36)) - (IntKind.i64.wrap (z84 * z33)))))) then (IntKind.i64.wrap (0 - (IntKind.i64.wrap ((IntKind.i64.wrap (x77.Times * z36)) - (IntKind.i64.wrap (z84 * z33)))))) else (IntKind.i64.wrap ((IntKind.i64.wrap (x77.Times * z36)) - (IntKind.i64.wrap (z84 * z33))))))))), (39, .v (.sl false 2 (a0.map row_ViewCount_z))), (40, .v (.int .i64 (a0.length : Int))), (41, .v (.int .i64 i68))] (by simp [-List.map_set, go_sem, h28, hi75, hi76, g80, g81, g82, g83]) ?_
          try simp [-List.map_set, go_sem, h28, hi75, hi76, g80, g81, g82, g83]
          have h87 := Rn_some hF86
          have hw : IntKind.i64.wrap (i68 + 1) = i68 + 1 := wrI (by have h0 := hl39; simp [maxLen] at h0; omega)
          exact hg70 (IntKind.i64.wrap (s67 + (if (IntKind.i64.wrap ((IntKind.i64.wrap (x77.Times * z36)) - (IntKind.i64.wrap (z84 * z33)))) < (IntKind.i64.wrap (0 - (IntKind.i64.wrap ((IntKind.i64.wrap (x77.Times * z36)) - (IntKind.i64.wrap (z84 * z33)))))) then (IntKind.i64.wrap (0 - (IntKind.i64.wrap ((IntKind.i64.wrap (x77.Times * z36)) - (IntKind.i64.wrap (z84 * z33)))))) else (IntKind.i64.wrap ((IntKind.i64.wrap (x77.Times * z36)) - (IntKind.i64.wrap (z84 * z33))))))) _ (by simp [-List.map_set, go_sem, h28, hi75, hi76, g80, g81, g82, g83, hw]) h87
  · intro ψ3 hj1 hF4
    obtain ⟨z7, e8, hF9⟩ := Rn_bind hF4
    try simp [-List.map_set, go_sem]
    refine pw_callE [.sh] rfl rfl (by (try simp [-List.map_set, go_sem, clE]); first | rfl | done) (by rfl) (c_impl_isCount e8) (by (try simp [-List.map_set, go_sem]); first | rfl | done) (fun r0 os0 ho0 => ?_)
    obtain ⟨ho1, ho2⟩ := ho0
    subst ho1
    subst ho2
    refine ⟨by simp [-List.map_set, go_sem], ?_⟩
    try simp [-List.map_set, go_sem]
    refine pwg_split (fun h10 => ?_) (fun h10 => ?_)
    · have hF11 := Rn_t hF9 h10
      try simp [-List.map_set, go_sem, h10]
      have h12 := Rn_some hF11
      exact hj1 true _ (by simp [-List.map_set, go_sem, h10]) h12
    · have hF13 := Rn_f hF9 h10
      obtain ⟨z14, e15, hF16⟩ := Rn_bind hF13
      try simp [-List.map_set, go_sem, h10]
      refine pw_callE [.sh] rfl rfl (by (try simp [-List.map_set, go_sem, clE, h10]); first | rfl | done) (by rfl) (c_impl_isCount e15) (by (try simp [-List.map_set, go_sem, h10]); first | rfl | done) (fun r0 os0 ho0 => ?_)
      obtain ⟨ho1, ho2⟩ := ho0
      subst ho1
      subst ho2
      refine ⟨by simp [-List.map_set, go_sem, h10], ?_⟩
      try simp [-List.map_set, go_sem, h10]
      refine pwg_split (fun h17 => ?_) (fun h17 => ?_)
      · have hF18 := Rn_t hF16 h17
        try simp [-List.map_set, go_sem, h10, h17]
        have h19 := Rn_some hF18
        exact hj1 true _ (by simp [-List.map_set, go_sem, h10, h17]) h19
      · have hF20 := Rn_f hF16 h17
        try simp [-List.map_set, go_sem, h10, h17]
        refine qln_some fun hl21 => ?_
        try simp [-List.map_set, go_sem, h10, h17]
        refine pwg_split (fun h22 => ?_) (fun h22 => ?_)
        · have hF23 := Rn_t hF20 h22
          try simp [-List.map_set, go_sem, h10, h17, h22]
          have h24 := Rn_some hF23
          exact hj1 true _ (by simp [-List.map_set, go_sem, h10, h17, h22]) h24
        · have hF25 := Rn_f hF20 h22
          try simp [-List.map_set, go_sem, h10, h17, h22]
          refine qln_some fun hl26 => ?_
          try simp [-List.map_set, go_sem, h10, h17, h22]
          have h27 := Rn_some hF25
          exact hj1 ((a1.length : Int) == 0) _ (by simp [-List.map_set, go_sem, h10, h17, h22]) h27
noncomputable def F_laws_eqIntS (a0 : (List Int)) (a1 : (List Int)) : Option (Bool) :=
  if ((a0.length : Int) != (a1.length : Int)) = true then (
  some false) else (
  ((wloop (σ := Int) (β := Unit ⊕ Bool) (fun s52 =>
  if decide (s52 < (a0.length : Int)) = true then (
  (ix a0 s52).bind fun x63 =>
  (ix a1 s52).bind fun x70 =>
  if (x63 != x70) = true then (
  some (.out (.inr false))) else (
  some (.go (IntKind.i64.wrap (s52 + 1))))) else (
  some (.out (.inl ())))) 0 : Option (Unit ⊕ Bool)).bind (Sum.elim (fun (x12 : Unit) =>
  some true) some)))
theorem c_laws_eqIntS {a0 : (List Int)} {a1 : (List Int)} {r : Bool} (hr : F_laws_eqIntS a0 a1 = some r) : PCalls Try.prog 22 [(.sh, .sl false 1 (a0.map row_i64)), (.sh, .sl false 1 (a1.map row_i64))] (fun o os => o = .bool r ∧ os = [.junk, .junk]) := by
  refine pcalls_lift (R := fun (r : Bool) o os => o = .bool r ∧ os = [.junk, .junk]) [] [] hr cl22 Try.func22 rfl (by simp [Try.f22]) fun Φ hΦ hF => ?_
  unfold F_laws_eqIntS at hF
  simp only [Try.f22, ioL_nil, ioL_sh, ioL_mv, ioL_io]
  try simp [-List.map_set, go_sem]
  refine pw_wkL [(0, .v (.sl false 1 (a0.map row_i64))), (1, .v (.sl false 1 (a1.map row_i64)))] (by simp [-List.map_set, go_sem]) ?_
  try simp [-List.map_set, go_sem]
  refine qln_some fun hl1 => ?_
  try simp [-List.map_set, go_sem]
  refine qln_some fun hl2 => ?_
  try simp [-List.map_set, go_sem]
  refine pw_wkL [(0, .v (.sl false 1 (a0.map row_i64))), (1, .v (.sl false 1 (a1.map row_i64))), (10, .v (.bool ((a0.length : Int) != (a1.length : Int))))] (by simp [-List.map_set, go_sem]) ?_
  repeat rw [pw_seq]
  refine pw_cond' (v := ((a0.length : Int) != (a1.length : Int))) (by simp [-List.map_set, go_sem]) (fun h3 => ?_) (fun h3 => ?_)
  · have hF4 := Rn_t hF h3
    try simp [-List.map_set, go_sem, h3]
    refine pw_wkL [(4, .v (.bool false))] (by simp [-List.map_set, go_sem, h3]) ?_
    try simp [-List.map_set, go_sem, h3]
    have h5 := Rn_some hF4
    have h6 := hΦ _ h5
    subst h6
    try simp [-List.map_set, go_sem, h3]
  · have hF7 := Rn_f hF h3
    try simp [-List.map_set, go_sem, h3]
    refine pw_wkL [(0, .v (.sl false 1 (a0.map row_i64))), (1, .v (.sl false 1 (a1.map row_i64)))] (by simp [-List.map_set, go_sem, h3]) ?_
    try simp [-List.map_set, go_sem, h3]
    refine pw_wkL [(0, .v (.sl false 1 (a0.map row_i64))), (1, .v (.sl false 1 (a1.map row_i64))), (5, .v (.int .i64 0))] (by simp [-List.map_set, go_sem, h3]) ?_
    repeat rw [pw_seq]
    refine pw_joinS (fun (x12 : Unit) => []) hF7 ?_ ?_
    · intro x12 hF13
      try dsimp only at hF13
      try simp [-List.map_set, go_sem, h3]
      refine pw_wkL [(4, .v (.bool true))] (by simp [-List.map_set, go_sem, h3]) ?_
      try simp [-List.map_set, go_sem, h3]
      have h90 := Rn_some hF13
      have h91 := hΦ _ h90
      subst h91
      try simp [-List.map_set, go_sem, h3]
    · intro ψ10 hj8 hr9 hF11
      repeat rw [pw_seq]
      rw [pw_block]
      try simp [-List.map_set, go_sem]
      obtain ⟨b88, hb89, hψ56⟩ := hF11
      refine pw_wloop (fun (s52 : Int) => [(0, .v (.sl false 1 (a0.map row_i64))), (1, .v (.sl false 1 (a1.map row_i64))), (5, .v (.int .i64 s52))]) hb89 (by simp [-List.map_set, go_sem, h3]) ?_
      intro s52 φ57 N58 ho54 hg55 hF59
      try dsimp only at hF59
      try simp [-List.map_set, go_sem, h3]
      refine qln_some fun hl60 => ?_
      try simp [-List.map_set, go_sem, h3]
      refine pw_wkL [(0, .v (.sl false 1 (a0.map row_i64))), (1, .v (.sl false 1 (a1.map row_i64))), (5, .v (.int .i64 s52)), (14, .v (.bool (decide (s52 < (a0.length : Int)))))] (by simp [-List.map_set, go_sem, h3]) ?_
      repeat rw [pw_seq]
      refine pw_cond' (v := decide (s52 < (a0.length : Int))) (by simp [-List.map_set, go_sem, h3]) (fun h61 => ?_) (fun h61 => ?_)
      · have hF62 := Rn_t hF59 h61
        try simp [-List.map_set, go_sem, h3, h61]
        refine pw_wkL [(0, .v (.sl false 1 (a0.map row_i64))), (1, .v (.sl false 1 (a1.map row_i64))), (5, .v (.int .i64 s52))] (by simp [-List.map_set, go_sem, h3, h61]) ?_
        repeat rw [pw_seq]
        rw [pw_block]
        repeat rw [pw_seq]
        refine pw_draw D22_6 follows (by kernel_rfl) rfl ?_
        try simp only [go_sem, D22_6]
        obtain ⟨x63, e64, hF65⟩ := Rn_bind hF62
        obtain ⟨g66, g67, g68⟩ := ix_some e64
        have g69 := ix_get e64
        try simp only [Int.toNat_natCast, Int.toNat_zero, Int.toNat_one, Int.reduceToNat] at g68 g69
        obtain ⟨x70, e71, hF72⟩ := Rn_bind hF65
        obtain ⟨g73, g74, g75⟩ := ix_some e71
        have g76 := ix_get e71
        try simp only [Int.toNat_natCast, Int.toNat_zero, Int.toNat_one, Int.reduceToNat] at g75 g76
        try simp [-List.map_set, go_sem, h3, h61, g66, g67, g68, g69, g73, g74, g75, g76]
        refine pw_wkL [(0, .v (.sl false 1 (a0.map row_i64))), (1, .v (.sl false 1 (a1.map row_i64))), (5, .v (.int .i64 s52)), (25, .v (.bool (x63 != x70)))] (by simp [-List.map_set, go_sem, h3, h61, g66, g67, g68, g69, g73, g74, g75, g76]) ?_
        repeat rw [pw_seq]
        refine pw_cond' (v := (x63 != x70)) (by simp [-List.map_set, go_sem, h3, h61, g66, g67, g68, g69, g73, g74, g75, g76]) (fun h77 => ?_) (fun h77 => ?_)
        · have hF78 := Rn_t hF72 h77
          try simp [-List.map_set, go_sem, h3, h61, g66, g67, g68, g69, g73, g74, g75, g76, h77]
          refine pw_wkL [(4, .v (.bool false))] (by simp [-List.map_set, go_sem, h3, h61, g66, g67, g68, g69, g73, g74, g75, g76, h77]) ?_
          try simp [-List.map_set, go_sem, h3, h61, g66, g67, g68, g69, g73, g74, g75, g76, h77]
          have h79 := Rn_some hF78
          have h80 := ho54 _ h79
          subst h80
          have h81 := hr9 _ hψ56
          have h82 := hΦ _ h81
          subst h82
          try simp [-List.map_set, go_sem, h3, h61, g66, g67, g68, g69, g73, g74, g75, g76, h77]
        · have hF83 := Rn_f hF72 h77
          try simp [-List.map_set, go_sem, h3, h61, g66, g67, g68, g69, g73, g74, g75, g76, h77]
          refine pw_wkL [(0, .v (.sl false 1 (a0.map row_i64))), (1, .v (.sl false 1 (a1.map row_i64))), (5, .v (.int .i64 s52))] (by simp [-List.map_set, go_sem, h3, h61, g66, g67, g68, g69, g73, g74, g75, g76, h77]) ?_
          try simp [-List.map_set, go_sem, h3, h61, g66, g67, g68, g69, g73, g74, g75, g76, h77]
          have h84 := Rn_some hF83
          exact hg55 (IntKind.i64.wrap (s52 + 1)) _ (by simp [-List.map_set, go_sem, h3, h61, g66, g67, g68, g69, g73, g74, g75, g76, h77]) h84
      · have hF85 := Rn_f hF59 h61
        try simp [-List.map_set, go_sem, h3, h61]
        have h86 := Rn_some hF85
        have h87 := ho54 _ h86
        subst h87
        exact hj8 () _ (by simp [-List.map_set, go_sem, h3, h61]) hψ56
noncomputable def F_laws_eqViewCount (a0 : ViewCount) (a1 : ViewCount) : Option (Bool) :=
  (F_laws_eqIntS a0.View a1.View).bind fun z1 =>
  if (!z1) = true then (
  some false) else (
  if (a0.Times != a1.Times) = true then (
  some false) else (
  some true))
theorem c_laws_eqViewCount {a0 : ViewCount} {a1 : ViewCount} {r : Bool} (hr : F_laws_eqViewCount a0 a1 = some r) : PCalls Try.prog 41 [(.sh, .agg [.sl false 1 (a0.View.map row_i64), .int .i64 a0.Times]), (.sh, .agg [.sl false 1 (a1.View.map row_i64), .int .i64 a1.Times])] (fun o os => o = .bool r ∧ os = [.junk, .junk]) := by
  refine pcalls_lift (R := fun (r : Bool) o os => o = .bool r ∧ os = [.junk, .junk]) [] [] hr cl41 Try.func41 rfl (by simp [Try.f41]) fun Φ hΦ hF => ?_
  unfold F_laws_eqViewCount at hF
  simp only [Try.f41, ioL_nil, ioL_sh, ioL_mv, ioL_io]
  try simp [-List.map_set, go_sem]
  refine pw_wkL [(2, .bl [.sl false 1 (a0.View.map row_i64), .int .i64 a0.Times]), (3, .bl [.sl false 1 (a1.View.map row_i64), .int .i64 a1.Times])] (by simp [-List.map_set, go_sem]) ?_
  obtain ⟨z1, e2, hF3⟩ := Rn_bind hF
  try simp [-List.map_set, go_sem]
  refine pw_callE [.sh, .sh] rfl rfl (by (try simp [-List.map_set, go_sem, clE]); first | rfl | done) (by rfl) (c_laws_eqIntS e2) (by (try simp [-List.map_set, go_sem]); first | rfl | done) (fun r0 os0 ho0 => ?_)
  obtain ⟨ho1, ho2⟩ := ho0
  subst ho1
  subst ho2
  refine ⟨by simp [-List.map_set, go_sem], ?_⟩
  try simp [-List.map_set, go_sem]
  refine pw_wkL [(2, .bl [.sl false 1 (a0.View.map row_i64), .int .i64 a0.Times]), (3, .bl [.sl false 1 (a1.View.map row_i64), .int .i64 a1.Times]), (10, .v (.bool (!z1)))] (by simp [-List.map_set, go_sem]) ?_
  repeat rw [pw_seq]
  refine pw_cond' (v := (!z1)) (by simp [-List.map_set, go_sem]) (fun h4 => ?_) (fun h4 => ?_)
  · have hF5 := Rn_t hF3 h4
    try simp [-List.map_set, go_sem, h4]
    refine pw_wkL [(4, .v (.bool false))] (by simp [-List.map_set, go_sem, h4]) ?_
    try simp [-List.map_set, go_sem, h4]
    have h6 := Rn_some hF5
    have h7 := hΦ _ h6
    subst h7
    try simp [-List.map_set, go_sem, h4]
  · have hF8 := Rn_f hF3 h4
    try simp [-List.map_set, go_sem, h4]
    refine pw_wkL [(2, .bl [.sl false 1 (a0.View.map row_i64), .int .i64 a0.Times]), (3, .bl [.sl false 1 (a1.View.map row_i64), .int .i64 a1.Times])] (by simp [-List.map_set, go_sem, h4]) ?_
    try simp [-List.map_set, go_sem, h4]
    refine pw_wkL [(15, .v (.bool (a0.Times != a1.Times)))] (by simp [-List.map_set, go_sem, h4]) ?_
    repeat rw [pw_seq]
    refine pw_cond' (v := (a0.Times != a1.Times)) (by simp [-List.map_set, go_sem, h4]) (fun h9 => ?_) (fun h9 => ?_)
    · have hF10 := Rn_t hF8 h9
      try simp [-List.map_set, go_sem, h4, h9]
      refine pw_wkL [(4, .v (.bool false))] (by simp [-List.map_set, go_sem, h4, h9]) ?_
      try simp [-List.map_set, go_sem, h4, h9]
      have h11 := Rn_some hF10
      have h12 := hΦ _ h11
      subst h12
      try simp [-List.map_set, go_sem, h4, h9]
    · have hF13 := Rn_f hF8 h9
      try simp [-List.map_set, go_sem, h4, h9]
      refine pw_wkL [] (by simp [-List.map_set, go_sem, h4, h9]) ?_
      try simp [-List.map_set, go_sem, h4, h9]
      refine pw_wkL [(4, .v (.bool true))] (by simp [-List.map_set, go_sem, h4, h9]) ?_
      try simp [-List.map_set, go_sem, h4, h9]
      have h14 := Rn_some hF13
      have h15 := hΦ _ h14
      subst h15
      try simp [-List.map_set, go_sem, h4, h9]
noncomputable def F_laws_eqViewCountS (a0 : (List ViewCount)) (a1 : (List ViewCount)) : Option (Bool) :=
  if ((a0.length : Int) != (a1.length : Int)) = true then (
  some false) else (
  ((wloop (σ := Int) (β := Unit ⊕ Bool) (fun s55 =>
  if decide (s55 < (a0.length : Int)) = true then (
  (ix a0 s55).bind fun x66 =>
  (ix a1 s55).bind fun x73 =>
  (F_laws_eqViewCount x66 x73).bind fun z80 =>
  if (!z80) = true then (
  some (.out (.inr false))) else (
  some (.go (IntKind.i64.wrap (s55 + 1))))) else (
  some (.out (.inl ())))) 0 : Option (Unit ⊕ Bool)).bind (Sum.elim (fun (x12 : Unit) =>
  some true) some)))
theorem c_laws_eqViewCountS {a0 : (List ViewCount)} {a1 : (List ViewCount)} {r : Bool} (hr : F_laws_eqViewCountS a0 a1 = some r) : PCalls Try.prog 14 [(.sh, .sl false 2 (a0.map row_ViewCount_z)), (.sh, .sl false 2 (a1.map row_ViewCount_z))] (fun o os => o = .bool r ∧ os = [.junk, .junk]) := by
  refine pcalls_lift (R := fun (r : Bool) o os => o = .bool r ∧ os = [.junk, .junk]) [] [] hr cl14 Try.func14 rfl (by simp [Try.f14]) fun Φ hΦ hF => ?_
  unfold F_laws_eqViewCountS at hF
  simp only [Try.f14, ioL_nil, ioL_sh, ioL_mv, ioL_io]
  try simp [-List.map_set, go_sem]
  refine pw_wkL [(0, .v (.sl false 2 (a0.map row_ViewCount_z))), (1, .v (.sl false 2 (a1.map row_ViewCount_z)))] (by simp [-List.map_set, go_sem]) ?_
  try simp [-List.map_set, go_sem]
  refine qln_some fun hl1 => ?_
  try simp [-List.map_set, go_sem]
  refine qln_some fun hl2 => ?_
  try simp [-List.map_set, go_sem]
  refine pw_wkL [(0, .v (.sl false 2 (a0.map row_ViewCount_z))), (1, .v (.sl false 2 (a1.map row_ViewCount_z))), (10, .v (.bool ((a0.length : Int) != (a1.length : Int))))] (by simp [-List.map_set, go_sem]) ?_
  repeat rw [pw_seq]
  refine pw_cond' (v := ((a0.length : Int) != (a1.length : Int))) (by simp [-List.map_set, go_sem]) (fun h3 => ?_) (fun h3 => ?_)
  · have hF4 := Rn_t hF h3
    try simp [-List.map_set, go_sem, h3]
    refine pw_wkL [(4, .v (.bool false))] (by simp [-List.map_set, go_sem, h3]) ?_
    try simp [-List.map_set, go_sem, h3]
    have h5 := Rn_some hF4
    have h6 := hΦ _ h5
    subst h6
    try simp [-List.map_set, go_sem, h3]
  · have hF7 := Rn_f hF h3
    try simp [-List.map_set, go_sem, h3]
    refine pw_wkL [(0, .v (.sl false 2 (a0.map row_ViewCount_z))), (1, .v (.sl false 2 (a1.map row_ViewCount_z)))] (by simp [-List.map_set, go_sem, h3]) ?_
    try simp [-List.map_set, go_sem, h3]
    refine pw_wkL [(0, .v (.sl false 2 (a0.map row_ViewCount_z))), (1, .v (.sl false 2 (a1.map row_ViewCount_z))), (5, .v (.int .i64 0))] (by simp [-List.map_set, go_sem, h3]) ?_
    repeat rw [pw_seq]
    refine pw_joinS (fun (x12 : Unit) => []) hF7 ?_ ?_
    · intro x12 hF13
      try dsimp only at hF13
      try simp [-List.map_set, go_sem, h3]
      refine pw_wkL [(4, .v (.bool true))] (by simp [-List.map_set, go_sem, h3]) ?_
      try simp [-List.map_set, go_sem, h3]
      have h96 := Rn_some hF13
      have h97 := hΦ _ h96
      subst h97
      try simp [-List.map_set, go_sem, h3]
    · intro ψ10 hj8 hr9 hF11
      repeat rw [pw_seq]
      rw [pw_block]
      try simp [-List.map_set, go_sem]
      obtain ⟨b94, hb95, hψ59⟩ := hF11
      refine pw_wloop (fun (s55 : Int) => [(0, .v (.sl false 2 (a0.map row_ViewCount_z))), (1, .v (.sl false 2 (a1.map row_ViewCount_z))), (5, .v (.int .i64 s55))]) hb95 (by simp [-List.map_set, go_sem, h3]) ?_
      intro s55 φ60 N61 ho57 hg58 hF62
      try dsimp only at hF62
      try simp [-List.map_set, go_sem, h3]
      refine qln_some fun hl63 => ?_
      try simp [-List.map_set, go_sem, h3]
      refine pw_wkL [(0, .v (.sl false 2 (a0.map row_ViewCount_z))), (1, .v (.sl false 2 (a1.map row_ViewCount_z))), (5, .v (.int .i64 s55)), (14, .v (.bool (decide (s55 < (a0.length : Int)))))] (by simp [-List.map_set, go_sem, h3]) ?_
      repeat rw [pw_seq]
      refine pw_cond' (v := decide (s55 < (a0.length : Int))) (by simp [-List.map_set, go_sem, h3]) (fun h64 => ?_) (fun h64 => ?_)
      · have hF65 := Rn_t hF62 h64
        try simp [-List.map_set, go_sem, h3, h64]
        refine pw_wkL [(0, .v (.sl false 2 (a0.map row_ViewCount_z))), (1, .v (.sl false 2 (a1.map row_ViewCount_z))), (5, .v (.int .i64 s55))] (by simp [-List.map_set, go_sem, h3, h64]) ?_
        repeat rw [pw_seq]
        rw [pw_block]
        repeat rw [pw_seq]
        refine pw_draw D14_6 follows (by kernel_rfl) rfl ?_
        try simp only [go_sem, D14_6]
        obtain ⟨x66, e67, hF68⟩ := Rn_bind hF65
        obtain ⟨g69, g70, g71⟩ := ix_some e67
        have g72 := ix_get e67
        try simp only [Int.toNat_natCast, Int.toNat_zero, Int.toNat_one, Int.reduceToNat] at g71 g72
        obtain ⟨x73, e74, hF75⟩ := Rn_bind hF68
        obtain ⟨g76, g77, g78⟩ := ix_some e74
        have g79 := ix_get e74
        try simp only [Int.toNat_natCast, Int.toNat_zero, Int.toNat_one, Int.reduceToNat] at g78 g79
        obtain ⟨z80, e81, hF82⟩ := Rn_bind hF75
        try simp [-List.map_set, go_sem, h3, h64, g69, g70, g71, g72, g76, g77, g78, g79]
        refine pw_callE [.sh, .sh] rfl rfl (by (try simp [-List.map_set, go_sem, clE, h3, h64, g69, g70, g71, g72, g76, g77, g78, g79]); first | rfl | done) (by rfl) (c_laws_eqViewCount e81) (by (try simp [-List.map_set, go_sem, h3, h64, g69, g70, g71, g72, g76, g77, g78, g79]); first | rfl | done) (fun r0 os0 ho0 => ?_)
        obtain ⟨ho1, ho2⟩ := ho0
        subst ho1
        subst ho2
        refine ⟨by simp [-List.map_set, go_sem, h3, h64, g69, g70, g71, g72, g76, g77, g78, g79], ?_⟩
        try simp [-List.map_set, go_sem, h3, h64, g69, g70, g71, g72, g76, g77, g78, g79]
        refine pw_wkL [(0, .v (.sl false 2 (a0.map row_ViewCount_z))), (1, .v (.sl false 2 (a1.map row_ViewCount_z))), (5, .v (.int .i64 s55)), (26, .v (.bool (!z80)))] (by simp [-List.map_set, go_sem, h3, h64, g69, g70, g71, g72, g76, g77, g78, g79]) ?_
        repeat rw [pw_seq]
        refine pw_cond' (v := (!z80)) (by simp [-List.map_set, go_sem, h3, h64, g69, g70, g71, g72, g76, g77, g78, g79]) (fun h83 => ?_) (fun h83 => ?_)
        · have hF84 := Rn_t hF82 h83
          try simp [-List.map_set, go_sem, h3, h64, g69, g70, g71, g72, g76, g77, g78, g79, h83]
          refine pw_wkL [(4, .v (.bool false))] (by simp [-List.map_set, go_sem, h3, h64, g69, g70, g71, g72, g76, g77, g78, g79, h83]) ?_
          try simp [-List.map_set, go_sem, h3, h64, g69, g70, g71, g72, g76, g77, g78, g79, h83]
          have h85 := Rn_some hF84
          have h86 := ho57 _ h85
          subst h86
          have h87 := hr9 _ hψ59
          have h88 := hΦ _ h87
          subst h88
          try simp [-List.map_set, go_sem, h3, h64, g69, g70, g71, g72, g76, g77, g78, g79, h83]
        · have hF89 := Rn_f hF82 h83
          try simp [-List.map_set, go_sem, h3, h64, g69, g70, g71, g72, g76, g77, g78, g79, h83]
          refine pw_wkL [(0, .v (.sl false 2 (a0.map row_ViewCount_z))), (1, .v (.sl false 2 (a1.map row_ViewCount_z))), (5, .v (.int .i64 s55))] (by simp [-List.map_set, go_sem, h3, h64, g69, g70, g71, g72, g76, g77, g78, g79, h83]) ?_
          try simp [-List.map_set, go_sem, h3, h64, g69, g70, g71, g72, g76, g77, g78, g79, h83]
          have h90 := Rn_some hF89
          exact hg58 (IntKind.i64.wrap (s55 + 1)) _ (by simp [-List.map_set, go_sem, h3, h64, g69, g70, g71, g72, g76, g77, g78, g79, h83]) h90
      · have hF91 := Rn_f hF62 h64
        try simp [-List.map_set, go_sem, h3, h64]
        have h92 := Rn_some hF91
        have h93 := ho57 _ h92
        subst h93
        exact hj8 () _ (by simp [-List.map_set, go_sem, h3, h64]) hψ59
noncomputable def F_laws_FnExactDistanceOf (a0 : (List ViewCount)) (a1 : (List ViewCount)) : Option (Bool) :=
  (F_laws_szViewCountS a0 1048576).bind fun z1 =>
  if decide (z1 < 0) = true then (
  some true) else (
  (F_laws_szViewCountS a1 z1).bind fun z9 =>
  if decide (z9 < 0) = true then (
  some true) else (
  (F_laws_toViewCountS a0).bind fun z17 =>
  (F_laws_toViewCountS a1).bind fun z20 =>
  (F_spec_DistanceOf z17 z20).bind fun z23 =>
  (F_laws_toViewCountS a0).bind fun z26 =>
  (F_laws_toViewCountS a1).bind fun z29 =>
  (F_impl_DistanceOf z26 z29).bind fun z32 =>
  ((if (z32.1 != z23.1) = true then (
  some true) else (
  if (z32.2.1 != z23.2.1) = true then (
  some true) else (
  some (z32.2.2 != z23.2.2))) : Option (Bool)).bind fun (x39 : Bool) =>
  if x39 = true then (
  some false) else (
  (F_laws_toViewCountS a0).bind fun z55 =>
  (F_laws_eqViewCountS z26 z55).bind fun z58 =>
  if (!z58) = true then (
  some false) else (
  (F_laws_toViewCountS a1).bind fun z66 =>
  (F_laws_eqViewCountS z29 z66).bind fun z69 =>
  if (!z69) = true then (
  some false) else (
  some true))))))
theorem c_laws_FnExactDistanceOf {a0 : (List ViewCount)} {a1 : (List ViewCount)} {r : Bool} (hr : F_laws_FnExactDistanceOf a0 a1 = some r) : PCalls Try.prog 4 [(.sh, .sl false 2 (a0.map row_ViewCount_z)), (.sh, .sl false 2 (a1.map row_ViewCount_z))] (fun o os => o = .bool r ∧ os = [.junk, .junk]) := by
  refine pcalls_lift (R := fun (r : Bool) o os => o = .bool r ∧ os = [.junk, .junk]) [] [] hr cl4 Try.func4 rfl (by simp [Try.f4]) fun Φ hΦ hF => ?_
  unfold F_laws_FnExactDistanceOf at hF
  simp only [Try.f4, ioL_nil, ioL_sh, ioL_mv, ioL_io]
  try simp [-List.map_set, go_sem]
  refine pw_wkL [(0, .v (.sl false 2 (a0.map row_ViewCount_z))), (1, .v (.sl false 2 (a1.map row_ViewCount_z)))] (by simp [-List.map_set, go_sem]) ?_
  try simp [-List.map_set, go_sem]
  refine pw_wkL [(0, .v (.sl false 2 (a0.map row_ViewCount_z))), (1, .v (.sl false 2 (a1.map row_ViewCount_z))), (5, .v (.int .i64 1048576))] (by simp [-List.map_set, go_sem]) ?_
  obtain ⟨z1, e2, hF3⟩ := Rn_bind hF
  try simp [-List.map_set, go_sem]
  refine pw_callE [.sh, .sh] rfl rfl (by (try simp [-List.map_set, go_sem, clE]); first | rfl | done) (by rfl) (c_laws_szViewCountS e2) (by (try simp [-List.map_set, go_sem]); first | rfl | done) (fun r0 os0 ho0 => ?_)
  obtain ⟨ho1, ho2⟩ := ho0
  subst ho1
  subst ho2
  refine ⟨by simp [-List.map_set, go_sem], ?_⟩
  try simp [-List.map_set, go_sem]
  refine pw_wkL [(0, .v (.sl false 2 (a0.map row_ViewCount_z))), (1, .v (.sl false 2 (a1.map row_ViewCount_z))), (5, .v (.int .i64 z1))] (by simp [-List.map_set, go_sem]) ?_
  try simp [-List.map_set, go_sem]
  refine pw_wkL [(0, .v (.sl false 2 (a0.map row_ViewCount_z))), (1, .v (.sl false 2 (a1.map row_ViewCount_z))), (5, .v (.int .i64 z1)), (18, .v (.bool (decide (z1 < 0))))] (by simp [-List.map_set, go_sem]) ?_
  repeat rw [pw_seq]
  refine pw_cond' (v := decide (z1 < 0)) (by simp [-List.map_set, go_sem]) (fun h4 => ?_) (fun h4 => ?_)
  · have hF5 := Rn_t hF3 h4
    try simp [-List.map_set, go_sem, h4]
    refine pw_wkL [(4, .v (.bool true))] (by simp [-List.map_set, go_sem, h4]) ?_
    try simp [-List.map_set, go_sem, h4]
    have h6 := Rn_some hF5
    have h7 := hΦ _ h6
    subst h7
    try simp [-List.map_set, go_sem, h4]
  · have hF8 := Rn_f hF3 h4
    try simp [-List.map_set, go_sem, h4]
    refine pw_wkL [(0, .v (.sl false 2 (a0.map row_ViewCount_z))), (1, .v (.sl false 2 (a1.map row_ViewCount_z))), (5, .v (.int .i64 z1))] (by simp [-List.map_set, go_sem, h4]) ?_
    obtain ⟨z9, e10, hF11⟩ := Rn_bind hF8
    try simp [-List.map_set, go_sem, h4]
    refine pw_callE [.sh, .sh] rfl rfl (by (try simp [-List.map_set, go_sem, clE, h4]); first | rfl | done) (by rfl) (c_laws_szViewCountS e10) (by (try simp [-List.map_set, go_sem, h4]); first | rfl | done) (fun r0 os0 ho0 => ?_)
    obtain ⟨ho1, ho2⟩ := ho0
    subst ho1
    subst ho2
    refine ⟨by simp [-List.map_set, go_sem, h4], ?_⟩
    try simp [-List.map_set, go_sem, h4]
    refine pw_wkL [(0, .v (.sl false 2 (a0.map row_ViewCount_z))), (1, .v (.sl false 2 (a1.map row_ViewCount_z))), (5, .v (.int .i64 z9))] (by simp [-List.map_set, go_sem, h4]) ?_
    try simp [-List.map_set, go_sem, h4]
    refine pw_wkL [(0, .v (.sl false 2 (a0.map row_ViewCount_z))), (1, .v (.sl false 2 (a1.map row_ViewCount_z))), (23, .v (.bool (decide (z9 < 0))))] (by simp [-List.map_set, go_sem, h4]) ?_
    repeat rw [pw_seq]
    refine pw_cond' (v := decide (z9 < 0)) (by simp [-List.map_set, go_sem, h4]) (fun h12 => ?_) (fun h12 => ?_)
    · have hF13 := Rn_t hF11 h12
      try simp [-List.map_set, go_sem, h4, h12]
      refine pw_wkL [(4, .v (.bool true))] (by simp [-List.map_set, go_sem, h4, h12]) ?_
      try simp [-List.map_set, go_sem, h4, h12]
      have h14 := Rn_some hF13
      have h15 := hΦ _ h14
      subst h15
      try simp [-List.map_set, go_sem, h4, h12]
    · have hF16 := Rn_f hF11 h12
      try simp [-List.map_set, go_sem, h4, h12]
      refine pw_wkL [(0, .v (.sl false 2 (a0.map row_ViewCount_z))), (1, .v (.sl false 2 (a1.map row_ViewCount_z)))] (by simp [-List.map_set, go_sem, h4, h12]) ?_
      obtain ⟨z17, e18, hF19⟩ := Rn_bind hF16
      try simp [-List.map_set, go_sem, h4, h12]
      refine pw_callE [.sh] rfl rfl (by (try simp [-List.map_set, go_sem, clE, h4, h12]); first | rfl | done) (by rfl) (c_laws_toViewCountS e18) (by (try simp [-List.map_set, go_sem, h4, h12]); first | rfl | done) (fun r0 os0 ho0 => ?_)
      obtain ⟨ho1, ho2⟩ := ho0
      subst ho1
      subst ho2
      refine ⟨by simp [-List.map_set, go_sem, h4, h12], ?_⟩
      obtain ⟨z20, e21, hF22⟩ := Rn_bind hF19
      try simp [-List.map_set, go_sem, h4, h12]
      refine pw_callE [.sh] rfl rfl (by (try simp [-List.map_set, go_sem, clE, h4, h12]); first | rfl | done) (by rfl) (c_laws_toViewCountS e21) (by (try simp [-List.map_set, go_sem, h4, h12]); first | rfl | done) (fun r0 os0 ho0 => ?_)
      obtain ⟨ho1, ho2⟩ := ho0
      subst ho1
      subst ho2
      refine ⟨by simp [-List.map_set, go_sem, h4, h12], ?_⟩
      obtain ⟨z23, e24, hF25⟩ := Rn_bind hF22
      try simp [-List.map_set, go_sem, h4, h12]
      refine pw_callE [.sh, .sh] rfl rfl (by (try simp [-List.map_set, go_sem, clE, h4, h12]); first | rfl | done) (by rfl) (c_spec_DistanceOf e24) (by (try simp [-List.map_set, go_sem, h4, h12]); first | rfl | done) (fun r0 os0 ho0 => ?_)
      obtain ⟨ho1, ho2⟩ := ho0
      subst ho1
      subst ho2
      refine ⟨by simp [-List.map_set, go_sem, h4, h12], ?_⟩
      try simp [-List.map_set, go_sem, h4, h12]
      refine pw_wkL [(0, .v (.sl false 2 (a0.map row_ViewCount_z))), (1, .v (.sl false 2 (a1.map row_ViewCount_z))), (6, .v (.int .i64 z23.1)), (7, .v (.int .i64 z23.2.1)), (8, .v (.bool z23.2.2))] (by simp [-List.map_set, go_sem, h4, h12]) ?_
      obtain ⟨z26, e27, hF28⟩ := Rn_bind hF25
      try simp [-List.map_set, go_sem, h4, h12]
      refine pw_callE [.sh] rfl rfl (by (try simp [-List.map_set, go_sem, clE, h4, h12]); first | rfl | done) (by rfl) (c_laws_toViewCountS e27) (by (try simp [-List.map_set, go_sem, h4, h12]); first | rfl | done) (fun r0 os0 ho0 => ?_)
      obtain ⟨ho1, ho2⟩ := ho0
      subst ho1
      subst ho2
      refine ⟨by simp [-List.map_set, go_sem, h4, h12], ?_⟩
      try simp [-List.map_set, go_sem, h4, h12]
      refine pw_wkL [(0, .v (.sl false 2 (a0.map row_ViewCount_z))), (1, .v (.sl false 2 (a1.map row_ViewCount_z))), (6, .v (.int .i64 z23.1)), (7, .v (.int .i64 z23.2.1)), (8, .v (.bool z23.2.2)), (9, .v (.sl true 2 (z26.map row_ViewCount_o)))] (by simp [-List.map_set, go_sem, h4, h12]) ?_
      obtain ⟨z29, e30, hF31⟩ := Rn_bind hF28
      try simp [-List.map_set, go_sem, h4, h12]
      refine pw_callE [.sh] rfl rfl (by (try simp [-List.map_set, go_sem, clE, h4, h12]); first | rfl | done) (by rfl) (c_laws_toViewCountS e30) (by (try simp [-List.map_set, go_sem, h4, h12]); first | rfl | done) (fun r0 os0 ho0 => ?_)
      obtain ⟨ho1, ho2⟩ := ho0
      subst ho1
      subst ho2
      refine ⟨by simp [-List.map_set, go_sem, h4, h12], ?_⟩
      try simp [-List.map_set, go_sem, h4, h12]
      refine pw_wkL [(0, .v (.sl false 2 (a0.map row_ViewCount_z))), (1, .v (.sl false 2 (a1.map row_ViewCount_z))), (6, .v (.int .i64 z23.1)), (7, .v (.int .i64 z23.2.1)), (8, .v (.bool z23.2.2)), (9, .v (.sl true 2 (z26.map row_ViewCount_o))), (10, .v (.sl true 2 (z29.map row_ViewCount_o)))] (by simp [-List.map_set, go_sem, h4, h12]) ?_
      obtain ⟨z32, e33, hF34⟩ := Rn_bind hF31
      try simp [-List.map_set, go_sem, h4, h12]
      refine pw_callE [.sh, .sh] rfl rfl (by (try simp [-List.map_set, go_sem, clE, h4, h12]); first | rfl | done) (by rfl) (c_impl_DistanceOf e33) (by (try simp [-List.map_set, go_sem, h4, h12]); first | rfl | done) (fun r0 os0 ho0 => ?_)
      obtain ⟨ho1, ho2⟩ := ho0
      subst ho1
      subst ho2
      refine ⟨by simp [-List.map_set, go_sem, h4, h12], ?_⟩
      try simp [-List.map_set, go_sem, h4, h12]
      refine pw_wkL [(0, .v (.sl false 2 (a0.map row_ViewCount_z))), (1, .v (.sl false 2 (a1.map row_ViewCount_z))), (6, .v (.int .i64 z23.1)), (7, .v (.int .i64 z23.2.1)), (8, .v (.bool z23.2.2)), (9, .v (.sl true 2 (z26.map row_ViewCount_o))), (10, .v (.sl true 2 (z29.map row_ViewCount_o))), (11, .v (.int .i64 z32.1)), (12, .v (.int .i64 z32.2.1)), (13, .v (.bool z32.2.2))] (by simp [-List.map_set, go_sem, h4, h12]) ?_
      repeat rw [pw_seq]
      refine pw_joinF (fun (x39 : Bool) => [(0, .v (.sl false 2 (a0.map row_ViewCount_z))), (1, .v (.sl false 2 (a1.map row_ViewCount_z))), (9, .v (.sl true 2 (z26.map row_ViewCount_o))), (10, .v (.sl true 2 (z29.map row_ViewCount_o))), (56, .v (.bool x39))]) hF34 ?_ ?_
      · intro x39 hF40
        try dsimp only at hF40
        repeat rw [pw_seq]
        refine pw_cond' (v := x39) (by simp [-List.map_set, go_sem, h4, h12]) (fun h50 => ?_) (fun h50 => ?_)
        · have hF51 := Rn_t hF40 h50
          try simp [-List.map_set, go_sem, h4, h12, h50]
          refine pw_wkL [(4, .v (.bool false))] (by simp [-List.map_set, go_sem, h4, h12, h50]) ?_
          try simp [-List.map_set, go_sem, h4, h12, h50]
          have h52 := Rn_some hF51
          have h53 := hΦ _ h52
          subst h53
          try simp [-List.map_set, go_sem, h4, h12, h50]
        · have hF54 := Rn_f hF40 h50
          try simp [-List.map_set, go_sem, h4, h12, h50]
          refine pw_wkL [(0, .v (.sl false 2 (a0.map row_ViewCount_z))), (1, .v (.sl false 2 (a1.map row_ViewCount_z))), (9, .v (.sl true 2 (z26.map row_ViewCount_o))), (10, .v (.sl true 2 (z29.map row_ViewCount_o)))] (by simp [-List.map_set, go_sem, h4, h12, h50]) ?_
          obtain ⟨z55, e56, hF57⟩ := Rn_bind hF54
          try simp [-List.map_set, go_sem, h4, h12, h50]
          refine pw_callE [.sh] rfl rfl (by (try simp [-List.map_set, go_sem, clE, h4, h12, h50]); first | rfl | done) (by rfl) (c_laws_toViewCountS e56) (by (try simp [-List.map_set, go_sem, h4, h12, h50]); first | rfl | done) (fun r0 os0 ho0 => ?_)
          obtain ⟨ho1, ho2⟩ := ho0
          subst ho1
          subst ho2
          refine ⟨by simp [-List.map_set, go_sem, h4, h12, h50], ?_⟩
          obtain ⟨z58, e59, hF60⟩ := Rn_bind hF57
          try simp [-List.map_set, go_sem, h4, h12, h50]
          refine pw_callE [.sh, .sh] rfl rfl (by (try simp [-List.map_set, go_sem, clE, h4, h12, h50]); first | rfl | done) (by rfl) (c_laws_eqViewCountS e59) (by (try simp [-List.map_set, go_sem, h4, h12, h50]); first | rfl | done) (fun r0 os0 ho0 => ?_)
          obtain ⟨ho1, ho2⟩ := ho0
          subst ho1
          subst ho2
          refine ⟨by simp [-List.map_set, go_sem, h4, h12, h50], ?_⟩
          try simp [-List.map_set, go_sem, h4, h12, h50]
          refine pw_wkL [(1, .v (.sl false 2 (a1.map row_ViewCount_z))), (10, .v (.sl true 2 (z29.map row_ViewCount_o))), (61, .v (.bool (!z58)))] (by simp [-List.map_set, go_sem, h4, h12, h50]) ?_
          repeat rw [pw_seq]
          refine pw_cond' (v := (!z58)) (by simp [-List.map_set, go_sem, h4, h12, h50]) (fun h61 => ?_) (fun h61 => ?_)
          · have hF62 := Rn_t hF60 h61
            try simp [-List.map_set, go_sem, h4, h12, h50, h61]
            refine pw_wkL [(4, .v (.bool false))] (by simp [-List.map_set, go_sem, h4, h12, h50, h61]) ?_
            try simp [-List.map_set, go_sem, h4, h12, h50, h61]
            have h63 := Rn_some hF62
            have h64 := hΦ _ h63
            subst h64
            try simp [-List.map_set, go_sem, h4, h12, h50, h61]
          · have hF65 := Rn_f hF60 h61
            try simp [-List.map_set, go_sem, h4, h12, h50, h61]
            refine pw_wkL [(1, .v (.sl false 2 (a1.map row_ViewCount_z))), (10, .v (.sl true 2 (z29.map row_ViewCount_o)))] (by simp [-List.map_set, go_sem, h4, h12, h50, h61]) ?_
            obtain ⟨z66, e67, hF68⟩ := Rn_bind hF65
            try simp [-List.map_set, go_sem, h4, h12, h50, h61]
            refine pw_callE [.sh] rfl rfl (by (try simp [-List.map_set, go_sem, clE, h4, h12, h50, h61]); first | rfl | done) (by rfl) (c_laws_toViewCountS e67) (by (try simp [-List.map_set, go_sem, h4, h12, h50, h61]); first | rfl | done) (fun r0 os0 ho0 => ?_)
            obtain ⟨ho1, ho2⟩ := ho0
            subst ho1
            subst ho2
            refine ⟨by simp [-List.map_set, go_sem, h4, h12, h50, h61], ?_⟩
            obtain ⟨z69, e70, hF71⟩ := Rn_bind hF68
            try simp [-List.map_set, go_sem, h4, h12, h50, h61]
            refine pw_callE [.sh, .sh] rfl rfl (by (try simp [-List.map_set, go_sem, clE, h4, h12, h50, h61]); first | rfl | done) (by rfl) (c_laws_eqViewCountS e70) (by (try simp [-List.map_set, go_sem, h4, h12, h50, h61]); first | rfl | done) (fun r0 os0 ho0 => ?_)
            obtain ⟨ho1, ho2⟩ := ho0
            subst ho1
            subst ho2
            refine ⟨by simp [-List.map_set, go_sem, h4, h12, h50, h61], ?_⟩
            try simp [-List.map_set, go_sem, h4, h12, h50, h61]
            refine pw_wkL [(66, .v (.bool (!z69)))] (by simp [-List.map_set, go_sem, h4, h12, h50, h61]) ?_
            repeat rw [pw_seq]
            refine pw_cond' (v := (!z69)) (by simp [-List.map_set, go_sem, h4, h12, h50, h61]) (fun h72 => ?_) (fun h72 => ?_)
            · have hF73 := Rn_t hF71 h72
              try simp [-List.map_set, go_sem, h4, h12, h50, h61, h72]
              refine pw_wkL [(4, .v (.bool false))] (by simp [-List.map_set, go_sem, h4, h12, h50, h61, h72]) ?_
              try simp [-List.map_set, go_sem, h4, h12, h50, h61, h72]
              have h74 := Rn_some hF73
              have h75 := hΦ _ h74
              subst h75
              try simp [-List.map_set, go_sem, h4, h12, h50, h61, h72]
            · have hF76 := Rn_f hF71 h72
              try simp [-List.map_set, go_sem, h4, h12, h50, h61, h72]
              refine pw_wkL [] (by simp [-List.map_set, go_sem, h4, h12, h50, h61, h72]) ?_
              try simp [-List.map_set, go_sem, h4, h12, h50, h61, h72]
              refine pw_wkL [(4, .v (.bool true))] (by simp [-List.map_set, go_sem, h4, h12, h50, h61, h72]) ?_
              try simp [-List.map_set, go_sem, h4, h12, h50, h61, h72]
              have h77 := Rn_some hF76
              have h78 := hΦ _ h77
              subst h78
              try simp [-List.map_set, go_sem, h4, h12, h50, h61, h72]
      · intro ψ37 hj35 hF38
        try simp [-List.map_set, go_sem, h4, h12]
        refine pwg_split (fun h41 => ?_) (fun h41 => ?_)
        · have hF42 := Rn_t hF38 h41
          try simp [-List.map_set, go_sem, h4, h12, h41]
          have h43 := Rn_some hF42
          exact hj35 true _ (by simp [-List.map_set, go_sem, h4, h12, h41]) h43
        · have hF44 := Rn_f hF38 h41
          try simp [-List.map_set, go_sem, h4, h12, h41]
          refine pwg_split (fun h45 => ?_) (fun h45 => ?_)
          · have hF46 := Rn_t hF44 h45
            try simp [-List.map_set, go_sem, h4, h12, h41, h45]
            have h47 := Rn_some hF46
            exact hj35 true _ (by simp [-List.map_set, go_sem, h4, h12, h41, h45]) h47
          · have hF48 := Rn_f hF44 h45
            try simp [-List.map_set, go_sem, h4, h12, h41, h45]
            have h49 := Rn_some hF48
            exact hj35 (z32.2.2 != z23.2.2) _ (by simp [-List.map_set, go_sem, h4, h12, h41, h45]) h49
end Go.Pm
