/-
  Plain functions and their walks. Written by wip/tools/lift.py.
-/
import Derived.Test.YthdjiekgolgmfaaL5
namespace Go.Pm
open Go.Am
open Go.Proofs
set_option maxRecDepth 100000
attribute [local irreducible] pw pwx pw1 pwg qv qz qf
set_option linter.unusedSimpArgs false
set_option linter.unusedVariables false
theorem c_impl_gathered {a0 : (List ViewCount)} {r : (List ViewCount) × Bool} (hr : F_impl_gathered a0 = some r) : PCalls Try.prog 79 [(.sh, .sl false 2 (a0.map row_ViewCount_z))] (fun o os => o = .tup [.sl true 2 (r.1.map row_ViewCount_o), .bool r.2] ∧ os = [.junk]) := by
  refine pcalls_lift (R := fun (r : (List ViewCount) × Bool) o os => o = .tup [.sl true 2 (r.1.map row_ViewCount_o), .bool r.2] ∧ os = [.junk]) [] [] hr cl79 Try.func79 rfl (by simp [Try.f79]) fun Φ hΦ hF => ?_
  unfold F_impl_gathered at hF
  simp only [Try.f79, ioL_nil, ioL_sh, ioL_mv, ioL_io]
  try simp [-List.map_set, go_sem]
  refine pw_wkL [(0, .v (.sl false 2 (a0.map row_ViewCount_z)))] (by simp [-List.map_set, go_sem]) ?_
  obtain ⟨z1, e2, hF3⟩ := Rn_bind hF
  try simp [-List.map_set, go_sem]
  refine pw_callE [.sh] rfl rfl (by (try simp [-List.map_set, go_sem, clE]); first | rfl | done) (by rfl) (c_slices_Clone_impl_ViewCount_impl_ViewCount e2) (by (try simp [-List.map_set, go_sem]); first | rfl | done) (fun r0 os0 ho0 => ?_)
  obtain ⟨ho1, ho2⟩ := ho0
  subst ho1
  subst ho2
  refine ⟨by simp [-List.map_set, go_sem], ?_⟩
  try simp [-List.map_set, go_sem]
  refine pw_wkL [(4, .v (.sl true 2 (z1.map row_ViewCount_z)))] (by simp [-List.map_set, go_sem]) ?_
  obtain ⟨z4, e5, hF6⟩ := Rn_bind hF3
  try simp [-List.map_set, go_sem]
  refine pw_callE [.io, .sh] rfl rfl (by (try simp [-List.map_set, go_sem, clE]); first | rfl | done) (by rfl) (c_slices_SortStableFunc_impl_ViewCount_impl_ViewCount__io0_impl_gathered_1 e5) (by (try simp [-List.map_set, go_sem]); first | rfl | done) (fun r0 os0 ho0 => ?_)
  obtain ⟨ho1, ho2⟩ := ho0
  subst ho1
  subst ho2
  refine ⟨by simp [-List.map_set, go_sem], ?_⟩
  try simp [-List.map_set, go_sem]
  refine pw_wkL [(4, .v (.sl true 2 (z4.map row_ViewCount_z)))] (by simp [-List.map_set, go_sem]) ?_
  try simp [-List.map_set, go_sem]
  refine pw_wkL [(4, .v (.sl true 2 (z4.map row_ViewCount_z))), (5, .v (.sl true 2 []))] (by simp [-List.map_set, go_sem]) ?_
  try simp [-List.map_set, go_sem]
  refine qln_some fun hl7 => ?_
  try simp [-List.map_set, go_sem]
  refine pw_wkL [(4, .v (.sl true 2 (z4.map row_ViewCount_z))), (5, .v (.sl true 2 [])), (14, .rf 4 []), (15, .v (.int .i64 (z4.length : Int))), (16, .v (.int .i64 0))] (by simp [-List.map_set, go_sem]) ?_
  repeat rw [pw_seq]
  refine pw_joinF (fun (x12 : (List ViewCount)) => [(5, .v (.sl true 2 (x12.map row_ViewCount_o)))]) hF6 ?_ ?_
  · intro x12 hF13
    try dsimp only at hF13
    obtain ⟨z141, e142, hF143⟩ := Rn_bind hF13
    try simp [-List.map_set, go_sem]
    refine pw_callE [.sh] rfl rfl (by (try simp [-List.map_set, go_sem, clE]); first | rfl | done) (by rfl) (c_impl_isCount e142) (by (try simp [-List.map_set, go_sem]); first | rfl | done) (fun r0 os0 ho0 => ?_)
    obtain ⟨ho1, ho2⟩ := ho0
    subst ho1
    subst ho2
    refine ⟨by simp [-List.map_set, go_sem], ?_⟩
    try simp [-List.map_set, go_sem]
    refine pw_wkL [(5, .v (.sl true 2 (x12.map row_ViewCount_o))), (57, .v (.bool (!z141)))] (by simp [-List.map_set, go_sem]) ?_
    repeat rw [pw_seq]
    refine pw_cond' (v := (!z141)) (by simp [-List.map_set, go_sem]) (fun h144 => ?_) (fun h144 => ?_)
    · have hF145 := Rn_t hF143 h144
      try simp [-List.map_set, go_sem, h144]
      refine pw_wkL [(2, .v (.sl true 2 [])), (3, .v (.bool false))] (by simp [-List.map_set, go_sem, h144]) ?_
      try simp [-List.map_set, go_sem, h144]
      have h146 := Rn_some hF145
      have h147 := hΦ _ h146
      subst h147
      try simp [-List.map_set, go_sem, h144]
    · have hF148 := Rn_f hF143 h144
      try simp [-List.map_set, go_sem, h144]
      refine pw_wkL [(5, .v (.sl true 2 (x12.map row_ViewCount_o)))] (by simp [-List.map_set, go_sem, h144]) ?_
      try simp [-List.map_set, go_sem, h144]
      refine pw_wkL [(2, .v (.sl true 2 (x12.map row_ViewCount_o))), (3, .v (.bool true))] (by simp [-List.map_set, go_sem, h144]) ?_
      try simp [-List.map_set, go_sem, h144]
      have h149 := Rn_some hF148
      have h150 := hΦ _ h149
      subst h150
      try simp [-List.map_set, go_sem, h144]
  · intro ψ10 hj8 hF11
    repeat rw [pw_seq]
    rw [pw_block]
    try simp [-List.map_set, go_sem]
    obtain ⟨b137, hb138, hψ77⟩ := hF11
    refine pw_rloop (fun (i74 : Int) (s73 : (List ViewCount)) => [(4, .v (.sl true 2 (z4.map row_ViewCount_z))), (5, .v (.sl true 2 (s73.map row_ViewCount_o))), (14, .rf 4 []), (15, .v (.int .i64 (z4.length : Int))), (16, .v (.int .i64 i74))]) hb138 (by simp [-List.map_set, go_sem]) ?_ ?_
    · intro s73 N140 hN139
      subst hN139
      try simp [-List.map_set, go_sem]
      refine pw_wk ?_
      repeat rw [pw_seq]
      refine pw_cond_f (by simp [-List.map_set, go_sem]) ?_
      try simp [-List.map_set, go_sem]
      exact hj8 s73 _ (by simp [-List.map_set, go_sem]) hψ77
    · intro i74 s73 φ78 N79 hi81 hi82 ho75 hg76 hF80
      try dsimp only at hF80
      rw [Int.zero_add] at hi82
      try simp [-List.map_set, go_sem, hi81, hi82]
      refine pw_wkL [(4, .v (.sl true 2 (z4.map row_ViewCount_z))), (5, .v (.sl true 2 (s73.map row_ViewCount_o))), (14, .rf 4 []), (15, .v (.int .i64 (z4.length : Int))), (16, .v (.int .i64 i74)), (17, .v (.bool (decide (i74 < (z4.length : Int)))))] (by simp [-List.map_set, go_sem, hi81, hi82]) ?_
      repeat rw [pw_seq]
      refine pw_cond_t (by simp [-List.map_set, go_sem, hi81, hi82]) ?_
      try simp [-List.map_set, go_sem, hi81, hi82]
      refine pw_wkL [(4, .v (.sl true 2 (z4.map row_ViewCount_z))), (5, .v (.sl true 2 (s73.map row_ViewCount_o))), (14, .rf 4 []), (15, .v (.int .i64 (z4.length : Int))), (16, .v (.int .i64 i74))] (by simp [-List.map_set, go_sem, hi81, hi82]) ?_
      repeat rw [pw_seq]
      refine pw_joinF (fun (x87 : (List ViewCount)) => [(4, .v (.sl true 2 (z4.map row_ViewCount_z))), (5, .v (.sl true 2 (x87.map row_ViewCount_o))), (14, .rf 4 []), (15, .v (.int .i64 (z4.length : Int))), (16, .v (.int .i64 i74))]) hF80 ?_ ?_
      · intro x87 hF88
        try dsimp only at hF88
        try simp [-List.map_set, go_sem, hi81, hi82]
        have h136 := Rn_some hF88
        have hw : IntKind.i64.wrap (i74 + 1) = i74 + 1 := wrI (by have h0 := hl7; simp [maxLen] at h0; omega)
        exact hg76 x87 _ (by simp [-List.map_set, go_sem, hi81, hi82, hw]) h136
      · intro ψ85 hj83 hF86
        repeat rw [pw_seq]
        rw [pw_block]
        obtain ⟨x89, e90, hF91⟩ := Rn_bind hF86
        obtain ⟨g92, g93, g94⟩ := ix_some e90
        have g95 := ix_get e90
        try simp only [Int.toNat_natCast, Int.toNat_zero, Int.toNat_one, Int.reduceToNat] at g94 g95
        try simp [-List.map_set, go_sem, hi81, hi82, g92, g93, g94, g95]
        refine pw_wkL [(4, .v (.sl true 2 (z4.map row_ViewCount_z))), (5, .v (.sl true 2 (s73.map row_ViewCount_o))), (7, .bl [.sl false 1 (x89.View.map row_i64), .int .i64 x89.Times]), (14, .rf 4 []), (15, .v (.int .i64 (z4.length : Int))), (16, .v (.int .i64 i74))] (by simp [-List.map_set, go_sem, hi81, hi82, g92, g93, g94, g95]) ?_
        try simp [-List.map_set, go_sem, hi81, hi82, g92, g93, g94, g95]
        refine qln_some fun hl96 => ?_
        try simp [-List.map_set, go_sem, hi81, hi82, g92, g93, g94, g95]
        refine pw_wkL [(4, .v (.sl true 2 (z4.map row_ViewCount_z))), (5, .v (.sl true 2 (s73.map row_ViewCount_o))), (7, .bl [.sl false 1 (x89.View.map row_i64), .int .i64 x89.Times]), (8, .v (.int .i64 (IntKind.i64.wrap ((s73.length : Int) - 1)))), (14, .rf 4 []), (15, .v (.int .i64 (z4.length : Int))), (16, .v (.int .i64 i74))] (by simp [-List.map_set, go_sem, hi81, hi82, g92, g93, g94, g95]) ?_
        repeat rw [pw_seq]
        refine pw_joinF (fun (x101 : Bool) => [(4, .v (.sl true 2 (z4.map row_ViewCount_z))), (5, .v (.sl true 2 (s73.map row_ViewCount_o))), (7, .bl [.sl false 1 (x89.View.map row_i64), .int .i64 x89.Times]), (8, .v (.int .i64 (IntKind.i64.wrap ((s73.length : Int) - 1)))), (14, .rf 4 []), (15, .v (.int .i64 (z4.length : Int))), (16, .v (.int .i64 i74)), (34, .v (.bool x101))]) hF91 ?_ ?_
        · intro x101 hF102
          try dsimp only at hF102
          repeat rw [pw_seq]
          refine pw_cond' (v := x101) (by simp [-List.map_set, go_sem, hi81, hi82, g92, g93, g94, g95]) (fun h118 => ?_) (fun h118 => ?_)
          · have hF119 := Rn_t hF102 h118
            repeat rw [pw_seq]
            refine pw_draw D79_9 follows (by kernel_rfl) rfl ?_
            try simp only [go_sem, D79_9]
            obtain ⟨x120, e121, hF122⟩ := Rn_bind hF119
            obtain ⟨g123, g124, g125⟩ := ix_some e121
            have g126 := ix_get e121
            try simp only [Int.toNat_natCast, Int.toNat_zero, Int.toNat_one, Int.reduceToNat] at g125 g126
            try simp [-List.map_set, go_sem, hi81, hi82, g92, g93, g94, g95, h118, g123, g124, g125, g126]
            have h127 := Rn_some hF122
            exact hj83 (s73.set ((IntKind.i64.wrap ((s73.length : Int) - 1)).toNat) (ViewCount.mk x120.View (IntKind.i64.wrap (x120.Times + x89.Times)))) _ (by simp [-List.map_set, go_sem, hi81, hi82, g92, g93, g94, g95, h118, g123, g124, g125, g126]) h127
          · have hF128 := Rn_f hF102 h118
            repeat rw [pw_seq]
            refine pw_draw D79_10 follows (by kernel_rfl) rfl ?_
            try simp only [go_sem, D79_10]
            obtain ⟨z129, e130, hF131⟩ := Rn_bind hF128
            try simp [-List.map_set, go_sem, hi81, hi82, g92, g93, g94, g95, h118]
            refine pw_callDE (by rfl) (by (try simp [-List.map_set, go_sem, clE, hi81, hi82, g92, g93, g94, g95, h118]); first | rfl | done) (by rfl) (c_slices_Clone_int_int e130) (by (try simp [-List.map_set, go_sem, hi81, hi82, g92, g93, g94, g95, h118]); first | rfl | done) (fun r0 os0 ho0 => ?_)
            obtain ⟨ho1, ho2⟩ := ho0
            subst ho1
            subst ho2
            refine ⟨by simp [-List.map_set, go_sem, hi81, hi82, g92, g93, g94, g95, h118], ?_⟩
            obtain ⟨g132, hF133⟩ := Rn_gd hF131
            have g134 := g132
            try simp at g134
            try simp [-List.map_set, go_sem, hi81, hi82, g92, g93, g94, g95, h118, g132, g134]
            have h135 := Rn_some hF133
            exact hj83 (s73 ++ [(ViewCount.mk z129 x89.Times)]) _ (by simp [-List.map_set, go_sem, hi81, hi82, g92, g93, g94, g95, h118, g132, g134]) h135
        · intro ψ99 hj97 hF100
          repeat rw [pw_seq]
          refine pw_draw D79_8 follows (by kernel_rfl) rfl ?_
          try simp only [go_sem, D79_8]
          try simp [-List.map_set, go_sem, hi81, hi82, g92, g93, g94, g95]
          refine pwgD_split (fun h103 => ?_) (fun h103 => ?_)
          · have hF104 := Rn_t hF100 h103
            obtain ⟨x105, e106, hF107⟩ := Rn_bind hF104
            obtain ⟨g108, g109, g110⟩ := ix_some e106
            have g111 := ix_get e106
            try simp only [Int.toNat_natCast, Int.toNat_zero, Int.toNat_one, Int.reduceToNat] at g110 g111
            obtain ⟨z112, e113, hF114⟩ := Rn_bind hF107
            try simp [-List.map_set, go_sem, hi81, hi82, g92, g93, g94, g95, h103, g108, g109, g110, g111]
            refine pw_callE [.sh, .sh] rfl rfl (by (try simp [-List.map_set, go_sem, clE, hi81, hi82, g92, g93, g94, g95, h103, g108, g109, g110, g111]); first | rfl | done) (by rfl) (c_slices_Equal_int_int e113) (by (try simp [-List.map_set, go_sem, hi81, hi82, g92, g93, g94, g95, h103, g108, g109, g110, g111]); first | rfl | done) (fun r0 os0 ho0 => ?_)
            obtain ⟨ho1, ho2⟩ := ho0
            subst ho1
            subst ho2
            refine ⟨by simp [-List.map_set, go_sem, hi81, hi82, g92, g93, g94, g95, h103, g108, g109, g110, g111], ?_⟩
            try simp [-List.map_set, go_sem, hi81, hi82, g92, g93, g94, g95, h103, g108, g109, g110, g111]
            have h115 := Rn_some hF114
            exact hj97 z112 _ (by simp [-List.map_set, go_sem, hi81, hi82, g92, g93, g94, g95, h103, g108, g109, g110, g111]) h115
          · have hF116 := Rn_f hF100 h103
            try simp [-List.map_set, go_sem, hi81, hi82, g92, g93, g94, g95, h103]
            have h117 := Rn_some hF116
            exact hj97 false _ (by simp [-List.map_set, go_sem, hi81, hi82, g92, g93, g94, g95, h103]) h117
noncomputable def F_impl_ProjectCounts (a0 : (List ViewCount)) (a1 : Int) (a2 : Int) : Option ((List ViewCount) × Bool) :=
  (((F_impl_isCount a0).bind fun z7 =>
  if (!z7) = true then (
  some true) else (
  (F_impl_within a2 0 24).bind fun z14 =>
  if (!z14) = true then (
  some true) else (
  (F_impl_within a1 0 a2).bind fun z21 =>
  some (!z21))) : Option (Bool)).bind fun (x5 : Bool) =>
  if x5 = true then (
  some ([], false)) else (
  ((rloop (σ := (List ViewCount)) (β := (List ViewCount)) (fun i38 s37 =>
  (ix a0 i38).bind fun x47 =>
  gd (0 ≤ (if (x47.View.length : Int) < a1 then (x47.View.length : Int) else a1)) <|
  gd (0 ≤ (if (x47.View.length : Int) < a2 then (x47.View.length : Int) else a2)) <|
  gd ((if (x47.View.length : Int) < a1 then (x47.View.length : Int) else a1).toNat ≤ (if (x47.View.length : Int) < a2 then (x47.View.length : Int) else a2).toNat ∧ (if (x47.View.length : Int) < a2 then (x47.View.length : Int) else a2).toNat ≤ x47.View.length) <|
  gd ((s37.length + 1) * 32 ≤ 140737488355328 ∧ s37.length + 1 ≤ 4611686018427387904) <|
  some (.go (s37 ++ [(ViewCount.mk ((x47.View.take ((if (x47.View.length : Int) < a2 then (x47.View.length : Int) else a2).toNat)).drop ((if (x47.View.length : Int) < a1 then (x47.View.length : Int) else a1).toNat)) x47.Times)]))) (fun s37 => s37) (a0.length) 0 [] : Option ((List ViewCount))).bind fun (x35 : (List ViewCount)) =>
  (F_impl_gathered x35).bind fun z72 =>
  some (z72.1, z72.2))))
theorem c_impl_ProjectCounts {a0 : (List ViewCount)} {a1 : Int} {a2 : Int} {r : (List ViewCount) × Bool} (hr : F_impl_ProjectCounts a0 a1 a2 = some r) : PCalls Try.prog 28 [(.sh, .sl false 2 (a0.map row_ViewCount_z)), (.sh, .int .i64 a1), (.sh, .int .i64 a2)] (fun o os => o = .tup [.sl true 2 (r.1.map row_ViewCount_o), .bool r.2] ∧ os = [.junk, .junk, .junk]) := by
  refine pcalls_lift (R := fun (r : (List ViewCount) × Bool) o os => o = .tup [.sl true 2 (r.1.map row_ViewCount_o), .bool r.2] ∧ os = [.junk, .junk, .junk]) [] [] hr cl28 Try.func28 rfl (by simp [Try.f28]) fun Φ hΦ hF => ?_
  unfold F_impl_ProjectCounts at hF
  simp only [Try.f28, ioL_nil, ioL_sh, ioL_mv, ioL_io]
  try simp [-List.map_set, go_sem]
  refine pw_wkL [(0, .v (.sl false 2 (a0.map row_ViewCount_z))), (1, .v (.int .i64 a1)), (2, .v (.int .i64 a2))] (by simp [-List.map_set, go_sem]) ?_
  repeat rw [pw_seq]
  refine pw_joinF (fun (x5 : Bool) => [(0, .v (.sl false 2 (a0.map row_ViewCount_z))), (1, .v (.int .i64 a1)), (2, .v (.int .i64 a2)), (25, .v (.bool x5))]) hF ?_ ?_
  · intro x5 hF6
    try dsimp only at hF6
    repeat rw [pw_seq]
    refine pw_cond' (v := x5) (by simp [-List.map_set, go_sem]) (fun h25 => ?_) (fun h25 => ?_)
    · have hF26 := Rn_t hF6 h25
      try simp [-List.map_set, go_sem, h25]
      refine pw_wkL [(6, .v (.sl true 2 [])), (7, .v (.bool false))] (by simp [-List.map_set, go_sem, h25]) ?_
      try simp [-List.map_set, go_sem, h25]
      have h27 := Rn_some hF26
      have h28 := hΦ _ h27
      subst h28
      try simp [-List.map_set, go_sem, h25]
    · have hF29 := Rn_f hF6 h25
      try simp [-List.map_set, go_sem, h25]
      refine pw_wkL [(0, .v (.sl false 2 (a0.map row_ViewCount_z))), (1, .v (.int .i64 a1)), (2, .v (.int .i64 a2))] (by simp [-List.map_set, go_sem, h25]) ?_
      try simp [-List.map_set, go_sem, h25]
      refine pw_wkL [(0, .v (.sl false 2 (a0.map row_ViewCount_z))), (1, .v (.int .i64 a1)), (2, .v (.int .i64 a2)), (8, .v (.sl true 2 []))] (by simp [-List.map_set, go_sem, h25]) ?_
      try simp [-List.map_set, go_sem, h25]
      refine qln_some fun hl30 => ?_
      try simp [-List.map_set, go_sem, h25]
      refine pw_wkL [(1, .v (.int .i64 a1)), (2, .v (.int .i64 a2)), (8, .v (.sl true 2 [])), (27, .v (.sl false 2 (a0.map row_ViewCount_z))), (28, .v (.int .i64 (a0.length : Int))), (29, .v (.int .i64 0))] (by simp [-List.map_set, go_sem, h25]) ?_
      repeat rw [pw_seq]
      refine pw_joinF (fun (x35 : (List ViewCount)) => [(8, .v (.sl true 2 (x35.map row_ViewCount_z)))]) hF29 ?_ ?_
      · intro x35 hF36
        try dsimp only at hF36
        obtain ⟨z72, e73, hF74⟩ := Rn_bind hF36
        try simp [-List.map_set, go_sem, h25]
        refine pw_callE [.sh] rfl rfl (by (try simp [-List.map_set, go_sem, clE, h25]); first | rfl | done) (by rfl) (c_impl_gathered e73) (by (try simp [-List.map_set, go_sem, h25]); first | rfl | done) (fun r0 os0 ho0 => ?_)
        obtain ⟨ho1, ho2⟩ := ho0
        subst ho1
        subst ho2
        refine ⟨by simp [-List.map_set, go_sem, h25], ?_⟩
        try simp [-List.map_set, go_sem, h25]
        refine pw_wkL [(6, .v (.sl true 2 (z72.1.map row_ViewCount_o))), (7, .v (.bool z72.2))] (by simp [-List.map_set, go_sem, h25]) ?_
        try simp [-List.map_set, go_sem, h25]
        have h75 := Rn_some hF74
        have h76 := hΦ _ h75
        subst h76
        try simp [-List.map_set, go_sem, h25]
      · intro ψ33 hj31 hF34
        repeat rw [pw_seq]
        rw [pw_block]
        try simp [-List.map_set, go_sem]
        obtain ⟨b68, hb69, hψ41⟩ := hF34
        refine pw_rloop (fun (i38 : Int) (s37 : (List ViewCount)) => [(1, .v (.int .i64 a1)), (2, .v (.int .i64 a2)), (8, .v (.sl true 2 (s37.map row_ViewCount_z))), (27, .v (.sl false 2 (a0.map row_ViewCount_z))), (28, .v (.int .i64 (a0.length : Int))), (29, .v (.int .i64 i38))]) hb69 (by simp [-List.map_set, go_sem, h25]) ?_ ?_
        · intro s37 N71 hN70
          subst hN70
          try simp [-List.map_set, go_sem]
          refine pw_wk ?_
          repeat rw [pw_seq]
          refine pw_cond_f (by simp [-List.map_set, go_sem]) ?_
          try simp [-List.map_set, go_sem]
          exact hj31 s37 _ (by simp [-List.map_set, go_sem]) hψ41
        · intro i38 s37 φ42 N43 hi45 hi46 ho39 hg40 hF44
          try dsimp only at hF44
          rw [Int.zero_add] at hi46
          try simp [-List.map_set, go_sem, h25, hi45, hi46]
          refine pw_wkL [(1, .v (.int .i64 a1)), (2, .v (.int .i64 a2)), (8, .v (.sl true 2 (s37.map row_ViewCount_z))), (27, .v (.sl false 2 (a0.map row_ViewCount_z))), (28, .v (.int .i64 (a0.length : Int))), (29, .v (.int .i64 i38)), (30, .v (.bool (decide (i38 < (a0.length : Int)))))] (by simp [-List.map_set, go_sem, h25, hi45, hi46]) ?_
          repeat rw [pw_seq]
          refine pw_cond_t (by simp [-List.map_set, go_sem, h25, hi45, hi46]) ?_
          try simp [-List.map_set, go_sem, h25, hi45, hi46]
          refine pw_wkL [(1, .v (.int .i64 a1)), (2, .v (.int .i64 a2)), (8, .v (.sl true 2 (s37.map row_ViewCount_z))), (27, .v (.sl false 2 (a0.map row_ViewCount_z))), (28, .v (.int .i64 (a0.length : Int))), (29, .v (.int .i64 i38))] (by simp [-List.map_set, go_sem, h25, hi45, hi46]) ?_
          repeat rw [pw_seq]
          rw [pw_block]
          obtain ⟨x47, e48, hF49⟩ := Rn_bind hF44
          obtain ⟨g50, g51, g52⟩ := ix_some e48
          have g53 := ix_get e48
          try simp only [Int.toNat_natCast, Int.toNat_zero, Int.toNat_one, Int.reduceToNat] at g52 g53
          try simp [-List.map_set, go_sem, h25, hi45, hi46, g50, g51, g52, g53]
          refine pw_wkL [(1, .v (.int .i64 a1)), (2, .v (.int .i64 a2)), (8, .v (.sl true 2 (s37.map row_ViewCount_z))), (10, .bl [.sl false 1 (x47.View.map row_i64), .int .i64 x47.Times]), (27, .v (.sl false 2 (a0.map row_ViewCount_z))), (28, .v (.int .i64 (a0.length : Int))), (29, .v (.int .i64 i38))] (by simp [-List.map_set, go_sem, h25, hi45, hi46, g50, g51, g52, g53]) ?_
          try simp [-List.map_set, go_sem, h25, hi45, hi46, g50, g51, g52, g53]
          refine qln_some fun hl54 => ?_
          try simp [-List.map_set, go_sem, h25, hi45, hi46, g50, g51, g52, g53]
          refine pw_wkL [(1, .v (.int .i64 a1)), (2, .v (.int .i64 a2)), (8, .v (.sl true 2 (s37.map row_ViewCount_z))), (10, .bl [.sl false 1 (x47.View.map row_i64), .int .i64 x47.Times]), (11, .v (.int .i64 (x47.View.length : Int))), (27, .v (.sl false 2 (a0.map row_ViewCount_z))), (28, .v (.int .i64 (a0.length : Int))), (29, .v (.int .i64 i38))] (by simp [-List.map_set, go_sem, h25, hi45, hi46, g50, g51, g52, g53]) ?_
          repeat rw [pw_seq]
          refine pw_draw D28_8 follows (by kernel_rfl) rfl ?_
          try simp only [go_sem, D28_8]
          obtain ⟨g55, hF56⟩ := Rn_gd hF49
          have g57 := g55
          try simp at g57
          obtain ⟨g58, hF59⟩ := Rn_gd hF56
          have g60 := g58
          try simp at g60
          obtain ⟨g61, hF62⟩ := Rn_gd hF59
          have g63 := g61
          try simp at g63
          obtain ⟨g64, hF65⟩ := Rn_gd hF62
          have g66 := g64
          try simp at g66
          try simp [-List.map_set, go_sem, h25, hi45, hi46, g50, g51, g52, g53, g55, g57, g58, g60, g61, g63, g64, g66]
          refine pw_wkL [(1, .v (.int .i64 a1)), (2, .v (.int .i64 a2)), (8, .v (.sl true 2 ((s37 ++ [(ViewCount.mk ((x47.View.take ((if (x47.View.length : Int) < a2 then (x47.View.length : Int) else a2).toNat)).drop ((if (x47.View.length : Int) < a1 then (x47.View.length : Int) else a1).toNat)) x47.Times)]).map row_ViewCount_z))), (27, .v (.sl false 2 (a0.map row_ViewCount_z))), (28, .v (.int .i64 (a0.length : Int))), (29, .v (.int .i64 i38))] (by simp [-List.map_set, go_sem, h25, hi45, hi46, g50, g51, g52, g53, g55, g57, g58, g60, g61, g63, g64, g66]) ?_
          try simp [-List.map_set, go_sem, h25, hi45, hi46, g50, g51, g52, g53, g55, g57, g58, g60, g61, g63, g64, g66]
          have h67 := Rn_some hF65
          have hw : IntKind.i64.wrap (i38 + 1) = i38 + 1 := wrI (by have h0 := hl30; simp [maxLen] at h0; omega)
          exact hg40 (s37 ++ [(ViewCount.mk ((x47.View.take ((if (x47.View.length : Int) < a2 then (x47.View.length : Int) else a2).toNat)).drop ((if (x47.View.length : Int) < a1 then (x47.View.length : Int) else a1).toNat)) x47.Times)]) _ (by simp [-List.map_set, go_sem, h25, hi45, hi46, g50, g51, g52, g53, g55, g57, g58, g60, g61, g63, g64, g66, hw]) h67
  · intro ψ3 hj1 hF4
    obtain ⟨z7, e8, hF9⟩ := Rn_bind hF4
    try simp [-List.map_set, go_sem]
    refine pw_callE [.sh] rfl rfl (by (try simp [-List.map_set, go_sem, clE]); first | rfl | done) (by rfl) (c_impl_isCount e8) (by (try simp [-List.map_set, go_sem]); first | rfl | done) (fun r0 os0 ho0 => ?_)
    obtain ⟨ho1, ho2⟩ := ho0
    subst ho1
    subst ho2
    refine ⟨by simp [-List.map_set, go_sem], ?_⟩
    try simp [-List.map_set, go_sem]
    refine pwg_split (fun h10 => ?_) (fun h10 => ?_)
    · have hF11 := Rn_t hF9 h10
      try simp [-List.map_set, go_sem, h10]
      have h12 := Rn_some hF11
      exact hj1 true _ (by simp [-List.map_set, go_sem, h10]) h12
    · have hF13 := Rn_f hF9 h10
      obtain ⟨z14, e15, hF16⟩ := Rn_bind hF13
      try simp [-List.map_set, go_sem, h10]
      refine pw_callE [.sh, .sh, .sh] rfl rfl (by (try simp [-List.map_set, go_sem, clE, h10]); first | rfl | done) (by rfl) (c_impl_within e15) (by (try simp [-List.map_set, go_sem, h10]); first | rfl | done) (fun r0 os0 ho0 => ?_)
      obtain ⟨ho1, ho2⟩ := ho0
      subst ho1
      subst ho2
      refine ⟨by simp [-List.map_set, go_sem, h10], ?_⟩
      try simp [-List.map_set, go_sem, h10]
      refine pwg_split (fun h17 => ?_) (fun h17 => ?_)
      · have hF18 := Rn_t hF16 h17
        try simp [-List.map_set, go_sem, h10, h17]
        have h19 := Rn_some hF18
        exact hj1 true _ (by simp [-List.map_set, go_sem, h10, h17]) h19
      · have hF20 := Rn_f hF16 h17
        obtain ⟨z21, e22, hF23⟩ := Rn_bind hF20
        try simp [-List.map_set, go_sem, h10, h17]
        refine pw_callE [.sh, .sh, .sh] rfl rfl (by (try simp [-List.map_set, go_sem, clE, h10, h17]); first | rfl | done) (by rfl) (c_impl_within e22) (by (try simp [-List.map_set, go_sem, h10, h17]); first | rfl | done) (fun r0 os0 ho0 => ?_)
        obtain ⟨ho1, ho2⟩ := ho0
        subst ho1
        subst ho2
        refine ⟨by simp [-List.map_set, go_sem, h10, h17], ?_⟩
        try simp [-List.map_set, go_sem, h10, h17]
        have h24 := Rn_some hF23
        exact hj1 (!z21) _ (by simp [-List.map_set, go_sem, h10, h17]) h24
noncomputable def F_laws_eqIntS (a0 : (List Int)) (a1 : (List Int)) : Option (Bool) :=
  if ((a0.length : Int) != (a1.length : Int)) = true then (
  some false) else (
  ((wloop (σ := Int) (β := Unit ⊕ Bool) (fun s14 =>
  if decide (s14 < (a0.length : Int)) = true then (
  (ix a0 s14).bind fun x25 =>
  (ix a1 s14).bind fun x32 =>
  if (x25 != x32) = true then (
  some (.out (.inr false))) else (
  some (.go (IntKind.i64.wrap (s14 + 1))))) else (
  some (.out (.inl ())))) 0 : Option (Unit ⊕ Bool)).bind (Sum.elim (fun (x12 : Unit) =>
  some true) some)))
theorem c_laws_eqIntS {a0 : (List Int)} {a1 : (List Int)} {r : Bool} (hr : F_laws_eqIntS a0 a1 = some r) : PCalls Try.prog 22 [(.sh, .sl false 1 (a0.map row_i64)), (.sh, .sl false 1 (a1.map row_i64))] (fun o os => o = .bool r ∧ os = [.junk, .junk]) := by
  refine pcalls_lift (R := fun (r : Bool) o os => o = .bool r ∧ os = [.junk, .junk]) [] [] hr cl22 Try.func22 rfl (by simp [Try.f22]) fun Φ hΦ hF => ?_
  unfold F_laws_eqIntS at hF
  simp only [Try.f22, ioL_nil, ioL_sh, ioL_mv, ioL_io]
  try simp [-List.map_set, go_sem]
  refine pw_wkL [(0, .v (.sl false 1 (a0.map row_i64))), (1, .v (.sl false 1 (a1.map row_i64)))] (by simp [-List.map_set, go_sem]) ?_
  try simp [-List.map_set, go_sem]
  refine qln_some fun hl1 => ?_
  try simp [-List.map_set, go_sem]
  refine qln_some fun hl2 => ?_
  try simp [-List.map_set, go_sem]
  refine pw_wkL [(0, .v (.sl false 1 (a0.map row_i64))), (1, .v (.sl false 1 (a1.map row_i64))), (10, .v (.bool ((a0.length : Int) != (a1.length : Int))))] (by simp [-List.map_set, go_sem]) ?_
  repeat rw [pw_seq]
  refine pw_cond' (v := ((a0.length : Int) != (a1.length : Int))) (by simp [-List.map_set, go_sem]) (fun h3 => ?_) (fun h3 => ?_)
  · have hF4 := Rn_t hF h3
    try simp [-List.map_set, go_sem, h3]
    refine pw_wkL [(4, .v (.bool false))] (by simp [-List.map_set, go_sem, h3]) ?_
    try simp [-List.map_set, go_sem, h3]
    have h5 := Rn_some hF4
    have h6 := hΦ _ h5
    subst h6
    try simp [-List.map_set, go_sem, h3]
  · have hF7 := Rn_f hF h3
    try simp [-List.map_set, go_sem, h3]
    refine pw_wkL [(0, .v (.sl false 1 (a0.map row_i64))), (1, .v (.sl false 1 (a1.map row_i64)))] (by simp [-List.map_set, go_sem, h3]) ?_
    try simp [-List.map_set, go_sem, h3]
    refine pw_wkL [(0, .v (.sl false 1 (a0.map row_i64))), (1, .v (.sl false 1 (a1.map row_i64))), (5, .v (.int .i64 0))] (by simp [-List.map_set, go_sem, h3]) ?_
    repeat rw [pw_seq]
    refine pw_joinS (fun (x12 : Unit) => []) hF7 ?_ ?_
    · intro x12 hF13
      try dsimp only at hF13
      try simp [-List.map_set, go_sem, h3]
      refine pw_wkL [(4, .v (.bool true))] (by simp [-List.map_set, go_sem, h3]) ?_
      try simp [-List.map_set, go_sem, h3]
      have h52 := Rn_some hF13
      have h53 := hΦ _ h52
      subst h53
      try simp [-List.map_set, go_sem, h3]
    · intro ψ10 hj8 hr9 hF11
      repeat rw [pw_seq]
      rw [pw_block]
      try simp [-List.map_set, go_sem]
      obtain ⟨b50, hb51, hψ18⟩ := hF11
      refine pw_wloop (fun (s14 : Int) => [(0, .v (.sl false 1 (a0.map row_i64))), (1, .v (.sl false 1 (a1.map row_i64))), (5, .v (.int .i64 s14))]) hb51 (by simp [-List.map_set, go_sem, h3]) ?_
      intro s14 φ19 N20 ho16 hg17 hF21
      try dsimp only at hF21
      try simp [-List.map_set, go_sem, h3]
      refine qln_some fun hl22 => ?_
      try simp [-List.map_set, go_sem, h3]
      refine pw_wkL [(0, .v (.sl false 1 (a0.map row_i64))), (1, .v (.sl false 1 (a1.map row_i64))), (5, .v (.int .i64 s14)), (14, .v (.bool (decide (s14 < (a0.length : Int)))))] (by simp [-List.map_set, go_sem, h3]) ?_
      repeat rw [pw_seq]
      refine pw_cond' (v := decide (s14 < (a0.length : Int))) (by simp [-List.map_set, go_sem, h3]) (fun h23 => ?_) (fun h23 => ?_)
      · have hF24 := Rn_t hF21 h23
        try simp [-List.map_set, go_sem, h3, h23]
        refine pw_wkL [(0, .v (.sl false 1 (a0.map row_i64))), (1, .v (.sl false 1 (a1.map row_i64))), (5, .v (.int .i64 s14))] (by simp [-List.map_set, go_sem, h3, h23]) ?_
        repeat rw [pw_seq]
        rw [pw_block]
        repeat rw [pw_seq]
        refine pw_draw D22_6 follows (by kernel_rfl) rfl ?_
        try simp only [go_sem, D22_6]
        obtain ⟨x25, e26, hF27⟩ := Rn_bind hF24
        obtain ⟨g28, g29, g30⟩ := ix_some e26
        have g31 := ix_get e26
        try simp only [Int.toNat_natCast, Int.toNat_zero, Int.toNat_one, Int.reduceToNat] at g30 g31
        obtain ⟨x32, e33, hF34⟩ := Rn_bind hF27
        obtain ⟨g35, g36, g37⟩ := ix_some e33
        have g38 := ix_get e33
        try simp only [Int.toNat_natCast, Int.toNat_zero, Int.toNat_one, Int.reduceToNat] at g37 g38
        try simp [-List.map_set, go_sem, h3, h23, g28, g29, g30, g31, g35, g36, g37, g38]
        refine pw_wkL [(0, .v (.sl false 1 (a0.map row_i64))), (1, .v (.sl false 1 (a1.map row_i64))), (5, .v (.int .i64 s14)), (25, .v (.bool (x25 != x32)))] (by simp [-List.map_set, go_sem, h3, h23, g28, g29, g30, g31, g35, g36, g37, g38]) ?_
        repeat rw [pw_seq]
        refine pw_cond' (v := (x25 != x32)) (by simp [-List.map_set, go_sem, h3, h23, g28, g29, g30, g31, g35, g36, g37, g38]) (fun h39 => ?_) (fun h39 => ?_)
        · have hF40 := Rn_t hF34 h39
          try simp [-List.map_set, go_sem, h3, h23, g28, g29, g30, g31, g35, g36, g37, g38, h39]
          refine pw_wkL [(4, .v (.bool false))] (by simp [-List.map_set, go_sem, h3, h23, g28, g29, g30, g31, g35, g36, g37, g38, h39]) ?_
          try simp [-List.map_set, go_sem, h3, h23, g28, g29, g30, g31, g35, g36, g37, g38, h39]
          have h41 := Rn_some hF40
          have h42 := ho16 _ h41
          subst h42
          have h43 := hr9 _ hψ18
          have h44 := hΦ _ h43
          subst h44
          try simp [-List.map_set, go_sem, h3, h23, g28, g29, g30, g31, g35, g36, g37, g38, h39]
        · have hF45 := Rn_f hF34 h39
          try simp [-List.map_set, go_sem, h3, h23, g28, g29, g30, g31, g35, g36, g37, g38, h39]
          refine pw_wkL [(0, .v (.sl false 1 (a0.map row_i64))), (1, .v (.sl false 1 (a1.map row_i64))), (5, .v (.int .i64 s14))] (by simp [-List.map_set, go_sem, h3, h23, g28, g29, g30, g31, g35, g36, g37, g38, h39]) ?_
          try simp [-List.map_set, go_sem, h3, h23, g28, g29, g30, g31, g35, g36, g37, g38, h39]
          have h46 := Rn_some hF45
          exact hg17 (IntKind.i64.wrap (s14 + 1)) _ (by simp [-List.map_set, go_sem, h3, h23, g28, g29, g30, g31, g35, g36, g37, g38, h39]) h46
      · have hF47 := Rn_f hF21 h23
        try simp [-List.map_set, go_sem, h3, h23]
        have h48 := Rn_some hF47
        have h49 := ho16 _ h48
        subst h49
        exact hj8 () _ (by simp [-List.map_set, go_sem, h3, h23]) hψ18
noncomputable def F_laws_eqViewCount (a0 : ViewCount) (a1 : ViewCount) : Option (Bool) :=
  (F_laws_eqIntS a0.View a1.View).bind fun z1 =>
  if (!z1) = true then (
  some false) else (
  if (a0.Times != a1.Times) = true then (
  some false) else (
  some true))
theorem c_laws_eqViewCount {a0 : ViewCount} {a1 : ViewCount} {r : Bool} (hr : F_laws_eqViewCount a0 a1 = some r) : PCalls Try.prog 41 [(.sh, .agg [.sl false 1 (a0.View.map row_i64), .int .i64 a0.Times]), (.sh, .agg [.sl false 1 (a1.View.map row_i64), .int .i64 a1.Times])] (fun o os => o = .bool r ∧ os = [.junk, .junk]) := by
  refine pcalls_lift (R := fun (r : Bool) o os => o = .bool r ∧ os = [.junk, .junk]) [] [] hr cl41 Try.func41 rfl (by simp [Try.f41]) fun Φ hΦ hF => ?_
  unfold F_laws_eqViewCount at hF
  simp only [Try.f41, ioL_nil, ioL_sh, ioL_mv, ioL_io]
  try simp [-List.map_set, go_sem]
  refine pw_wkL [(2, .bl [.sl false 1 (a0.View.map row_i64), .int .i64 a0.Times]), (3, .bl [.sl false 1 (a1.View.map row_i64), .int .i64 a1.Times])] (by simp [-List.map_set, go_sem]) ?_
  obtain ⟨z1, e2, hF3⟩ := Rn_bind hF
  try simp [-List.map_set, go_sem]
  refine pw_callE [.sh, .sh] rfl rfl (by (try simp [-List.map_set, go_sem, clE]); first | rfl | done) (by rfl) (c_laws_eqIntS e2) (by (try simp [-List.map_set, go_sem]); first | rfl | done) (fun r0 os0 ho0 => ?_)
  obtain ⟨ho1, ho2⟩ := ho0
  subst ho1
  subst ho2
  refine ⟨by simp [-List.map_set, go_sem], ?_⟩
  try simp [-List.map_set, go_sem]
  refine pw_wkL [(2, .bl [.sl false 1 (a0.View.map row_i64), .int .i64 a0.Times]), (3, .bl [.sl false 1 (a1.View.map row_i64), .int .i64 a1.Times]), (10, .v (.bool (!z1)))] (by simp [-List.map_set, go_sem]) ?_
  repeat rw [pw_seq]
  refine pw_cond' (v := (!z1)) (by simp [-List.map_set, go_sem]) (fun h4 => ?_) (fun h4 => ?_)
  · have hF5 := Rn_t hF3 h4
    try simp [-List.map_set, go_sem, h4]
    refine pw_wkL [(4, .v (.bool false))] (by simp [-List.map_set, go_sem, h4]) ?_
    try simp [-List.map_set, go_sem, h4]
    have h6 := Rn_some hF5
    have h7 := hΦ _ h6
    subst h7
    try simp [-List.map_set, go_sem, h4]
  · have hF8 := Rn_f hF3 h4
    try simp [-List.map_set, go_sem, h4]
    refine pw_wkL [(2, .bl [.sl false 1 (a0.View.map row_i64), .int .i64 a0.Times]), (3, .bl [.sl false 1 (a1.View.map row_i64), .int .i64 a1.Times])] (by simp [-List.map_set, go_sem, h4]) ?_
    try simp [-List.map_set, go_sem, h4]
    refine pw_wkL [(15, .v (.bool (a0.Times != a1.Times)))] (by simp [-List.map_set, go_sem, h4]) ?_
    repeat rw [pw_seq]
    refine pw_cond' (v := (a0.Times != a1.Times)) (by simp [-List.map_set, go_sem, h4]) (fun h9 => ?_) (fun h9 => ?_)
    · have hF10 := Rn_t hF8 h9
      try simp [-List.map_set, go_sem, h4, h9]
      refine pw_wkL [(4, .v (.bool false))] (by simp [-List.map_set, go_sem, h4, h9]) ?_
      try simp [-List.map_set, go_sem, h4, h9]
      have h11 := Rn_some hF10
      have h12 := hΦ _ h11
      subst h12
      try simp [-List.map_set, go_sem, h4, h9]
    · have hF13 := Rn_f hF8 h9
      try simp [-List.map_set, go_sem, h4, h9]
      refine pw_wkL [] (by simp [-List.map_set, go_sem, h4, h9]) ?_
      try simp [-List.map_set, go_sem, h4, h9]
      refine pw_wkL [(4, .v (.bool true))] (by simp [-List.map_set, go_sem, h4, h9]) ?_
      try simp [-List.map_set, go_sem, h4, h9]
      have h14 := Rn_some hF13
      have h15 := hΦ _ h14
      subst h15
      try simp [-List.map_set, go_sem, h4, h9]
noncomputable def F_laws_eqViewCountS (a0 : (List ViewCount)) (a1 : (List ViewCount)) : Option (Bool) :=
  if ((a0.length : Int) != (a1.length : Int)) = true then (
  some false) else (
  ((wloop (σ := Int) (β := Unit ⊕ Bool) (fun s14 =>
  if decide (s14 < (a0.length : Int)) = true then (
  (ix a0 s14).bind fun x25 =>
  (ix a1 s14).bind fun x32 =>
  (F_laws_eqViewCount x25 x32).bind fun z39 =>
  if (!z39) = true then (
  some (.out (.inr false))) else (
  some (.go (IntKind.i64.wrap (s14 + 1))))) else (
  some (.out (.inl ())))) 0 : Option (Unit ⊕ Bool)).bind (Sum.elim (fun (x12 : Unit) =>
  some true) some)))
theorem c_laws_eqViewCountS {a0 : (List ViewCount)} {a1 : (List ViewCount)} {r : Bool} (hr : F_laws_eqViewCountS a0 a1 = some r) : PCalls Try.prog 14 [(.sh, .sl false 2 (a0.map row_ViewCount_z)), (.sh, .sl false 2 (a1.map row_ViewCount_z))] (fun o os => o = .bool r ∧ os = [.junk, .junk]) := by
  refine pcalls_lift (R := fun (r : Bool) o os => o = .bool r ∧ os = [.junk, .junk]) [] [] hr cl14 Try.func14 rfl (by simp [Try.f14]) fun Φ hΦ hF => ?_
  unfold F_laws_eqViewCountS at hF
  simp only [Try.f14, ioL_nil, ioL_sh, ioL_mv, ioL_io]
  try simp [-List.map_set, go_sem]
  refine pw_wkL [(0, .v (.sl false 2 (a0.map row_ViewCount_z))), (1, .v (.sl false 2 (a1.map row_ViewCount_z)))] (by simp [-List.map_set, go_sem]) ?_
  try simp [-List.map_set, go_sem]
  refine qln_some fun hl1 => ?_
  try simp [-List.map_set, go_sem]
  refine qln_some fun hl2 => ?_
  try simp [-List.map_set, go_sem]
  refine pw_wkL [(0, .v (.sl false 2 (a0.map row_ViewCount_z))), (1, .v (.sl false 2 (a1.map row_ViewCount_z))), (10, .v (.bool ((a0.length : Int) != (a1.length : Int))))] (by simp [-List.map_set, go_sem]) ?_
  repeat rw [pw_seq]
  refine pw_cond' (v := ((a0.length : Int) != (a1.length : Int))) (by simp [-List.map_set, go_sem]) (fun h3 => ?_) (fun h3 => ?_)
  · have hF4 := Rn_t hF h3
    try simp [-List.map_set, go_sem, h3]
    refine pw_wkL [(4, .v (.bool false))] (by simp [-List.map_set, go_sem, h3]) ?_
    try simp [-List.map_set, go_sem, h3]
    have h5 := Rn_some hF4
    have h6 := hΦ _ h5
    subst h6
    try simp [-List.map_set, go_sem, h3]
  · have hF7 := Rn_f hF h3
    try simp [-List.map_set, go_sem, h3]
    refine pw_wkL [(0, .v (.sl false 2 (a0.map row_ViewCount_z))), (1, .v (.sl false 2 (a1.map row_ViewCount_z)))] (by simp [-List.map_set, go_sem, h3]) ?_
    try simp [-List.map_set, go_sem, h3]
    refine pw_wkL [(0, .v (.sl false 2 (a0.map row_ViewCount_z))), (1, .v (.sl false 2 (a1.map row_ViewCount_z))), (5, .v (.int .i64 0))] (by simp [-List.map_set, go_sem, h3]) ?_
    repeat rw [pw_seq]
    refine pw_joinS (fun (x12 : Unit) => []) hF7 ?_ ?_
    · intro x12 hF13
      try dsimp only at hF13
      try simp [-List.map_set, go_sem, h3]
      refine pw_wkL [(4, .v (.bool true))] (by simp [-List.map_set, go_sem, h3]) ?_
      try simp [-List.map_set, go_sem, h3]
      have h55 := Rn_some hF13
      have h56 := hΦ _ h55
      subst h56
      try simp [-List.map_set, go_sem, h3]
    · intro ψ10 hj8 hr9 hF11
      repeat rw [pw_seq]
      rw [pw_block]
      try simp [-List.map_set, go_sem]
      obtain ⟨b53, hb54, hψ18⟩ := hF11
      refine pw_wloop (fun (s14 : Int) => [(0, .v (.sl false 2 (a0.map row_ViewCount_z))), (1, .v (.sl false 2 (a1.map row_ViewCount_z))), (5, .v (.int .i64 s14))]) hb54 (by simp [-List.map_set, go_sem, h3]) ?_
      intro s14 φ19 N20 ho16 hg17 hF21
      try dsimp only at hF21
      try simp [-List.map_set, go_sem, h3]
      refine qln_some fun hl22 => ?_
      try simp [-List.map_set, go_sem, h3]
      refine pw_wkL [(0, .v (.sl false 2 (a0.map row_ViewCount_z))), (1, .v (.sl false 2 (a1.map row_ViewCount_z))), (5, .v (.int .i64 s14)), (14, .v (.bool (decide (s14 < (a0.length : Int)))))] (by simp [-List.map_set, go_sem, h3]) ?_
      repeat rw [pw_seq]
      refine pw_cond' (v := decide (s14 < (a0.length : Int))) (by simp [-List.map_set, go_sem, h3]) (fun h23 => ?_) (fun h23 => ?_)
      · have hF24 := Rn_t hF21 h23
        try simp [-List.map_set, go_sem, h3, h23]
        refine pw_wkL [(0, .v (.sl false 2 (a0.map row_ViewCount_z))), (1, .v (.sl false 2 (a1.map row_ViewCount_z))), (5, .v (.int .i64 s14))] (by simp [-List.map_set, go_sem, h3, h23]) ?_
        repeat rw [pw_seq]
        rw [pw_block]
        repeat rw [pw_seq]
        refine pw_draw D14_6 follows (by kernel_rfl) rfl ?_
        try simp only [go_sem, D14_6]
        obtain ⟨x25, e26, hF27⟩ := Rn_bind hF24
        obtain ⟨g28, g29, g30⟩ := ix_some e26
        have g31 := ix_get e26
        try simp only [Int.toNat_natCast, Int.toNat_zero, Int.toNat_one, Int.reduceToNat] at g30 g31
        obtain ⟨x32, e33, hF34⟩ := Rn_bind hF27
        obtain ⟨g35, g36, g37⟩ := ix_some e33
        have g38 := ix_get e33
        try simp only [Int.toNat_natCast, Int.toNat_zero, Int.toNat_one, Int.reduceToNat] at g37 g38
        obtain ⟨z39, e40, hF41⟩ := Rn_bind hF34
        try simp [-List.map_set, go_sem, h3, h23, g28, g29, g30, g31, g35, g36, g37, g38]
        refine pw_callE [.sh, .sh] rfl rfl (by (try simp [-List.map_set, go_sem, clE, h3, h23, g28, g29, g30, g31, g35, g36, g37, g38]); first | rfl | done) (by rfl) (c_laws_eqViewCount e40) (by (try simp [-List.map_set, go_sem, h3, h23, g28, g29, g30, g31, g35, g36, g37, g38]); first | rfl | done) (fun r0 os0 ho0 => ?_)
        obtain ⟨ho1, ho2⟩ := ho0
        subst ho1
        subst ho2
        refine ⟨by simp [-List.map_set, go_sem, h3, h23, g28, g29, g30, g31, g35, g36, g37, g38], ?_⟩
        try simp [-List.map_set, go_sem, h3, h23, g28, g29, g30, g31, g35, g36, g37, g38]
        refine pw_wkL [(0, .v (.sl false 2 (a0.map row_ViewCount_z))), (1, .v (.sl false 2 (a1.map row_ViewCount_z))), (5, .v (.int .i64 s14)), (26, .v (.bool (!z39)))] (by simp [-List.map_set, go_sem, h3, h23, g28, g29, g30, g31, g35, g36, g37, g38]) ?_
        repeat rw [pw_seq]
        refine pw_cond' (v := (!z39)) (by simp [-List.map_set, go_sem, h3, h23, g28, g29, g30, g31, g35, g36, g37, g38]) (fun h42 => ?_) (fun h42 => ?_)
        · have hF43 := Rn_t hF41 h42
          try simp [-List.map_set, go_sem, h3, h23, g28, g29, g30, g31, g35, g36, g37, g38, h42]
          refine pw_wkL [(4, .v (.bool false))] (by simp [-List.map_set, go_sem, h3, h23, g28, g29, g30, g31, g35, g36, g37, g38, h42]) ?_
          try simp [-List.map_set, go_sem, h3, h23, g28, g29, g30, g31, g35, g36, g37, g38, h42]
          have h44 := Rn_some hF43
          have h45 := ho16 _ h44
          subst h45
          have h46 := hr9 _ hψ18
          have h47 := hΦ _ h46
          subst h47
          try simp [-List.map_set, go_sem, h3, h23, g28, g29, g30, g31, g35, g36, g37, g38, h42]
        · have hF48 := Rn_f hF41 h42
          try simp [-List.map_set, go_sem, h3, h23, g28, g29, g30, g31, g35, g36, g37, g38, h42]
          refine pw_wkL [(0, .v (.sl false 2 (a0.map row_ViewCount_z))), (1, .v (.sl false 2 (a1.map row_ViewCount_z))), (5, .v (.int .i64 s14))] (by simp [-List.map_set, go_sem, h3, h23, g28, g29, g30, g31, g35, g36, g37, g38, h42]) ?_
          try simp [-List.map_set, go_sem, h3, h23, g28, g29, g30, g31, g35, g36, g37, g38, h42]
          have h49 := Rn_some hF48
          exact hg17 (IntKind.i64.wrap (s14 + 1)) _ (by simp [-List.map_set, go_sem, h3, h23, g28, g29, g30, g31, g35, g36, g37, g38, h42]) h49
      · have hF50 := Rn_f hF21 h23
        try simp [-List.map_set, go_sem, h3, h23]
        have h51 := Rn_some hF50
        have h52 := ho16 _ h51
        subst h52
        exact hj8 () _ (by simp [-List.map_set, go_sem, h3, h23]) hψ18
noncomputable def F_laws_markIntS__io0 (a0 : (List Int)) (a1 : Int) : Option (Int × (List Int)) :=
  ((wloop (σ := (List Int) × Int × Int) (β := ((List Int) × Int)) (fun s29 =>
  if decide (s29.2.2 < (s29.1.length : Int)) = true then (
  (ix s29.1 s29.2.2).bind fun x40 =>
  some (.go (s29.1.set s29.2.2.toNat s29.2.1, IntKind.i64.wrap (s29.2.1 + 1), IntKind.i64.wrap (s29.2.2 + 1)))) else (
  some (.out (s29.1, s29.2.1)))) (a0, a1, 0) : Option (((List Int) × Int))).bind fun (x5 : (List Int) × Int) =>
  some (x5.2, x5.1))
theorem c_laws_markIntS__io0 {a0 : (List Int)} {a1 : Int} {r : Int × (List Int)} (hr : F_laws_markIntS__io0 a0 a1 = some r) : PCalls Try.prog 76 [(.io, .sl true 1 (a0.map row_i64)), (.sh, .int .i64 a1)] (fun o os => o = .int .i64 r.1 ∧ os = [.sl true 1 (r.2.map row_i64), .junk]) := by
  refine pcalls_lift (R := fun (r : Int × (List Int)) o os => o = .int .i64 r.1 ∧ os = [.sl true 1 (r.2.map row_i64), .junk]) [] [] hr cl76 Try.func76 rfl (by simp [Try.f76]) fun Φ hΦ hF => ?_
  unfold F_laws_markIntS__io0 at hF
  simp only [Try.f76, ioL_nil, ioL_sh, ioL_mv, ioL_io]
  try simp [-List.map_set, go_sem]
  refine pw_wkL [(0, .v (.sl true 1 (a0.map row_i64))), (1, .v (.int .i64 a1))] (by simp [-List.map_set, go_sem]) ?_
  try simp [-List.map_set, go_sem]
  refine pw_wkL [(0, .v (.sl true 1 (a0.map row_i64))), (1, .v (.int .i64 a1)), (5, .v (.int .i64 0))] (by simp [-List.map_set, go_sem]) ?_
  repeat rw [pw_seq]
  refine pw_joinF (fun (x5 : (List Int) × Int) => [(0, .v (.sl true 1 (x5.1.map row_i64))), (1, .v (.int .i64 x5.2))]) hF ?_ ?_
  · intro x5 hF6
    try dsimp only at hF6
    try simp [-List.map_set, go_sem]
    refine pw_wkL [(0, .v (.sl true 1 (x5.1.map row_i64))), (4, .v (.int .i64 x5.2))] (by simp [-List.map_set, go_sem]) ?_
    try simp [-List.map_set, go_sem]
    have h53 := Rn_some hF6
    have h54 := hΦ _ h53
    subst h54
    try simp [-List.map_set, go_sem]
  · intro ψ3 hj1 hF4
    repeat rw [pw_seq]
    rw [pw_block]
    try simp [-List.map_set, go_sem]
    obtain ⟨b51, hb52, hψ33⟩ := hF4
    refine pw_wloop (fun (s29 : (List Int) × Int × Int) => [(0, .v (.sl true 1 (s29.1.map row_i64))), (1, .v (.int .i64 s29.2.1)), (5, .v (.int .i64 s29.2.2))]) hb52 (by simp [-List.map_set, go_sem]) ?_
    intro s29 φ34 N35 ho31 hg32 hF36
    try dsimp only at hF36
    try simp [-List.map_set, go_sem]
    refine qln_some fun hl37 => ?_
    try simp [-List.map_set, go_sem]
    refine pw_wkL [(0, .v (.sl true 1 (s29.1.map row_i64))), (1, .v (.int .i64 s29.2.1)), (5, .v (.int .i64 s29.2.2)), (9, .v (.bool (decide (s29.2.2 < (s29.1.length : Int)))))] (by simp [-List.map_set, go_sem]) ?_
    repeat rw [pw_seq]
    refine pw_cond' (v := decide (s29.2.2 < (s29.1.length : Int))) (by simp [-List.map_set, go_sem]) (fun h38 => ?_) (fun h38 => ?_)
    · have hF39 := Rn_t hF36 h38
      try simp [-List.map_set, go_sem, h38]
      refine pw_wkL [(0, .v (.sl true 1 (s29.1.map row_i64))), (1, .v (.int .i64 s29.2.1)), (5, .v (.int .i64 s29.2.2))] (by simp [-List.map_set, go_sem, h38]) ?_
      repeat rw [pw_seq]
      rw [pw_block]
      obtain ⟨x40, e41, hF42⟩ := Rn_bind hF39
      obtain ⟨g43, g44, g45⟩ := ix_some e41
      have g46 := ix_get e41
      try simp only [Int.toNat_natCast, Int.toNat_zero, Int.toNat_one, Int.reduceToNat] at g45 g46
      try simp [-List.map_set, go_sem, h38, g43, g44, g45, g46]
      refine pw_wkL [(0, .v (.sl true 1 ((s29.1.set s29.2.2.toNat s29.2.1).map row_i64))), (1, .v (.int .i64 s29.2.1)), (5, .v (.int .i64 s29.2.2))] (by simp [-List.map_set, go_sem, h38, g43, g44, g45, g46]) ?_
      try simp [-List.map_set, go_sem, h38, g43, g44, g45, g46]
      refine pw_wkL [(0, .v (.sl true 1 ((s29.1.set s29.2.2.toNat s29.2.1).map row_i64))), (1, .v (.int .i64 (IntKind.i64.wrap (s29.2.1 + 1)))), (5, .v (.int .i64 s29.2.2))] (by simp [-List.map_set, go_sem, h38, g43, g44, g45, g46]) ?_
      try simp [-List.map_set, go_sem, h38, g43, g44, g45, g46]
      have h47 := Rn_some hF42
      exact hg32 (s29.1.set s29.2.2.toNat s29.2.1, IntKind.i64.wrap (s29.2.1 + 1), IntKind.i64.wrap (s29.2.2 + 1)) _ (by simp [-List.map_set, go_sem, h38, g43, g44, g45, g46]) h47
    · have hF48 := Rn_f hF36 h38
      try simp [-List.map_set, go_sem, h38]
      have h49 := Rn_some hF48
      have h50 := ho31 _ h49
      subst h50
      exact hj1 (s29.1, s29.2.1) _ (by simp [-List.map_set, go_sem, h38]) hψ33
noncomputable def F_laws_markViewCountS__io0 (a0 : (List ViewCount)) (a1 : Int) : Option (Int × (List ViewCount)) :=
  ((wloop (σ := (List ViewCount) × Int × Int) (β := ((List ViewCount) × Int)) (fun s39 =>
  if decide (s39.2.2 < (s39.1.length : Int)) = true then (
  (ix s39.1 s39.2.2).bind fun x50 =>
  (F_laws_markIntS__io0 x50.View s39.2.1).bind fun z57 =>
  (ix (s39.1.set s39.2.2.toNat (ViewCount.mk z57.2 x50.Times)) s39.2.2).bind fun x60 =>
  some (.go ((s39.1.set s39.2.2.toNat (ViewCount.mk z57.2 x50.Times)).set s39.2.2.toNat (ViewCount.mk x60.View z57.1), IntKind.i64.wrap (z57.1 + 1), IntKind.i64.wrap (s39.2.2 + 1)))) else (
  some (.out (s39.1, s39.2.1)))) (a0, a1, 0) : Option (((List ViewCount) × Int))).bind fun (x5 : (List ViewCount) × Int) =>
  some (x5.2, x5.1))
theorem c_laws_markViewCountS__io0 {a0 : (List ViewCount)} {a1 : Int} {r : Int × (List ViewCount)} (hr : F_laws_markViewCountS__io0 a0 a1 = some r) : PCalls Try.prog 25 [(.io, .sl true 2 (a0.map row_ViewCount_o)), (.sh, .int .i64 a1)] (fun o os => o = .int .i64 r.1 ∧ os = [.sl true 2 (r.2.map row_ViewCount_o), .junk]) := by
  refine pcalls_lift (R := fun (r : Int × (List ViewCount)) o os => o = .int .i64 r.1 ∧ os = [.sl true 2 (r.2.map row_ViewCount_o), .junk]) [] [] hr cl25 Try.func25 rfl (by simp [Try.f25]) fun Φ hΦ hF => ?_
  unfold F_laws_markViewCountS__io0 at hF
  simp only [Try.f25, ioL_nil, ioL_sh, ioL_mv, ioL_io]
  try simp [-List.map_set, go_sem]
  refine pw_wkL [(0, .v (.sl true 2 (a0.map row_ViewCount_o))), (1, .v (.int .i64 a1))] (by simp [-List.map_set, go_sem]) ?_
  try simp [-List.map_set, go_sem]
  refine pw_wkL [(0, .v (.sl true 2 (a0.map row_ViewCount_o))), (1, .v (.int .i64 a1)), (5, .v (.int .i64 0))] (by simp [-List.map_set, go_sem]) ?_
  repeat rw [pw_seq]
  refine pw_joinF (fun (x5 : (List ViewCount) × Int) => [(0, .v (.sl true 2 (x5.1.map row_ViewCount_o))), (1, .v (.int .i64 x5.2))]) hF ?_ ?_
  · intro x5 hF6
    try dsimp only at hF6
    try simp [-List.map_set, go_sem]
    refine pw_wkL [(0, .v (.sl true 2 (x5.1.map row_ViewCount_o))), (4, .v (.int .i64 x5.2))] (by simp [-List.map_set, go_sem]) ?_
    try simp [-List.map_set, go_sem]
    have h73 := Rn_some hF6
    have h74 := hΦ _ h73
    subst h74
    try simp [-List.map_set, go_sem]
  · intro ψ3 hj1 hF4
    repeat rw [pw_seq]
    rw [pw_block]
    try simp [-List.map_set, go_sem]
    obtain ⟨b71, hb72, hψ43⟩ := hF4
    refine pw_wloop (fun (s39 : (List ViewCount) × Int × Int) => [(0, .v (.sl true 2 (s39.1.map row_ViewCount_o))), (1, .v (.int .i64 s39.2.1)), (5, .v (.int .i64 s39.2.2))]) hb72 (by simp [-List.map_set, go_sem]) ?_
    intro s39 φ44 N45 ho41 hg42 hF46
    try dsimp only at hF46
    try simp [-List.map_set, go_sem]
    refine qln_some fun hl47 => ?_
    try simp [-List.map_set, go_sem]
    refine pw_wkL [(0, .v (.sl true 2 (s39.1.map row_ViewCount_o))), (1, .v (.int .i64 s39.2.1)), (5, .v (.int .i64 s39.2.2)), (9, .v (.bool (decide (s39.2.2 < (s39.1.length : Int)))))] (by simp [-List.map_set, go_sem]) ?_
    repeat rw [pw_seq]
    refine pw_cond' (v := decide (s39.2.2 < (s39.1.length : Int))) (by simp [-List.map_set, go_sem]) (fun h48 => ?_) (fun h48 => ?_)
    · have hF49 := Rn_t hF46 h48
      try simp [-List.map_set, go_sem, h48]
      refine pw_wkL [(0, .v (.sl true 2 (s39.1.map row_ViewCount_o))), (1, .v (.int .i64 s39.2.1)), (5, .v (.int .i64 s39.2.2))] (by simp [-List.map_set, go_sem, h48]) ?_
      repeat rw [pw_seq]
      rw [pw_block]
      obtain ⟨x50, e51, hF52⟩ := Rn_bind hF49
      obtain ⟨g53, g54, g55⟩ := ix_some e51
      have g56 := ix_get e51
      try simp only [Int.toNat_natCast, Int.toNat_zero, Int.toNat_one, Int.reduceToNat] at g55 g56
      obtain ⟨z57, e58, hF59⟩ := Rn_bind hF52
      try simp [-List.map_set, go_sem, h48, g53, g54, g55, g56]
      refine pw_callE [.io, .sh] rfl rfl (by (try simp [-List.map_set, go_sem, clE, h48, g53, g54, g55, g56]); first | rfl | done) (by rfl) (c_laws_markIntS__io0 e58) (by (try simp [-List.map_set, go_sem, h48, g53, g54, g55, g56]); first | rfl | done) (fun r0 os0 ho0 => ?_)
      obtain ⟨ho1, ho2⟩ := ho0
      subst ho1
      subst ho2
      refine ⟨by simp [-List.map_set, go_sem, h48, g53, g54, g55, g56], ?_⟩
      try simp [-List.map_set, go_sem, h48, g53, g54, g55, g56]
      refine pw_wkL [(0, .v (.sl true 2 ((s39.1.set s39.2.2.toNat (ViewCount.mk z57.2 x50.Times)).map row_ViewCount_o))), (1, .v (.int .i64 z57.1)), (5, .v (.int .i64 s39.2.2))] (by simp [-List.map_set, go_sem, h48, g53, g54, g55, g56]) ?_
      obtain ⟨x60, e61, hF62⟩ := Rn_bind hF59
      obtain ⟨g63, g64, g65⟩ := ix_some e61
      have g66 := ix_get e61
      try simp only [Int.toNat_natCast, Int.toNat_zero, Int.toNat_one, Int.reduceToNat] at g65 g66
      try simp [-List.map_set, go_sem, h48, g53, g54, g55, g56, g63, g64, g65, g66]
      refine pw_wkL [(0, .v (.sl true 2 (((s39.1.set s39.2.2.toNat (ViewCount.mk z57.2 x50.Times)).set s39.2.2.toNat (ViewCount.mk x60.View z57.1)).map row_ViewCount_o))), (1, .v (.int .i64 z57.1)), (5, .v (.int .i64 s39.2.2))] (by simp [-List.map_set, go_sem, h48, g53, g54, g55, g56, g63, g64, g65, g66]) ?_
      try simp [-List.map_set, go_sem, h48, g53, g54, g55, g56, g63, g64, g65, g66]
      refine pw_wkL [(0, .v (.sl true 2 (((s39.1.set s39.2.2.toNat (ViewCount.mk z57.2 x50.Times)).set s39.2.2.toNat (ViewCount.mk x60.View z57.1)).map row_ViewCount_o))), (1, .v (.int .i64 (IntKind.i64.wrap (z57.1 + 1)))), (5, .v (.int .i64 s39.2.2))] (by simp [-List.map_set, go_sem, h48, g53, g54, g55, g56, g63, g64, g65, g66]) ?_
      try simp [-List.map_set, go_sem, h48, g53, g54, g55, g56, g63, g64, g65, g66]
      have h67 := Rn_some hF62
      exact hg42 ((s39.1.set s39.2.2.toNat (ViewCount.mk z57.2 x50.Times)).set s39.2.2.toNat (ViewCount.mk x60.View z57.1), IntKind.i64.wrap (z57.1 + 1), IntKind.i64.wrap (s39.2.2 + 1)) _ (by simp [-List.map_set, go_sem, h48, g53, g54, g55, g56, g63, g64, g65, g66]) h67
    · have hF68 := Rn_f hF46 h48
      try simp [-List.map_set, go_sem, h48]
      have h69 := Rn_some hF68
      have h70 := ho41 _ h69
      subst h70
      exact hj1 (s39.1, s39.2.1) _ (by simp [-List.map_set, go_sem, h48]) hψ43
noncomputable def F_laws_heldIntS (a0 : (List Int)) (a1 : Int) : Option (Int) :=
  ((wloop (σ := Int × Int) (β := Int ⊕ Int) (fun s7 =>
  if decide (s7.2 < (a0.length : Int)) = true then (
  (ix a0 s7.2).bind fun x18 =>
  if (x18 != s7.1) = true then (
  some (.out (.inr (-1)))) else (
  some (.go (IntKind.i64.wrap (s7.1 + 1), IntKind.i64.wrap (s7.2 + 1))))) else (
  some (.out (.inl s7.1)))) (a1, 0) : Option (Int ⊕ Int)).bind (Sum.elim (fun (x5 : Int) =>
  some x5) some))
theorem c_laws_heldIntS {a0 : (List Int)} {a1 : Int} {r : Int} (hr : F_laws_heldIntS a0 a1 = some r) : PCalls Try.prog 77 [(.sh, .sl false 1 (a0.map row_i64)), (.sh, .int .i64 a1)] (fun o os => o = .int .i64 r ∧ os = [.junk, .junk]) := by
  refine pcalls_lift (R := fun (r : Int) o os => o = .int .i64 r ∧ os = [.junk, .junk]) [] [] hr cl77 Try.func77 rfl (by simp [Try.f77]) fun Φ hΦ hF => ?_
  unfold F_laws_heldIntS at hF
  simp only [Try.f77, ioL_nil, ioL_sh, ioL_mv, ioL_io]
  try simp [-List.map_set, go_sem]
  refine pw_wkL [(0, .v (.sl false 1 (a0.map row_i64))), (1, .v (.int .i64 a1))] (by simp [-List.map_set, go_sem]) ?_
  try simp [-List.map_set, go_sem]
  refine pw_wkL [(0, .v (.sl false 1 (a0.map row_i64))), (1, .v (.int .i64 a1)), (5, .v (.int .i64 0))] (by simp [-List.map_set, go_sem]) ?_
  repeat rw [pw_seq]
  refine pw_joinS (fun (x5 : Int) => [(1, .v (.int .i64 x5))]) hF ?_ ?_
  · intro x5 hF6
    try dsimp only at hF6
    try simp [-List.map_set, go_sem]
    refine pw_wkL [(4, .v (.int .i64 x5))] (by simp [-List.map_set, go_sem]) ?_
    try simp [-List.map_set, go_sem]
    have h38 := Rn_some hF6
    have h39 := hΦ _ h38
    subst h39
    try simp [-List.map_set, go_sem]
  · intro ψ3 hj1 hr2 hF4
    repeat rw [pw_seq]
    rw [pw_block]
    try simp [-List.map_set, go_sem]
    obtain ⟨b36, hb37, hψ11⟩ := hF4
    refine pw_wloop (fun (s7 : Int × Int) => [(0, .v (.sl false 1 (a0.map row_i64))), (1, .v (.int .i64 s7.1)), (5, .v (.int .i64 s7.2))]) hb37 (by simp [-List.map_set, go_sem]) ?_
    intro s7 φ12 N13 ho9 hg10 hF14
    try dsimp only at hF14
    try simp [-List.map_set, go_sem]
    refine qln_some fun hl15 => ?_
    try simp [-List.map_set, go_sem]
    refine pw_wkL [(0, .v (.sl false 1 (a0.map row_i64))), (1, .v (.int .i64 s7.1)), (5, .v (.int .i64 s7.2)), (9, .v (.bool (decide (s7.2 < (a0.length : Int)))))] (by simp [-List.map_set, go_sem]) ?_
    repeat rw [pw_seq]
    refine pw_cond' (v := decide (s7.2 < (a0.length : Int))) (by simp [-List.map_set, go_sem]) (fun h16 => ?_) (fun h16 => ?_)
    · have hF17 := Rn_t hF14 h16
      try simp [-List.map_set, go_sem, h16]
      refine pw_wkL [(0, .v (.sl false 1 (a0.map row_i64))), (1, .v (.int .i64 s7.1)), (5, .v (.int .i64 s7.2))] (by simp [-List.map_set, go_sem, h16]) ?_
      repeat rw [pw_seq]
      rw [pw_block]
      obtain ⟨x18, e19, hF20⟩ := Rn_bind hF17
      obtain ⟨g21, g22, g23⟩ := ix_some e19
      have g24 := ix_get e19
      try simp only [Int.toNat_natCast, Int.toNat_zero, Int.toNat_one, Int.reduceToNat] at g23 g24
      try simp [-List.map_set, go_sem, h16, g21, g22, g23, g24]
      refine pw_wkL [(0, .v (.sl false 1 (a0.map row_i64))), (1, .v (.int .i64 s7.1)), (5, .v (.int .i64 s7.2)), (17, .v (.bool (x18 != s7.1)))] (by simp [-List.map_set, go_sem, h16, g21, g22, g23, g24]) ?_
      repeat rw [pw_seq]
      refine pw_cond' (v := (x18 != s7.1)) (by simp [-List.map_set, go_sem, h16, g21, g22, g23, g24]) (fun h25 => ?_) (fun h25 => ?_)
      · have hF26 := Rn_t hF20 h25
        try simp [-List.map_set, go_sem, h16, g21, g22, g23, g24, h25]
        refine pw_wkL [(4, .v (.int .i64 (-1)))] (by simp [-List.map_set, go_sem, h16, g21, g22, g23, g24, h25]) ?_
        try simp [-List.map_set, go_sem, h16, g21, g22, g23, g24, h25]
        have h27 := Rn_some hF26
        have h28 := ho9 _ h27
        subst h28
        have h29 := hr2 _ hψ11
        have h30 := hΦ _ h29
        subst h30
        try simp [-List.map_set, go_sem, h16, g21, g22, g23, g24, h25]
      · have hF31 := Rn_f hF20 h25
        try simp [-List.map_set, go_sem, h16, g21, g22, g23, g24, h25]
        refine pw_wkL [(0, .v (.sl false 1 (a0.map row_i64))), (1, .v (.int .i64 s7.1)), (5, .v (.int .i64 s7.2))] (by simp [-List.map_set, go_sem, h16, g21, g22, g23, g24, h25]) ?_
        try simp [-List.map_set, go_sem, h16, g21, g22, g23, g24, h25]
        refine pw_wkL [(0, .v (.sl false 1 (a0.map row_i64))), (1, .v (.int .i64 (IntKind.i64.wrap (s7.1 + 1)))), (5, .v (.int .i64 s7.2))] (by simp [-List.map_set, go_sem, h16, g21, g22, g23, g24, h25]) ?_
        try simp [-List.map_set, go_sem, h16, g21, g22, g23, g24, h25]
        have h32 := Rn_some hF31
        exact hg10 (IntKind.i64.wrap (s7.1 + 1), IntKind.i64.wrap (s7.2 + 1)) _ (by simp [-List.map_set, go_sem, h16, g21, g22, g23, g24, h25]) h32
    · have hF33 := Rn_f hF14 h16
      try simp [-List.map_set, go_sem, h16]
      have h34 := Rn_some hF33
      have h35 := ho9 _ h34
      subst h35
      exact hj1 s7.1 _ (by simp [-List.map_set, go_sem, h16]) hψ11
noncomputable def F_laws_heldViewCountS (a0 : (List ViewCount)) (a1 : Int) : Option (Int) :=
  ((wloop (σ := Int × Int) (β := Int ⊕ Int) (fun s7 =>
  if decide (s7.2 < (a0.length : Int)) = true then (
  (ix a0 s7.2).bind fun x18 =>
  (F_laws_heldIntS x18.View s7.1).bind fun z25 =>
  if decide (z25 < 0) = true then (
  some (.out (.inr (-1)))) else (
  if (x18.Times != z25) = true then (
  some (.out (.inr (-1)))) else (
  some (.go (IntKind.i64.wrap (z25 + 1), IntKind.i64.wrap (s7.2 + 1)))))) else (
  some (.out (.inl s7.1)))) (a1, 0) : Option (Int ⊕ Int)).bind (Sum.elim (fun (x5 : Int) =>
  some x5) some))
theorem c_laws_heldViewCountS {a0 : (List ViewCount)} {a1 : Int} {r : Int} (hr : F_laws_heldViewCountS a0 a1 = some r) : PCalls Try.prog 26 [(.sh, .sl false 2 (a0.map row_ViewCount_z)), (.sh, .int .i64 a1)] (fun o os => o = .int .i64 r ∧ os = [.junk, .junk]) := by
  refine pcalls_lift (R := fun (r : Int) o os => o = .int .i64 r ∧ os = [.junk, .junk]) [] [] hr cl26 Try.func26 rfl (by simp [Try.f26]) fun Φ hΦ hF => ?_
  unfold F_laws_heldViewCountS at hF
  simp only [Try.f26, ioL_nil, ioL_sh, ioL_mv, ioL_io]
  try simp [-List.map_set, go_sem]
  refine pw_wkL [(0, .v (.sl false 2 (a0.map row_ViewCount_z))), (1, .v (.int .i64 a1))] (by simp [-List.map_set, go_sem]) ?_
  try simp [-List.map_set, go_sem]
  refine pw_wkL [(0, .v (.sl false 2 (a0.map row_ViewCount_z))), (1, .v (.int .i64 a1)), (5, .v (.int .i64 0))] (by simp [-List.map_set, go_sem]) ?_
  repeat rw [pw_seq]
  refine pw_joinS (fun (x5 : Int) => [(1, .v (.int .i64 x5))]) hF ?_ ?_
  · intro x5 hF6
    try dsimp only at hF6
    try simp [-List.map_set, go_sem]
    refine pw_wkL [(4, .v (.int .i64 x5))] (by simp [-List.map_set, go_sem]) ?_
    try simp [-List.map_set, go_sem]
    have h48 := Rn_some hF6
    have h49 := hΦ _ h48
    subst h49
    try simp [-List.map_set, go_sem]
  · intro ψ3 hj1 hr2 hF4
    repeat rw [pw_seq]
    rw [pw_block]
    try simp [-List.map_set, go_sem]
    obtain ⟨b46, hb47, hψ11⟩ := hF4
    refine pw_wloop (fun (s7 : Int × Int) => [(0, .v (.sl false 2 (a0.map row_ViewCount_z))), (1, .v (.int .i64 s7.1)), (5, .v (.int .i64 s7.2))]) hb47 (by simp [-List.map_set, go_sem]) ?_
    intro s7 φ12 N13 ho9 hg10 hF14
    try dsimp only at hF14
    try simp [-List.map_set, go_sem]
    refine qln_some fun hl15 => ?_
    try simp [-List.map_set, go_sem]
    refine pw_wkL [(0, .v (.sl false 2 (a0.map row_ViewCount_z))), (1, .v (.int .i64 s7.1)), (5, .v (.int .i64 s7.2)), (9, .v (.bool (decide (s7.2 < (a0.length : Int)))))] (by simp [-List.map_set, go_sem]) ?_
    repeat rw [pw_seq]
    refine pw_cond' (v := decide (s7.2 < (a0.length : Int))) (by simp [-List.map_set, go_sem]) (fun h16 => ?_) (fun h16 => ?_)
    · have hF17 := Rn_t hF14 h16
      try simp [-List.map_set, go_sem, h16]
      refine pw_wkL [(0, .v (.sl false 2 (a0.map row_ViewCount_z))), (1, .v (.int .i64 s7.1)), (5, .v (.int .i64 s7.2))] (by simp [-List.map_set, go_sem, h16]) ?_
      repeat rw [pw_seq]
      rw [pw_block]
      obtain ⟨x18, e19, hF20⟩ := Rn_bind hF17
      obtain ⟨g21, g22, g23⟩ := ix_some e19
      have g24 := ix_get e19
      try simp only [Int.toNat_natCast, Int.toNat_zero, Int.toNat_one, Int.reduceToNat] at g23 g24
      obtain ⟨z25, e26, hF27⟩ := Rn_bind hF20
      try simp [-List.map_set, go_sem, h16, g21, g22, g23, g24]
      refine pw_callE [.sh, .sh] rfl rfl (by (try simp [-List.map_set, go_sem, clE, h16, g21, g22, g23, g24]); first | rfl | done) (by rfl) (c_laws_heldIntS e26) (by (try simp [-List.map_set, go_sem, h16, g21, g22, g23, g24]); first | rfl | done) (fun r0 os0 ho0 => ?_)
      obtain ⟨ho1, ho2⟩ := ho0
      subst ho1
      subst ho2
      refine ⟨by simp [-List.map_set, go_sem, h16, g21, g22, g23, g24], ?_⟩
      try simp [-List.map_set, go_sem, h16, g21, g22, g23, g24]
      refine pw_wkL [(0, .v (.sl false 2 (a0.map row_ViewCount_z))), (1, .v (.int .i64 z25)), (5, .v (.int .i64 s7.2))] (by simp [-List.map_set, go_sem, h16, g21, g22, g23, g24]) ?_
      try simp [-List.map_set, go_sem, h16, g21, g22, g23, g24]
      refine pw_wkL [(0, .v (.sl false 2 (a0.map row_ViewCount_z))), (1, .v (.int .i64 z25)), (5, .v (.int .i64 s7.2)), (20, .v (.bool (decide (z25 < 0))))] (by simp [-List.map_set, go_sem, h16, g21, g22, g23, g24]) ?_
      repeat rw [pw_seq]
      refine pw_cond' (v := decide (z25 < 0)) (by simp [-List.map_set, go_sem, h16, g21, g22, g23, g24]) (fun h28 => ?_) (fun h28 => ?_)
      · have hF29 := Rn_t hF27 h28
        try simp [-List.map_set, go_sem, h16, g21, g22, g23, g24, h28]
        refine pw_wkL [(4, .v (.int .i64 (-1)))] (by simp [-List.map_set, go_sem, h16, g21, g22, g23, g24, h28]) ?_
        try simp [-List.map_set, go_sem, h16, g21, g22, g23, g24, h28]
        have h30 := Rn_some hF29
        have h31 := ho9 _ h30
        subst h31
        have h32 := hr2 _ hψ11
        have h33 := hΦ _ h32
        subst h33
        try simp [-List.map_set, go_sem, h16, g21, g22, g23, g24, h28]
      · have hF34 := Rn_f hF27 h28
        try simp [-List.map_set, go_sem, h16, g21, g22, g23, g24, h28]
        refine pw_wkL [(0, .v (.sl false 2 (a0.map row_ViewCount_z))), (1, .v (.int .i64 z25)), (5, .v (.int .i64 s7.2))] (by simp [-List.map_set, go_sem, h16, g21, g22, g23, g24, h28]) ?_
        try simp [-List.map_set, go_sem, h16, g21, g22, g23, g24, h28]
        refine pw_wkL [(0, .v (.sl false 2 (a0.map row_ViewCount_z))), (1, .v (.int .i64 z25)), (5, .v (.int .i64 s7.2)), (27, .v (.bool (x18.Times != z25)))] (by simp [-List.map_set, go_sem, h16, g21, g22, g23, g24, h28]) ?_
        repeat rw [pw_seq]
        refine pw_cond' (v := (x18.Times != z25)) (by simp [-List.map_set, go_sem, h16, g21, g22, g23, g24, h28]) (fun h35 => ?_) (fun h35 => ?_)
        · have hF36 := Rn_t hF34 h35
          try simp [-List.map_set, go_sem, h16, g21, g22, g23, g24, h28, h35]
          refine pw_wkL [(4, .v (.int .i64 (-1)))] (by simp [-List.map_set, go_sem, h16, g21, g22, g23, g24, h28, h35]) ?_
          try simp [-List.map_set, go_sem, h16, g21, g22, g23, g24, h28, h35]
          have h37 := Rn_some hF36
          have h38 := ho9 _ h37
          subst h38
          have h39 := hr2 _ hψ11
          have h40 := hΦ _ h39
          subst h40
          try simp [-List.map_set, go_sem, h16, g21, g22, g23, g24, h28, h35]
        · have hF41 := Rn_f hF34 h35
          try simp [-List.map_set, go_sem, h16, g21, g22, g23, g24, h28, h35]
          refine pw_wkL [(0, .v (.sl false 2 (a0.map row_ViewCount_z))), (1, .v (.int .i64 z25)), (5, .v (.int .i64 s7.2))] (by simp [-List.map_set, go_sem, h16, g21, g22, g23, g24, h28, h35]) ?_
          try simp [-List.map_set, go_sem, h16, g21, g22, g23, g24, h28, h35]
          refine pw_wkL [(0, .v (.sl false 2 (a0.map row_ViewCount_z))), (1, .v (.int .i64 (IntKind.i64.wrap (z25 + 1)))), (5, .v (.int .i64 s7.2))] (by simp [-List.map_set, go_sem, h16, g21, g22, g23, g24, h28, h35]) ?_
          try simp [-List.map_set, go_sem, h16, g21, g22, g23, g24, h28, h35]
          have h42 := Rn_some hF41
          exact hg10 (IntKind.i64.wrap (z25 + 1), IntKind.i64.wrap (s7.2 + 1)) _ (by simp [-List.map_set, go_sem, h16, g21, g22, g23, g24, h28, h35]) h42
    · have hF43 := Rn_f hF14 h16
      try simp [-List.map_set, go_sem, h16]
      have h44 := Rn_some hF43
      have h45 := ho9 _ h44
      subst h45
      exact hj1 s7.1 _ (by simp [-List.map_set, go_sem, h16]) hψ11
noncomputable def F_laws_FnExactProjectCounts (a0 : (List ViewCount)) (a1 : Int) (a2 : Int) : Option (Bool) :=
  (F_laws_szViewCountS a0 1048576).bind fun z1 =>
  if decide (z1 < 0) = true then (
  some true) else (
  (F_laws_toViewCountS a0).bind fun z9 =>
  (F_spec_ProjectCounts z9 a1 a2).bind fun z12 =>
  (F_laws_toViewCountS a0).bind fun z15 =>
  (F_impl_ProjectCounts z15 a1 a2).bind fun z18 =>
  (((F_laws_eqViewCountS z18.1 z12.1).bind fun z27 =>
  if (!z27) = true then (
  some true) else (
  some (z18.2 != z12.2)) : Option (Bool)).bind fun (x25 : Bool) =>
  if x25 = true then (
  some false) else (
  (F_laws_toViewCountS a0).bind fun z40 =>
  (F_laws_eqViewCountS z15 z40).bind fun z43 =>
  if (!z43) = true then (
  some false) else (
  (F_laws_markViewCountS__io0 z15 1).bind fun z51 =>
  ((if decide (z51.1 < 0) = true then (
  some true) else (
  (F_laws_eqViewCountS z18.1 z12.1).bind fun z64 =>
  if (!z64) = true then (
  some true) else (
  some (z18.2 != z12.2))) : Option (Bool)).bind fun (x58 : Bool) =>
  if x58 = true then (
  some false) else (
  (F_laws_markViewCountS__io0 z18.1 1).bind fun z77 =>
  (F_laws_heldViewCountS z77.2 1).bind fun z80 =>
  if decide (z80 < 0) = true then (
  some false) else (
  if (z80 != z77.1) = true then (
  some false) else (
  (F_laws_toViewCountS a0).bind fun z93 =>
  (F_impl_ProjectCounts z93 a1 a2).bind fun z96 =>
  (((F_laws_eqViewCountS z96.1 z12.1).bind fun z105 =>
  if (!z105) = true then (
  some true) else (
  some (z96.2 != z12.2)) : Option (Bool)).bind fun (x103 : Bool) =>
  if x103 = true then (
  some false) else (
  (F_laws_heldViewCountS z77.2 1).bind fun z118 =>
  if decide (z118 < 0) = true then (
  some false) else (
  if (z118 != z77.1) = true then (
  some false) else (
  some true))))))))))))
theorem c_laws_FnExactProjectCounts {a0 : (List ViewCount)} {a1 : Int} {a2 : Int} {r : Bool} (hr : F_laws_FnExactProjectCounts a0 a1 a2 = some r) : PCalls Try.prog 7 [(.sh, .sl false 2 (a0.map row_ViewCount_z)), (.sh, .int .i64 a1), (.sh, .int .i64 a2)] (fun o os => o = .bool r ∧ os = [.junk, .junk, .junk]) := by
  refine pcalls_lift (R := fun (r : Bool) o os => o = .bool r ∧ os = [.junk, .junk, .junk]) [25] [] hr cl7 Try.func7 rfl (by simp [Try.f7]) fun Φ hΦ hF => ?_
  unfold F_laws_FnExactProjectCounts at hF
  simp only [Try.f7, ioL_nil, ioL_sh, ioL_mv, ioL_io]
  try simp [-List.map_set, go_sem]
  refine pw_wkL [(0, .v (.sl false 2 (a0.map row_ViewCount_z))), (1, .v (.int .i64 a1)), (2, .v (.int .i64 a2))] (by simp [-List.map_set, go_sem]) ?_
  try simp [-List.map_set, go_sem]
  refine pw_wkL [(0, .v (.sl false 2 (a0.map row_ViewCount_z))), (1, .v (.int .i64 a1)), (2, .v (.int .i64 a2)), (7, .v (.int .i64 1048576))] (by simp [-List.map_set, go_sem]) ?_
  obtain ⟨z1, e2, hF3⟩ := Rn_bind hF
  try simp [-List.map_set, go_sem]
  refine pw_callE [.sh, .sh] rfl rfl (by (try simp [-List.map_set, go_sem, clE]); first | rfl | done) (by rfl) (c_laws_szViewCountS e2) (by (try simp [-List.map_set, go_sem]); first | rfl | done) (fun r0 os0 ho0 => ?_)
  obtain ⟨ho1, ho2⟩ := ho0
  subst ho1
  subst ho2
  refine ⟨by simp [-List.map_set, go_sem], ?_⟩
  try simp [-List.map_set, go_sem]
  refine pw_wkL [(0, .v (.sl false 2 (a0.map row_ViewCount_z))), (1, .v (.int .i64 a1)), (2, .v (.int .i64 a2)), (7, .v (.int .i64 z1))] (by simp [-List.map_set, go_sem]) ?_
  try simp [-List.map_set, go_sem]
  refine pw_wkL [(0, .v (.sl false 2 (a0.map row_ViewCount_z))), (1, .v (.int .i64 a1)), (2, .v (.int .i64 a2)), (22, .v (.bool (decide (z1 < 0))))] (by simp [-List.map_set, go_sem]) ?_
  repeat rw [pw_seq]
  refine pw_cond' (v := decide (z1 < 0)) (by simp [-List.map_set, go_sem]) (fun h4 => ?_) (fun h4 => ?_)
  · have hF5 := Rn_t hF3 h4
    try simp [-List.map_set, go_sem, h4]
    refine pw_wkL [(6, .v (.bool true))] (by simp [-List.map_set, go_sem, h4]) ?_
    try simp [-List.map_set, go_sem, h4]
    have h6 := Rn_some hF5
    have h7 := hΦ _ h6
    subst h7
    try simp [-List.map_set, go_sem, h4]
  · have hF8 := Rn_f hF3 h4
    try simp [-List.map_set, go_sem, h4]
    refine pw_wkL [(0, .v (.sl false 2 (a0.map row_ViewCount_z))), (1, .v (.int .i64 a1)), (2, .v (.int .i64 a2))] (by simp [-List.map_set, go_sem, h4]) ?_
    obtain ⟨z9, e10, hF11⟩ := Rn_bind hF8
    try simp [-List.map_set, go_sem, h4]
    refine pw_callE [.sh] rfl rfl (by (try simp [-List.map_set, go_sem, clE, h4]); first | rfl | done) (by rfl) (c_laws_toViewCountS e10) (by (try simp [-List.map_set, go_sem, h4]); first | rfl | done) (fun r0 os0 ho0 => ?_)
    obtain ⟨ho1, ho2⟩ := ho0
    subst ho1
    subst ho2
    refine ⟨by simp [-List.map_set, go_sem, h4], ?_⟩
    obtain ⟨z12, e13, hF14⟩ := Rn_bind hF11
    try simp [-List.map_set, go_sem, h4]
    refine pw_callE [.sh, .sh, .sh] rfl rfl (by (try simp [-List.map_set, go_sem, clE, h4]); first | rfl | done) (by rfl) (c_spec_ProjectCounts e13) (by (try simp [-List.map_set, go_sem, h4]); first | rfl | done) (fun r0 os0 ho0 => ?_)
    obtain ⟨ho1, ho2⟩ := ho0
    subst ho1
    subst ho2
    refine ⟨by simp [-List.map_set, go_sem, h4], ?_⟩
    try simp [-List.map_set, go_sem, h4]
    refine pw_wkL [(0, .v (.sl false 2 (a0.map row_ViewCount_z))), (1, .v (.int .i64 a1)), (2, .v (.int .i64 a2)), (8, .v (.sl true 2 (z12.1.map row_ViewCount_z))), (9, .v (.bool z12.2))] (by simp [-List.map_set, go_sem, h4]) ?_
    obtain ⟨z15, e16, hF17⟩ := Rn_bind hF14
    try simp [-List.map_set, go_sem, h4]
    refine pw_callE [.sh] rfl rfl (by (try simp [-List.map_set, go_sem, clE, h4]); first | rfl | done) (by rfl) (c_laws_toViewCountS e16) (by (try simp [-List.map_set, go_sem, h4]); first | rfl | done) (fun r0 os0 ho0 => ?_)
    obtain ⟨ho1, ho2⟩ := ho0
    subst ho1
    subst ho2
    refine ⟨by simp [-List.map_set, go_sem, h4], ?_⟩
    try simp [-List.map_set, go_sem, h4]
    refine pw_wkL [(0, .v (.sl false 2 (a0.map row_ViewCount_z))), (1, .v (.int .i64 a1)), (2, .v (.int .i64 a2)), (8, .v (.sl true 2 (z12.1.map row_ViewCount_z))), (9, .v (.bool z12.2)), (10, .v (.sl true 2 (z15.map row_ViewCount_o)))] (by simp [-List.map_set, go_sem, h4]) ?_
    obtain ⟨z18, e19, hF20⟩ := Rn_bind hF17
    try simp [-List.map_set, go_sem, h4]
    refine pw_callE [.sh, .sh, .sh] rfl rfl (by (try simp [-List.map_set, go_sem, clE, h4]); first | rfl | done) (by rfl) (c_impl_ProjectCounts e19) (by (try simp [-List.map_set, go_sem, h4]); first | rfl | done) (fun r0 os0 ho0 => ?_)
    obtain ⟨ho1, ho2⟩ := ho0
    subst ho1
    subst ho2
    refine ⟨by simp [-List.map_set, go_sem, h4], ?_⟩
    try simp [-List.map_set, go_sem, h4]
    refine pw_wkL [(0, .v (.sl false 2 (a0.map row_ViewCount_z))), (1, .v (.int .i64 a1)), (2, .v (.int .i64 a2)), (8, .v (.sl true 2 (z12.1.map row_ViewCount_z))), (9, .v (.bool z12.2)), (10, .v (.sl true 2 (z15.map row_ViewCount_o))), (11, .v (.sl true 2 (z18.1.map row_ViewCount_o))), (12, .v (.bool z18.2))] (by simp [-List.map_set, go_sem, h4]) ?_
    repeat rw [pw_seq]
    refine pw_joinF (fun (x25 : Bool) => [(0, .v (.sl false 2 (a0.map row_ViewCount_z))), (1, .v (.int .i64 a1)), (2, .v (.int .i64 a2)), (8, .v (.sl true 2 (z12.1.map row_ViewCount_z))), (9, .v (.bool z12.2)), (10, .v (.sl true 2 (z15.map row_ViewCount_o))), (11, .v (.sl true 2 (z18.1.map row_ViewCount_o))), (12, .v (.bool z18.2)), (48, .v (.bool x25))]) hF20 ?_ ?_
    · intro x25 hF26
      try dsimp only at hF26
      repeat rw [pw_seq]
      refine pw_cond' (v := x25) (by simp [-List.map_set, go_sem, h4]) (fun h35 => ?_) (fun h35 => ?_)
      · have hF36 := Rn_t hF26 h35
        try simp [-List.map_set, go_sem, h4, h35]
        refine pw_wkL [(6, .v (.bool false))] (by simp [-List.map_set, go_sem, h4, h35]) ?_
        try simp [-List.map_set, go_sem, h4, h35]
        have h37 := Rn_some hF36
        have h38 := hΦ _ h37
        subst h38
        try simp [-List.map_set, go_sem, h4, h35]
      · have hF39 := Rn_f hF26 h35
        try simp [-List.map_set, go_sem, h4, h35]
        refine pw_wkL [(0, .v (.sl false 2 (a0.map row_ViewCount_z))), (1, .v (.int .i64 a1)), (2, .v (.int .i64 a2)), (8, .v (.sl true 2 (z12.1.map row_ViewCount_z))), (9, .v (.bool z12.2)), (10, .v (.sl true 2 (z15.map row_ViewCount_o))), (11, .v (.sl true 2 (z18.1.map row_ViewCount_o))), (12, .v (.bool z18.2))] (by simp [-List.map_set, go_sem, h4, h35]) ?_
        obtain ⟨z40, e41, hF42⟩ := Rn_bind hF39
        try simp [-List.map_set, go_sem, h4, h35]
        refine pw_callE [.sh] rfl rfl (by (try simp [-List.map_set, go_sem, clE, h4, h35]); first | rfl | done) (by rfl) (c_laws_toViewCountS e41) (by (try simp [-List.map_set, go_sem, h4, h35]); first | rfl | done) (fun r0 os0 ho0 => ?_)
        obtain ⟨ho1, ho2⟩ := ho0
        subst ho1
        subst ho2
        refine ⟨by simp [-List.map_set, go_sem, h4, h35], ?_⟩
        obtain ⟨z43, e44, hF45⟩ := Rn_bind hF42
        try simp [-List.map_set, go_sem, h4, h35]
        refine pw_callE [.sh, .sh] rfl rfl (by (try simp [-List.map_set, go_sem, clE, h4, h35]); first | rfl | done) (by rfl) (c_laws_eqViewCountS e44) (by (try simp [-List.map_set, go_sem, h4, h35]); first | rfl | done) (fun r0 os0 ho0 => ?_)
        obtain ⟨ho1, ho2⟩ := ho0
        subst ho1
        subst ho2
        refine ⟨by simp [-List.map_set, go_sem, h4, h35], ?_⟩
        try simp [-List.map_set, go_sem, h4, h35]
        refine pw_wkL [(0, .v (.sl false 2 (a0.map row_ViewCount_z))), (1, .v (.int .i64 a1)), (2, .v (.int .i64 a2)), (8, .v (.sl true 2 (z12.1.map row_ViewCount_z))), (9, .v (.bool z12.2)), (10, .v (.sl true 2 (z15.map row_ViewCount_o))), (11, .v (.sl true 2 (z18.1.map row_ViewCount_o))), (12, .v (.bool z18.2)), (53, .v (.bool (!z43)))] (by simp [-List.map_set, go_sem, h4, h35]) ?_
        repeat rw [pw_seq]
        refine pw_cond' (v := (!z43)) (by simp [-List.map_set, go_sem, h4, h35]) (fun h46 => ?_) (fun h46 => ?_)
        · have hF47 := Rn_t hF45 h46
          try simp [-List.map_set, go_sem, h4, h35, h46]
          refine pw_wkL [(6, .v (.bool false))] (by simp [-List.map_set, go_sem, h4, h35, h46]) ?_
          try simp [-List.map_set, go_sem, h4, h35, h46]
          have h48 := Rn_some hF47
          have h49 := hΦ _ h48
          subst h49
          try simp [-List.map_set, go_sem, h4, h35, h46]
        · have hF50 := Rn_f hF45 h46
          try simp [-List.map_set, go_sem, h4, h35, h46]
          refine pw_wkL [(0, .v (.sl false 2 (a0.map row_ViewCount_z))), (1, .v (.int .i64 a1)), (2, .v (.int .i64 a2)), (8, .v (.sl true 2 (z12.1.map row_ViewCount_z))), (9, .v (.bool z12.2)), (10, .v (.sl true 2 (z15.map row_ViewCount_o))), (11, .v (.sl true 2 (z18.1.map row_ViewCount_o))), (12, .v (.bool z18.2))] (by simp [-List.map_set, go_sem, h4, h35, h46]) ?_
          try simp [-List.map_set, go_sem, h4, h35, h46]
          refine pw_wkL [(0, .v (.sl false 2 (a0.map row_ViewCount_z))), (1, .v (.int .i64 a1)), (2, .v (.int .i64 a2)), (8, .v (.sl true 2 (z12.1.map row_ViewCount_z))), (9, .v (.bool z12.2)), (10, .v (.sl true 2 (z15.map row_ViewCount_o))), (11, .v (.sl true 2 (z18.1.map row_ViewCount_o))), (12, .v (.bool z18.2)), (13, .v (.int .i64 1))] (by simp [-List.map_set, go_sem, h4, h35, h46]) ?_
          obtain ⟨z51, e52, hF53⟩ := Rn_bind hF50
          try simp [-List.map_set, go_sem, h4, h35, h46]
          refine pw_callE [.io, .sh] rfl rfl (by (try simp [-List.map_set, go_sem, clE, h4, h35, h46]); first | rfl | done) (by rfl) (c_laws_markViewCountS__io0 e52) (by (try simp [-List.map_set, go_sem, h4, h35, h46]); first | rfl | done) (fun r0 os0 ho0 => ?_)
          obtain ⟨ho1, ho2⟩ := ho0
          subst ho1
          subst ho2
          refine ⟨by simp [-List.map_set, go_sem, h4, h35, h46], ?_⟩
          try simp [-List.map_set, go_sem, h4, h35, h46]
          refine pw_wkL [(0, .v (.sl false 2 (a0.map row_ViewCount_z))), (1, .v (.int .i64 a1)), (2, .v (.int .i64 a2)), (8, .v (.sl true 2 (z12.1.map row_ViewCount_z))), (9, .v (.bool z12.2)), (11, .v (.sl true 2 (z18.1.map row_ViewCount_o))), (12, .v (.bool z18.2)), (13, .v (.int .i64 z51.1))] (by simp [-List.map_set, go_sem, h4, h35, h46]) ?_
          repeat rw [pw_seq]
          refine pw_joinF (fun (x58 : Bool) => [(0, .v (.sl false 2 (a0.map row_ViewCount_z))), (1, .v (.int .i64 a1)), (2, .v (.int .i64 a2)), (8, .v (.sl true 2 (z12.1.map row_ViewCount_z))), (9, .v (.bool z12.2)), (11, .v (.sl true 2 (z18.1.map row_ViewCount_o))), (69, .v (.bool x58))]) hF53 ?_ ?_
          · intro x58 hF59
            try dsimp only at hF59
            repeat rw [pw_seq]
            refine pw_cond' (v := x58) (by simp [-List.map_set, go_sem, h4, h35, h46]) (fun h72 => ?_) (fun h72 => ?_)
            · have hF73 := Rn_t hF59 h72
              try simp [-List.map_set, go_sem, h4, h35, h46, h72]
              refine pw_wkL [(6, .v (.bool false))] (by simp [-List.map_set, go_sem, h4, h35, h46, h72]) ?_
              try simp [-List.map_set, go_sem, h4, h35, h46, h72]
              have h74 := Rn_some hF73
              have h75 := hΦ _ h74
              subst h75
              try simp [-List.map_set, go_sem, h4, h35, h46, h72]
            · have hF76 := Rn_f hF59 h72
              try simp [-List.map_set, go_sem, h4, h35, h46, h72]
              refine pw_wkL [(0, .v (.sl false 2 (a0.map row_ViewCount_z))), (1, .v (.int .i64 a1)), (2, .v (.int .i64 a2)), (8, .v (.sl true 2 (z12.1.map row_ViewCount_z))), (9, .v (.bool z12.2)), (11, .v (.sl true 2 (z18.1.map row_ViewCount_o)))] (by simp [-List.map_set, go_sem, h4, h35, h46, h72]) ?_
              try simp [-List.map_set, go_sem, h4, h35, h46, h72]
              refine pw_wkL [(0, .v (.sl false 2 (a0.map row_ViewCount_z))), (1, .v (.int .i64 a1)), (2, .v (.int .i64 a2)), (8, .v (.sl true 2 (z12.1.map row_ViewCount_z))), (9, .v (.bool z12.2)), (11, .v (.sl true 2 (z18.1.map row_ViewCount_o))), (14, .v (.int .i64 1))] (by simp [-List.map_set, go_sem, h4, h35, h46, h72]) ?_
              obtain ⟨z77, e78, hF79⟩ := Rn_bind hF76
              try simp [-List.map_set, go_sem, h4, h35, h46, h72]
              refine pw_callE [.io, .sh] rfl rfl (by (try simp [-List.map_set, go_sem, clE, h4, h35, h46, h72]); first | rfl | done) (by rfl) (c_laws_markViewCountS__io0 e78) (by (try simp [-List.map_set, go_sem, h4, h35, h46, h72]); first | rfl | done) (fun r0 os0 ho0 => ?_)
              obtain ⟨ho1, ho2⟩ := ho0
              subst ho1
              subst ho2
              refine ⟨by simp [-List.map_set, go_sem, h4, h35, h46, h72], ?_⟩
              try simp [-List.map_set, go_sem, h4, h35, h46, h72]
              refine pw_wkL [(0, .v (.sl false 2 (a0.map row_ViewCount_z))), (1, .v (.int .i64 a1)), (2, .v (.int .i64 a2)), (8, .v (.sl true 2 (z12.1.map row_ViewCount_z))), (9, .v (.bool z12.2)), (11, .v (.sl true 2 (z77.2.map row_ViewCount_o))), (14, .v (.int .i64 z77.1))] (by simp [-List.map_set, go_sem, h4, h35, h46, h72]) ?_
              try simp [-List.map_set, go_sem, h4, h35, h46, h72]
              refine pw_wkL [(0, .v (.sl false 2 (a0.map row_ViewCount_z))), (1, .v (.int .i64 a1)), (2, .v (.int .i64 a2)), (8, .v (.sl true 2 (z12.1.map row_ViewCount_z))), (9, .v (.bool z12.2)), (11, .v (.sl true 2 (z77.2.map row_ViewCount_o))), (14, .v (.int .i64 z77.1)), (15, .v (.int .i64 1))] (by simp [-List.map_set, go_sem, h4, h35, h46, h72]) ?_
              obtain ⟨z80, e81, hF82⟩ := Rn_bind hF79
              try simp [-List.map_set, go_sem, h4, h35, h46, h72]
              refine pw_callE [.sh, .sh] rfl rfl (by (try simp [-List.map_set, go_sem, clE, h4, h35, h46, h72]); first | rfl | done) (by rfl) (c_laws_heldViewCountS e81) (by (try simp [-List.map_set, go_sem, h4, h35, h46, h72]); first | rfl | done) (fun r0 os0 ho0 => ?_)
              obtain ⟨ho1, ho2⟩ := ho0
              subst ho1
              subst ho2
              refine ⟨by simp [-List.map_set, go_sem, h4, h35, h46, h72], ?_⟩
              try simp [-List.map_set, go_sem, h4, h35, h46, h72]
              refine pw_wkL [(0, .v (.sl false 2 (a0.map row_ViewCount_z))), (1, .v (.int .i64 a1)), (2, .v (.int .i64 a2)), (8, .v (.sl true 2 (z12.1.map row_ViewCount_z))), (9, .v (.bool z12.2)), (11, .v (.sl true 2 (z77.2.map row_ViewCount_o))), (14, .v (.int .i64 z77.1)), (15, .v (.int .i64 z80))] (by simp [-List.map_set, go_sem, h4, h35, h46, h72]) ?_
              try simp [-List.map_set, go_sem, h4, h35, h46, h72]
              refine pw_wkL [(0, .v (.sl false 2 (a0.map row_ViewCount_z))), (1, .v (.int .i64 a1)), (2, .v (.int .i64 a2)), (8, .v (.sl true 2 (z12.1.map row_ViewCount_z))), (9, .v (.bool z12.2)), (11, .v (.sl true 2 (z77.2.map row_ViewCount_o))), (14, .v (.int .i64 z77.1)), (15, .v (.int .i64 z80)), (77, .v (.bool (decide (z80 < 0))))] (by simp [-List.map_set, go_sem, h4, h35, h46, h72]) ?_
              repeat rw [pw_seq]
              refine pw_cond' (v := decide (z80 < 0)) (by simp [-List.map_set, go_sem, h4, h35, h46, h72]) (fun h83 => ?_) (fun h83 => ?_)
              · have hF84 := Rn_t hF82 h83
                try simp [-List.map_set, go_sem, h4, h35, h46, h72, h83]
                refine pw_wkL [(6, .v (.bool false))] (by simp [-List.map_set, go_sem, h4, h35, h46, h72, h83]) ?_
                try simp [-List.map_set, go_sem, h4, h35, h46, h72, h83]
                have h85 := Rn_some hF84
                have h86 := hΦ _ h85
                subst h86
                try simp [-List.map_set, go_sem, h4, h35, h46, h72, h83]
              · have hF87 := Rn_f hF82 h83
                try simp [-List.map_set, go_sem, h4, h35, h46, h72, h83]
                refine pw_wkL [(0, .v (.sl false 2 (a0.map row_ViewCount_z))), (1, .v (.int .i64 a1)), (2, .v (.int .i64 a2)), (8, .v (.sl true 2 (z12.1.map row_ViewCount_z))), (9, .v (.bool z12.2)), (11, .v (.sl true 2 (z77.2.map row_ViewCount_o))), (14, .v (.int .i64 z77.1)), (15, .v (.int .i64 z80))] (by simp [-List.map_set, go_sem, h4, h35, h46, h72, h83]) ?_
                try simp [-List.map_set, go_sem, h4, h35, h46, h72, h83]
                refine pw_wkL [(0, .v (.sl false 2 (a0.map row_ViewCount_z))), (1, .v (.int .i64 a1)), (2, .v (.int .i64 a2)), (8, .v (.sl true 2 (z12.1.map row_ViewCount_z))), (9, .v (.bool z12.2)), (11, .v (.sl true 2 (z77.2.map row_ViewCount_o))), (14, .v (.int .i64 z77.1)), (80, .v (.bool (z80 != z77.1)))] (by simp [-List.map_set, go_sem, h4, h35, h46, h72, h83]) ?_
                repeat rw [pw_seq]
                refine pw_cond' (v := (z80 != z77.1)) (by simp [-List.map_set, go_sem, h4, h35, h46, h72, h83]) (fun h88 => ?_) (fun h88 => ?_)
                · have hF89 := Rn_t hF87 h88
                  try simp [-List.map_set, go_sem, h4, h35, h46, h72, h83, h88]
                  refine pw_wkL [(6, .v (.bool false))] (by simp [-List.map_set, go_sem, h4, h35, h46, h72, h83, h88]) ?_
                  try simp [-List.map_set, go_sem, h4, h35, h46, h72, h83, h88]
                  have h90 := Rn_some hF89
                  have h91 := hΦ _ h90
                  subst h91
                  try simp [-List.map_set, go_sem, h4, h35, h46, h72, h83, h88]
                · have hF92 := Rn_f hF87 h88
                  try simp [-List.map_set, go_sem, h4, h35, h46, h72, h83, h88]
                  refine pw_wkL [(0, .v (.sl false 2 (a0.map row_ViewCount_z))), (1, .v (.int .i64 a1)), (2, .v (.int .i64 a2)), (8, .v (.sl true 2 (z12.1.map row_ViewCount_z))), (9, .v (.bool z12.2)), (11, .v (.sl true 2 (z77.2.map row_ViewCount_o))), (14, .v (.int .i64 z77.1))] (by simp [-List.map_set, go_sem, h4, h35, h46, h72, h83, h88]) ?_
                  obtain ⟨z93, e94, hF95⟩ := Rn_bind hF92
                  try simp [-List.map_set, go_sem, h4, h35, h46, h72, h83, h88]
                  refine pw_callE [.sh] rfl rfl (by (try simp [-List.map_set, go_sem, clE, h4, h35, h46, h72, h83, h88]); first | rfl | done) (by rfl) (c_laws_toViewCountS e94) (by (try simp [-List.map_set, go_sem, h4, h35, h46, h72, h83, h88]); first | rfl | done) (fun r0 os0 ho0 => ?_)
                  obtain ⟨ho1, ho2⟩ := ho0
                  subst ho1
                  subst ho2
                  refine ⟨by simp [-List.map_set, go_sem, h4, h35, h46, h72, h83, h88], ?_⟩
                  obtain ⟨z96, e97, hF98⟩ := Rn_bind hF95
                  try simp [-List.map_set, go_sem, h4, h35, h46, h72, h83, h88]
                  refine pw_callE [.sh, .sh, .sh] rfl rfl (by (try simp [-List.map_set, go_sem, clE, h4, h35, h46, h72, h83, h88]); first | rfl | done) (by rfl) (c_impl_ProjectCounts e97) (by (try simp [-List.map_set, go_sem, h4, h35, h46, h72, h83, h88]); first | rfl | done) (fun r0 os0 ho0 => ?_)
                  obtain ⟨ho1, ho2⟩ := ho0
                  subst ho1
                  subst ho2
                  refine ⟨by simp [-List.map_set, go_sem, h4, h35, h46, h72, h83, h88], ?_⟩
                  try simp [-List.map_set, go_sem, h4, h35, h46, h72, h83, h88]
                  refine pw_wkL [(8, .v (.sl true 2 (z12.1.map row_ViewCount_z))), (9, .v (.bool z12.2)), (11, .v (.sl true 2 (z77.2.map row_ViewCount_o))), (14, .v (.int .i64 z77.1)), (16, .v (.sl true 2 (z96.1.map row_ViewCount_o))), (17, .v (.bool z96.2))] (by simp [-List.map_set, go_sem, h4, h35, h46, h72, h83, h88]) ?_
                  repeat rw [pw_seq]
                  refine pw_joinF (fun (x103 : Bool) => [(11, .v (.sl true 2 (z77.2.map row_ViewCount_o))), (14, .v (.int .i64 z77.1)), (97, .v (.bool x103))]) hF98 ?_ ?_
                  · intro x103 hF104
                    try dsimp only at hF104
                    repeat rw [pw_seq]
                    refine pw_cond' (v := x103) (by simp [-List.map_set, go_sem, h4, h35, h46, h72, h83, h88]) (fun h113 => ?_) (fun h113 => ?_)
                    · have hF114 := Rn_t hF104 h113
                      try simp [-List.map_set, go_sem, h4, h35, h46, h72, h83, h88, h113]
                      refine pw_wkL [(6, .v (.bool false))] (by simp [-List.map_set, go_sem, h4, h35, h46, h72, h83, h88, h113]) ?_
                      try simp [-List.map_set, go_sem, h4, h35, h46, h72, h83, h88, h113]
                      have h115 := Rn_some hF114
                      have h116 := hΦ _ h115
                      subst h116
                      try simp [-List.map_set, go_sem, h4, h35, h46, h72, h83, h88, h113]
                    · have hF117 := Rn_f hF104 h113
                      try simp [-List.map_set, go_sem, h4, h35, h46, h72, h83, h88, h113]
                      refine pw_wkL [(11, .v (.sl true 2 (z77.2.map row_ViewCount_o))), (14, .v (.int .i64 z77.1))] (by simp [-List.map_set, go_sem, h4, h35, h46, h72, h83, h88, h113]) ?_
                      try simp [-List.map_set, go_sem, h4, h35, h46, h72, h83, h88, h113]
                      refine pw_wkL [(11, .v (.sl true 2 (z77.2.map row_ViewCount_o))), (14, .v (.int .i64 z77.1)), (15, .v (.int .i64 1))] (by simp [-List.map_set, go_sem, h4, h35, h46, h72, h83, h88, h113]) ?_
                      obtain ⟨z118, e119, hF120⟩ := Rn_bind hF117
                      try simp [-List.map_set, go_sem, h4, h35, h46, h72, h83, h88, h113]
                      refine pw_callE [.sh, .sh] rfl rfl (by (try simp [-List.map_set, go_sem, clE, h4, h35, h46, h72, h83, h88, h113]); first | rfl | done) (by rfl) (c_laws_heldViewCountS e119) (by (try simp [-List.map_set, go_sem, h4, h35, h46, h72, h83, h88, h113]); first | rfl | done) (fun r0 os0 ho0 => ?_)
                      obtain ⟨ho1, ho2⟩ := ho0
                      subst ho1
                      subst ho2
                      refine ⟨by simp [-List.map_set, go_sem, h4, h35, h46, h72, h83, h88, h113], ?_⟩
                      try simp [-List.map_set, go_sem, h4, h35, h46, h72, h83, h88, h113]
                      refine pw_wkL [(14, .v (.int .i64 z77.1)), (15, .v (.int .i64 z118))] (by simp [-List.map_set, go_sem, h4, h35, h46, h72, h83, h88, h113]) ?_
                      try simp [-List.map_set, go_sem, h4, h35, h46, h72, h83, h88, h113]
                      refine pw_wkL [(14, .v (.int .i64 z77.1)), (15, .v (.int .i64 z118)), (102, .v (.bool (decide (z118 < 0))))] (by simp [-List.map_set, go_sem, h4, h35, h46, h72, h83, h88, h113]) ?_
                      repeat rw [pw_seq]
                      refine pw_cond' (v := decide (z118 < 0)) (by simp [-List.map_set, go_sem, h4, h35, h46, h72, h83, h88, h113]) (fun h121 => ?_) (fun h121 => ?_)
                      · have hF122 := Rn_t hF120 h121
                        try simp [-List.map_set, go_sem, h4, h35, h46, h72, h83, h88, h113, h121]
                        refine pw_wkL [(6, .v (.bool false))] (by simp [-List.map_set, go_sem, h4, h35, h46, h72, h83, h88, h113, h121]) ?_
                        try simp [-List.map_set, go_sem, h4, h35, h46, h72, h83, h88, h113, h121]
                        have h123 := Rn_some hF122
                        have h124 := hΦ _ h123
                        subst h124
                        try simp [-List.map_set, go_sem, h4, h35, h46, h72, h83, h88, h113, h121]
                      · have hF125 := Rn_f hF120 h121
                        try simp [-List.map_set, go_sem, h4, h35, h46, h72, h83, h88, h113, h121]
                        refine pw_wkL [(14, .v (.int .i64 z77.1)), (15, .v (.int .i64 z118))] (by simp [-List.map_set, go_sem, h4, h35, h46, h72, h83, h88, h113, h121]) ?_
                        try simp [-List.map_set, go_sem, h4, h35, h46, h72, h83, h88, h113, h121]
                        refine pw_wkL [(105, .v (.bool (z118 != z77.1)))] (by simp [-List.map_set, go_sem, h4, h35, h46, h72, h83, h88, h113, h121]) ?_
                        repeat rw [pw_seq]
                        refine pw_cond' (v := (z118 != z77.1)) (by simp [-List.map_set, go_sem, h4, h35, h46, h72, h83, h88, h113, h121]) (fun h126 => ?_) (fun h126 => ?_)
                        · have hF127 := Rn_t hF125 h126
                          try simp [-List.map_set, go_sem, h4, h35, h46, h72, h83, h88, h113, h121, h126]
                          refine pw_wkL [(6, .v (.bool false))] (by simp [-List.map_set, go_sem, h4, h35, h46, h72, h83, h88, h113, h121, h126]) ?_
                          try simp [-List.map_set, go_sem, h4, h35, h46, h72, h83, h88, h113, h121, h126]
                          have h128 := Rn_some hF127
                          have h129 := hΦ _ h128
                          subst h129
                          try simp [-List.map_set, go_sem, h4, h35, h46, h72, h83, h88, h113, h121, h126]
                        · have hF130 := Rn_f hF125 h126
                          try simp [-List.map_set, go_sem, h4, h35, h46, h72, h83, h88, h113, h121, h126]
                          refine pw_wkL [] (by simp [-List.map_set, go_sem, h4, h35, h46, h72, h83, h88, h113, h121, h126]) ?_
                          try simp [-List.map_set, go_sem, h4, h35, h46, h72, h83, h88, h113, h121, h126]
                          refine pw_wkL [(6, .v (.bool true))] (by simp [-List.map_set, go_sem, h4, h35, h46, h72, h83, h88, h113, h121, h126]) ?_
                          try simp [-List.map_set, go_sem, h4, h35, h46, h72, h83, h88, h113, h121, h126]
                          have h131 := Rn_some hF130
                          have h132 := hΦ _ h131
                          subst h132
                          try simp [-List.map_set, go_sem, h4, h35, h46, h72, h83, h88, h113, h121, h126]
                  · intro ψ101 hj99 hF102
                    obtain ⟨z105, e106, hF107⟩ := Rn_bind hF102
                    try simp [-List.map_set, go_sem, h4, h35, h46, h72, h83, h88]
                    refine pw_callE [.sh, .sh] rfl rfl (by (try simp [-List.map_set, go_sem, clE, h4, h35, h46, h72, h83, h88]); first | rfl | done) (by rfl) (c_laws_eqViewCountS e106) (by (try simp [-List.map_set, go_sem, h4, h35, h46, h72, h83, h88]); first | rfl | done) (fun r0 os0 ho0 => ?_)
                    obtain ⟨ho1, ho2⟩ := ho0
                    subst ho1
                    subst ho2
                    refine ⟨by simp [-List.map_set, go_sem, h4, h35, h46, h72, h83, h88], ?_⟩
                    try simp [-List.map_set, go_sem, h4, h35, h46, h72, h83, h88]
                    refine pwg_split (fun h108 => ?_) (fun h108 => ?_)
                    · have hF109 := Rn_t hF107 h108
                      try simp [-List.map_set, go_sem, h4, h35, h46, h72, h83, h88, h108]
                      have h110 := Rn_some hF109
                      exact hj99 true _ (by simp [-List.map_set, go_sem, h4, h35, h46, h72, h83, h88, h108]) h110
                    · have hF111 := Rn_f hF107 h108
                      try simp [-List.map_set, go_sem, h4, h35, h46, h72, h83, h88, h108]
                      have h112 := Rn_some hF111
                      exact hj99 (z96.2 != z12.2) _ (by simp [-List.map_set, go_sem, h4, h35, h46, h72, h83, h88, h108]) h112
          · intro ψ56 hj54 hF57
            try simp [-List.map_set, go_sem, h4, h35, h46]
            refine pwg_split (fun h60 => ?_) (fun h60 => ?_)
            · have hF61 := Rn_t hF57 h60
              try simp [-List.map_set, go_sem, h4, h35, h46, h60]
              have h62 := Rn_some hF61
              exact hj54 true _ (by simp [-List.map_set, go_sem, h4, h35, h46, h60]) h62
            · have hF63 := Rn_f hF57 h60
              obtain ⟨z64, e65, hF66⟩ := Rn_bind hF63
              try simp [-List.map_set, go_sem, h4, h35, h46, h60]
              refine pw_callE [.sh, .sh] rfl rfl (by (try simp [-List.map_set, go_sem, clE, h4, h35, h46, h60]); first | rfl | done) (by rfl) (c_laws_eqViewCountS e65) (by (try simp [-List.map_set, go_sem, h4, h35, h46, h60]); first | rfl | done) (fun r0 os0 ho0 => ?_)
              obtain ⟨ho1, ho2⟩ := ho0
              subst ho1
              subst ho2
              refine ⟨by simp [-List.map_set, go_sem, h4, h35, h46, h60], ?_⟩
              try simp [-List.map_set, go_sem, h4, h35, h46, h60]
              refine pwg_split (fun h67 => ?_) (fun h67 => ?_)
              · have hF68 := Rn_t hF66 h67
                try simp [-List.map_set, go_sem, h4, h35, h46, h60, h67]
                have h69 := Rn_some hF68
                exact hj54 true _ (by simp [-List.map_set, go_sem, h4, h35, h46, h60, h67]) h69
              · have hF70 := Rn_f hF66 h67
                try simp [-List.map_set, go_sem, h4, h35, h46, h60, h67]
                have h71 := Rn_some hF70
                exact hj54 (z18.2 != z12.2) _ (by simp [-List.map_set, go_sem, h4, h35, h46, h60, h67]) h71
    · intro ψ23 hj21 hF24
      obtain ⟨z27, e28, hF29⟩ := Rn_bind hF24
      try simp [-List.map_set, go_sem, h4]
      refine pw_callE [.sh, .sh] rfl rfl (by (try simp [-List.map_set, go_sem, clE, h4]); first | rfl | done) (by rfl) (c_laws_eqViewCountS e28) (by (try simp [-List.map_set, go_sem, h4]); first | rfl | done) (fun r0 os0 ho0 => ?_)
      obtain ⟨ho1, ho2⟩ := ho0
      subst ho1
      subst ho2
      refine ⟨by simp [-List.map_set, go_sem, h4], ?_⟩
      try simp [-List.map_set, go_sem, h4]
      refine pwg_split (fun h30 => ?_) (fun h30 => ?_)
      · have hF31 := Rn_t hF29 h30
        try simp [-List.map_set, go_sem, h4, h30]
        have h32 := Rn_some hF31
        exact hj21 true _ (by simp [-List.map_set, go_sem, h4, h30]) h32
      · have hF33 := Rn_f hF29 h30
        try simp [-List.map_set, go_sem, h4, h30]
        have h34 := Rn_some hF33
        exact hj21 (z18.2 != z12.2) _ (by simp [-List.map_set, go_sem, h4, h30]) h34
end Go.Pm
