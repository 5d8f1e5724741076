/-
  Plain functions and their walks. Written by wip/tools/lift.py.
-/
import Derived.Test.YthdjiekgolgmfaaM4
namespace Go.Pm
open Go.Am
open Go.Proofs
set_option maxRecDepth 100000
attribute [local irreducible] pw pwx pw1 pwg qv qz qf
set_option linter.unusedSimpArgs false
set_option linter.unusedVariables false
theorem c_impl_gathered {a0 : (List ViewCount)} {r : (List ViewCount) × Bool} (hr : F_impl_gathered a0 = some r) : PCalls Try.prog 79 [(.sh, .sl false 2 (a0.map row_ViewCount_z))] (fun o os => o = .tup [.sl true 2 (r.1.map row_ViewCount_o), .bool r.2] ∧ os = [.junk]) := by
  refine pcalls_lift (R := fun (r : (List ViewCount) × Bool) o os => o = .tup [.sl true 2 (r.1.map row_ViewCount_o), .bool r.2] ∧ os = [.junk]) [] [] hr cl79 Try.func79 rfl (by simp [Try.f79]) fun Φ hΦ hF => ?_
  unfold F_impl_gathered at hF
  simp only [Try.f79, ioL_nil, ioL_sh, ioL_mv, ioL_io]
  try simp [-List.map_set, go_sem]
  refine pw_wkL [(0, .v (.sl false 2 (a0.map row_ViewCount_z)))] (by simp [-List.map_set, go_sem]) ?_
  obtain ⟨z1, e2, hF3⟩ := Rn_bind hF
  try simp [-List.map_set, go_sem]
  refine pw_callE [.sh] rfl rfl (by (try simp [-List.map_set, go_sem, clE]); first | rfl | done) (by rfl) (c_slices_Clone_impl_ViewCount_impl_ViewCount e2) (by (try simp [-List.map_set, go_sem]); first | rfl | done) (fun r0 os0 ho0 => ?_)
  obtain ⟨ho1, ho2⟩ := ho0
  subst ho1
  subst ho2
  refine ⟨by simp [-List.map_set, go_sem], ?_⟩
  try simp [-List.map_set, go_sem]
  refine pw_wkL [(4, .v (.sl true 2 (z1.map row_ViewCount_z)))] (by simp [-List.map_set, go_sem]) ?_
  obtain ⟨z4, e5, hF6⟩ := Rn_bind hF3
  try simp [-List.map_set, go_sem]
  refine pw_callE [.io, .sh] rfl rfl (by (try simp [-List.map_set, go_sem, clE]); first | rfl | done) (by rfl) (c_slices_SortStableFunc_impl_ViewCount_impl_ViewCount__io0_impl_gathered_1 e5) (by (try simp [-List.map_set, go_sem]); first | rfl | done) (fun r0 os0 ho0 => ?_)
  obtain ⟨ho1, ho2⟩ := ho0
  subst ho1
  subst ho2
  refine ⟨by simp [-List.map_set, go_sem], ?_⟩
  try simp [-List.map_set, go_sem]
  refine pw_wkL [(4, .v (.sl true 2 (z4.map row_ViewCount_z)))] (by simp [-List.map_set, go_sem]) ?_
  try simp [-List.map_set, go_sem]
  refine pw_wkL [(4, .v (.sl true 2 (z4.map row_ViewCount_z))), (5, .v (.sl true 2 []))] (by simp [-List.map_set, go_sem]) ?_
  try simp [-List.map_set, go_sem]
  refine qln_some fun hl7 => ?_
  try simp [-List.map_set, go_sem]
  refine pw_wkL [(4, .v (.sl true 2 (z4.map row_ViewCount_z))), (5, .v (.sl true 2 [])), (14, .rf 4 []), (15, .v (.int .i64 (z4.length : Int))), (16, .v (.int .i64 0))] (by simp [-List.map_set, go_sem]) ?_
  repeat rw [pw_seq]
  refine pw_joinF (fun (x12 : (List ViewCount)) => [(5, .v (.sl true 2 (x12.map row_ViewCount_o)))]) hF6 ?_ ?_
  · intro x12 hF13
    try dsimp only at hF13
    obtain ⟨z141, e142, hF143⟩ := Rn_bind hF13
    try simp [-List.map_set, go_sem]
    refine pw_callE [.sh] rfl rfl (by (try simp [-List.map_set, go_sem, clE]); first | rfl | done) (by rfl) (c_impl_isCount e142) (by (try simp [-List.map_set, go_sem]); first | rfl | done) (fun r0 os0 ho0 => ?_)
    obtain ⟨ho1, ho2⟩ := ho0
    subst ho1
    subst ho2
    refine ⟨by simp [-List.map_set, go_sem], ?_⟩
    try simp [-List.map_set, go_sem]
    refine pw_wkL [(5, .v (.sl true 2 (x12.map row_ViewCount_o))), (57, .v (.bool (!z141)))] (by simp [-List.map_set, go_sem]) ?_
    repeat rw [pw_seq]
    refine pw_cond' (v := (!z141)) (by simp [-List.map_set, go_sem]) (fun h144 => ?_) (fun h144 => ?_)
    · have hF145 := Rn_t hF143 h144
      try simp [-List.map_set, go_sem, h144]
      refine pw_wkL [(2, .v (.sl true 2 [])), (3, .v (.bool false))] (by simp [-List.map_set, go_sem, h144]) ?_
      try simp [-List.map_set, go_sem, h144]
      have h146 := Rn_some hF145
      have h147 := hΦ _ h146
      subst h147
      try simp [-List.map_set, go_sem, h144]
    · have hF148 := Rn_f hF143 h144
      try simp [-List.map_set, go_sem, h144]
      refine pw_wkL [(5, .v (.sl true 2 (x12.map row_ViewCount_o)))] (by simp [-List.map_set, go_sem, h144]) ?_
      try simp [-List.map_set, go_sem, h144]
      refine pw_wkL [(2, .v (.sl true 2 (x12.map row_ViewCount_o))), (3, .v (.bool true))] (by simp [-List.map_set, go_sem, h144]) ?_
      try simp [-List.map_set, go_sem, h144]
      have h149 := Rn_some hF148
      have h150 := hΦ _ h149
      subst h150
      try simp [-List.map_set, go_sem, h144]
  · intro ψ10 hj8 hF11
    repeat rw [pw_seq]
    rw [pw_block]
    try simp [-List.map_set, go_sem]
    obtain ⟨b137, hb138, hψ77⟩ := hF11
    refine pw_rloop (fun (i74 : Int) (s73 : (List ViewCount)) => [(4, .v (.sl true 2 (z4.map row_ViewCount_z))), (5, .v (.sl true 2 (s73.map row_ViewCount_o))), (14, .rf 4 []), (15, .v (.int .i64 (z4.length : Int))), (16, .v (.int .i64 i74))]) hb138 (by simp [-List.map_set, go_sem]) ?_ ?_
    · intro s73 N140 hN139
      subst hN139
      try simp [-List.map_set, go_sem]
      refine pw_wk ?_
      repeat rw [pw_seq]
      refine pw_cond_f (by simp [-List.map_set, go_sem]) ?_
      try simp [-List.map_set, go_sem]
      exact hj8 s73 _ (by simp [-List.map_set, go_sem]) hψ77
    · intro i74 s73 φ78 N79 hi81 hi82 ho75 hg76 hF80
      try dsimp only at hF80
      rw [Int.zero_add] at hi82
      try simp [-List.map_set, go_sem, hi81, hi82]
      refine pw_wkL [(4, .v (.sl true 2 (z4.map row_ViewCount_z))), (5, .v (.sl true 2 (s73.map row_ViewCount_o))), (14, .rf 4 []), (15, .v (.int .i64 (z4.length : Int))), (16, .v (.int .i64 i74)), (17, .v (.bool (decide (i74 < (z4.length : Int)))))] (by simp [-List.map_set, go_sem, hi81, hi82]) ?_
      repeat rw [pw_seq]
      refine pw_cond_t (by simp [-List.map_set, go_sem, hi81, hi82]) ?_
      try simp [-List.map_set, go_sem, hi81, hi82]
      refine pw_wkL [(4, .v (.sl true 2 (z4.map row_ViewCount_z))), (5, .v (.sl true 2 (s73.map row_ViewCount_o))), (14, .rf 4 []), (15, .v (.int .i64 (z4.length : Int))), (16, .v (.int .i64 i74))] (by simp [-List.map_set, go_sem, hi81, hi82]) ?_
      repeat rw [pw_seq]
      refine pw_joinF (fun (x87 : (List ViewCount)) => [(4, .v (.sl true 2 (z4.map row_ViewCount_z))), (5, .v (.sl true 2 (x87.map row_ViewCount_o))), (14, .rf 4 []), (15, .v (.int .i64 (z4.length : Int))), (16, .v (.int .i64 i74))]) hF80 ?_ ?_
      · intro x87 hF88
        try dsimp only at hF88
        try simp [-List.map_set, go_sem, hi81, hi82]
        have h136 := Rn_some hF88
        have hw : IntKind.i64.wrap (i74 + 1) = i74 + 1 := wrI (by have h0 := hl7; simp [maxLen] at h0; omega)
        exact hg76 x87 _ (by simp [-List.map_set, go_sem, hi81, hi82, hw]) h136
      · intro ψ85 hj83 hF86
        repeat rw [pw_seq]
        rw [pw_block]
        obtain ⟨x89, e90, hF91⟩ := Rn_bind hF86
        obtain ⟨g92, g93, g94⟩ := ix_some e90
        have g95 := ix_get e90
        try simp only [Int.toNat_natCast, Int.toNat_zero, Int.toNat_one, Int.reduceToNat] at g94 g95
        try simp [-List.map_set, go_sem, hi81, hi82, g92, g93, g94, g95]
        refine pw_wkL [(4, .v (.sl true 2 (z4.map row_ViewCount_z))), (5, .v (.sl true 2 (s73.map row_ViewCount_o))), (7, .bl [.sl false 1 (x89.View.map row_i64), .int .i64 x89.Times]), (14, .rf 4 []), (15, .v (.int .i64 (z4.length : Int))), (16, .v (.int .i64 i74))] (by simp [-List.map_set, go_sem, hi81, hi82, g92, g93, g94, g95]) ?_
        try simp [-List.map_set, go_sem, hi81, hi82, g92, g93, g94, g95]
        refine qln_some fun hl96 => ?_
        try simp [-List.map_set, go_sem, hi81, hi82, g92, g93, g94, g95]
        refine pw_wkL [(4, .v (.sl true 2 (z4.map row_ViewCount_z))), (5, .v (.sl true 2 (s73.map row_ViewCount_o))), (7, .bl [.sl false 1 (x89.View.map row_i64), .int .i64 x89.Times]), (8, .v (.int .i64 (IntKind.i64.wrap ((s73.length : Int) - 1)))), (14, .rf 4 []), (15, .v (.int .i64 (z4.length : Int))), (16, .v (.int .i64 i74))] (by simp [-List.map_set, go_sem, hi81, hi82, g92, g93, g94, g95]) ?_
        repeat rw [pw_seq]
        refine pw_joinF (fun (x101 : Bool) => [(4, .v (.sl true 2 (z4.map row_ViewCount_z))), (5, .v (.sl true 2 (s73.map row_ViewCount_o))), (7, .bl [.sl false 1 (x89.View.map row_i64), .int .i64 x89.Times]), (8, .v (.int .i64 (IntKind.i64.wrap ((s73.length : Int) - 1)))), (14, .rf 4 []), (15, .v (.int .i64 (z4.length : Int))), (16, .v (.int .i64 i74)), (34, .v (.bool x101))]) hF91 ?_ ?_
        · intro x101 hF102
          try dsimp only at hF102
          repeat rw [pw_seq]
          refine pw_cond' (v := x101) (by simp [-List.map_set, go_sem, hi81, hi82, g92, g93, g94, g95]) (fun h118 => ?_) (fun h118 => ?_)
          · have hF119 := Rn_t hF102 h118
            repeat rw [pw_seq]
            refine pw_draw D79_9 follows (by kernel_rfl) rfl ?_
            try simp only [go_sem, D79_9]
            obtain ⟨x120, e121, hF122⟩ := Rn_bind hF119
            obtain ⟨g123, g124, g125⟩ := ix_some e121
            have g126 := ix_get e121
            try simp only [Int.toNat_natCast, Int.toNat_zero, Int.toNat_one, Int.reduceToNat] at g125 g126
            try simp [-List.map_set, go_sem, hi81, hi82, g92, g93, g94, g95, h118, g123, g124, g125, g126]
            have h127 := Rn_some hF122
            exact hj83 (s73.set ((IntKind.i64.wrap ((s73.length : Int) - 1)).toNat) (ViewCount.mk x120.View (IntKind.i64.wrap (x120.Times + x89.Times)))) _ (by simp [-List.map_set, go_sem, hi81, hi82, g92, g93, g94, g95, h118, g123, g124, g125, g126]) h127
          · have hF128 := Rn_f hF102 h118
            repeat rw [pw_seq]
            refine pw_draw D79_10 follows (by kernel_rfl) rfl ?_
            try simp only [go_sem, D79_10]
            obtain ⟨z129, e130, hF131⟩ := Rn_bind hF128
            try simp [-List.map_set, go_sem, hi81, hi82, g92, g93, g94, g95, h118]
            refine pw_callDE (by rfl) (by (try simp [-List.map_set, go_sem, clE, hi81, hi82, g92, g93, g94, g95, h118]); first | rfl | done) (by rfl) (c_slices_Clone_int_int e130) (by (try simp [-List.map_set, go_sem, hi81, hi82, g92, g93, g94, g95, h118]); first | rfl | done) (fun r0 os0 ho0 => ?_)
            obtain ⟨ho1, ho2⟩ := ho0
            subst ho1
            subst ho2
            refine ⟨by simp [-List.map_set, go_sem, hi81, hi82, g92, g93, g94, g95, h118], ?_⟩
            obtain ⟨g132, hF133⟩ := Rn_gd hF131
            have g134 := g132
            try simp at g134
            try simp [-List.map_set, go_sem, hi81, hi82, g92, g93, g94, g95, h118, g132, g134]
            have h135 := Rn_some hF133
            exact hj83 (s73 ++ [(ViewCount.mk z129 x89.Times)]) _ (by simp [-List.map_set, go_sem, hi81, hi82, g92, g93, g94, g95, h118, g132, g134]) h135
        · intro ψ99 hj97 hF100
          repeat rw [pw_seq]
          refine pw_draw D79_8 follows (by kernel_rfl) rfl ?_
          try simp only [go_sem, D79_8]
          try simp [-List.map_set, go_sem, hi81, hi82, g92, g93, g94, g95]
          refine pwgD_split (fun h103 => ?_) (fun h103 => ?_)
          · have hF104 := Rn_t hF100 h103
            obtain ⟨x105, e106, hF107⟩ := Rn_bind hF104
            obtain ⟨g108, g109, g110⟩ := ix_some e106
            have g111 := ix_get e106
            try simp only [Int.toNat_natCast, Int.toNat_zero, Int.toNat_one, Int.reduceToNat] at g110 g111
            obtain ⟨z112, e113, hF114⟩ := Rn_bind hF107
            try simp [-List.map_set, go_sem, hi81, hi82, g92, g93, g94, g95, h103, g108, g109, g110, g111]
            refine pw_callE [.sh, .sh] rfl rfl (by (try simp [-List.map_set, go_sem, clE, hi81, hi82, g92, g93, g94, g95, h103, g108, g109, g110, g111]); first | rfl | done) (by rfl) (c_slices_Equal_int_int e113) (by (try simp [-List.map_set, go_sem, hi81, hi82, g92, g93, g94, g95, h103, g108, g109, g110, g111]); first | rfl | done) (fun r0 os0 ho0 => ?_)
            obtain ⟨ho1, ho2⟩ := ho0
            subst ho1
            subst ho2
            refine ⟨by simp [-List.map_set, go_sem, hi81, hi82, g92, g93, g94, g95, h103, g108, g109, g110, g111], ?_⟩
            try simp [-List.map_set, go_sem, hi81, hi82, g92, g93, g94, g95, h103, g108, g109, g110, g111]
            have h115 := Rn_some hF114
            exact hj97 z112 _ (by simp [-List.map_set, go_sem, hi81, hi82, g92, g93, g94, g95, h103, g108, g109, g110, g111]) h115
          · have hF116 := Rn_f hF100 h103
            try simp [-List.map_set, go_sem, hi81, hi82, g92, g93, g94, g95, h103]
            have h117 := Rn_some hF116
            exact hj97 false _ (by simp [-List.map_set, go_sem, hi81, hi82, g92, g93, g94, g95, h103]) h117
noncomputable def F_impl_countedViews (a0 : (List (List Int))) : Option ((List ViewCount) × Bool) :=
  ((rloop (σ := (List ViewCount)) (β := (List ViewCount)) (fun i9 s8 =>
  (ix a0 i9).bind fun x18 =>
  gd ((s8.length + 1) * 32 ≤ 140737488355328 ∧ s8.length + 1 ≤ 4611686018427387904) <|
  some (.go (s8 ++ [(ViewCount.mk x18 1)]))) (fun s8 => s8) (a0.length) 0 [] : Option ((List ViewCount))).bind fun (x6 : (List ViewCount)) =>
  (F_impl_gathered x6).bind fun z33 =>
  some (z33.1, z33.2))
theorem c_impl_countedViews {a0 : (List (List Int))} {r : (List ViewCount) × Bool} (hr : F_impl_countedViews a0 = some r) : PCalls Try.prog 75 [(.sh, .sl false 1 (a0.map row_zi64))] (fun o os => o = .tup [.sl true 2 (r.1.map row_ViewCount_o), .bool r.2] ∧ os = [.junk]) := by
  refine pcalls_lift (R := fun (r : (List ViewCount) × Bool) o os => o = .tup [.sl true 2 (r.1.map row_ViewCount_o), .bool r.2] ∧ os = [.junk]) [] [] hr cl75 Try.func75 rfl (by simp [Try.f75]) fun Φ hΦ hF => ?_
  unfold F_impl_countedViews at hF
  simp only [Try.f75, ioL_nil, ioL_sh, ioL_mv, ioL_io]
  try simp [-List.map_set, go_sem]
  refine pw_wkL [(0, .v (.sl false 1 (a0.map row_zi64)))] (by simp [-List.map_set, go_sem]) ?_
  try simp [-List.map_set, go_sem]
  refine pw_wkL [(0, .v (.sl false 1 (a0.map row_zi64))), (4, .v (.sl true 2 []))] (by simp [-List.map_set, go_sem]) ?_
  try simp [-List.map_set, go_sem]
  refine qln_some fun hl1 => ?_
  try simp [-List.map_set, go_sem]
  refine pw_wkL [(4, .v (.sl true 2 [])), (8, .v (.sl false 1 (a0.map row_zi64))), (9, .v (.int .i64 (a0.length : Int))), (10, .v (.int .i64 0))] (by simp [-List.map_set, go_sem]) ?_
  repeat rw [pw_seq]
  refine pw_joinF (fun (x6 : (List ViewCount)) => [(4, .v (.sl true 2 (x6.map row_ViewCount_z)))]) hF ?_ ?_
  · intro x6 hF7
    try dsimp only at hF7
    obtain ⟨z33, e34, hF35⟩ := Rn_bind hF7
    try simp [-List.map_set, go_sem]
    refine pw_callE [.sh] rfl rfl (by (try simp [-List.map_set, go_sem, clE]); first | rfl | done) (by rfl) (c_impl_gathered e34) (by (try simp [-List.map_set, go_sem]); first | rfl | done) (fun r0 os0 ho0 => ?_)
    obtain ⟨ho1, ho2⟩ := ho0
    subst ho1
    subst ho2
    refine ⟨by simp [-List.map_set, go_sem], ?_⟩
    try simp [-List.map_set, go_sem]
    refine pw_wkL [(2, .v (.sl true 2 (z33.1.map row_ViewCount_o))), (3, .v (.bool z33.2))] (by simp [-List.map_set, go_sem]) ?_
    try simp [-List.map_set, go_sem]
    have h36 := Rn_some hF35
    have h37 := hΦ _ h36
    subst h37
    try simp [-List.map_set, go_sem]
  · intro ψ4 hj2 hF5
    repeat rw [pw_seq]
    rw [pw_block]
    try simp [-List.map_set, go_sem]
    obtain ⟨b29, hb30, hψ12⟩ := hF5
    refine pw_rloop (fun (i9 : Int) (s8 : (List ViewCount)) => [(4, .v (.sl true 2 (s8.map row_ViewCount_z))), (8, .v (.sl false 1 (a0.map row_zi64))), (9, .v (.int .i64 (a0.length : Int))), (10, .v (.int .i64 i9))]) hb30 (by simp [-List.map_set, go_sem]) ?_ ?_
    · intro s8 N32 hN31
      subst hN31
      try simp [-List.map_set, go_sem]
      refine pw_wk ?_
      repeat rw [pw_seq]
      refine pw_cond_f (by simp [-List.map_set, go_sem]) ?_
      try simp [-List.map_set, go_sem]
      exact hj2 s8 _ (by simp [-List.map_set, go_sem]) hψ12
    · intro i9 s8 φ13 N14 hi16 hi17 ho10 hg11 hF15
      try dsimp only at hF15
      rw [Int.zero_add] at hi17
      try simp [-List.map_set, go_sem, hi16, hi17]
      refine pw_wkL [(4, .v (.sl true 2 (s8.map row_ViewCount_z))), (8, .v (.sl false 1 (a0.map row_zi64))), (9, .v (.int .i64 (a0.length : Int))), (10, .v (.int .i64 i9)), (11, .v (.bool (decide (i9 < (a0.length : Int)))))] (by simp [-List.map_set, go_sem, hi16, hi17]) ?_
      repeat rw [pw_seq]
      refine pw_cond_t (by simp [-List.map_set, go_sem, hi16, hi17]) ?_
      try simp [-List.map_set, go_sem, hi16, hi17]
      refine pw_wkL [(4, .v (.sl true 2 (s8.map row_ViewCount_z))), (8, .v (.sl false 1 (a0.map row_zi64))), (9, .v (.int .i64 (a0.length : Int))), (10, .v (.int .i64 i9))] (by simp [-List.map_set, go_sem, hi16, hi17]) ?_
      repeat rw [pw_seq]
      rw [pw_block]
      obtain ⟨x18, e19, hF20⟩ := Rn_bind hF15
      obtain ⟨g21, g22, g23⟩ := ix_some e19
      have g24 := ix_get e19
      try simp only [Int.toNat_natCast, Int.toNat_zero, Int.toNat_one, Int.reduceToNat] at g23 g24
      try simp [-List.map_set, go_sem, hi16, hi17, g21, g22, g23, g24]
      refine pw_wkL [(4, .v (.sl true 2 (s8.map row_ViewCount_z))), (6, .v (.sl false 1 (x18.map row_i64))), (8, .v (.sl false 1 (a0.map row_zi64))), (9, .v (.int .i64 (a0.length : Int))), (10, .v (.int .i64 i9))] (by simp [-List.map_set, go_sem, hi16, hi17, g21, g22, g23, g24]) ?_
      obtain ⟨g25, hF26⟩ := Rn_gd hF20
      have g27 := g25
      try simp at g27
      try simp [-List.map_set, go_sem, hi16, hi17, g21, g22, g23, g24, g25, g27]
      refine pw_wkL [(4, .v (.sl true 2 ((s8 ++ [(ViewCount.mk x18 1)]).map row_ViewCount_z))), (8, .v (.sl false 1 (a0.map row_zi64))), (9, .v (.int .i64 (a0.length : Int))), (10, .v (.int .i64 i9))] (by simp [-List.map_set, go_sem, hi16, hi17, g21, g22, g23, g24, g25, g27]) ?_
      try simp [-List.map_set, go_sem, hi16, hi17, g21, g22, g23, g24, g25, g27]
      have h28 := Rn_some hF26
      have hw : IntKind.i64.wrap (i9 + 1) = i9 + 1 := wrI (by have h0 := hl1; simp [maxLen] at h0; omega)
      exact hg11 (s8 ++ [(ViewCount.mk x18 1)]) _ (by simp [-List.map_set, go_sem, hi16, hi17, g21, g22, g23, g24, g25, g27, hw]) h28
noncomputable def F_impl_BlindViews (a0 : Int) (a1 : Int) (a2 : Int) : Option ((List ViewCount) × Bool) :=
  ((if decide (23 < a0) = true then (
  some true) else (
  (F_impl_isPrime a0).bind fun z11 =>
  if (!z11) = true then (
  some true) else (
  (F_impl_within a1 0 (IntKind.i64.wrap (a0 - 1))).bind fun z18 =>
  if (!z18) = true then (
  some true) else (
  (F_impl_within a2 1 3).bind fun z25 =>
  some (!z25)))) : Option (Bool)).bind fun (x5 : Bool) =>
  if x5 = true then (
  some ([], false)) else (
  ((wloop (σ := Int × Int) (β := Int) (fun s40 =>
  if decide (s40.2 < a2) = true then (
  some (.go (IntKind.i64.wrap (s40.1 * (IntKind.i64.wrap (a0 - 1))), IntKind.i64.wrap (s40.2 + 1)))) else (
  some (.out s40.1))) (1, 0) : Option (Int)).bind fun (x38 : Int) =>
  ((wloop (σ := (List (List Int)) × Int) (β := (List (List Int))) (fun s103 =>
  if decide (s103.2 < x38) = true then (
  ((wloop (σ := Int × Int × Int) (β := Int) (fun s119 =>
  if decide (s119.2.1 < a2) = true then (
  gd (IntKind.i64.wrap (a0 - 1) ≠ 0) <|
  gd (IntKind.i64.wrap (a0 - 1) ≠ 0) <|
  some (.go (IntKind.i64.wrap (s119.1 + (IntKind.i64.wrap (1 + (s119.2.2.tmod (IntKind.i64.wrap (a0 - 1)))))), IntKind.i64.wrap (s119.2.1 + 1), IntKind.i64.wrap (s119.2.2.tdiv (IntKind.i64.wrap (a0 - 1)))))) else (
  some (.out s119.1))) (0, 0, s103.2) : Option (Int)).bind fun (x117 : Int) =>
  gd (a0 ≠ 0) <|
  gd ((s103.1.length + 1) * 24 ≤ 140737488355328 ∧ s103.1.length + 1 ≤ 4611686018427387904) <|
  some (.go (s103.1 ++ [[(IntKind.i64.wrap (a1 * x117)).tmod a0]], IntKind.i64.wrap (s103.2 + 1))))) else (
  some (.out s103.1))) ([], 0) : Option ((List (List Int)))).bind fun (x60 : (List (List Int))) =>
  (F_impl_countedViews x60).bind fun z153 =>
  some (z153.1, z153.2)))))
theorem c_impl_BlindViews {a0 : Int} {a1 : Int} {a2 : Int} {r : (List ViewCount) × Bool} (hr : F_impl_BlindViews a0 a1 a2 = some r) : PCalls Try.prog 24 [(.sh, .int .i64 a0), (.sh, .int .i64 a1), (.sh, .int .i64 a2)] (fun o os => o = .tup [.sl true 2 (r.1.map row_ViewCount_o), .bool r.2] ∧ os = [.junk, .junk, .junk]) := by
  refine pcalls_lift (R := fun (r : (List ViewCount) × Bool) o os => o = .tup [.sl true 2 (r.1.map row_ViewCount_o), .bool r.2] ∧ os = [.junk, .junk, .junk]) [] [] hr cl24 Try.func24 rfl (by simp [Try.f24]) fun Φ hΦ hF => ?_
  unfold F_impl_BlindViews at hF
  simp only [Try.f24, ioL_nil, ioL_sh, ioL_mv, ioL_io]
  try simp [-List.map_set, go_sem]
  refine pw_wkL [(0, .v (.int .i64 a0)), (1, .v (.int .i64 a1)), (2, .v (.int .i64 a2))] (by simp [-List.map_set, go_sem]) ?_
  repeat rw [pw_seq]
  refine pw_joinF (fun (x5 : Bool) => [(0, .v (.int .i64 a0)), (1, .v (.int .i64 a1)), (2, .v (.int .i64 a2)), (32, .v (.bool x5))]) hF ?_ ?_
  · intro x5 hF6
    try dsimp only at hF6
    repeat rw [pw_seq]
    refine pw_cond' (v := x5) (by simp [-List.map_set, go_sem]) (fun h29 => ?_) (fun h29 => ?_)
    · have hF30 := Rn_t hF6 h29
      try simp [-List.map_set, go_sem, h29]
      refine pw_wkL [(6, .v (.sl true 2 [])), (7, .v (.bool false))] (by simp [-List.map_set, go_sem, h29]) ?_
      try simp [-List.map_set, go_sem, h29]
      have h31 := Rn_some hF30
      have h32 := hΦ _ h31
      subst h32
      try simp [-List.map_set, go_sem, h29]
    · have hF33 := Rn_f hF6 h29
      try simp [-List.map_set, go_sem, h29]
      refine pw_wkL [(0, .v (.int .i64 a0)), (1, .v (.int .i64 a1)), (2, .v (.int .i64 a2))] (by simp [-List.map_set, go_sem, h29]) ?_
      try simp [-List.map_set, go_sem, h29]
      refine pw_wkL [(0, .v (.int .i64 a0)), (1, .v (.int .i64 a1)), (2, .v (.int .i64 a2)), (8, .v (.sl true 1 [])), (9, .v (.int .i64 1))] (by simp [-List.map_set, go_sem, h29]) ?_
      try simp [-List.map_set, go_sem, h29]
      refine pw_wkL [(0, .v (.int .i64 a0)), (1, .v (.int .i64 a1)), (2, .v (.int .i64 a2)), (8, .v (.sl true 1 [])), (9, .v (.int .i64 1)), (34, .v (.int .i64 a2)), (35, .v (.int .i64 0))] (by simp [-List.map_set, go_sem, h29]) ?_
      repeat rw [pw_seq]
      refine pw_joinF (fun (x38 : Int) => [(0, .v (.int .i64 a0)), (1, .v (.int .i64 a1)), (2, .v (.int .i64 a2)), (8, .v (.sl true 1 [])), (9, .v (.int .i64 x38))]) hF33 ?_ ?_
      · intro x38 hF39
        try dsimp only at hF39
        try simp [-List.map_set, go_sem, h29]
        refine pw_wkL [(0, .v (.int .i64 a0)), (1, .v (.int .i64 a1)), (2, .v (.int .i64 a2)), (8, .v (.sl true 1 [])), (42, .v (.int .i64 x38)), (43, .v (.int .i64 0))] (by simp [-List.map_set, go_sem, h29]) ?_
        repeat rw [pw_seq]
        refine pw_joinF (fun (x60 : (List (List Int))) => [(8, .v (.sl true 1 (x60.map row_oi64)))]) hF39 ?_ ?_
        · intro x60 hF61
          try dsimp only at hF61
          obtain ⟨z153, e154, hF155⟩ := Rn_bind hF61
          try simp [-List.map_set, go_sem, h29]
          refine pw_callE [.sh] rfl rfl (by (try simp [-List.map_set, go_sem, clE, h29]); first | rfl | done) (by rfl) (c_impl_countedViews e154) (by (try simp [-List.map_set, go_sem, h29]); first | rfl | done) (fun r0 os0 ho0 => ?_)
          obtain ⟨ho1, ho2⟩ := ho0
          subst ho1
          subst ho2
          refine ⟨by simp [-List.map_set, go_sem, h29], ?_⟩
          try simp [-List.map_set, go_sem, h29]
          refine pw_wkL [(6, .v (.sl true 2 (z153.1.map row_ViewCount_o))), (7, .v (.bool z153.2))] (by simp [-List.map_set, go_sem, h29]) ?_
          try simp [-List.map_set, go_sem, h29]
          have h156 := Rn_some hF155
          have h157 := hΦ _ h156
          subst h157
          try simp [-List.map_set, go_sem, h29]
        · intro ψ58 hj56 hF59
          repeat rw [pw_seq]
          rw [pw_block]
          try simp [-List.map_set, go_sem]
          obtain ⟨b151, hb152, hψ107⟩ := hF59
          refine pw_wloop (fun (s103 : (List (List Int)) × Int) => [(0, .v (.int .i64 a0)), (1, .v (.int .i64 a1)), (2, .v (.int .i64 a2)), (8, .v (.sl true 1 (s103.1.map row_oi64))), (42, .v (.int .i64 x38)), (43, .v (.int .i64 s103.2))]) hb152 (by simp [-List.map_set, go_sem, h29]) ?_
          intro s103 φ108 N109 ho105 hg106 hF110
          try dsimp only at hF110
          try simp [-List.map_set, go_sem, h29]
          refine pw_wkL [(0, .v (.int .i64 a0)), (1, .v (.int .i64 a1)), (2, .v (.int .i64 a2)), (8, .v (.sl true 1 (s103.1.map row_oi64))), (42, .v (.int .i64 x38)), (43, .v (.int .i64 s103.2)), (44, .v (.bool (decide (s103.2 < x38))))] (by simp [-List.map_set, go_sem, h29]) ?_
          repeat rw [pw_seq]
          refine pw_cond' (v := decide (s103.2 < x38)) (by simp [-List.map_set, go_sem, h29]) (fun h111 => ?_) (fun h111 => ?_)
          · have hF112 := Rn_t hF110 h111
            try simp [-List.map_set, go_sem, h29, h111]
            refine pw_wkL [(0, .v (.int .i64 a0)), (1, .v (.int .i64 a1)), (2, .v (.int .i64 a2)), (8, .v (.sl true 1 (s103.1.map row_oi64))), (42, .v (.int .i64 x38)), (43, .v (.int .i64 s103.2))] (by simp [-List.map_set, go_sem, h29, h111]) ?_
            repeat rw [pw_seq]
            rw [pw_block]
            try simp [-List.map_set, go_sem, h29, h111]
            refine pw_wkL [(0, .v (.int .i64 a0)), (1, .v (.int .i64 a1)), (2, .v (.int .i64 a2)), (8, .v (.sl true 1 (s103.1.map row_oi64))), (10, .v (.int .i64 s103.2)), (42, .v (.int .i64 x38)), (43, .v (.int .i64 s103.2))] (by simp [-List.map_set, go_sem, h29, h111]) ?_
            try simp [-List.map_set, go_sem, h29, h111]
            refine pw_wkL [(0, .v (.int .i64 a0)), (1, .v (.int .i64 a1)), (2, .v (.int .i64 a2)), (8, .v (.sl true 1 (s103.1.map row_oi64))), (10, .v (.int .i64 s103.2)), (11, .v (.int .i64 0)), (42, .v (.int .i64 x38)), (43, .v (.int .i64 s103.2))] (by simp [-List.map_set, go_sem, h29, h111]) ?_
            try simp [-List.map_set, go_sem, h29, h111]
            refine pw_wkL [(0, .v (.int .i64 a0)), (1, .v (.int .i64 a1)), (2, .v (.int .i64 a2)), (8, .v (.sl true 1 (s103.1.map row_oi64))), (11, .v (.int .i64 0)), (12, .v (.int .i64 0)), (13, .v (.int .i64 s103.2)), (42, .v (.int .i64 x38)), (43, .v (.int .i64 s103.2))] (by simp [-List.map_set, go_sem, h29, h111]) ?_
            repeat rw [pw_seq]
            refine pw_joinF (fun (x117 : Int) => [(0, .v (.int .i64 a0)), (1, .v (.int .i64 a1)), (2, .v (.int .i64 a2)), (8, .v (.sl true 1 (s103.1.map row_oi64))), (11, .v (.int .i64 x117)), (42, .v (.int .i64 x38)), (43, .v (.int .i64 s103.2))]) hF112 ?_ ?_
            · intro x117 hF118
              try dsimp only at hF118
              obtain ⟨g141, hF142⟩ := Rn_gd hF118
              have g143 := fun x => divV_ne (x := x) g141
              obtain ⟨g144, hF145⟩ := Rn_gd hF142
              have g146 := g144
              try simp at g146
              try simp [-List.map_set, go_sem, h29, h111, g141, g143, g144, g146]
              refine pw_wkL [(0, .v (.int .i64 a0)), (1, .v (.int .i64 a1)), (2, .v (.int .i64 a2)), (8, .v (.sl true 1 ((s103.1 ++ [[(IntKind.i64.wrap (a1 * x117)).tmod a0]]).map row_oi64))), (42, .v (.int .i64 x38)), (43, .v (.int .i64 s103.2))] (by simp [-List.map_set, go_sem, h29, h111, g141, g143, g144, g146]) ?_
              try simp [-List.map_set, go_sem, h29, h111, g141, g143, g144, g146]
              have h147 := Rn_some hF145
              exact hg106 (s103.1 ++ [[(IntKind.i64.wrap (a1 * x117)).tmod a0]], IntKind.i64.wrap (s103.2 + 1)) _ (by simp [-List.map_set, go_sem, h29, h111, g141, g143, g144, g146]) h147
            · intro ψ115 hj113 hF116
              repeat rw [pw_seq]
              rw [pw_block]
              try simp [-List.map_set, go_sem]
              obtain ⟨b139, hb140, hψ123⟩ := hF116
              refine pw_wloop (fun (s119 : Int × Int × Int) => [(0, .v (.int .i64 a0)), (1, .v (.int .i64 a1)), (2, .v (.int .i64 a2)), (8, .v (.sl true 1 (s103.1.map row_oi64))), (11, .v (.int .i64 s119.1)), (12, .v (.int .i64 s119.2.1)), (13, .v (.int .i64 s119.2.2)), (42, .v (.int .i64 x38)), (43, .v (.int .i64 s103.2))]) hb140 (by simp [-List.map_set, go_sem, h29, h111]) ?_
              intro s119 φ124 N125 ho121 hg122 hF126
              try dsimp only at hF126
              try simp [-List.map_set, go_sem, h29, h111]
              refine pw_wkL [(0, .v (.int .i64 a0)), (1, .v (.int .i64 a1)), (2, .v (.int .i64 a2)), (8, .v (.sl true 1 (s103.1.map row_oi64))), (11, .v (.int .i64 s119.1)), (12, .v (.int .i64 s119.2.1)), (13, .v (.int .i64 s119.2.2)), (42, .v (.int .i64 x38)), (43, .v (.int .i64 s103.2)), (49, .v (.bool (decide (s119.2.1 < a2))))] (by simp [-List.map_set, go_sem, h29, h111]) ?_
              repeat rw [pw_seq]
              refine pw_cond' (v := decide (s119.2.1 < a2)) (by simp [-List.map_set, go_sem, h29, h111]) (fun h127 => ?_) (fun h127 => ?_)
              · have hF128 := Rn_t hF126 h127
                try simp [-List.map_set, go_sem, h29, h111, h127]
                refine pw_wkL [(0, .v (.int .i64 a0)), (1, .v (.int .i64 a1)), (2, .v (.int .i64 a2)), (8, .v (.sl true 1 (s103.1.map row_oi64))), (11, .v (.int .i64 s119.1)), (12, .v (.int .i64 s119.2.1)), (13, .v (.int .i64 s119.2.2)), (42, .v (.int .i64 x38)), (43, .v (.int .i64 s103.2))] (by simp [-List.map_set, go_sem, h29, h111, h127]) ?_
                repeat rw [pw_seq]
                rw [pw_block]
                obtain ⟨g129, hF130⟩ := Rn_gd hF128
                have g131 := fun x => divV_ne (x := x) g129
                try simp [-List.map_set, go_sem, h29, h111, h127, g129, g131]
                refine pw_wkL [(0, .v (.int .i64 a0)), (1, .v (.int .i64 a1)), (2, .v (.int .i64 a2)), (8, .v (.sl true 1 (s103.1.map row_oi64))), (11, .v (.int .i64 (IntKind.i64.wrap (s119.1 + (IntKind.i64.wrap (1 + (s119.2.2.tmod (IntKind.i64.wrap (a0 - 1))))))))), (12, .v (.int .i64 s119.2.1)), (13, .v (.int .i64 s119.2.2)), (42, .v (.int .i64 x38)), (43, .v (.int .i64 s103.2))] (by simp [-List.map_set, go_sem, h29, h111, h127, g129, g131]) ?_
                repeat rw [pw_seq]
                refine pw_draw D24_14 follows (by kernel_rfl) rfl ?_
                try simp only [go_sem, D24_14]
                obtain ⟨g132, hF133⟩ := Rn_gd hF130
                have g134 := fun x => divV_ne (x := x) g132
                try simp [-List.map_set, go_sem, h29, h111, h127, g129, g131, g132, g134]
                have h135 := Rn_some hF133
                exact hg122 (IntKind.i64.wrap (s119.1 + (IntKind.i64.wrap (1 + (s119.2.2.tmod (IntKind.i64.wrap (a0 - 1)))))), IntKind.i64.wrap (s119.2.1 + 1), IntKind.i64.wrap (s119.2.2.tdiv (IntKind.i64.wrap (a0 - 1)))) _ (by simp [-List.map_set, go_sem, h29, h111, h127, g129, g131, g132, g134]) h135
              · have hF136 := Rn_f hF126 h127
                try simp [-List.map_set, go_sem, h29, h111, h127]
                have h137 := Rn_some hF136
                have h138 := ho121 _ h137
                subst h138
                exact hj113 s119.1 _ (by simp [-List.map_set, go_sem, h29, h111, h127]) hψ123
          · have hF148 := Rn_f hF110 h111
            try simp [-List.map_set, go_sem, h29, h111]
            have h149 := Rn_some hF148
            have h150 := ho105 _ h149
            subst h150
            exact hj56 s103.1 _ (by simp [-List.map_set, go_sem, h29, h111]) hψ107
      · intro ψ36 hj34 hF37
        repeat rw [pw_seq]
        rw [pw_block]
        try simp [-List.map_set, go_sem]
        obtain ⟨b54, hb55, hψ44⟩ := hF37
        refine pw_wloop (fun (s40 : Int × Int) => [(0, .v (.int .i64 a0)), (1, .v (.int .i64 a1)), (2, .v (.int .i64 a2)), (8, .v (.sl true 1 [])), (9, .v (.int .i64 s40.1)), (34, .v (.int .i64 a2)), (35, .v (.int .i64 s40.2))]) hb55 (by simp [-List.map_set, go_sem, h29]) ?_
        intro s40 φ45 N46 ho42 hg43 hF47
        try dsimp only at hF47
        try simp [-List.map_set, go_sem, h29]
        refine pw_wkL [(0, .v (.int .i64 a0)), (1, .v (.int .i64 a1)), (2, .v (.int .i64 a2)), (8, .v (.sl true 1 [])), (9, .v (.int .i64 s40.1)), (34, .v (.int .i64 a2)), (35, .v (.int .i64 s40.2)), (36, .v (.bool (decide (s40.2 < a2))))] (by simp [-List.map_set, go_sem, h29]) ?_
        repeat rw [pw_seq]
        refine pw_cond' (v := decide (s40.2 < a2)) (by simp [-List.map_set, go_sem, h29]) (fun h48 => ?_) (fun h48 => ?_)
        · have hF49 := Rn_t hF47 h48
          try simp [-List.map_set, go_sem, h29, h48]
          refine pw_wkL [(0, .v (.int .i64 a0)), (1, .v (.int .i64 a1)), (2, .v (.int .i64 a2)), (8, .v (.sl true 1 [])), (9, .v (.int .i64 s40.1)), (34, .v (.int .i64 a2)), (35, .v (.int .i64 s40.2))] (by simp [-List.map_set, go_sem, h29, h48]) ?_
          repeat rw [pw_seq]
          rw [pw_block]
          try simp [-List.map_set, go_sem, h29, h48]
          refine pw_wkL [(0, .v (.int .i64 a0)), (1, .v (.int .i64 a1)), (2, .v (.int .i64 a2)), (8, .v (.sl true 1 [])), (9, .v (.int .i64 (IntKind.i64.wrap (s40.1 * (IntKind.i64.wrap (a0 - 1)))))), (34, .v (.int .i64 a2)), (35, .v (.int .i64 s40.2))] (by simp [-List.map_set, go_sem, h29, h48]) ?_
          try simp [-List.map_set, go_sem, h29, h48]
          have h50 := Rn_some hF49
          exact hg43 (IntKind.i64.wrap (s40.1 * (IntKind.i64.wrap (a0 - 1))), IntKind.i64.wrap (s40.2 + 1)) _ (by simp [-List.map_set, go_sem, h29, h48]) h50
        · have hF51 := Rn_f hF47 h48
          try simp [-List.map_set, go_sem, h29, h48]
          have h52 := Rn_some hF51
          have h53 := ho42 _ h52
          subst h53
          exact hj34 s40.1 _ (by simp [-List.map_set, go_sem, h29, h48]) hψ44
  · intro ψ3 hj1 hF4
    try simp [-List.map_set, go_sem]
    refine pwg_split (fun h7 => ?_) (fun h7 => ?_)
    · have hF8 := Rn_t hF4 h7
      try simp [-List.map_set, go_sem, h7]
      have h9 := Rn_some hF8
      exact hj1 true _ (by simp [-List.map_set, go_sem, h7]) h9
    · have hF10 := Rn_f hF4 h7
      obtain ⟨z11, e12, hF13⟩ := Rn_bind hF10
      try simp [-List.map_set, go_sem, h7]
      refine pw_callE [.sh] rfl rfl (by (try simp [-List.map_set, go_sem, clE, h7]); first | rfl | done) (by rfl) (c_impl_isPrime e12) (by (try simp [-List.map_set, go_sem, h7]); first | rfl | done) (fun r0 os0 ho0 => ?_)
      obtain ⟨ho1, ho2⟩ := ho0
      subst ho1
      subst ho2
      refine ⟨by simp [-List.map_set, go_sem, h7], ?_⟩
      try simp [-List.map_set, go_sem, h7]
      refine pwg_split (fun h14 => ?_) (fun h14 => ?_)
      · have hF15 := Rn_t hF13 h14
        try simp [-List.map_set, go_sem, h7, h14]
        have h16 := Rn_some hF15
        exact hj1 true _ (by simp [-List.map_set, go_sem, h7, h14]) h16
      · have hF17 := Rn_f hF13 h14
        obtain ⟨z18, e19, hF20⟩ := Rn_bind hF17
        try simp [-List.map_set, go_sem, h7, h14]
        refine pw_callE [.sh, .sh, .sh] rfl rfl (by (try simp [-List.map_set, go_sem, clE, h7, h14]); first | rfl | done) (by rfl) (c_impl_within e19) (by (try simp [-List.map_set, go_sem, h7, h14]); first | rfl | done) (fun r0 os0 ho0 => ?_)
        obtain ⟨ho1, ho2⟩ := ho0
        subst ho1
        subst ho2
        refine ⟨by simp [-List.map_set, go_sem, h7, h14], ?_⟩
        try simp [-List.map_set, go_sem, h7, h14]
        refine pwg_split (fun h21 => ?_) (fun h21 => ?_)
        · have hF22 := Rn_t hF20 h21
          try simp [-List.map_set, go_sem, h7, h14, h21]
          have h23 := Rn_some hF22
          exact hj1 true _ (by simp [-List.map_set, go_sem, h7, h14, h21]) h23
        · have hF24 := Rn_f hF20 h21
          obtain ⟨z25, e26, hF27⟩ := Rn_bind hF24
          try simp [-List.map_set, go_sem, h7, h14, h21]
          refine pw_callE [.sh, .sh, .sh] rfl rfl (by (try simp [-List.map_set, go_sem, clE, h7, h14, h21]); first | rfl | done) (by rfl) (c_impl_within e26) (by (try simp [-List.map_set, go_sem, h7, h14, h21]); first | rfl | done) (fun r0 os0 ho0 => ?_)
          obtain ⟨ho1, ho2⟩ := ho0
          subst ho1
          subst ho2
          refine ⟨by simp [-List.map_set, go_sem, h7, h14, h21], ?_⟩
          try simp [-List.map_set, go_sem, h7, h14, h21]
          have h28 := Rn_some hF27
          exact hj1 (!z25) _ (by simp [-List.map_set, go_sem, h7, h14, h21]) h28
noncomputable def F_laws_eqIntS (a0 : (List Int)) (a1 : (List Int)) : Option (Bool) :=
  if ((a0.length : Int) != (a1.length : Int)) = true then (
  some false) else (
  ((wloop (σ := Int) (β := Unit ⊕ Bool) (fun s14 =>
  if decide (s14 < (a0.length : Int)) = true then (
  (ix a0 s14).bind fun x25 =>
  (ix a1 s14).bind fun x32 =>
  if (x25 != x32) = true then (
  some (.out (.inr false))) else (
  some (.go (IntKind.i64.wrap (s14 + 1))))) else (
  some (.out (.inl ())))) 0 : Option (Unit ⊕ Bool)).bind (Sum.elim (fun (x12 : Unit) =>
  some true) some)))
theorem c_laws_eqIntS {a0 : (List Int)} {a1 : (List Int)} {r : Bool} (hr : F_laws_eqIntS a0 a1 = some r) : PCalls Try.prog 22 [(.sh, .sl false 1 (a0.map row_i64)), (.sh, .sl false 1 (a1.map row_i64))] (fun o os => o = .bool r ∧ os = [.junk, .junk]) := by
  refine pcalls_lift (R := fun (r : Bool) o os => o = .bool r ∧ os = [.junk, .junk]) [] [] hr cl22 Try.func22 rfl (by simp [Try.f22]) fun Φ hΦ hF => ?_
  unfold F_laws_eqIntS at hF
  simp only [Try.f22, ioL_nil, ioL_sh, ioL_mv, ioL_io]
  try simp [-List.map_set, go_sem]
  refine pw_wkL [(0, .v (.sl false 1 (a0.map row_i64))), (1, .v (.sl false 1 (a1.map row_i64)))] (by simp [-List.map_set, go_sem]) ?_
  try simp [-List.map_set, go_sem]
  refine qln_some fun hl1 => ?_
  try simp [-List.map_set, go_sem]
  refine qln_some fun hl2 => ?_
  try simp [-List.map_set, go_sem]
  refine pw_wkL [(0, .v (.sl false 1 (a0.map row_i64))), (1, .v (.sl false 1 (a1.map row_i64))), (10, .v (.bool ((a0.length : Int) != (a1.length : Int))))] (by simp [-List.map_set, go_sem]) ?_
  repeat rw [pw_seq]
  refine pw_cond' (v := ((a0.length : Int) != (a1.length : Int))) (by simp [-List.map_set, go_sem]) (fun h3 => ?_) (fun h3 => ?_)
  · have hF4 := Rn_t hF h3
    try simp [-List.map_set, go_sem, h3]
    refine pw_wkL [(4, .v (.bool false))] (by simp [-List.map_set, go_sem, h3]) ?_
    try simp [-List.map_set, go_sem, h3]
    have h5 := Rn_some hF4
    have h6 := hΦ _ h5
    subst h6
    try simp [-List.map_set, go_sem, h3]
  · have hF7 := Rn_f hF h3
    try simp [-List.map_set, go_sem, h3]
    refine pw_wkL [(0, .v (.sl false 1 (a0.map row_i64))), (1, .v (.sl false 1 (a1.map row_i64)))] (by simp [-List.map_set, go_sem, h3]) ?_
    try simp [-List.map_set, go_sem, h3]
    refine pw_wkL [(0, .v (.sl false 1 (a0.map row_i64))), (1, .v (.sl false 1 (a1.map row_i64))), (5, .v (.int .i64 0))] (by simp [-List.map_set, go_sem, h3]) ?_
    repeat rw [pw_seq]
    refine pw_joinS (fun (x12 : Unit) => []) hF7 ?_ ?_
    · intro x12 hF13
      try dsimp only at hF13
      try simp [-List.map_set, go_sem, h3]
      refine pw_wkL [(4, .v (.bool true))] (by simp [-List.map_set, go_sem, h3]) ?_
      try simp [-List.map_set, go_sem, h3]
      have h52 := Rn_some hF13
      have h53 := hΦ _ h52
      subst h53
      try simp [-List.map_set, go_sem, h3]
    · intro ψ10 hj8 hr9 hF11
      repeat rw [pw_seq]
      rw [pw_block]
      try simp [-List.map_set, go_sem]
      obtain ⟨b50, hb51, hψ18⟩ := hF11
      refine pw_wloop (fun (s14 : Int) => [(0, .v (.sl false 1 (a0.map row_i64))), (1, .v (.sl false 1 (a1.map row_i64))), (5, .v (.int .i64 s14))]) hb51 (by simp [-List.map_set, go_sem, h3]) ?_
      intro s14 φ19 N20 ho16 hg17 hF21
      try dsimp only at hF21
      try simp [-List.map_set, go_sem, h3]
      refine qln_some fun hl22 => ?_
      try simp [-List.map_set, go_sem, h3]
      refine pw_wkL [(0, .v (.sl false 1 (a0.map row_i64))), (1, .v (.sl false 1 (a1.map row_i64))), (5, .v (.int .i64 s14)), (14, .v (.bool (decide (s14 < (a0.length : Int)))))] (by simp [-List.map_set, go_sem, h3]) ?_
      repeat rw [pw_seq]
      refine pw_cond' (v := decide (s14 < (a0.length : Int))) (by simp [-List.map_set, go_sem, h3]) (fun h23 => ?_) (fun h23 => ?_)
      · have hF24 := Rn_t hF21 h23
        try simp [-List.map_set, go_sem, h3, h23]
        refine pw_wkL [(0, .v (.sl false 1 (a0.map row_i64))), (1, .v (.sl false 1 (a1.map row_i64))), (5, .v (.int .i64 s14))] (by simp [-List.map_set, go_sem, h3, h23]) ?_
        repeat rw [pw_seq]
        rw [pw_block]
        repeat rw [pw_seq]
        refine pw_draw D22_6 follows (by kernel_rfl) rfl ?_
        try simp only [go_sem, D22_6]
        obtain ⟨x25, e26, hF27⟩ := Rn_bind hF24
        obtain ⟨g28, g29, g30⟩ := ix_some e26
        have g31 := ix_get e26
        try simp only [Int.toNat_natCast, Int.toNat_zero, Int.toNat_one, Int.reduceToNat] at g30 g31
        obtain ⟨x32, e33, hF34⟩ := Rn_bind hF27
        obtain ⟨g35, g36, g37⟩ := ix_some e33
        have g38 := ix_get e33
        try simp only [Int.toNat_natCast, Int.toNat_zero, Int.toNat_one, Int.reduceToNat] at g37 g38
        try simp [-List.map_set, go_sem, h3, h23, g28, g29, g30, g31, g35, g36, g37, g38]
        refine pw_wkL [(0, .v (.sl false 1 (a0.map row_i64))), (1, .v (.sl false 1 (a1.map row_i64))), (5, .v (.int .i64 s14)), (25, .v (.bool (x25 != x32)))] (by simp [-List.map_set, go_sem, h3, h23, g28, g29, g30, g31, g35, g36, g37, g38]) ?_
        repeat rw [pw_seq]
        refine pw_cond' (v := (x25 != x32)) (by simp [-List.map_set, go_sem, h3, h23, g28, g29, g30, g31, g35, g36, g37, g38]) (fun h39 => ?_) (fun h39 => ?_)
        · have hF40 := Rn_t hF34 h39
          try simp [-List.map_set, go_sem, h3, h23, g28, g29, g30, g31, g35, g36, g37, g38, h39]
          refine pw_wkL [(4, .v (.bool false))] (by simp [-List.map_set, go_sem, h3, h23, g28, g29, g30, g31, g35, g36, g37, g38, h39]) ?_
          try simp [-List.map_set, go_sem, h3, h23, g28, g29, g30, g31, g35, g36, g37, g38, h39]
          have h41 := Rn_some hF40
          have h42 := ho16 _ h41
          subst h42
          have h43 := hr9 _ hψ18
          have h44 := hΦ _ h43
          subst h44
          try simp [-List.map_set, go_sem, h3, h23, g28, g29, g30, g31, g35, g36, g37, g38, h39]
        · have hF45 := Rn_f hF34 h39
          try simp [-List.map_set, go_sem, h3, h23, g28, g29, g30, g31, g35, g36, g37, g38, h39]
          refine pw_wkL [(0, .v (.sl false 1 (a0.map row_i64))), (1, .v (.sl false 1 (a1.map row_i64))), (5, .v (.int .i64 s14))] (by simp [-List.map_set, go_sem, h3, h23, g28, g29, g30, g31, g35, g36, g37, g38, h39]) ?_
          try simp [-List.map_set, go_sem, h3, h23, g28, g29, g30, g31, g35, g36, g37, g38, h39]
          have h46 := Rn_some hF45
          exact hg17 (IntKind.i64.wrap (s14 + 1)) _ (by simp [-List.map_set, go_sem, h3, h23, g28, g29, g30, g31, g35, g36, g37, g38, h39]) h46
      · have hF47 := Rn_f hF21 h23
        try simp [-List.map_set, go_sem, h3, h23]
        have h48 := Rn_some hF47
        have h49 := ho16 _ h48
        subst h49
        exact hj8 () _ (by simp [-List.map_set, go_sem, h3, h23]) hψ18
noncomputable def F_laws_eqViewCount (a0 : ViewCount) (a1 : ViewCount) : Option (Bool) :=
  (F_laws_eqIntS a0.View a1.View).bind fun z1 =>
  if (!z1) = true then (
  some false) else (
  if (a0.Times != a1.Times) = true then (
  some false) else (
  some true))
theorem c_laws_eqViewCount {a0 : ViewCount} {a1 : ViewCount} {r : Bool} (hr : F_laws_eqViewCount a0 a1 = some r) : PCalls Try.prog 41 [(.sh, .agg [.sl false 1 (a0.View.map row_i64), .int .i64 a0.Times]), (.sh, .agg [.sl false 1 (a1.View.map row_i64), .int .i64 a1.Times])] (fun o os => o = .bool r ∧ os = [.junk, .junk]) := by
  refine pcalls_lift (R := fun (r : Bool) o os => o = .bool r ∧ os = [.junk, .junk]) [] [] hr cl41 Try.func41 rfl (by simp [Try.f41]) fun Φ hΦ hF => ?_
  unfold F_laws_eqViewCount at hF
  simp only [Try.f41, ioL_nil, ioL_sh, ioL_mv, ioL_io]
  try simp [-List.map_set, go_sem]
  refine pw_wkL [(2, .bl [.sl false 1 (a0.View.map row_i64), .int .i64 a0.Times]), (3, .bl [.sl false 1 (a1.View.map row_i64), .int .i64 a1.Times])] (by simp [-List.map_set, go_sem]) ?_
  obtain ⟨z1, e2, hF3⟩ := Rn_bind hF
  try simp [-List.map_set, go_sem]
  refine pw_callE [.sh, .sh] rfl rfl (by (try simp [-List.map_set, go_sem, clE]); first | rfl | done) (by rfl) (c_laws_eqIntS e2) (by (try simp [-List.map_set, go_sem]); first | rfl | done) (fun r0 os0 ho0 => ?_)
  obtain ⟨ho1, ho2⟩ := ho0
  subst ho1
  subst ho2
  refine ⟨by simp [-List.map_set, go_sem], ?_⟩
  try simp [-List.map_set, go_sem]
  refine pw_wkL [(2, .bl [.sl false 1 (a0.View.map row_i64), .int .i64 a0.Times]), (3, .bl [.sl false 1 (a1.View.map row_i64), .int .i64 a1.Times]), (10, .v (.bool (!z1)))] (by simp [-List.map_set, go_sem]) ?_
  repeat rw [pw_seq]
  refine pw_cond' (v := (!z1)) (by simp [-List.map_set, go_sem]) (fun h4 => ?_) (fun h4 => ?_)
  · have hF5 := Rn_t hF3 h4
    try simp [-List.map_set, go_sem, h4]
    refine pw_wkL [(4, .v (.bool false))] (by simp [-List.map_set, go_sem, h4]) ?_
    try simp [-List.map_set, go_sem, h4]
    have h6 := Rn_some hF5
    have h7 := hΦ _ h6
    subst h7
    try simp [-List.map_set, go_sem, h4]
  · have hF8 := Rn_f hF3 h4
    try simp [-List.map_set, go_sem, h4]
    refine pw_wkL [(2, .bl [.sl false 1 (a0.View.map row_i64), .int .i64 a0.Times]), (3, .bl [.sl false 1 (a1.View.map row_i64), .int .i64 a1.Times])] (by simp [-List.map_set, go_sem, h4]) ?_
    try simp [-List.map_set, go_sem, h4]
    refine pw_wkL [(15, .v (.bool (a0.Times != a1.Times)))] (by simp [-List.map_set, go_sem, h4]) ?_
    repeat rw [pw_seq]
    refine pw_cond' (v := (a0.Times != a1.Times)) (by simp [-List.map_set, go_sem, h4]) (fun h9 => ?_) (fun h9 => ?_)
    · have hF10 := Rn_t hF8 h9
      try simp [-List.map_set, go_sem, h4, h9]
      refine pw_wkL [(4, .v (.bool false))] (by simp [-List.map_set, go_sem, h4, h9]) ?_
      try simp [-List.map_set, go_sem, h4, h9]
      have h11 := Rn_some hF10
      have h12 := hΦ _ h11
      subst h12
      try simp [-List.map_set, go_sem, h4, h9]
    · have hF13 := Rn_f hF8 h9
      try simp [-List.map_set, go_sem, h4, h9]
      refine pw_wkL [] (by simp [-List.map_set, go_sem, h4, h9]) ?_
      try simp [-List.map_set, go_sem, h4, h9]
      refine pw_wkL [(4, .v (.bool true))] (by simp [-List.map_set, go_sem, h4, h9]) ?_
      try simp [-List.map_set, go_sem, h4, h9]
      have h14 := Rn_some hF13
      have h15 := hΦ _ h14
      subst h15
      try simp [-List.map_set, go_sem, h4, h9]
noncomputable def F_laws_eqViewCountS (a0 : (List ViewCount)) (a1 : (List ViewCount)) : Option (Bool) :=
  if ((a0.length : Int) != (a1.length : Int)) = true then (
  some false) else (
  ((wloop (σ := Int) (β := Unit ⊕ Bool) (fun s14 =>
  if decide (s14 < (a0.length : Int)) = true then (
  (ix a0 s14).bind fun x25 =>
  (ix a1 s14).bind fun x32 =>
  (F_laws_eqViewCount x25 x32).bind fun z39 =>
  if (!z39) = true then (
  some (.out (.inr false))) else (
  some (.go (IntKind.i64.wrap (s14 + 1))))) else (
  some (.out (.inl ())))) 0 : Option (Unit ⊕ Bool)).bind (Sum.elim (fun (x12 : Unit) =>
  some true) some)))
theorem c_laws_eqViewCountS {a0 : (List ViewCount)} {a1 : (List ViewCount)} {r : Bool} (hr : F_laws_eqViewCountS a0 a1 = some r) : PCalls Try.prog 14 [(.sh, .sl false 2 (a0.map row_ViewCount_z)), (.sh, .sl false 2 (a1.map row_ViewCount_z))] (fun o os => o = .bool r ∧ os = [.junk, .junk]) := by
  refine pcalls_lift (R := fun (r : Bool) o os => o = .bool r ∧ os = [.junk, .junk]) [] [] hr cl14 Try.func14 rfl (by simp [Try.f14]) fun Φ hΦ hF => ?_
  unfold F_laws_eqViewCountS at hF
  simp only [Try.f14, ioL_nil, ioL_sh, ioL_mv, ioL_io]
  try simp [-List.map_set, go_sem]
  refine pw_wkL [(0, .v (.sl false 2 (a0.map row_ViewCount_z))), (1, .v (.sl false 2 (a1.map row_ViewCount_z)))] (by simp [-List.map_set, go_sem]) ?_
  try simp [-List.map_set, go_sem]
  refine qln_some fun hl1 => ?_
  try simp [-List.map_set, go_sem]
  refine qln_some fun hl2 => ?_
  try simp [-List.map_set, go_sem]
  refine pw_wkL [(0, .v (.sl false 2 (a0.map row_ViewCount_z))), (1, .v (.sl false 2 (a1.map row_ViewCount_z))), (10, .v (.bool ((a0.length : Int) != (a1.length : Int))))] (by simp [-List.map_set, go_sem]) ?_
  repeat rw [pw_seq]
  refine pw_cond' (v := ((a0.length : Int) != (a1.length : Int))) (by simp [-List.map_set, go_sem]) (fun h3 => ?_) (fun h3 => ?_)
  · have hF4 := Rn_t hF h3
    try simp [-List.map_set, go_sem, h3]
    refine pw_wkL [(4, .v (.bool false))] (by simp [-List.map_set, go_sem, h3]) ?_
    try simp [-List.map_set, go_sem, h3]
    have h5 := Rn_some hF4
    have h6 := hΦ _ h5
    subst h6
    try simp [-List.map_set, go_sem, h3]
  · have hF7 := Rn_f hF h3
    try simp [-List.map_set, go_sem, h3]
    refine pw_wkL [(0, .v (.sl false 2 (a0.map row_ViewCount_z))), (1, .v (.sl false 2 (a1.map row_ViewCount_z)))] (by simp [-List.map_set, go_sem, h3]) ?_
    try simp [-List.map_set, go_sem, h3]
    refine pw_wkL [(0, .v (.sl false 2 (a0.map row_ViewCount_z))), (1, .v (.sl false 2 (a1.map row_ViewCount_z))), (5, .v (.int .i64 0))] (by simp [-List.map_set, go_sem, h3]) ?_
    repeat rw [pw_seq]
    refine pw_joinS (fun (x12 : Unit) => []) hF7 ?_ ?_
    · intro x12 hF13
      try dsimp only at hF13
      try simp [-List.map_set, go_sem, h3]
      refine pw_wkL [(4, .v (.bool true))] (by simp [-List.map_set, go_sem, h3]) ?_
      try simp [-List.map_set, go_sem, h3]
      have h55 := Rn_some hF13
      have h56 := hΦ _ h55
      subst h56
      try simp [-List.map_set, go_sem, h3]
    · intro ψ10 hj8 hr9 hF11
      repeat rw [pw_seq]
      rw [pw_block]
      try simp [-List.map_set, go_sem]
      obtain ⟨b53, hb54, hψ18⟩ := hF11
      refine pw_wloop (fun (s14 : Int) => [(0, .v (.sl false 2 (a0.map row_ViewCount_z))), (1, .v (.sl false 2 (a1.map row_ViewCount_z))), (5, .v (.int .i64 s14))]) hb54 (by simp [-List.map_set, go_sem, h3]) ?_
      intro s14 φ19 N20 ho16 hg17 hF21
      try dsimp only at hF21
      try simp [-List.map_set, go_sem, h3]
      refine qln_some fun hl22 => ?_
      try simp [-List.map_set, go_sem, h3]
      refine pw_wkL [(0, .v (.sl false 2 (a0.map row_ViewCount_z))), (1, .v (.sl false 2 (a1.map row_ViewCount_z))), (5, .v (.int .i64 s14)), (14, .v (.bool (decide (s14 < (a0.length : Int)))))] (by simp [-List.map_set, go_sem, h3]) ?_
      repeat rw [pw_seq]
      refine pw_cond' (v := decide (s14 < (a0.length : Int))) (by simp [-List.map_set, go_sem, h3]) (fun h23 => ?_) (fun h23 => ?_)
      · have hF24 := Rn_t hF21 h23
        try simp [-List.map_set, go_sem, h3, h23]
        refine pw_wkL [(0, .v (.sl false 2 (a0.map row_ViewCount_z))), (1, .v (.sl false 2 (a1.map row_ViewCount_z))), (5, .v (.int .i64 s14))] (by simp [-List.map_set, go_sem, h3, h23]) ?_
        repeat rw [pw_seq]
        rw [pw_block]
        repeat rw [pw_seq]
        refine pw_draw D14_6 follows (by kernel_rfl) rfl ?_
        try simp only [go_sem, D14_6]
        obtain ⟨x25, e26, hF27⟩ := Rn_bind hF24
        obtain ⟨g28, g29, g30⟩ := ix_some e26
        have g31 := ix_get e26
        try simp only [Int.toNat_natCast, Int.toNat_zero, Int.toNat_one, Int.reduceToNat] at g30 g31
        obtain ⟨x32, e33, hF34⟩ := Rn_bind hF27
        obtain ⟨g35, g36, g37⟩ := ix_some e33
        have g38 := ix_get e33
        try simp only [Int.toNat_natCast, Int.toNat_zero, Int.toNat_one, Int.reduceToNat] at g37 g38
        obtain ⟨z39, e40, hF41⟩ := Rn_bind hF34
        try simp [-List.map_set, go_sem, h3, h23, g28, g29, g30, g31, g35, g36, g37, g38]
        refine pw_callE [.sh, .sh] rfl rfl (by (try simp [-List.map_set, go_sem, clE, h3, h23, g28, g29, g30, g31, g35, g36, g37, g38]); first | rfl | done) (by rfl) (c_laws_eqViewCount e40) (by (try simp [-List.map_set, go_sem, h3, h23, g28, g29, g30, g31, g35, g36, g37, g38]); first | rfl | done) (fun r0 os0 ho0 => ?_)
        obtain ⟨ho1, ho2⟩ := ho0
        subst ho1
        subst ho2
        refine ⟨by simp [-List.map_set, go_sem, h3, h23, g28, g29, g30, g31, g35, g36, g37, g38], ?_⟩
        try simp [-List.map_set, go_sem, h3, h23, g28, g29, g30, g31, g35, g36, g37, g38]
        refine pw_wkL [(0, .v (.sl false 2 (a0.map row_ViewCount_z))), (1, .v (.sl false 2 (a1.map row_ViewCount_z))), (5, .v (.int .i64 s14)), (26, .v (.bool (!z39)))] (by simp [-List.map_set, go_sem, h3, h23, g28, g29, g30, g31, g35, g36, g37, g38]) ?_
        repeat rw [pw_seq]
        refine pw_cond' (v := (!z39)) (by simp [-List.map_set, go_sem, h3, h23, g28, g29, g30, g31, g35, g36, g37, g38]) (fun h42 => ?_) (fun h42 => ?_)
        · have hF43 := Rn_t hF41 h42
          try simp [-List.map_set, go_sem, h3, h23, g28, g29, g30, g31, g35, g36, g37, g38, h42]
          refine pw_wkL [(4, .v (.bool false))] (by simp [-List.map_set, go_sem, h3, h23, g28, g29, g30, g31, g35, g36, g37, g38, h42]) ?_
          try simp [-List.map_set, go_sem, h3, h23, g28, g29, g30, g31, g35, g36, g37, g38, h42]
          have h44 := Rn_some hF43
          have h45 := ho16 _ h44
          subst h45
          have h46 := hr9 _ hψ18
          have h47 := hΦ _ h46
          subst h47
          try simp [-List.map_set, go_sem, h3, h23, g28, g29, g30, g31, g35, g36, g37, g38, h42]
        · have hF48 := Rn_f hF41 h42
          try simp [-List.map_set, go_sem, h3, h23, g28, g29, g30, g31, g35, g36, g37, g38, h42]
          refine pw_wkL [(0, .v (.sl false 2 (a0.map row_ViewCount_z))), (1, .v (.sl false 2 (a1.map row_ViewCount_z))), (5, .v (.int .i64 s14))] (by simp [-List.map_set, go_sem, h3, h23, g28, g29, g30, g31, g35, g36, g37, g38, h42]) ?_
          try simp [-List.map_set, go_sem, h3, h23, g28, g29, g30, g31, g35, g36, g37, g38, h42]
          have h49 := Rn_some hF48
          exact hg17 (IntKind.i64.wrap (s14 + 1)) _ (by simp [-List.map_set, go_sem, h3, h23, g28, g29, g30, g31, g35, g36, g37, g38, h42]) h49
      · have hF50 := Rn_f hF21 h23
        try simp [-List.map_set, go_sem, h3, h23]
        have h51 := Rn_some hF50
        have h52 := ho16 _ h51
        subst h52
        exact hj8 () _ (by simp [-List.map_set, go_sem, h3, h23]) hψ18
noncomputable def F_laws_markIntS__io0 (a0 : (List Int)) (a1 : Int) : Option (Int × (List Int)) :=
  ((wloop (σ := (List Int) × Int × Int) (β := ((List Int) × Int)) (fun s29 =>
  if decide (s29.2.2 < (s29.1.length : Int)) = true then (
  (ix s29.1 s29.2.2).bind fun x40 =>
  some (.go (s29.1.set s29.2.2.toNat s29.2.1, IntKind.i64.wrap (s29.2.1 + 1), IntKind.i64.wrap (s29.2.2 + 1)))) else (
  some (.out (s29.1, s29.2.1)))) (a0, a1, 0) : Option (((List Int) × Int))).bind fun (x5 : (List Int) × Int) =>
  some (x5.2, x5.1))
theorem c_laws_markIntS__io0 {a0 : (List Int)} {a1 : Int} {r : Int × (List Int)} (hr : F_laws_markIntS__io0 a0 a1 = some r) : PCalls Try.prog 76 [(.io, .sl true 1 (a0.map row_i64)), (.sh, .int .i64 a1)] (fun o os => o = .int .i64 r.1 ∧ os = [.sl true 1 (r.2.map row_i64), .junk]) := by
  refine pcalls_lift (R := fun (r : Int × (List Int)) o os => o = .int .i64 r.1 ∧ os = [.sl true 1 (r.2.map row_i64), .junk]) [] [] hr cl76 Try.func76 rfl (by simp [Try.f76]) fun Φ hΦ hF => ?_
  unfold F_laws_markIntS__io0 at hF
  simp only [Try.f76, ioL_nil, ioL_sh, ioL_mv, ioL_io]
  try simp [-List.map_set, go_sem]
  refine pw_wkL [(0, .v (.sl true 1 (a0.map row_i64))), (1, .v (.int .i64 a1))] (by simp [-List.map_set, go_sem]) ?_
  try simp [-List.map_set, go_sem]
  refine pw_wkL [(0, .v (.sl true 1 (a0.map row_i64))), (1, .v (.int .i64 a1)), (5, .v (.int .i64 0))] (by simp [-List.map_set, go_sem]) ?_
  repeat rw [pw_seq]
  refine pw_joinF (fun (x5 : (List Int) × Int) => [(0, .v (.sl true 1 (x5.1.map row_i64))), (1, .v (.int .i64 x5.2))]) hF ?_ ?_
  · intro x5 hF6
    try dsimp only at hF6
    try simp [-List.map_set, go_sem]
    refine pw_wkL [(0, .v (.sl true 1 (x5.1.map row_i64))), (4, .v (.int .i64 x5.2))] (by simp [-List.map_set, go_sem]) ?_
    try simp [-List.map_set, go_sem]
    have h53 := Rn_some hF6
    have h54 := hΦ _ h53
    subst h54
    try simp [-List.map_set, go_sem]
  · intro ψ3 hj1 hF4
    repeat rw [pw_seq]
    rw [pw_block]
    try simp [-List.map_set, go_sem]
    obtain ⟨b51, hb52, hψ33⟩ := hF4
    refine pw_wloop (fun (s29 : (List Int) × Int × Int) => [(0, .v (.sl true 1 (s29.1.map row_i64))), (1, .v (.int .i64 s29.2.1)), (5, .v (.int .i64 s29.2.2))]) hb52 (by simp [-List.map_set, go_sem]) ?_
    intro s29 φ34 N35 ho31 hg32 hF36
    try dsimp only at hF36
    try simp [-List.map_set, go_sem]
    refine qln_some fun hl37 => ?_
    try simp [-List.map_set, go_sem]
    refine pw_wkL [(0, .v (.sl true 1 (s29.1.map row_i64))), (1, .v (.int .i64 s29.2.1)), (5, .v (.int .i64 s29.2.2)), (9, .v (.bool (decide (s29.2.2 < (s29.1.length : Int)))))] (by simp [-List.map_set, go_sem]) ?_
    repeat rw [pw_seq]
    refine pw_cond' (v := decide (s29.2.2 < (s29.1.length : Int))) (by simp [-List.map_set, go_sem]) (fun h38 => ?_) (fun h38 => ?_)
    · have hF39 := Rn_t hF36 h38
      try simp [-List.map_set, go_sem, h38]
      refine pw_wkL [(0, .v (.sl true 1 (s29.1.map row_i64))), (1, .v (.int .i64 s29.2.1)), (5, .v (.int .i64 s29.2.2))] (by simp [-List.map_set, go_sem, h38]) ?_
      repeat rw [pw_seq]
      rw [pw_block]
      obtain ⟨x40, e41, hF42⟩ := Rn_bind hF39
      obtain ⟨g43, g44, g45⟩ := ix_some e41
      have g46 := ix_get e41
      try simp only [Int.toNat_natCast, Int.toNat_zero, Int.toNat_one, Int.reduceToNat] at g45 g46
      try simp [-List.map_set, go_sem, h38, g43, g44, g45, g46]
      refine pw_wkL [(0, .v (.sl true 1 ((s29.1.set s29.2.2.toNat s29.2.1).map row_i64))), (1, .v (.int .i64 s29.2.1)), (5, .v (.int .i64 s29.2.2))] (by simp [-List.map_set, go_sem, h38, g43, g44, g45, g46]) ?_
      try simp [-List.map_set, go_sem, h38, g43, g44, g45, g46]
      refine pw_wkL [(0, .v (.sl true 1 ((s29.1.set s29.2.2.toNat s29.2.1).map row_i64))), (1, .v (.int .i64 (IntKind.i64.wrap (s29.2.1 + 1)))), (5, .v (.int .i64 s29.2.2))] (by simp [-List.map_set, go_sem, h38, g43, g44, g45, g46]) ?_
      try simp [-List.map_set, go_sem, h38, g43, g44, g45, g46]
      have h47 := Rn_some hF42
      exact hg32 (s29.1.set s29.2.2.toNat s29.2.1, IntKind.i64.wrap (s29.2.1 + 1), IntKind.i64.wrap (s29.2.2 + 1)) _ (by simp [-List.map_set, go_sem, h38, g43, g44, g45, g46]) h47
    · have hF48 := Rn_f hF36 h38
      try simp [-List.map_set, go_sem, h38]
      have h49 := Rn_some hF48
      have h50 := ho31 _ h49
      subst h50
      exact hj1 (s29.1, s29.2.1) _ (by simp [-List.map_set, go_sem, h38]) hψ33
noncomputable def F_laws_markViewCountS__io0 (a0 : (List ViewCount)) (a1 : Int) : Option (Int × (List ViewCount)) :=
  ((wloop (σ := (List ViewCount) × Int × Int) (β := ((List ViewCount) × Int)) (fun s39 =>
  if decide (s39.2.2 < (s39.1.length : Int)) = true then (
  (ix s39.1 s39.2.2).bind fun x50 =>
  (F_laws_markIntS__io0 x50.View s39.2.1).bind fun z57 =>
  (ix (s39.1.set s39.2.2.toNat (ViewCount.mk z57.2 x50.Times)) s39.2.2).bind fun x60 =>
  some (.go ((s39.1.set s39.2.2.toNat (ViewCount.mk z57.2 x50.Times)).set s39.2.2.toNat (ViewCount.mk x60.View z57.1), IntKind.i64.wrap (z57.1 + 1), IntKind.i64.wrap (s39.2.2 + 1)))) else (
  some (.out (s39.1, s39.2.1)))) (a0, a1, 0) : Option (((List ViewCount) × Int))).bind fun (x5 : (List ViewCount) × Int) =>
  some (x5.2, x5.1))
theorem c_laws_markViewCountS__io0 {a0 : (List ViewCount)} {a1 : Int} {r : Int × (List ViewCount)} (hr : F_laws_markViewCountS__io0 a0 a1 = some r) : PCalls Try.prog 25 [(.io, .sl true 2 (a0.map row_ViewCount_o)), (.sh, .int .i64 a1)] (fun o os => o = .int .i64 r.1 ∧ os = [.sl true 2 (r.2.map row_ViewCount_o), .junk]) := by
  refine pcalls_lift (R := fun (r : Int × (List ViewCount)) o os => o = .int .i64 r.1 ∧ os = [.sl true 2 (r.2.map row_ViewCount_o), .junk]) [] [] hr cl25 Try.func25 rfl (by simp [Try.f25]) fun Φ hΦ hF => ?_
  unfold F_laws_markViewCountS__io0 at hF
  simp only [Try.f25, ioL_nil, ioL_sh, ioL_mv, ioL_io]
  try simp [-List.map_set, go_sem]
  refine pw_wkL [(0, .v (.sl true 2 (a0.map row_ViewCount_o))), (1, .v (.int .i64 a1))] (by simp [-List.map_set, go_sem]) ?_
  try simp [-List.map_set, go_sem]
  refine pw_wkL [(0, .v (.sl true 2 (a0.map row_ViewCount_o))), (1, .v (.int .i64 a1)), (5, .v (.int .i64 0))] (by simp [-List.map_set, go_sem]) ?_
  repeat rw [pw_seq]
  refine pw_joinF (fun (x5 : (List ViewCount) × Int) => [(0, .v (.sl true 2 (x5.1.map row_ViewCount_o))), (1, .v (.int .i64 x5.2))]) hF ?_ ?_
  · intro x5 hF6
    try dsimp only at hF6
    try simp [-List.map_set, go_sem]
    refine pw_wkL [(0, .v (.sl true 2 (x5.1.map row_ViewCount_o))), (4, .v (.int .i64 x5.2))] (by simp [-List.map_set, go_sem]) ?_
    try simp [-List.map_set, go_sem]
    have h73 := Rn_some hF6
    have h74 := hΦ _ h73
    subst h74
    try simp [-List.map_set, go_sem]
  · intro ψ3 hj1 hF4
    repeat rw [pw_seq]
    rw [pw_block]
    try simp [-List.map_set, go_sem]
    obtain ⟨b71, hb72, hψ43⟩ := hF4
    refine pw_wloop (fun (s39 : (List ViewCount) × Int × Int) => [(0, .v (.sl true 2 (s39.1.map row_ViewCount_o))), (1, .v (.int .i64 s39.2.1)), (5, .v (.int .i64 s39.2.2))]) hb72 (by simp [-List.map_set, go_sem]) ?_
    intro s39 φ44 N45 ho41 hg42 hF46
    try dsimp only at hF46
    try simp [-List.map_set, go_sem]
    refine qln_some fun hl47 => ?_
    try simp [-List.map_set, go_sem]
    refine pw_wkL [(0, .v (.sl true 2 (s39.1.map row_ViewCount_o))), (1, .v (.int .i64 s39.2.1)), (5, .v (.int .i64 s39.2.2)), (9, .v (.bool (decide (s39.2.2 < (s39.1.length : Int)))))] (by simp [-List.map_set, go_sem]) ?_
    repeat rw [pw_seq]
    refine pw_cond' (v := decide (s39.2.2 < (s39.1.length : Int))) (by simp [-List.map_set, go_sem]) (fun h48 => ?_) (fun h48 => ?_)
    · have hF49 := Rn_t hF46 h48
      try simp [-List.map_set, go_sem, h48]
      refine pw_wkL [(0, .v (.sl true 2 (s39.1.map row_ViewCount_o))), (1, .v (.int .i64 s39.2.1)), (5, .v (.int .i64 s39.2.2))] (by simp [-List.map_set, go_sem, h48]) ?_
      repeat rw [pw_seq]
      rw [pw_block]
      obtain ⟨x50, e51, hF52⟩ := Rn_bind hF49
      obtain ⟨g53, g54, g55⟩ := ix_some e51
      have g56 := ix_get e51
      try simp only [Int.toNat_natCast, Int.toNat_zero, Int.toNat_one, Int.reduceToNat] at g55 g56
      obtain ⟨z57, e58, hF59⟩ := Rn_bind hF52
      try simp [-List.map_set, go_sem, h48, g53, g54, g55, g56]
      refine pw_callE [.io, .sh] rfl rfl (by (try simp [-List.map_set, go_sem, clE, h48, g53, g54, g55, g56]); first | rfl | done) (by rfl) (c_laws_markIntS__io0 e58) (by (try simp [-List.map_set, go_sem, h48, g53, g54, g55, g56]); first | rfl | done) (fun r0 os0 ho0 => ?_)
      obtain ⟨ho1, ho2⟩ := ho0
      subst ho1
      subst ho2
      refine ⟨by simp [-List.map_set, go_sem, h48, g53, g54, g55, g56], ?_⟩
      try simp [-List.map_set, go_sem, h48, g53, g54, g55, g56]
      refine pw_wkL [(0, .v (.sl true 2 ((s39.1.set s39.2.2.toNat (ViewCount.mk z57.2 x50.Times)).map row_ViewCount_o))), (1, .v (.int .i64 z57.1)), (5, .v (.int .i64 s39.2.2))] (by simp [-List.map_set, go_sem, h48, g53, g54, g55, g56]) ?_
      obtain ⟨x60, e61, hF62⟩ := Rn_bind hF59
      obtain ⟨g63, g64, g65⟩ := ix_some e61
      have g66 := ix_get e61
      try simp only [Int.toNat_natCast, Int.toNat_zero, Int.toNat_one, Int.reduceToNat] at g65 g66
      try simp [-List.map_set, go_sem, h48, g53, g54, g55, g56, g63, g64, g65, g66]
      refine pw_wkL [(0, .v (.sl true 2 (((s39.1.set s39.2.2.toNat (ViewCount.mk z57.2 x50.Times)).set s39.2.2.toNat (ViewCount.mk x60.View z57.1)).map row_ViewCount_o))), (1, .v (.int .i64 z57.1)), (5, .v (.int .i64 s39.2.2))] (by simp [-List.map_set, go_sem, h48, g53, g54, g55, g56, g63, g64, g65, g66]) ?_
      try simp [-List.map_set, go_sem, h48, g53, g54, g55, g56, g63, g64, g65, g66]
      refine pw_wkL [(0, .v (.sl true 2 (((s39.1.set s39.2.2.toNat (ViewCount.mk z57.2 x50.Times)).set s39.2.2.toNat (ViewCount.mk x60.View z57.1)).map row_ViewCount_o))), (1, .v (.int .i64 (IntKind.i64.wrap (z57.1 + 1)))), (5, .v (.int .i64 s39.2.2))] (by simp [-List.map_set, go_sem, h48, g53, g54, g55, g56, g63, g64, g65, g66]) ?_
      try simp [-List.map_set, go_sem, h48, g53, g54, g55, g56, g63, g64, g65, g66]
      have h67 := Rn_some hF62
      exact hg42 ((s39.1.set s39.2.2.toNat (ViewCount.mk z57.2 x50.Times)).set s39.2.2.toNat (ViewCount.mk x60.View z57.1), IntKind.i64.wrap (z57.1 + 1), IntKind.i64.wrap (s39.2.2 + 1)) _ (by simp [-List.map_set, go_sem, h48, g53, g54, g55, g56, g63, g64, g65, g66]) h67
    · have hF68 := Rn_f hF46 h48
      try simp [-List.map_set, go_sem, h48]
      have h69 := Rn_some hF68
      have h70 := ho41 _ h69
      subst h70
      exact hj1 (s39.1, s39.2.1) _ (by simp [-List.map_set, go_sem, h48]) hψ43
noncomputable def F_laws_heldIntS (a0 : (List Int)) (a1 : Int) : Option (Int) :=
  ((wloop (σ := Int × Int) (β := Int ⊕ Int) (fun s7 =>
  if decide (s7.2 < (a0.length : Int)) = true then (
  (ix a0 s7.2).bind fun x18 =>
  if (x18 != s7.1) = true then (
  some (.out (.inr (-1)))) else (
  some (.go (IntKind.i64.wrap (s7.1 + 1), IntKind.i64.wrap (s7.2 + 1))))) else (
  some (.out (.inl s7.1)))) (a1, 0) : Option (Int ⊕ Int)).bind (Sum.elim (fun (x5 : Int) =>
  some x5) some))
theorem c_laws_heldIntS {a0 : (List Int)} {a1 : Int} {r : Int} (hr : F_laws_heldIntS a0 a1 = some r) : PCalls Try.prog 77 [(.sh, .sl false 1 (a0.map row_i64)), (.sh, .int .i64 a1)] (fun o os => o = .int .i64 r ∧ os = [.junk, .junk]) := by
  refine pcalls_lift (R := fun (r : Int) o os => o = .int .i64 r ∧ os = [.junk, .junk]) [] [] hr cl77 Try.func77 rfl (by simp [Try.f77]) fun Φ hΦ hF => ?_
  unfold F_laws_heldIntS at hF
  simp only [Try.f77, ioL_nil, ioL_sh, ioL_mv, ioL_io]
  try simp [-List.map_set, go_sem]
  refine pw_wkL [(0, .v (.sl false 1 (a0.map row_i64))), (1, .v (.int .i64 a1))] (by simp [-List.map_set, go_sem]) ?_
  try simp [-List.map_set, go_sem]
  refine pw_wkL [(0, .v (.sl false 1 (a0.map row_i64))), (1, .v (.int .i64 a1)), (5, .v (.int .i64 0))] (by simp [-List.map_set, go_sem]) ?_
  repeat rw [pw_seq]
  refine pw_joinS (fun (x5 : Int) => [(1, .v (.int .i64 x5))]) hF ?_ ?_
  · intro x5 hF6
    try dsimp only at hF6
    try simp [-List.map_set, go_sem]
    refine pw_wkL [(4, .v (.int .i64 x5))] (by simp [-List.map_set, go_sem]) ?_
    try simp [-List.map_set, go_sem]
    have h38 := Rn_some hF6
    have h39 := hΦ _ h38
    subst h39
    try simp [-List.map_set, go_sem]
  · intro ψ3 hj1 hr2 hF4
    repeat rw [pw_seq]
    rw [pw_block]
    try simp [-List.map_set, go_sem]
    obtain ⟨b36, hb37, hψ11⟩ := hF4
    refine pw_wloop (fun (s7 : Int × Int) => [(0, .v (.sl false 1 (a0.map row_i64))), (1, .v (.int .i64 s7.1)), (5, .v (.int .i64 s7.2))]) hb37 (by simp [-List.map_set, go_sem]) ?_
    intro s7 φ12 N13 ho9 hg10 hF14
    try dsimp only at hF14
    try simp [-List.map_set, go_sem]
    refine qln_some fun hl15 => ?_
    try simp [-List.map_set, go_sem]
    refine pw_wkL [(0, .v (.sl false 1 (a0.map row_i64))), (1, .v (.int .i64 s7.1)), (5, .v (.int .i64 s7.2)), (9, .v (.bool (decide (s7.2 < (a0.length : Int)))))] (by simp [-List.map_set, go_sem]) ?_
    repeat rw [pw_seq]
    refine pw_cond' (v := decide (s7.2 < (a0.length : Int))) (by simp [-List.map_set, go_sem]) (fun h16 => ?_) (fun h16 => ?_)
    · have hF17 := Rn_t hF14 h16
      try simp [-List.map_set, go_sem, h16]
      refine pw_wkL [(0, .v (.sl false 1 (a0.map row_i64))), (1, .v (.int .i64 s7.1)), (5, .v (.int .i64 s7.2))] (by simp [-List.map_set, go_sem, h16]) ?_
      repeat rw [pw_seq]
      rw [pw_block]
      obtain ⟨x18, e19, hF20⟩ := Rn_bind hF17
      obtain ⟨g21, g22, g23⟩ := ix_some e19
      have g24 := ix_get e19
      try simp only [Int.toNat_natCast, Int.toNat_zero, Int.toNat_one, Int.reduceToNat] at g23 g24
      try simp [-List.map_set, go_sem, h16, g21, g22, g23, g24]
      refine pw_wkL [(0, .v (.sl false 1 (a0.map row_i64))), (1, .v (.int .i64 s7.1)), (5, .v (.int .i64 s7.2)), (17, .v (.bool (x18 != s7.1)))] (by simp [-List.map_set, go_sem, h16, g21, g22, g23, g24]) ?_
      repeat rw [pw_seq]
      refine pw_cond' (v := (x18 != s7.1)) (by simp [-List.map_set, go_sem, h16, g21, g22, g23, g24]) (fun h25 => ?_) (fun h25 => ?_)
      · have hF26 := Rn_t hF20 h25
        try simp [-List.map_set, go_sem, h16, g21, g22, g23, g24, h25]
        refine pw_wkL [(4, .v (.int .i64 (-1)))] (by simp [-List.map_set, go_sem, h16, g21, g22, g23, g24, h25]) ?_
        try simp [-List.map_set, go_sem, h16, g21, g22, g23, g24, h25]
        have h27 := Rn_some hF26
        have h28 := ho9 _ h27
        subst h28
        have h29 := hr2 _ hψ11
        have h30 := hΦ _ h29
        subst h30
        try simp [-List.map_set, go_sem, h16, g21, g22, g23, g24, h25]
      · have hF31 := Rn_f hF20 h25
        try simp [-List.map_set, go_sem, h16, g21, g22, g23, g24, h25]
        refine pw_wkL [(0, .v (.sl false 1 (a0.map row_i64))), (1, .v (.int .i64 s7.1)), (5, .v (.int .i64 s7.2))] (by simp [-List.map_set, go_sem, h16, g21, g22, g23, g24, h25]) ?_
        try simp [-List.map_set, go_sem, h16, g21, g22, g23, g24, h25]
        refine pw_wkL [(0, .v (.sl false 1 (a0.map row_i64))), (1, .v (.int .i64 (IntKind.i64.wrap (s7.1 + 1)))), (5, .v (.int .i64 s7.2))] (by simp [-List.map_set, go_sem, h16, g21, g22, g23, g24, h25]) ?_
        try simp [-List.map_set, go_sem, h16, g21, g22, g23, g24, h25]
        have h32 := Rn_some hF31
        exact hg10 (IntKind.i64.wrap (s7.1 + 1), IntKind.i64.wrap (s7.2 + 1)) _ (by simp [-List.map_set, go_sem, h16, g21, g22, g23, g24, h25]) h32
    · have hF33 := Rn_f hF14 h16
      try simp [-List.map_set, go_sem, h16]
      have h34 := Rn_some hF33
      have h35 := ho9 _ h34
      subst h35
      exact hj1 s7.1 _ (by simp [-List.map_set, go_sem, h16]) hψ11
noncomputable def F_laws_heldViewCountS (a0 : (List ViewCount)) (a1 : Int) : Option (Int) :=
  ((wloop (σ := Int × Int) (β := Int ⊕ Int) (fun s7 =>
  if decide (s7.2 < (a0.length : Int)) = true then (
  (ix a0 s7.2).bind fun x18 =>
  (F_laws_heldIntS x18.View s7.1).bind fun z25 =>
  if decide (z25 < 0) = true then (
  some (.out (.inr (-1)))) else (
  if (x18.Times != z25) = true then (
  some (.out (.inr (-1)))) else (
  some (.go (IntKind.i64.wrap (z25 + 1), IntKind.i64.wrap (s7.2 + 1)))))) else (
  some (.out (.inl s7.1)))) (a1, 0) : Option (Int ⊕ Int)).bind (Sum.elim (fun (x5 : Int) =>
  some x5) some))
theorem c_laws_heldViewCountS {a0 : (List ViewCount)} {a1 : Int} {r : Int} (hr : F_laws_heldViewCountS a0 a1 = some r) : PCalls Try.prog 26 [(.sh, .sl false 2 (a0.map row_ViewCount_z)), (.sh, .int .i64 a1)] (fun o os => o = .int .i64 r ∧ os = [.junk, .junk]) := by
  refine pcalls_lift (R := fun (r : Int) o os => o = .int .i64 r ∧ os = [.junk, .junk]) [] [] hr cl26 Try.func26 rfl (by simp [Try.f26]) fun Φ hΦ hF => ?_
  unfold F_laws_heldViewCountS at hF
  simp only [Try.f26, ioL_nil, ioL_sh, ioL_mv, ioL_io]
  try simp [-List.map_set, go_sem]
  refine pw_wkL [(0, .v (.sl false 2 (a0.map row_ViewCount_z))), (1, .v (.int .i64 a1))] (by simp [-List.map_set, go_sem]) ?_
  try simp [-List.map_set, go_sem]
  refine pw_wkL [(0, .v (.sl false 2 (a0.map row_ViewCount_z))), (1, .v (.int .i64 a1)), (5, .v (.int .i64 0))] (by simp [-List.map_set, go_sem]) ?_
  repeat rw [pw_seq]
  refine pw_joinS (fun (x5 : Int) => [(1, .v (.int .i64 x5))]) hF ?_ ?_
  · intro x5 hF6
    try dsimp only at hF6
    try simp [-List.map_set, go_sem]
    refine pw_wkL [(4, .v (.int .i64 x5))] (by simp [-List.map_set, go_sem]) ?_
    try simp [-List.map_set, go_sem]
    have h48 := Rn_some hF6
    have h49 := hΦ _ h48
    subst h49
    try simp [-List.map_set, go_sem]
  · intro ψ3 hj1 hr2 hF4
    repeat rw [pw_seq]
    rw [pw_block]
    try simp [-List.map_set, go_sem]
    obtain ⟨b46, hb47, hψ11⟩ := hF4
    refine pw_wloop (fun (s7 : Int × Int) => [(0, .v (.sl false 2 (a0.map row_ViewCount_z))), (1, .v (.int .i64 s7.1)), (5, .v (.int .i64 s7.2))]) hb47 (by simp [-List.map_set, go_sem]) ?_
    intro s7 φ12 N13 ho9 hg10 hF14
    try dsimp only at hF14
    try simp [-List.map_set, go_sem]
    refine qln_some fun hl15 => ?_
    try simp [-List.map_set, go_sem]
    refine pw_wkL [(0, .v (.sl false 2 (a0.map row_ViewCount_z))), (1, .v (.int .i64 s7.1)), (5, .v (.int .i64 s7.2)), (9, .v (.bool (decide (s7.2 < (a0.length : Int)))))] (by simp [-List.map_set, go_sem]) ?_
    repeat rw [pw_seq]
    refine pw_cond' (v := decide (s7.2 < (a0.length : Int))) (by simp [-List.map_set, go_sem]) (fun h16 => ?_) (fun h16 => ?_)
    · have hF17 := Rn_t hF14 h16
      try simp [-List.map_set, go_sem, h16]
      refine pw_wkL [(0, .v (.sl false 2 (a0.map row_ViewCount_z))), (1, .v (.int .i64 s7.1)), (5, .v (.int .i64 s7.2))] (by simp [-List.map_set, go_sem, h16]) ?_
      repeat rw [pw_seq]
      rw [pw_block]
      obtain ⟨x18, e19, hF20⟩ := Rn_bind hF17
      obtain ⟨g21, g22, g23⟩ := ix_some e19
      have g24 := ix_get e19
      try simp only [Int.toNat_natCast, Int.toNat_zero, Int.toNat_one, Int.reduceToNat] at g23 g24
      obtain ⟨z25, e26, hF27⟩ := Rn_bind hF20
      try simp [-List.map_set, go_sem, h16, g21, g22, g23, g24]
      refine pw_callE [.sh, .sh] rfl rfl (by (try simp [-List.map_set, go_sem, clE, h16, g21, g22, g23, g24]); first | rfl | done) (by rfl) (c_laws_heldIntS e26) (by (try simp [-List.map_set, go_sem, h16, g21, g22, g23, g24]); first | rfl | done) (fun r0 os0 ho0 => ?_)
      obtain ⟨ho1, ho2⟩ := ho0
      subst ho1
      subst ho2
      refine ⟨by simp [-List.map_set, go_sem, h16, g21, g22, g23, g24], ?_⟩
      try simp [-List.map_set, go_sem, h16, g21, g22, g23, g24]
      refine pw_wkL [(0, .v (.sl false 2 (a0.map row_ViewCount_z))), (1, .v (.int .i64 z25)), (5, .v (.int .i64 s7.2))] (by simp [-List.map_set, go_sem, h16, g21, g22, g23, g24]) ?_
      try simp [-List.map_set, go_sem, h16, g21, g22, g23, g24]
      refine pw_wkL [(0, .v (.sl false 2 (a0.map row_ViewCount_z))), (1, .v (.int .i64 z25)), (5, .v (.int .i64 s7.2)), (20, .v (.bool (decide (z25 < 0))))] (by simp [-List.map_set, go_sem, h16, g21, g22, g23, g24]) ?_
      repeat rw [pw_seq]
      refine pw_cond' (v := decide (z25 < 0)) (by simp [-List.map_set, go_sem, h16, g21, g22, g23, g24]) (fun h28 => ?_) (fun h28 => ?_)
      · have hF29 := Rn_t hF27 h28
        try simp [-List.map_set, go_sem, h16, g21, g22, g23, g24, h28]
        refine pw_wkL [(4, .v (.int .i64 (-1)))] (by simp [-List.map_set, go_sem, h16, g21, g22, g23, g24, h28]) ?_
        try simp [-List.map_set, go_sem, h16, g21, g22, g23, g24, h28]
        have h30 := Rn_some hF29
        have h31 := ho9 _ h30
        subst h31
        have h32 := hr2 _ hψ11
        have h33 := hΦ _ h32
        subst h33
        try simp [-List.map_set, go_sem, h16, g21, g22, g23, g24, h28]
      · have hF34 := Rn_f hF27 h28
        try simp [-List.map_set, go_sem, h16, g21, g22, g23, g24, h28]
        refine pw_wkL [(0, .v (.sl false 2 (a0.map row_ViewCount_z))), (1, .v (.int .i64 z25)), (5, .v (.int .i64 s7.2))] (by simp [-List.map_set, go_sem, h16, g21, g22, g23, g24, h28]) ?_
        try simp [-List.map_set, go_sem, h16, g21, g22, g23, g24, h28]
        refine pw_wkL [(0, .v (.sl false 2 (a0.map row_ViewCount_z))), (1, .v (.int .i64 z25)), (5, .v (.int .i64 s7.2)), (27, .v (.bool (x18.Times != z25)))] (by simp [-List.map_set, go_sem, h16, g21, g22, g23, g24, h28]) ?_
        repeat rw [pw_seq]
        refine pw_cond' (v := (x18.Times != z25)) (by simp [-List.map_set, go_sem, h16, g21, g22, g23, g24, h28]) (fun h35 => ?_) (fun h35 => ?_)
        · have hF36 := Rn_t hF34 h35
          try simp [-List.map_set, go_sem, h16, g21, g22, g23, g24, h28, h35]
          refine pw_wkL [(4, .v (.int .i64 (-1)))] (by simp [-List.map_set, go_sem, h16, g21, g22, g23, g24, h28, h35]) ?_
          try simp [-List.map_set, go_sem, h16, g21, g22, g23, g24, h28, h35]
          have h37 := Rn_some hF36
          have h38 := ho9 _ h37
          subst h38
          have h39 := hr2 _ hψ11
          have h40 := hΦ _ h39
          subst h40
          try simp [-List.map_set, go_sem, h16, g21, g22, g23, g24, h28, h35]
        · have hF41 := Rn_f hF34 h35
          try simp [-List.map_set, go_sem, h16, g21, g22, g23, g24, h28, h35]
          refine pw_wkL [(0, .v (.sl false 2 (a0.map row_ViewCount_z))), (1, .v (.int .i64 z25)), (5, .v (.int .i64 s7.2))] (by simp [-List.map_set, go_sem, h16, g21, g22, g23, g24, h28, h35]) ?_
          try simp [-List.map_set, go_sem, h16, g21, g22, g23, g24, h28, h35]
          refine pw_wkL [(0, .v (.sl false 2 (a0.map row_ViewCount_z))), (1, .v (.int .i64 (IntKind.i64.wrap (z25 + 1)))), (5, .v (.int .i64 s7.2))] (by simp [-List.map_set, go_sem, h16, g21, g22, g23, g24, h28, h35]) ?_
          try simp [-List.map_set, go_sem, h16, g21, g22, g23, g24, h28, h35]
          have h42 := Rn_some hF41
          exact hg10 (IntKind.i64.wrap (z25 + 1), IntKind.i64.wrap (s7.2 + 1)) _ (by simp [-List.map_set, go_sem, h16, g21, g22, g23, g24, h28, h35]) h42
    · have hF43 := Rn_f hF14 h16
      try simp [-List.map_set, go_sem, h16]
      have h44 := Rn_some hF43
      have h45 := ho9 _ h44
      subst h45
      exact hj1 s7.1 _ (by simp [-List.map_set, go_sem, h16]) hψ11
noncomputable def F_laws_FnExactBlindViews (a0 : Int) (a1 : Int) (a2 : Int) : Option (Bool) :=
  (F_spec_BlindViews a0 a1 a2).bind fun z1 =>
  (F_impl_BlindViews a0 a1 a2).bind fun z4 =>
  (((F_laws_eqViewCountS z4.1 z1.1).bind fun z13 =>
  if (!z13) = true then (
  some true) else (
  some (z4.2 != z1.2)) : Option (Bool)).bind fun (x11 : Bool) =>
  if x11 = true then (
  some false) else (
  (F_laws_markViewCountS__io0 z4.1 1).bind fun z26 =>
  (F_laws_heldViewCountS z26.2 1).bind fun z29 =>
  if decide (z29 < 0) = true then (
  some false) else (
  if (z29 != z26.1) = true then (
  some false) else (
  (F_impl_BlindViews a0 a1 a2).bind fun z42 =>
  (((F_laws_eqViewCountS z42.1 z1.1).bind fun z51 =>
  if (!z51) = true then (
  some true) else (
  some (z42.2 != z1.2)) : Option (Bool)).bind fun (x49 : Bool) =>
  if x49 = true then (
  some false) else (
  (F_laws_heldViewCountS z26.2 1).bind fun z64 =>
  if decide (z64 < 0) = true then (
  some false) else (
  if (z64 != z26.1) = true then (
  some false) else (
  some true))))))))
theorem c_laws_FnExactBlindViews {a0 : Int} {a1 : Int} {a2 : Int} {r : Bool} (hr : F_laws_FnExactBlindViews a0 a1 a2 = some r) : PCalls Try.prog 6 [(.sh, .int .i64 a0), (.sh, .int .i64 a1), (.sh, .int .i64 a2)] (fun o os => o = .bool r ∧ os = [.junk, .junk, .junk]) := by
  refine pcalls_lift (R := fun (r : Bool) o os => o = .bool r ∧ os = [.junk, .junk, .junk]) [] [] hr cl6 Try.func6 rfl (by simp [Try.f6]) fun Φ hΦ hF => ?_
  unfold F_laws_FnExactBlindViews at hF
  simp only [Try.f6, ioL_nil, ioL_sh, ioL_mv, ioL_io]
  try simp [-List.map_set, go_sem]
  refine pw_wkL [(0, .v (.int .i64 a0)), (1, .v (.int .i64 a1)), (2, .v (.int .i64 a2))] (by simp [-List.map_set, go_sem]) ?_
  obtain ⟨z1, e2, hF3⟩ := Rn_bind hF
  try simp [-List.map_set, go_sem]
  refine pw_callE [.sh, .sh, .sh] rfl rfl (by (try simp [-List.map_set, go_sem, clE]); first | rfl | done) (by rfl) (c_spec_BlindViews e2) (by (try simp [-List.map_set, go_sem]); first | rfl | done) (fun r0 os0 ho0 => ?_)
  obtain ⟨ho1, ho2⟩ := ho0
  subst ho1
  subst ho2
  refine ⟨by simp [-List.map_set, go_sem], ?_⟩
  try simp [-List.map_set, go_sem]
  refine pw_wkL [(0, .v (.int .i64 a0)), (1, .v (.int .i64 a1)), (2, .v (.int .i64 a2)), (7, .v (.sl true 2 (z1.1.map row_ViewCount_z))), (8, .v (.bool z1.2))] (by simp [-List.map_set, go_sem]) ?_
  obtain ⟨z4, e5, hF6⟩ := Rn_bind hF3
  try simp [-List.map_set, go_sem]
  refine pw_callE [.sh, .sh, .sh] rfl rfl (by (try simp [-List.map_set, go_sem, clE]); first | rfl | done) (by rfl) (c_impl_BlindViews e5) (by (try simp [-List.map_set, go_sem]); first | rfl | done) (fun r0 os0 ho0 => ?_)
  obtain ⟨ho1, ho2⟩ := ho0
  subst ho1
  subst ho2
  refine ⟨by simp [-List.map_set, go_sem], ?_⟩
  try simp [-List.map_set, go_sem]
  refine pw_wkL [(0, .v (.int .i64 a0)), (1, .v (.int .i64 a1)), (2, .v (.int .i64 a2)), (7, .v (.sl true 2 (z1.1.map row_ViewCount_z))), (8, .v (.bool z1.2)), (9, .v (.sl true 2 (z4.1.map row_ViewCount_o))), (10, .v (.bool z4.2))] (by simp [-List.map_set, go_sem]) ?_
  repeat rw [pw_seq]
  refine pw_joinF (fun (x11 : Bool) => [(0, .v (.int .i64 a0)), (1, .v (.int .i64 a1)), (2, .v (.int .i64 a2)), (7, .v (.sl true 2 (z1.1.map row_ViewCount_z))), (8, .v (.bool z1.2)), (9, .v (.sl true 2 (z4.1.map row_ViewCount_o))), (37, .v (.bool x11))]) hF6 ?_ ?_
  · intro x11 hF12
    try dsimp only at hF12
    repeat rw [pw_seq]
    refine pw_cond' (v := x11) (by simp [-List.map_set, go_sem]) (fun h21 => ?_) (fun h21 => ?_)
    · have hF22 := Rn_t hF12 h21
      try simp [-List.map_set, go_sem, h21]
      refine pw_wkL [(6, .v (.bool false))] (by simp [-List.map_set, go_sem, h21]) ?_
      try simp [-List.map_set, go_sem, h21]
      have h23 := Rn_some hF22
      have h24 := hΦ _ h23
      subst h24
      try simp [-List.map_set, go_sem, h21]
    · have hF25 := Rn_f hF12 h21
      try simp [-List.map_set, go_sem, h21]
      refine pw_wkL [(0, .v (.int .i64 a0)), (1, .v (.int .i64 a1)), (2, .v (.int .i64 a2)), (7, .v (.sl true 2 (z1.1.map row_ViewCount_z))), (8, .v (.bool z1.2)), (9, .v (.sl true 2 (z4.1.map row_ViewCount_o)))] (by simp [-List.map_set, go_sem, h21]) ?_
      try simp [-List.map_set, go_sem, h21]
      refine pw_wkL [(0, .v (.int .i64 a0)), (1, .v (.int .i64 a1)), (2, .v (.int .i64 a2)), (7, .v (.sl true 2 (z1.1.map row_ViewCount_z))), (8, .v (.bool z1.2)), (9, .v (.sl true 2 (z4.1.map row_ViewCount_o))), (11, .v (.int .i64 1))] (by simp [-List.map_set, go_sem, h21]) ?_
      obtain ⟨z26, e27, hF28⟩ := Rn_bind hF25
      try simp [-List.map_set, go_sem, h21]
      refine pw_callE [.io, .sh] rfl rfl (by (try simp [-List.map_set, go_sem, clE, h21]); first | rfl | done) (by rfl) (c_laws_markViewCountS__io0 e27) (by (try simp [-List.map_set, go_sem, h21]); first | rfl | done) (fun r0 os0 ho0 => ?_)
      obtain ⟨ho1, ho2⟩ := ho0
      subst ho1
      subst ho2
      refine ⟨by simp [-List.map_set, go_sem, h21], ?_⟩
      try simp [-List.map_set, go_sem, h21]
      refine pw_wkL [(0, .v (.int .i64 a0)), (1, .v (.int .i64 a1)), (2, .v (.int .i64 a2)), (7, .v (.sl true 2 (z1.1.map row_ViewCount_z))), (8, .v (.bool z1.2)), (9, .v (.sl true 2 (z26.2.map row_ViewCount_o))), (11, .v (.int .i64 z26.1))] (by simp [-List.map_set, go_sem, h21]) ?_
      try simp [-List.map_set, go_sem, h21]
      refine pw_wkL [(0, .v (.int .i64 a0)), (1, .v (.int .i64 a1)), (2, .v (.int .i64 a2)), (7, .v (.sl true 2 (z1.1.map row_ViewCount_z))), (8, .v (.bool z1.2)), (9, .v (.sl true 2 (z26.2.map row_ViewCount_o))), (11, .v (.int .i64 z26.1)), (12, .v (.int .i64 1))] (by simp [-List.map_set, go_sem, h21]) ?_
      obtain ⟨z29, e30, hF31⟩ := Rn_bind hF28
      try simp [-List.map_set, go_sem, h21]
      refine pw_callE [.sh, .sh] rfl rfl (by (try simp [-List.map_set, go_sem, clE, h21]); first | rfl | done) (by rfl) (c_laws_heldViewCountS e30) (by (try simp [-List.map_set, go_sem, h21]); first | rfl | done) (fun r0 os0 ho0 => ?_)
      obtain ⟨ho1, ho2⟩ := ho0
      subst ho1
      subst ho2
      refine ⟨by simp [-List.map_set, go_sem, h21], ?_⟩
      try simp [-List.map_set, go_sem, h21]
      refine pw_wkL [(0, .v (.int .i64 a0)), (1, .v (.int .i64 a1)), (2, .v (.int .i64 a2)), (7, .v (.sl true 2 (z1.1.map row_ViewCount_z))), (8, .v (.bool z1.2)), (9, .v (.sl true 2 (z26.2.map row_ViewCount_o))), (11, .v (.int .i64 z26.1)), (12, .v (.int .i64 z29))] (by simp [-List.map_set, go_sem, h21]) ?_
      try simp [-List.map_set, go_sem, h21]
      refine pw_wkL [(0, .v (.int .i64 a0)), (1, .v (.int .i64 a1)), (2, .v (.int .i64 a2)), (7, .v (.sl true 2 (z1.1.map row_ViewCount_z))), (8, .v (.bool z1.2)), (9, .v (.sl true 2 (z26.2.map row_ViewCount_o))), (11, .v (.int .i64 z26.1)), (12, .v (.int .i64 z29)), (45, .v (.bool (decide (z29 < 0))))] (by simp [-List.map_set, go_sem, h21]) ?_
      repeat rw [pw_seq]
      refine pw_cond' (v := decide (z29 < 0)) (by simp [-List.map_set, go_sem, h21]) (fun h32 => ?_) (fun h32 => ?_)
      · have hF33 := Rn_t hF31 h32
        try simp [-List.map_set, go_sem, h21, h32]
        refine pw_wkL [(6, .v (.bool false))] (by simp [-List.map_set, go_sem, h21, h32]) ?_
        try simp [-List.map_set, go_sem, h21, h32]
        have h34 := Rn_some hF33
        have h35 := hΦ _ h34
        subst h35
        try simp [-List.map_set, go_sem, h21, h32]
      · have hF36 := Rn_f hF31 h32
        try simp [-List.map_set, go_sem, h21, h32]
        refine pw_wkL [(0, .v (.int .i64 a0)), (1, .v (.int .i64 a1)), (2, .v (.int .i64 a2)), (7, .v (.sl true 2 (z1.1.map row_ViewCount_z))), (8, .v (.bool z1.2)), (9, .v (.sl true 2 (z26.2.map row_ViewCount_o))), (11, .v (.int .i64 z26.1)), (12, .v (.int .i64 z29))] (by simp [-List.map_set, go_sem, h21, h32]) ?_
        try simp [-List.map_set, go_sem, h21, h32]
        refine pw_wkL [(0, .v (.int .i64 a0)), (1, .v (.int .i64 a1)), (2, .v (.int .i64 a2)), (7, .v (.sl true 2 (z1.1.map row_ViewCount_z))), (8, .v (.bool z1.2)), (9, .v (.sl true 2 (z26.2.map row_ViewCount_o))), (11, .v (.int .i64 z26.1)), (48, .v (.bool (z29 != z26.1)))] (by simp [-List.map_set, go_sem, h21, h32]) ?_
        repeat rw [pw_seq]
        refine pw_cond' (v := (z29 != z26.1)) (by simp [-List.map_set, go_sem, h21, h32]) (fun h37 => ?_) (fun h37 => ?_)
        · have hF38 := Rn_t hF36 h37
          try simp [-List.map_set, go_sem, h21, h32, h37]
          refine pw_wkL [(6, .v (.bool false))] (by simp [-List.map_set, go_sem, h21, h32, h37]) ?_
          try simp [-List.map_set, go_sem, h21, h32, h37]
          have h39 := Rn_some hF38
          have h40 := hΦ _ h39
          subst h40
          try simp [-List.map_set, go_sem, h21, h32, h37]
        · have hF41 := Rn_f hF36 h37
          try simp [-List.map_set, go_sem, h21, h32, h37]
          refine pw_wkL [(0, .v (.int .i64 a0)), (1, .v (.int .i64 a1)), (2, .v (.int .i64 a2)), (7, .v (.sl true 2 (z1.1.map row_ViewCount_z))), (8, .v (.bool z1.2)), (9, .v (.sl true 2 (z26.2.map row_ViewCount_o))), (11, .v (.int .i64 z26.1))] (by simp [-List.map_set, go_sem, h21, h32, h37]) ?_
          obtain ⟨z42, e43, hF44⟩ := Rn_bind hF41
          try simp [-List.map_set, go_sem, h21, h32, h37]
          refine pw_callE [.sh, .sh, .sh] rfl rfl (by (try simp [-List.map_set, go_sem, clE, h21, h32, h37]); first | rfl | done) (by rfl) (c_impl_BlindViews e43) (by (try simp [-List.map_set, go_sem, h21, h32, h37]); first | rfl | done) (fun r0 os0 ho0 => ?_)
          obtain ⟨ho1, ho2⟩ := ho0
          subst ho1
          subst ho2
          refine ⟨by simp [-List.map_set, go_sem, h21, h32, h37], ?_⟩
          try simp [-List.map_set, go_sem, h21, h32, h37]
          refine pw_wkL [(7, .v (.sl true 2 (z1.1.map row_ViewCount_z))), (8, .v (.bool z1.2)), (9, .v (.sl true 2 (z26.2.map row_ViewCount_o))), (11, .v (.int .i64 z26.1)), (13, .v (.sl true 2 (z42.1.map row_ViewCount_o))), (14, .v (.bool z42.2))] (by simp [-List.map_set, go_sem, h21, h32, h37]) ?_
          repeat rw [pw_seq]
          refine pw_joinF (fun (x49 : Bool) => [(9, .v (.sl true 2 (z26.2.map row_ViewCount_o))), (11, .v (.int .i64 z26.1)), (64, .v (.bool x49))]) hF44 ?_ ?_
          · intro x49 hF50
            try dsimp only at hF50
            repeat rw [pw_seq]
            refine pw_cond' (v := x49) (by simp [-List.map_set, go_sem, h21, h32, h37]) (fun h59 => ?_) (fun h59 => ?_)
            · have hF60 := Rn_t hF50 h59
              try simp [-List.map_set, go_sem, h21, h32, h37, h59]
              refine pw_wkL [(6, .v (.bool false))] (by simp [-List.map_set, go_sem, h21, h32, h37, h59]) ?_
              try simp [-List.map_set, go_sem, h21, h32, h37, h59]
              have h61 := Rn_some hF60
              have h62 := hΦ _ h61
              subst h62
              try simp [-List.map_set, go_sem, h21, h32, h37, h59]
            · have hF63 := Rn_f hF50 h59
              try simp [-List.map_set, go_sem, h21, h32, h37, h59]
              refine pw_wkL [(9, .v (.sl true 2 (z26.2.map row_ViewCount_o))), (11, .v (.int .i64 z26.1))] (by simp [-List.map_set, go_sem, h21, h32, h37, h59]) ?_
              try simp [-List.map_set, go_sem, h21, h32, h37, h59]
              refine pw_wkL [(9, .v (.sl true 2 (z26.2.map row_ViewCount_o))), (11, .v (.int .i64 z26.1)), (12, .v (.int .i64 1))] (by simp [-List.map_set, go_sem, h21, h32, h37, h59]) ?_
              obtain ⟨z64, e65, hF66⟩ := Rn_bind hF63
              try simp [-List.map_set, go_sem, h21, h32, h37, h59]
              refine pw_callE [.sh, .sh] rfl rfl (by (try simp [-List.map_set, go_sem, clE, h21, h32, h37, h59]); first | rfl | done) (by rfl) (c_laws_heldViewCountS e65) (by (try simp [-List.map_set, go_sem, h21, h32, h37, h59]); first | rfl | done) (fun r0 os0 ho0 => ?_)
              obtain ⟨ho1, ho2⟩ := ho0
              subst ho1
              subst ho2
              refine ⟨by simp [-List.map_set, go_sem, h21, h32, h37, h59], ?_⟩
              try simp [-List.map_set, go_sem, h21, h32, h37, h59]
              refine pw_wkL [(11, .v (.int .i64 z26.1)), (12, .v (.int .i64 z64))] (by simp [-List.map_set, go_sem, h21, h32, h37, h59]) ?_
              try simp [-List.map_set, go_sem, h21, h32, h37, h59]
              refine pw_wkL [(11, .v (.int .i64 z26.1)), (12, .v (.int .i64 z64)), (69, .v (.bool (decide (z64 < 0))))] (by simp [-List.map_set, go_sem, h21, h32, h37, h59]) ?_
              repeat rw [pw_seq]
              refine pw_cond' (v := decide (z64 < 0)) (by simp [-List.map_set, go_sem, h21, h32, h37, h59]) (fun h67 => ?_) (fun h67 => ?_)
              · have hF68 := Rn_t hF66 h67
                try simp [-List.map_set, go_sem, h21, h32, h37, h59, h67]
                refine pw_wkL [(6, .v (.bool false))] (by simp [-List.map_set, go_sem, h21, h32, h37, h59, h67]) ?_
                try simp [-List.map_set, go_sem, h21, h32, h37, h59, h67]
                have h69 := Rn_some hF68
                have h70 := hΦ _ h69
                subst h70
                try simp [-List.map_set, go_sem, h21, h32, h37, h59, h67]
              · have hF71 := Rn_f hF66 h67
                try simp [-List.map_set, go_sem, h21, h32, h37, h59, h67]
                refine pw_wkL [(11, .v (.int .i64 z26.1)), (12, .v (.int .i64 z64))] (by simp [-List.map_set, go_sem, h21, h32, h37, h59, h67]) ?_
                try simp [-List.map_set, go_sem, h21, h32, h37, h59, h67]
                refine pw_wkL [(72, .v (.bool (z64 != z26.1)))] (by simp [-List.map_set, go_sem, h21, h32, h37, h59, h67]) ?_
                repeat rw [pw_seq]
                refine pw_cond' (v := (z64 != z26.1)) (by simp [-List.map_set, go_sem, h21, h32, h37, h59, h67]) (fun h72 => ?_) (fun h72 => ?_)
                · have hF73 := Rn_t hF71 h72
                  try simp [-List.map_set, go_sem, h21, h32, h37, h59, h67, h72]
                  refine pw_wkL [(6, .v (.bool false))] (by simp [-List.map_set, go_sem, h21, h32, h37, h59, h67, h72]) ?_
                  try simp [-List.map_set, go_sem, h21, h32, h37, h59, h67, h72]
                  have h74 := Rn_some hF73
                  have h75 := hΦ _ h74
                  subst h75
                  try simp [-List.map_set, go_sem, h21, h32, h37, h59, h67, h72]
                · have hF76 := Rn_f hF71 h72
                  try simp [-List.map_set, go_sem, h21, h32, h37, h59, h67, h72]
                  refine pw_wkL [] (by simp [-List.map_set, go_sem, h21, h32, h37, h59, h67, h72]) ?_
                  try simp [-List.map_set, go_sem, h21, h32, h37, h59, h67, h72]
                  refine pw_wkL [(6, .v (.bool true))] (by simp [-List.map_set, go_sem, h21, h32, h37, h59, h67, h72]) ?_
                  try simp [-List.map_set, go_sem, h21, h32, h37, h59, h67, h72]
                  have h77 := Rn_some hF76
                  have h78 := hΦ _ h77
                  subst h78
                  try simp [-List.map_set, go_sem, h21, h32, h37, h59, h67, h72]
          · intro ψ47 hj45 hF48
            obtain ⟨z51, e52, hF53⟩ := Rn_bind hF48
            try simp [-List.map_set, go_sem, h21, h32, h37]
            refine pw_callE [.sh, .sh] rfl rfl (by (try simp [-List.map_set, go_sem, clE, h21, h32, h37]); first | rfl | done) (by rfl) (c_laws_eqViewCountS e52) (by (try simp [-List.map_set, go_sem, h21, h32, h37]); first | rfl | done) (fun r0 os0 ho0 => ?_)
            obtain ⟨ho1, ho2⟩ := ho0
            subst ho1
            subst ho2
            refine ⟨by simp [-List.map_set, go_sem, h21, h32, h37], ?_⟩
            try simp [-List.map_set, go_sem, h21, h32, h37]
            refine pwg_split (fun h54 => ?_) (fun h54 => ?_)
            · have hF55 := Rn_t hF53 h54
              try simp [-List.map_set, go_sem, h21, h32, h37, h54]
              have h56 := Rn_some hF55
              exact hj45 true _ (by simp [-List.map_set, go_sem, h21, h32, h37, h54]) h56
            · have hF57 := Rn_f hF53 h54
              try simp [-List.map_set, go_sem, h21, h32, h37, h54]
              have h58 := Rn_some hF57
              exact hj45 (z42.2 != z1.2) _ (by simp [-List.map_set, go_sem, h21, h32, h37, h54]) h58
  · intro ψ9 hj7 hF10
    obtain ⟨z13, e14, hF15⟩ := Rn_bind hF10
    try simp [-List.map_set, go_sem]
    refine pw_callE [.sh, .sh] rfl rfl (by (try simp [-List.map_set, go_sem, clE]); first | rfl | done) (by rfl) (c_laws_eqViewCountS e14) (by (try simp [-List.map_set, go_sem]); first | rfl | done) (fun r0 os0 ho0 => ?_)
    obtain ⟨ho1, ho2⟩ := ho0
    subst ho1
    subst ho2
    refine ⟨by simp [-List.map_set, go_sem], ?_⟩
    try simp [-List.map_set, go_sem]
    refine pwg_split (fun h16 => ?_) (fun h16 => ?_)
    · have hF17 := Rn_t hF15 h16
      try simp [-List.map_set, go_sem, h16]
      have h18 := Rn_some hF17
      exact hj7 true _ (by simp [-List.map_set, go_sem, h16]) h18
    · have hF19 := Rn_f hF15 h16
      try simp [-List.map_set, go_sem, h16]
      have h20 := Rn_some hF19
      exact hj7 (z4.2 != z1.2) _ (by simp [-List.map_set, go_sem, h16]) h20
end Go.Pm
