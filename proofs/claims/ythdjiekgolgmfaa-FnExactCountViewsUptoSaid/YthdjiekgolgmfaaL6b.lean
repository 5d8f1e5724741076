/-
  Plain functions and their walks. Written by wip/tools/lift.py.
-/
import Derived.Test.YthdjiekgolgmfaaL6
namespace Go.Pm
open Go.Am
open Go.Proofs
set_option maxRecDepth 100000
attribute [local irreducible] pw pwx pw1 pwg qv qz qf
set_option linter.unusedSimpArgs false
set_option linter.unusedVariables false
theorem c_impl_countedViews {a0 : (List (List Int))} {r : (List ViewCount) × Bool} (hr : F_impl_countedViews a0 = some r) : PCalls Try.prog 75 [(.sh, .sl false 1 (a0.map row_zi64))] (fun o os => o = .tup [.sl true 2 (r.1.map row_ViewCount_o), .bool r.2] ∧ os = [.junk]) := by
  refine pcalls_lift (R := fun (r : (List ViewCount) × Bool) o os => o = .tup [.sl true 2 (r.1.map row_ViewCount_o), .bool r.2] ∧ os = [.junk]) [] [] hr cl75 Try.func75 rfl (by simp [Try.f75]) fun Φ hΦ hF => ?_
  unfold F_impl_countedViews at hF
  simp only [Try.f75, ioL_nil, ioL_sh, ioL_mv, ioL_io]
  try simp [-List.map_set, go_sem]
  refine pw_wkL [(0, .v (.sl false 1 (a0.map row_zi64)))] (by simp [-List.map_set, go_sem]) ?_
  try simp [-List.map_set, go_sem]
  refine pw_wkL [(0, .v (.sl false 1 (a0.map row_zi64))), (4, .v (.sl true 2 []))] (by simp [-List.map_set, go_sem]) ?_
  try simp [-List.map_set, go_sem]
  refine qln_some fun hl1 => ?_
  try simp [-List.map_set, go_sem]
  refine pw_wkL [(4, .v (.sl true 2 [])), (8, .v (.sl false 1 (a0.map row_zi64))), (9, .v (.int .i64 (a0.length : Int))), (10, .v (.int .i64 0))] (by simp [-List.map_set, go_sem]) ?_
  repeat rw [pw_seq]
  refine pw_joinF (fun (x6 : (List ViewCount)) => [(4, .v (.sl true 2 (x6.map row_ViewCount_z)))]) hF ?_ ?_
  · intro x6 hF7
    try dsimp only at hF7
    obtain ⟨z33, e34, hF35⟩ := Rn_bind hF7
    try simp [-List.map_set, go_sem]
    refine pw_callE [.sh] rfl rfl (by (try simp [-List.map_set, go_sem, clE]); first | rfl | done) (by rfl) (c_impl_gathered e34) (by (try simp [-List.map_set, go_sem]); first | rfl | done) (fun r0 os0 ho0 => ?_)
    obtain ⟨ho1, ho2⟩ := ho0
    subst ho1
    subst ho2
    refine ⟨by simp [-List.map_set, go_sem], ?_⟩
    try simp [-List.map_set, go_sem]
    refine pw_wkL [(2, .v (.sl true 2 (z33.1.map row_ViewCount_o))), (3, .v (.bool z33.2))] (by simp [-List.map_set, go_sem]) ?_
    try simp [-List.map_set, go_sem]
    have h36 := Rn_some hF35
    have h37 := hΦ _ h36
    subst h37
    try simp [-List.map_set, go_sem]
  · intro ψ4 hj2 hF5
    repeat rw [pw_seq]
    rw [pw_block]
    try simp [-List.map_set, go_sem]
    obtain ⟨b29, hb30, hψ12⟩ := hF5
    refine pw_rloop (fun (i9 : Int) (s8 : (List ViewCount)) => [(4, .v (.sl true 2 (s8.map row_ViewCount_z))), (8, .v (.sl false 1 (a0.map row_zi64))), (9, .v (.int .i64 (a0.length : Int))), (10, .v (.int .i64 i9))]) hb30 (by simp [-List.map_set, go_sem]) ?_ ?_
    · intro s8 N32 hN31
      subst hN31
      try simp [-List.map_set, go_sem]
      refine pw_wk ?_
      repeat rw [pw_seq]
      refine pw_cond_f (by simp [-List.map_set, go_sem]) ?_
      try simp [-List.map_set, go_sem]
      exact hj2 s8 _ (by simp [-List.map_set, go_sem]) hψ12
    · intro i9 s8 φ13 N14 hi16 hi17 ho10 hg11 hF15
      try dsimp only at hF15
      rw [Int.zero_add] at hi17
      try simp [-List.map_set, go_sem, hi16, hi17]
      refine pw_wkL [(4, .v (.sl true 2 (s8.map row_ViewCount_z))), (8, .v (.sl false 1 (a0.map row_zi64))), (9, .v (.int .i64 (a0.length : Int))), (10, .v (.int .i64 i9)), (11, .v (.bool (decide (i9 < (a0.length : Int)))))] (by simp [-List.map_set, go_sem, hi16, hi17]) ?_
      repeat rw [pw_seq]
      refine pw_cond_t (by simp [-List.map_set, go_sem, hi16, hi17]) ?_
      try simp [-List.map_set, go_sem, hi16, hi17]
      refine pw_wkL [(4, .v (.sl true 2 (s8.map row_ViewCount_z))), (8, .v (.sl false 1 (a0.map row_zi64))), (9, .v (.int .i64 (a0.length : Int))), (10, .v (.int .i64 i9))] (by simp [-List.map_set, go_sem, hi16, hi17]) ?_
      repeat rw [pw_seq]
      rw [pw_block]
      obtain ⟨x18, e19, hF20⟩ := Rn_bind hF15
      obtain ⟨g21, g22, g23⟩ := ix_some e19
      have g24 := ix_get e19
      try simp only [Int.toNat_natCast, Int.toNat_zero, Int.toNat_one, Int.reduceToNat] at g23 g24
      try simp [-List.map_set, go_sem, hi16, hi17, g21, g22, g23, g24]
      refine pw_wkL [(4, .v (.sl true 2 (s8.map row_ViewCount_z))), (6, .v (.sl false 1 (x18.map row_i64))), (8, .v (.sl false 1 (a0.map row_zi64))), (9, .v (.int .i64 (a0.length : Int))), (10, .v (.int .i64 i9))] (by simp [-List.map_set, go_sem, hi16, hi17, g21, g22, g23, g24]) ?_
      obtain ⟨g25, hF26⟩ := Rn_gd hF20
      have g27 := g25
      try simp at g27
      try simp [-List.map_set, go_sem, hi16, hi17, g21, g22, g23, g24, g25, g27]
      refine pw_wkL [(4, .v (.sl true 2 ((s8 ++ [(ViewCount.mk x18 1)]).map row_ViewCount_z))), (8, .v (.sl false 1 (a0.map row_zi64))), (9, .v (.int .i64 (a0.length : Int))), (10, .v (.int .i64 i9))] (by simp [-List.map_set, go_sem, hi16, hi17, g21, g22, g23, g24, g25, g27]) ?_
      try simp [-List.map_set, go_sem, hi16, hi17, g21, g22, g23, g24, g25, g27]
      have h28 := Rn_some hF26
      have hw : IntKind.i64.wrap (i9 + 1) = i9 + 1 := wrI (by have h0 := hl1; simp [maxLen] at h0; omega)
      exact hg11 (s8 ++ [(ViewCount.mk x18 1)]) _ (by simp [-List.map_set, go_sem, hi16, hi17, g21, g22, g23, g24, g25, g27, hw]) h28
noncomputable def F_impl_CountViews (a0 : (List (List Int))) : Option ((List ViewCount) × Bool) :=
  if decide (3000 < (a0.length : Int)) = true then (
  some ([], false)) else (
  (F_impl_countedViews a0).bind fun z7 =>
  some (z7.1, z7.2))
theorem c_impl_CountViews {a0 : (List (List Int))} {r : (List ViewCount) × Bool} (hr : F_impl_CountViews a0 = some r) : PCalls Try.prog 32 [(.sh, .sl false 1 (a0.map row_zi64))] (fun o os => o = .tup [.sl true 2 (r.1.map row_ViewCount_o), .bool r.2] ∧ os = [.junk]) := by
  refine pcalls_lift (R := fun (r : (List ViewCount) × Bool) o os => o = .tup [.sl true 2 (r.1.map row_ViewCount_o), .bool r.2] ∧ os = [.junk]) [] [] hr cl32 Try.func32 rfl (by simp [Try.f32]) fun Φ hΦ hF => ?_
  unfold F_impl_CountViews at hF
  simp only [Try.f32, ioL_nil, ioL_sh, ioL_mv, ioL_io]
  try simp [-List.map_set, go_sem]
  refine pw_wkL [(0, .v (.sl false 1 (a0.map row_zi64)))] (by simp [-List.map_set, go_sem]) ?_
  try simp [-List.map_set, go_sem]
  refine qln_some fun hl1 => ?_
  try simp [-List.map_set, go_sem]
  refine pw_wkL [(0, .v (.sl false 1 (a0.map row_zi64))), (6, .v (.bool (decide (3000 < (a0.length : Int)))))] (by simp [-List.map_set, go_sem]) ?_
  repeat rw [pw_seq]
  refine pw_cond' (v := decide (3000 < (a0.length : Int))) (by simp [-List.map_set, go_sem]) (fun h2 => ?_) (fun h2 => ?_)
  · have hF3 := Rn_t hF h2
    try simp [-List.map_set, go_sem, h2]
    refine pw_wkL [(2, .v (.sl true 2 [])), (3, .v (.bool false))] (by simp [-List.map_set, go_sem, h2]) ?_
    try simp [-List.map_set, go_sem, h2]
    have h4 := Rn_some hF3
    have h5 := hΦ _ h4
    subst h5
    try simp [-List.map_set, go_sem, h2]
  · have hF6 := Rn_f hF h2
    try simp [-List.map_set, go_sem, h2]
    refine pw_wkL [(0, .v (.sl false 1 (a0.map row_zi64)))] (by simp [-List.map_set, go_sem, h2]) ?_
    obtain ⟨z7, e8, hF9⟩ := Rn_bind hF6
    try simp [-List.map_set, go_sem, h2]
    refine pw_callE [.sh] rfl rfl (by (try simp [-List.map_set, go_sem, clE, h2]); first | rfl | done) (by rfl) (c_impl_countedViews e8) (by (try simp [-List.map_set, go_sem, h2]); first | rfl | done) (fun r0 os0 ho0 => ?_)
    obtain ⟨ho1, ho2⟩ := ho0
    subst ho1
    subst ho2
    refine ⟨by simp [-List.map_set, go_sem, h2], ?_⟩
    try simp [-List.map_set, go_sem, h2]
    refine pw_wkL [(2, .v (.sl true 2 (z7.1.map row_ViewCount_o))), (3, .v (.bool z7.2))] (by simp [-List.map_set, go_sem, h2]) ?_
    try simp [-List.map_set, go_sem, h2]
    have h10 := Rn_some hF9
    have h11 := hΦ _ h10
    subst h11
    try simp [-List.map_set, go_sem, h2]
noncomputable def F_laws_eqIntS (a0 : (List Int)) (a1 : (List Int)) : Option (Bool) :=
  if ((a0.length : Int) != (a1.length : Int)) = true then (
  some false) else (
  ((wloop (σ := Int) (β := Unit ⊕ Bool) (fun s14 =>
  if decide (s14 < (a0.length : Int)) = true then (
  (ix a0 s14).bind fun x25 =>
  (ix a1 s14).bind fun x32 =>
  if (x25 != x32) = true then (
  some (.out (.inr false))) else (
  some (.go (IntKind.i64.wrap (s14 + 1))))) else (
  some (.out (.inl ())))) 0 : Option (Unit ⊕ Bool)).bind (Sum.elim (fun (x12 : Unit) =>
  some true) some)))
theorem c_laws_eqIntS {a0 : (List Int)} {a1 : (List Int)} {r : Bool} (hr : F_laws_eqIntS a0 a1 = some r) : PCalls Try.prog 22 [(.sh, .sl false 1 (a0.map row_i64)), (.sh, .sl false 1 (a1.map row_i64))] (fun o os => o = .bool r ∧ os = [.junk, .junk]) := by
  refine pcalls_lift (R := fun (r : Bool) o os => o = .bool r ∧ os = [.junk, .junk]) [] [] hr cl22 Try.func22 rfl (by simp [Try.f22]) fun Φ hΦ hF => ?_
  unfold F_laws_eqIntS at hF
  simp only [Try.f22, ioL_nil, ioL_sh, ioL_mv, ioL_io]
  try simp [-List.map_set, go_sem]
  refine pw_wkL [(0, .v (.sl false 1 (a0.map row_i64))), (1, .v (.sl false 1 (a1.map row_i64)))] (by simp [-List.map_set, go_sem]) ?_
  try simp [-List.map_set, go_sem]
  refine qln_some fun hl1 => ?_
  try simp [-List.map_set, go_sem]
  refine qln_some fun hl2 => ?_
  try simp [-List.map_set, go_sem]
  refine pw_wkL [(0, .v (.sl false 1 (a0.map row_i64))), (1, .v (.sl false 1 (a1.map row_i64))), (10, .v (.bool ((a0.length : Int) != (a1.length : Int))))] (by simp [-List.map_set, go_sem]) ?_
  repeat rw [pw_seq]
  refine pw_cond' (v := ((a0.length : Int) != (a1.length : Int))) (by simp [-List.map_set, go_sem]) (fun h3 => ?_) (fun h3 => ?_)
  · have hF4 := Rn_t hF h3
    try simp [-List.map_set, go_sem, h3]
    refine pw_wkL [(4, .v (.bool false))] (by simp [-List.map_set, go_sem, h3]) ?_
    try simp [-List.map_set, go_sem, h3]
    have h5 := Rn_some hF4
    have h6 := hΦ _ h5
    subst h6
    try simp [-List.map_set, go_sem, h3]
  · have hF7 := Rn_f hF h3
    try simp [-List.map_set, go_sem, h3]
    refine pw_wkL [(0, .v (.sl false 1 (a0.map row_i64))), (1, .v (.sl false 1 (a1.map row_i64)))] (by simp [-List.map_set, go_sem, h3]) ?_
    try simp [-List.map_set, go_sem, h3]
    refine pw_wkL [(0, .v (.sl false 1 (a0.map row_i64))), (1, .v (.sl false 1 (a1.map row_i64))), (5, .v (.int .i64 0))] (by simp [-List.map_set, go_sem, h3]) ?_
    repeat rw [pw_seq]
    refine pw_joinS (fun (x12 : Unit) => []) hF7 ?_ ?_
    · intro x12 hF13
      try dsimp only at hF13
      try simp [-List.map_set, go_sem, h3]
      refine pw_wkL [(4, .v (.bool true))] (by simp [-List.map_set, go_sem, h3]) ?_
      try simp [-List.map_set, go_sem, h3]
      have h52 := Rn_some hF13
      have h53 := hΦ _ h52
      subst h53
      try simp [-List.map_set, go_sem, h3]
    · intro ψ10 hj8 hr9 hF11
      repeat rw [pw_seq]
      rw [pw_block]
      try simp [-List.map_set, go_sem]
      obtain ⟨b50, hb51, hψ18⟩ := hF11
      refine pw_wloop (fun (s14 : Int) => [(0, .v (.sl false 1 (a0.map row_i64))), (1, .v (.sl false 1 (a1.map row_i64))), (5, .v (.int .i64 s14))]) hb51 (by simp [-List.map_set, go_sem, h3]) ?_
      intro s14 φ19 N20 ho16 hg17 hF21
      try dsimp only at hF21
      try simp [-List.map_set, go_sem, h3]
      refine qln_some fun hl22 => ?_
      try simp [-List.map_set, go_sem, h3]
      refine pw_wkL [(0, .v (.sl false 1 (a0.map row_i64))), (1, .v (.sl false 1 (a1.map row_i64))), (5, .v (.int .i64 s14)), (14, .v (.bool (decide (s14 < (a0.length : Int)))))] (by simp [-List.map_set, go_sem, h3]) ?_
      repeat rw [pw_seq]
      refine pw_cond' (v := decide (s14 < (a0.length : Int))) (by simp [-List.map_set, go_sem, h3]) (fun h23 => ?_) (fun h23 => ?_)
      · have hF24 := Rn_t hF21 h23
        try simp [-List.map_set, go_sem, h3, h23]
        refine pw_wkL [(0, .v (.sl false 1 (a0.map row_i64))), (1, .v (.sl false 1 (a1.map row_i64))), (5, .v (.int .i64 s14))] (by simp [-List.map_set, go_sem, h3, h23]) ?_
        repeat rw [pw_seq]
        rw [pw_block]
        repeat rw [pw_seq]
        refine pw_draw D22_6 follows (by kernel_rfl) rfl ?_
        try simp only [go_sem, D22_6]
        obtain ⟨x25, e26, hF27⟩ := Rn_bind hF24
        obtain ⟨g28, g29, g30⟩ := ix_some e26
        have g31 := ix_get e26
        try simp only [Int.toNat_natCast, Int.toNat_zero, Int.toNat_one, Int.reduceToNat] at g30 g31
        obtain ⟨x32, e33, hF34⟩ := Rn_bind hF27
        obtain ⟨g35, g36, g37⟩ := ix_some e33
        have g38 := ix_get e33
        try simp only [Int.toNat_natCast, Int.toNat_zero, Int.toNat_one, Int.reduceToNat] at g37 g38
        try simp [-List.map_set, go_sem, h3, h23, g28, g29, g30, g31, g35, g36, g37, g38]
        refine pw_wkL [(0, .v (.sl false 1 (a0.map row_i64))), (1, .v (.sl false 1 (a1.map row_i64))), (5, .v (.int .i64 s14)), (25, .v (.bool (x25 != x32)))] (by simp [-List.map_set, go_sem, h3, h23, g28, g29, g30, g31, g35, g36, g37, g38]) ?_
        repeat rw [pw_seq]
        refine pw_cond' (v := (x25 != x32)) (by simp [-List.map_set, go_sem, h3, h23, g28, g29, g30, g31, g35, g36, g37, g38]) (fun h39 => ?_) (fun h39 => ?_)
        · have hF40 := Rn_t hF34 h39
          try simp [-List.map_set, go_sem, h3, h23, g28, g29, g30, g31, g35, g36, g37, g38, h39]
          refine pw_wkL [(4, .v (.bool false))] (by simp [-List.map_set, go_sem, h3, h23, g28, g29, g30, g31, g35, g36, g37, g38, h39]) ?_
          try simp [-List.map_set, go_sem, h3, h23, g28, g29, g30, g31, g35, g36, g37, g38, h39]
          have h41 := Rn_some hF40
          have h42 := ho16 _ h41
          subst h42
          have h43 := hr9 _ hψ18
          have h44 := hΦ _ h43
          subst h44
          try simp [-List.map_set, go_sem, h3, h23, g28, g29, g30, g31, g35, g36, g37, g38, h39]
        · have hF45 := Rn_f hF34 h39
          try simp [-List.map_set, go_sem, h3, h23, g28, g29, g30, g31, g35, g36, g37, g38, h39]
          refine pw_wkL [(0, .v (.sl false 1 (a0.map row_i64))), (1, .v (.sl false 1 (a1.map row_i64))), (5, .v (.int .i64 s14))] (by simp [-List.map_set, go_sem, h3, h23, g28, g29, g30, g31, g35, g36, g37, g38, h39]) ?_
          try simp [-List.map_set, go_sem, h3, h23, g28, g29, g30, g31, g35, g36, g37, g38, h39]
          have h46 := Rn_some hF45
          exact hg17 (IntKind.i64.wrap (s14 + 1)) _ (by simp [-List.map_set, go_sem, h3, h23, g28, g29, g30, g31, g35, g36, g37, g38, h39]) h46
      · have hF47 := Rn_f hF21 h23
        try simp [-List.map_set, go_sem, h3, h23]
        have h48 := Rn_some hF47
        have h49 := ho16 _ h48
        subst h49
        exact hj8 () _ (by simp [-List.map_set, go_sem, h3, h23]) hψ18
noncomputable def F_laws_eqViewCount (a0 : ViewCount) (a1 : ViewCount) : Option (Bool) :=
  (F_laws_eqIntS a0.View a1.View).bind fun z1 =>
  if (!z1) = true then (
  some false) else (
  if (a0.Times != a1.Times) = true then (
  some false) else (
  some true))
theorem c_laws_eqViewCount {a0 : ViewCount} {a1 : ViewCount} {r : Bool} (hr : F_laws_eqViewCount a0 a1 = some r) : PCalls Try.prog 41 [(.sh, .agg [.sl false 1 (a0.View.map row_i64), .int .i64 a0.Times]), (.sh, .agg [.sl false 1 (a1.View.map row_i64), .int .i64 a1.Times])] (fun o os => o = .bool r ∧ os = [.junk, .junk]) := by
  refine pcalls_lift (R := fun (r : Bool) o os => o = .bool r ∧ os = [.junk, .junk]) [] [] hr cl41 Try.func41 rfl (by simp [Try.f41]) fun Φ hΦ hF => ?_
  unfold F_laws_eqViewCount at hF
  simp only [Try.f41, ioL_nil, ioL_sh, ioL_mv, ioL_io]
  try simp [-List.map_set, go_sem]
  refine pw_wkL [(2, .bl [.sl false 1 (a0.View.map row_i64), .int .i64 a0.Times]), (3, .bl [.sl false 1 (a1.View.map row_i64), .int .i64 a1.Times])] (by simp [-List.map_set, go_sem]) ?_
  obtain ⟨z1, e2, hF3⟩ := Rn_bind hF
  try simp [-List.map_set, go_sem]
  refine pw_callE [.sh, .sh] rfl rfl (by (try simp [-List.map_set, go_sem, clE]); first | rfl | done) (by rfl) (c_laws_eqIntS e2) (by (try simp [-List.map_set, go_sem]); first | rfl | done) (fun r0 os0 ho0 => ?_)
  obtain ⟨ho1, ho2⟩ := ho0
  subst ho1
  subst ho2
  refine ⟨by simp [-List.map_set, go_sem], ?_⟩
  try simp [-List.map_set, go_sem]
  refine pw_wkL [(2, .bl [.sl false 1 (a0.View.map row_i64), .int .i64 a0.Times]), (3, .bl [.sl false 1 (a1.View.map row_i64), .int .i64 a1.Times]), (10, .v (.bool (!z1)))] (by simp [-List.map_set, go_sem]) ?_
  repeat rw [pw_seq]
  refine pw_cond' (v := (!z1)) (by simp [-List.map_set, go_sem]) (fun h4 => ?_) (fun h4 => ?_)
  · have hF5 := Rn_t hF3 h4
    try simp [-List.map_set, go_sem, h4]
    refine pw_wkL [(4, .v (.bool false))] (by simp [-List.map_set, go_sem, h4]) ?_
    try simp [-List.map_set, go_sem, h4]
    have h6 := Rn_some hF5
    have h7 := hΦ _ h6
    subst h7
    try simp [-List.map_set, go_sem, h4]
  · have hF8 := Rn_f hF3 h4
    try simp [-List.map_set, go_sem, h4]
    refine pw_wkL [(2, .bl [.sl false 1 (a0.View.map row_i64), .int .i64 a0.Times]), (3, .bl [.sl false 1 (a1.View.map row_i64), .int .i64 a1.Times])] (by simp [-List.map_set, go_sem, h4]) ?_
    try simp [-List.map_set, go_sem, h4]
    refine pw_wkL [(15, .v (.bool (a0.Times != a1.Times)))] (by simp [-List.map_set, go_sem, h4]) ?_
    repeat rw [pw_seq]
    refine pw_cond' (v := (a0.Times != a1.Times)) (by simp [-List.map_set, go_sem, h4]) (fun h9 => ?_) (fun h9 => ?_)
    · have hF10 := Rn_t hF8 h9
      try simp [-List.map_set, go_sem, h4, h9]
      refine pw_wkL [(4, .v (.bool false))] (by simp [-List.map_set, go_sem, h4, h9]) ?_
      try simp [-List.map_set, go_sem, h4, h9]
      have h11 := Rn_some hF10
      have h12 := hΦ _ h11
      subst h12
      try simp [-List.map_set, go_sem, h4, h9]
    · have hF13 := Rn_f hF8 h9
      try simp [-List.map_set, go_sem, h4, h9]
      refine pw_wkL [] (by simp [-List.map_set, go_sem, h4, h9]) ?_
      try simp [-List.map_set, go_sem, h4, h9]
      refine pw_wkL [(4, .v (.bool true))] (by simp [-List.map_set, go_sem, h4, h9]) ?_
      try simp [-List.map_set, go_sem, h4, h9]
      have h14 := Rn_some hF13
      have h15 := hΦ _ h14
      subst h15
      try simp [-List.map_set, go_sem, h4, h9]
noncomputable def F_laws_eqViewCountS (a0 : (List ViewCount)) (a1 : (List ViewCount)) : Option (Bool) :=
  if ((a0.length : Int) != (a1.length : Int)) = true then (
  some false) else (
  ((wloop (σ := Int) (β := Unit ⊕ Bool) (fun s14 =>
  if decide (s14 < (a0.length : Int)) = true then (
  (ix a0 s14).bind fun x25 =>
  (ix a1 s14).bind fun x32 =>
  (F_laws_eqViewCount x25 x32).bind fun z39 =>
  if (!z39) = true then (
  some (.out (.inr false))) else (
  some (.go (IntKind.i64.wrap (s14 + 1))))) else (
  some (.out (.inl ())))) 0 : Option (Unit ⊕ Bool)).bind (Sum.elim (fun (x12 : Unit) =>
  some true) some)))
theorem c_laws_eqViewCountS {a0 : (List ViewCount)} {a1 : (List ViewCount)} {r : Bool} (hr : F_laws_eqViewCountS a0 a1 = some r) : PCalls Try.prog 14 [(.sh, .sl false 2 (a0.map row_ViewCount_z)), (.sh, .sl false 2 (a1.map row_ViewCount_z))] (fun o os => o = .bool r ∧ os = [.junk, .junk]) := by
  refine pcalls_lift (R := fun (r : Bool) o os => o = .bool r ∧ os = [.junk, .junk]) [] [] hr cl14 Try.func14 rfl (by simp [Try.f14]) fun Φ hΦ hF => ?_
  unfold F_laws_eqViewCountS at hF
  simp only [Try.f14, ioL_nil, ioL_sh, ioL_mv, ioL_io]
  try simp [-List.map_set, go_sem]
  refine pw_wkL [(0, .v (.sl false 2 (a0.map row_ViewCount_z))), (1, .v (.sl false 2 (a1.map row_ViewCount_z)))] (by simp [-List.map_set, go_sem]) ?_
  try simp [-List.map_set, go_sem]
  refine qln_some fun hl1 => ?_
  try simp [-List.map_set, go_sem]
  refine qln_some fun hl2 => ?_
  try simp [-List.map_set, go_sem]
  refine pw_wkL [(0, .v (.sl false 2 (a0.map row_ViewCount_z))), (1, .v (.sl false 2 (a1.map row_ViewCount_z))), (10, .v (.bool ((a0.length : Int) != (a1.length : Int))))] (by simp [-List.map_set, go_sem]) ?_
  repeat rw [pw_seq]
  refine pw_cond' (v := ((a0.length : Int) != (a1.length : Int))) (by simp [-List.map_set, go_sem]) (fun h3 => ?_) (fun h3 => ?_)
  · have hF4 := Rn_t hF h3
    try simp [-List.map_set, go_sem, h3]
    refine pw_wkL [(4, .v (.bool false))] (by simp [-List.map_set, go_sem, h3]) ?_
    try simp [-List.map_set, go_sem, h3]
    have h5 := Rn_some hF4
    have h6 := hΦ _ h5
    subst h6
    try simp [-List.map_set, go_sem, h3]
  · have hF7 := Rn_f hF h3
    try simp [-List.map_set, go_sem, h3]
    refine pw_wkL [(0, .v (.sl false 2 (a0.map row_ViewCount_z))), (1, .v (.sl false 2 (a1.map row_ViewCount_z)))] (by simp [-List.map_set, go_sem, h3]) ?_
    try simp [-List.map_set, go_sem, h3]
    refine pw_wkL [(0, .v (.sl false 2 (a0.map row_ViewCount_z))), (1, .v (.sl false 2 (a1.map row_ViewCount_z))), (5, .v (.int .i64 0))] (by simp [-List.map_set, go_sem, h3]) ?_
    repeat rw [pw_seq]
    refine pw_joinS (fun (x12 : Unit) => []) hF7 ?_ ?_
    · intro x12 hF13
      try dsimp only at hF13
      try simp [-List.map_set, go_sem, h3]
      refine pw_wkL [(4, .v (.bool true))] (by simp [-List.map_set, go_sem, h3]) ?_
      try simp [-List.map_set, go_sem, h3]
      have h55 := Rn_some hF13
      have h56 := hΦ _ h55
      subst h56
      try simp [-List.map_set, go_sem, h3]
    · intro ψ10 hj8 hr9 hF11
      repeat rw [pw_seq]
      rw [pw_block]
      try simp [-List.map_set, go_sem]
      obtain ⟨b53, hb54, hψ18⟩ := hF11
      refine pw_wloop (fun (s14 : Int) => [(0, .v (.sl false 2 (a0.map row_ViewCount_z))), (1, .v (.sl false 2 (a1.map row_ViewCount_z))), (5, .v (.int .i64 s14))]) hb54 (by simp [-List.map_set, go_sem, h3]) ?_
      intro s14 φ19 N20 ho16 hg17 hF21
      try dsimp only at hF21
      try simp [-List.map_set, go_sem, h3]
      refine qln_some fun hl22 => ?_
      try simp [-List.map_set, go_sem, h3]
      refine pw_wkL [(0, .v (.sl false 2 (a0.map row_ViewCount_z))), (1, .v (.sl false 2 (a1.map row_ViewCount_z))), (5, .v (.int .i64 s14)), (14, .v (.bool (decide (s14 < (a0.length : Int)))))] (by simp [-List.map_set, go_sem, h3]) ?_
      repeat rw [pw_seq]
      refine pw_cond' (v := decide (s14 < (a0.length : Int))) (by simp [-List.map_set, go_sem, h3]) (fun h23 => ?_) (fun h23 => ?_)
      · have hF24 := Rn_t hF21 h23
        try simp [-List.map_set, go_sem, h3, h23]
        refine pw_wkL [(0, .v (.sl false 2 (a0.map row_ViewCount_z))), (1, .v (.sl false 2 (a1.map row_ViewCount_z))), (5, .v (.int .i64 s14))] (by simp [-List.map_set, go_sem, h3, h23]) ?_
        repeat rw [pw_seq]
        rw [pw_block]
        repeat rw [pw_seq]
        refine pw_draw D14_6 follows (by kernel_rfl) rfl ?_
        try simp only [go_sem, D14_6]
        obtain ⟨x25, e26, hF27⟩ := Rn_bind hF24
        obtain ⟨g28, g29, g30⟩ := ix_some e26
        have g31 := ix_get e26
        try simp only [Int.toNat_natCast, Int.toNat_zero, Int.toNat_one, Int.reduceToNat] at g30 g31
        obtain ⟨x32, e33, hF34⟩ := Rn_bind hF27
        obtain ⟨g35, g36, g37⟩ := ix_some e33
        have g38 := ix_get e33
        try simp only [Int.toNat_natCast, Int.toNat_zero, Int.toNat_one, Int.reduceToNat] at g37 g38
        obtain ⟨z39, e40, hF41⟩ := Rn_bind hF34
        try simp [-List.map_set, go_sem, h3, h23, g28, g29, g30, g31, g35, g36, g37, g38]
        refine pw_callE [.sh, .sh] rfl rfl (by (try simp [-List.map_set, go_sem, clE, h3, h23, g28, g29, g30, g31, g35, g36, g37, g38]); first | rfl | done) (by rfl) (c_laws_eqViewCount e40) (by (try simp [-List.map_set, go_sem, h3, h23, g28, g29, g30, g31, g35, g36, g37, g38]); first | rfl | done) (fun r0 os0 ho0 => ?_)
        obtain ⟨ho1, ho2⟩ := ho0
        subst ho1
        subst ho2
        refine ⟨by simp [-List.map_set, go_sem, h3, h23, g28, g29, g30, g31, g35, g36, g37, g38], ?_⟩
        try simp [-List.map_set, go_sem, h3, h23, g28, g29, g30, g31, g35, g36, g37, g38]
        refine pw_wkL [(0, .v (.sl false 2 (a0.map row_ViewCount_z))), (1, .v (.sl false 2 (a1.map row_ViewCount_z))), (5, .v (.int .i64 s14)), (26, .v (.bool (!z39)))] (by simp [-List.map_set, go_sem, h3, h23, g28, g29, g30, g31, g35, g36, g37, g38]) ?_
        repeat rw [pw_seq]
        refine pw_cond' (v := (!z39)) (by simp [-List.map_set, go_sem, h3, h23, g28, g29, g30, g31, g35, g36, g37, g38]) (fun h42 => ?_) (fun h42 => ?_)
        · have hF43 := Rn_t hF41 h42
          try simp [-List.map_set, go_sem, h3, h23, g28, g29, g30, g31, g35, g36, g37, g38, h42]
          refine pw_wkL [(4, .v (.bool false))] (by simp [-List.map_set, go_sem, h3, h23, g28, g29, g30, g31, g35, g36, g37, g38, h42]) ?_
          try simp [-List.map_set, go_sem, h3, h23, g28, g29, g30, g31, g35, g36, g37, g38, h42]
          have h44 := Rn_some hF43
          have h45 := ho16 _ h44
          subst h45
          have h46 := hr9 _ hψ18
          have h47 := hΦ _ h46
          subst h47
          try simp [-List.map_set, go_sem, h3, h23, g28, g29, g30, g31, g35, g36, g37, g38, h42]
        · have hF48 := Rn_f hF41 h42
          try simp [-List.map_set, go_sem, h3, h23, g28, g29, g30, g31, g35, g36, g37, g38, h42]
          refine pw_wkL [(0, .v (.sl false 2 (a0.map row_ViewCount_z))), (1, .v (.sl false 2 (a1.map row_ViewCount_z))), (5, .v (.int .i64 s14))] (by simp [-List.map_set, go_sem, h3, h23, g28, g29, g30, g31, g35, g36, g37, g38, h42]) ?_
          try simp [-List.map_set, go_sem, h3, h23, g28, g29, g30, g31, g35, g36, g37, g38, h42]
          have h49 := Rn_some hF48
          exact hg17 (IntKind.i64.wrap (s14 + 1)) _ (by simp [-List.map_set, go_sem, h3, h23, g28, g29, g30, g31, g35, g36, g37, g38, h42]) h49
      · have hF50 := Rn_f hF21 h23
        try simp [-List.map_set, go_sem, h3, h23]
        have h51 := Rn_some hF50
        have h52 := ho16 _ h51
        subst h52
        exact hj8 () _ (by simp [-List.map_set, go_sem, h3, h23]) hψ18
noncomputable def F_laws_eqIntSS (a0 : (List (List Int))) (a1 : (List (List Int))) : Option (Bool) :=
  if ((a0.length : Int) != (a1.length : Int)) = true then (
  some false) else (
  ((wloop (σ := Int) (β := Unit ⊕ Bool) (fun s14 =>
  if decide (s14 < (a0.length : Int)) = true then (
  (ix a0 s14).bind fun x25 =>
  (ix a1 s14).bind fun x32 =>
  (F_laws_eqIntS x25 x32).bind fun z39 =>
  if (!z39) = true then (
  some (.out (.inr false))) else (
  some (.go (IntKind.i64.wrap (s14 + 1))))) else (
  some (.out (.inl ())))) 0 : Option (Unit ⊕ Bool)).bind (Sum.elim (fun (x12 : Unit) =>
  some true) some)))
theorem c_laws_eqIntSS {a0 : (List (List Int))} {a1 : (List (List Int))} {r : Bool} (hr : F_laws_eqIntSS a0 a1 = some r) : PCalls Try.prog 33 [(.sh, .sl false 1 (a0.map row_zi64)), (.sh, .sl false 1 (a1.map row_zi64))] (fun o os => o = .bool r ∧ os = [.junk, .junk]) := by
  refine pcalls_lift (R := fun (r : Bool) o os => o = .bool r ∧ os = [.junk, .junk]) [] [] hr cl33 Try.func33 rfl (by simp [Try.f33]) fun Φ hΦ hF => ?_
  unfold F_laws_eqIntSS at hF
  simp only [Try.f33, ioL_nil, ioL_sh, ioL_mv, ioL_io]
  try simp [-List.map_set, go_sem]
  refine pw_wkL [(0, .v (.sl false 1 (a0.map row_zi64))), (1, .v (.sl false 1 (a1.map row_zi64)))] (by simp [-List.map_set, go_sem]) ?_
  try simp [-List.map_set, go_sem]
  refine qln_some fun hl1 => ?_
  try simp [-List.map_set, go_sem]
  refine qln_some fun hl2 => ?_
  try simp [-List.map_set, go_sem]
  refine pw_wkL [(0, .v (.sl false 1 (a0.map row_zi64))), (1, .v (.sl false 1 (a1.map row_zi64))), (10, .v (.bool ((a0.length : Int) != (a1.length : Int))))] (by simp [-List.map_set, go_sem]) ?_
  repeat rw [pw_seq]
  refine pw_cond' (v := ((a0.length : Int) != (a1.length : Int))) (by simp [-List.map_set, go_sem]) (fun h3 => ?_) (fun h3 => ?_)
  · have hF4 := Rn_t hF h3
    try simp [-List.map_set, go_sem, h3]
    refine pw_wkL [(4, .v (.bool false))] (by simp [-List.map_set, go_sem, h3]) ?_
    try simp [-List.map_set, go_sem, h3]
    have h5 := Rn_some hF4
    have h6 := hΦ _ h5
    subst h6
    try simp [-List.map_set, go_sem, h3]
  · have hF7 := Rn_f hF h3
    try simp [-List.map_set, go_sem, h3]
    refine pw_wkL [(0, .v (.sl false 1 (a0.map row_zi64))), (1, .v (.sl false 1 (a1.map row_zi64)))] (by simp [-List.map_set, go_sem, h3]) ?_
    try simp [-List.map_set, go_sem, h3]
    refine pw_wkL [(0, .v (.sl false 1 (a0.map row_zi64))), (1, .v (.sl false 1 (a1.map row_zi64))), (5, .v (.int .i64 0))] (by simp [-List.map_set, go_sem, h3]) ?_
    repeat rw [pw_seq]
    refine pw_joinS (fun (x12 : Unit) => []) hF7 ?_ ?_
    · intro x12 hF13
      try dsimp only at hF13
      try simp [-List.map_set, go_sem, h3]
      refine pw_wkL [(4, .v (.bool true))] (by simp [-List.map_set, go_sem, h3]) ?_
      try simp [-List.map_set, go_sem, h3]
      have h55 := Rn_some hF13
      have h56 := hΦ _ h55
      subst h56
      try simp [-List.map_set, go_sem, h3]
    · intro ψ10 hj8 hr9 hF11
      repeat rw [pw_seq]
      rw [pw_block]
      try simp [-List.map_set, go_sem]
      obtain ⟨b53, hb54, hψ18⟩ := hF11
      refine pw_wloop (fun (s14 : Int) => [(0, .v (.sl false 1 (a0.map row_zi64))), (1, .v (.sl false 1 (a1.map row_zi64))), (5, .v (.int .i64 s14))]) hb54 (by simp [-List.map_set, go_sem, h3]) ?_
      intro s14 φ19 N20 ho16 hg17 hF21
      try dsimp only at hF21
      try simp [-List.map_set, go_sem, h3]
      refine qln_some fun hl22 => ?_
      try simp [-List.map_set, go_sem, h3]
      refine pw_wkL [(0, .v (.sl false 1 (a0.map row_zi64))), (1, .v (.sl false 1 (a1.map row_zi64))), (5, .v (.int .i64 s14)), (14, .v (.bool (decide (s14 < (a0.length : Int)))))] (by simp [-List.map_set, go_sem, h3]) ?_
      repeat rw [pw_seq]
      refine pw_cond' (v := decide (s14 < (a0.length : Int))) (by simp [-List.map_set, go_sem, h3]) (fun h23 => ?_) (fun h23 => ?_)
      · have hF24 := Rn_t hF21 h23
        try simp [-List.map_set, go_sem, h3, h23]
        refine pw_wkL [(0, .v (.sl false 1 (a0.map row_zi64))), (1, .v (.sl false 1 (a1.map row_zi64))), (5, .v (.int .i64 s14))] (by simp [-List.map_set, go_sem, h3, h23]) ?_
        repeat rw [pw_seq]
        rw [pw_block]
        repeat rw [pw_seq]
        refine pw_draw D33_6 follows (by kernel_rfl) rfl ?_
        try simp only [go_sem, D33_6]
        obtain ⟨x25, e26, hF27⟩ := Rn_bind hF24
        obtain ⟨g28, g29, g30⟩ := ix_some e26
        have g31 := ix_get e26
        try simp only [Int.toNat_natCast, Int.toNat_zero, Int.toNat_one, Int.reduceToNat] at g30 g31
        obtain ⟨x32, e33, hF34⟩ := Rn_bind hF27
        obtain ⟨g35, g36, g37⟩ := ix_some e33
        have g38 := ix_get e33
        try simp only [Int.toNat_natCast, Int.toNat_zero, Int.toNat_one, Int.reduceToNat] at g37 g38
        obtain ⟨z39, e40, hF41⟩ := Rn_bind hF34
        try simp [-List.map_set, go_sem, h3, h23, g28, g29, g30, g31, g35, g36, g37, g38]
        refine pw_callE [.sh, .sh] rfl rfl (by (try simp [-List.map_set, go_sem, clE, h3, h23, g28, g29, g30, g31, g35, g36, g37, g38]); first | rfl | done) (by rfl) (c_laws_eqIntS e40) (by (try simp [-List.map_set, go_sem, h3, h23, g28, g29, g30, g31, g35, g36, g37, g38]); first | rfl | done) (fun r0 os0 ho0 => ?_)
        obtain ⟨ho1, ho2⟩ := ho0
        subst ho1
        subst ho2
        refine ⟨by simp [-List.map_set, go_sem, h3, h23, g28, g29, g30, g31, g35, g36, g37, g38], ?_⟩
        try simp [-List.map_set, go_sem, h3, h23, g28, g29, g30, g31, g35, g36, g37, g38]
        refine pw_wkL [(0, .v (.sl false 1 (a0.map row_zi64))), (1, .v (.sl false 1 (a1.map row_zi64))), (5, .v (.int .i64 s14)), (26, .v (.bool (!z39)))] (by simp [-List.map_set, go_sem, h3, h23, g28, g29, g30, g31, g35, g36, g37, g38]) ?_
        repeat rw [pw_seq]
        refine pw_cond' (v := (!z39)) (by simp [-List.map_set, go_sem, h3, h23, g28, g29, g30, g31, g35, g36, g37, g38]) (fun h42 => ?_) (fun h42 => ?_)
        · have hF43 := Rn_t hF41 h42
          try simp [-List.map_set, go_sem, h3, h23, g28, g29, g30, g31, g35, g36, g37, g38, h42]
          refine pw_wkL [(4, .v (.bool false))] (by simp [-List.map_set, go_sem, h3, h23, g28, g29, g30, g31, g35, g36, g37, g38, h42]) ?_
          try simp [-List.map_set, go_sem, h3, h23, g28, g29, g30, g31, g35, g36, g37, g38, h42]
          have h44 := Rn_some hF43
          have h45 := ho16 _ h44
          subst h45
          have h46 := hr9 _ hψ18
          have h47 := hΦ _ h46
          subst h47
          try simp [-List.map_set, go_sem, h3, h23, g28, g29, g30, g31, g35, g36, g37, g38, h42]
        · have hF48 := Rn_f hF41 h42
          try simp [-List.map_set, go_sem, h3, h23, g28, g29, g30, g31, g35, g36, g37, g38, h42]
          refine pw_wkL [(0, .v (.sl false 1 (a0.map row_zi64))), (1, .v (.sl false 1 (a1.map row_zi64))), (5, .v (.int .i64 s14))] (by simp [-List.map_set, go_sem, h3, h23, g28, g29, g30, g31, g35, g36, g37, g38, h42]) ?_
          try simp [-List.map_set, go_sem, h3, h23, g28, g29, g30, g31, g35, g36, g37, g38, h42]
          have h49 := Rn_some hF48
          exact hg17 (IntKind.i64.wrap (s14 + 1)) _ (by simp [-List.map_set, go_sem, h3, h23, g28, g29, g30, g31, g35, g36, g37, g38, h42]) h49
      · have hF50 := Rn_f hF21 h23
        try simp [-List.map_set, go_sem, h3, h23]
        have h51 := Rn_some hF50
        have h52 := ho16 _ h51
        subst h52
        exact hj8 () _ (by simp [-List.map_set, go_sem, h3, h23]) hψ18
noncomputable def F_laws_markIntS__io0 (a0 : (List Int)) (a1 : Int) : Option (Int × (List Int)) :=
  ((wloop (σ := (List Int) × Int × Int) (β := ((List Int) × Int)) (fun s29 =>
  if decide (s29.2.2 < (s29.1.length : Int)) = true then (
  (ix s29.1 s29.2.2).bind fun x40 =>
  some (.go (s29.1.set s29.2.2.toNat s29.2.1, IntKind.i64.wrap (s29.2.1 + 1), IntKind.i64.wrap (s29.2.2 + 1)))) else (
  some (.out (s29.1, s29.2.1)))) (a0, a1, 0) : Option (((List Int) × Int))).bind fun (x5 : (List Int) × Int) =>
  some (x5.2, x5.1))
theorem c_laws_markIntS__io0 {a0 : (List Int)} {a1 : Int} {r : Int × (List Int)} (hr : F_laws_markIntS__io0 a0 a1 = some r) : PCalls Try.prog 76 [(.io, .sl true 1 (a0.map row_i64)), (.sh, .int .i64 a1)] (fun o os => o = .int .i64 r.1 ∧ os = [.sl true 1 (r.2.map row_i64), .junk]) := by
  refine pcalls_lift (R := fun (r : Int × (List Int)) o os => o = .int .i64 r.1 ∧ os = [.sl true 1 (r.2.map row_i64), .junk]) [] [] hr cl76 Try.func76 rfl (by simp [Try.f76]) fun Φ hΦ hF => ?_
  unfold F_laws_markIntS__io0 at hF
  simp only [Try.f76, ioL_nil, ioL_sh, ioL_mv, ioL_io]
  try simp [-List.map_set, go_sem]
  refine pw_wkL [(0, .v (.sl true 1 (a0.map row_i64))), (1, .v (.int .i64 a1))] (by simp [-List.map_set, go_sem]) ?_
  try simp [-List.map_set, go_sem]
  refine pw_wkL [(0, .v (.sl true 1 (a0.map row_i64))), (1, .v (.int .i64 a1)), (5, .v (.int .i64 0))] (by simp [-List.map_set, go_sem]) ?_
  repeat rw [pw_seq]
  refine pw_joinF (fun (x5 : (List Int) × Int) => [(0, .v (.sl true 1 (x5.1.map row_i64))), (1, .v (.int .i64 x5.2))]) hF ?_ ?_
  · intro x5 hF6
    try dsimp only at hF6
    try simp [-List.map_set, go_sem]
    refine pw_wkL [(0, .v (.sl true 1 (x5.1.map row_i64))), (4, .v (.int .i64 x5.2))] (by simp [-List.map_set, go_sem]) ?_
    try simp [-List.map_set, go_sem]
    have h53 := Rn_some hF6
    have h54 := hΦ _ h53
    subst h54
    try simp [-List.map_set, go_sem]
  · intro ψ3 hj1 hF4
    repeat rw [pw_seq]
    rw [pw_block]
    try simp [-List.map_set, go_sem]
    obtain ⟨b51, hb52, hψ33⟩ := hF4
    refine pw_wloop (fun (s29 : (List Int) × Int × Int) => [(0, .v (.sl true 1 (s29.1.map row_i64))), (1, .v (.int .i64 s29.2.1)), (5, .v (.int .i64 s29.2.2))]) hb52 (by simp [-List.map_set, go_sem]) ?_
    intro s29 φ34 N35 ho31 hg32 hF36
    try dsimp only at hF36
    try simp [-List.map_set, go_sem]
    refine qln_some fun hl37 => ?_
    try simp [-List.map_set, go_sem]
    refine pw_wkL [(0, .v (.sl true 1 (s29.1.map row_i64))), (1, .v (.int .i64 s29.2.1)), (5, .v (.int .i64 s29.2.2)), (9, .v (.bool (decide (s29.2.2 < (s29.1.length : Int)))))] (by simp [-List.map_set, go_sem]) ?_
    repeat rw [pw_seq]
    refine pw_cond' (v := decide (s29.2.2 < (s29.1.length : Int))) (by simp [-List.map_set, go_sem]) (fun h38 => ?_) (fun h38 => ?_)
    · have hF39 := Rn_t hF36 h38
      try simp [-List.map_set, go_sem, h38]
      refine pw_wkL [(0, .v (.sl true 1 (s29.1.map row_i64))), (1, .v (.int .i64 s29.2.1)), (5, .v (.int .i64 s29.2.2))] (by simp [-List.map_set, go_sem, h38]) ?_
      repeat rw [pw_seq]
      rw [pw_block]
      obtain ⟨x40, e41, hF42⟩ := Rn_bind hF39
      obtain ⟨g43, g44, g45⟩ := ix_some e41
      have g46 := ix_get e41
      try simp only [Int.toNat_natCast, Int.toNat_zero, Int.toNat_one, Int.reduceToNat] at g45 g46
      try simp [-List.map_set, go_sem, h38, g43, g44, g45, g46]
      refine pw_wkL [(0, .v (.sl true 1 ((s29.1.set s29.2.2.toNat s29.2.1).map row_i64))), (1, .v (.int .i64 s29.2.1)), (5, .v (.int .i64 s29.2.2))] (by simp [-List.map_set, go_sem, h38, g43, g44, g45, g46]) ?_
      try simp [-List.map_set, go_sem, h38, g43, g44, g45, g46]
      refine pw_wkL [(0, .v (.sl true 1 ((s29.1.set s29.2.2.toNat s29.2.1).map row_i64))), (1, .v (.int .i64 (IntKind.i64.wrap (s29.2.1 + 1)))), (5, .v (.int .i64 s29.2.2))] (by simp [-List.map_set, go_sem, h38, g43, g44, g45, g46]) ?_
      try simp [-List.map_set, go_sem, h38, g43, g44, g45, g46]
      have h47 := Rn_some hF42
      exact hg32 (s29.1.set s29.2.2.toNat s29.2.1, IntKind.i64.wrap (s29.2.1 + 1), IntKind.i64.wrap (s29.2.2 + 1)) _ (by simp [-List.map_set, go_sem, h38, g43, g44, g45, g46]) h47
    · have hF48 := Rn_f hF36 h38
      try simp [-List.map_set, go_sem, h38]
      have h49 := Rn_some hF48
      have h50 := ho31 _ h49
      subst h50
      exact hj1 (s29.1, s29.2.1) _ (by simp [-List.map_set, go_sem, h38]) hψ33
noncomputable def F_laws_markIntSS__io0 (a0 : (List (List Int))) (a1 : Int) : Option (Int × (List (List Int))) :=
  ((wloop (σ := (List (List Int)) × Int × Int) (β := ((List (List Int)) × Int)) (fun s32 =>
  if decide (s32.2.2 < (s32.1.length : Int)) = true then (
  (ix s32.1 s32.2.2).bind fun x43 =>
  (F_laws_markIntS__io0 x43 s32.2.1).bind fun z50 =>
  some (.go (s32.1.set s32.2.2.toNat z50.2, z50.1, IntKind.i64.wrap (s32.2.2 + 1)))) else (
  some (.out (s32.1, s32.2.1)))) (a0, a1, 0) : Option (((List (List Int)) × Int))).bind fun (x5 : (List (List Int)) × Int) =>
  some (x5.2, x5.1))
theorem c_laws_markIntSS__io0 {a0 : (List (List Int))} {a1 : Int} {r : Int × (List (List Int))} (hr : F_laws_markIntSS__io0 a0 a1 = some r) : PCalls Try.prog 34 [(.io, .sl true 1 (a0.map row_oi64)), (.sh, .int .i64 a1)] (fun o os => o = .int .i64 r.1 ∧ os = [.sl true 1 (r.2.map row_oi64), .junk]) := by
  refine pcalls_lift (R := fun (r : Int × (List (List Int))) o os => o = .int .i64 r.1 ∧ os = [.sl true 1 (r.2.map row_oi64), .junk]) [] [] hr cl34 Try.func34 rfl (by simp [Try.f34]) fun Φ hΦ hF => ?_
  unfold F_laws_markIntSS__io0 at hF
  simp only [Try.f34, ioL_nil, ioL_sh, ioL_mv, ioL_io]
  try simp [-List.map_set, go_sem]
  refine pw_wkL [(0, .v (.sl true 1 (a0.map row_oi64))), (1, .v (.int .i64 a1))] (by simp [-List.map_set, go_sem]) ?_
  try simp [-List.map_set, go_sem]
  refine pw_wkL [(0, .v (.sl true 1 (a0.map row_oi64))), (1, .v (.int .i64 a1)), (5, .v (.int .i64 0))] (by simp [-List.map_set, go_sem]) ?_
  repeat rw [pw_seq]
  refine pw_joinF (fun (x5 : (List (List Int)) × Int) => [(0, .v (.sl true 1 (x5.1.map row_oi64))), (1, .v (.int .i64 x5.2))]) hF ?_ ?_
  · intro x5 hF6
    try dsimp only at hF6
    try simp [-List.map_set, go_sem]
    refine pw_wkL [(0, .v (.sl true 1 (x5.1.map row_oi64))), (4, .v (.int .i64 x5.2))] (by simp [-List.map_set, go_sem]) ?_
    try simp [-List.map_set, go_sem]
    have h59 := Rn_some hF6
    have h60 := hΦ _ h59
    subst h60
    try simp [-List.map_set, go_sem]
  · intro ψ3 hj1 hF4
    repeat rw [pw_seq]
    rw [pw_block]
    try simp [-List.map_set, go_sem]
    obtain ⟨b57, hb58, hψ36⟩ := hF4
    refine pw_wloop (fun (s32 : (List (List Int)) × Int × Int) => [(0, .v (.sl true 1 (s32.1.map row_oi64))), (1, .v (.int .i64 s32.2.1)), (5, .v (.int .i64 s32.2.2))]) hb58 (by simp [-List.map_set, go_sem]) ?_
    intro s32 φ37 N38 ho34 hg35 hF39
    try dsimp only at hF39
    try simp [-List.map_set, go_sem]
    refine qln_some fun hl40 => ?_
    try simp [-List.map_set, go_sem]
    refine pw_wkL [(0, .v (.sl true 1 (s32.1.map row_oi64))), (1, .v (.int .i64 s32.2.1)), (5, .v (.int .i64 s32.2.2)), (9, .v (.bool (decide (s32.2.2 < (s32.1.length : Int)))))] (by simp [-List.map_set, go_sem]) ?_
    repeat rw [pw_seq]
    refine pw_cond' (v := decide (s32.2.2 < (s32.1.length : Int))) (by simp [-List.map_set, go_sem]) (fun h41 => ?_) (fun h41 => ?_)
    · have hF42 := Rn_t hF39 h41
      try simp [-List.map_set, go_sem, h41]
      refine pw_wkL [(0, .v (.sl true 1 (s32.1.map row_oi64))), (1, .v (.int .i64 s32.2.1)), (5, .v (.int .i64 s32.2.2))] (by simp [-List.map_set, go_sem, h41]) ?_
      repeat rw [pw_seq]
      rw [pw_block]
      obtain ⟨x43, e44, hF45⟩ := Rn_bind hF42
      obtain ⟨g46, g47, g48⟩ := ix_some e44
      have g49 := ix_get e44
      try simp only [Int.toNat_natCast, Int.toNat_zero, Int.toNat_one, Int.reduceToNat] at g48 g49
      obtain ⟨z50, e51, hF52⟩ := Rn_bind hF45
      try simp [-List.map_set, go_sem, h41, g46, g47, g48, g49]
      refine pw_callE [.io, .sh] rfl rfl (by (try simp [-List.map_set, go_sem, clE, h41, g46, g47, g48, g49]); first | rfl | done) (by rfl) (c_laws_markIntS__io0 e51) (by (try simp [-List.map_set, go_sem, h41, g46, g47, g48, g49]); first | rfl | done) (fun r0 os0 ho0 => ?_)
      obtain ⟨ho1, ho2⟩ := ho0
      subst ho1
      subst ho2
      refine ⟨by simp [-List.map_set, go_sem, h41, g46, g47, g48, g49], ?_⟩
      try simp [-List.map_set, go_sem, h41, g46, g47, g48, g49]
      refine pw_wkL [(0, .v (.sl true 1 ((s32.1.set s32.2.2.toNat z50.2).map row_oi64))), (1, .v (.int .i64 z50.1)), (5, .v (.int .i64 s32.2.2))] (by simp [-List.map_set, go_sem, h41, g46, g47, g48, g49]) ?_
      try simp [-List.map_set, go_sem, h41, g46, g47, g48, g49]
      have h53 := Rn_some hF52
      exact hg35 (s32.1.set s32.2.2.toNat z50.2, z50.1, IntKind.i64.wrap (s32.2.2 + 1)) _ (by simp [-List.map_set, go_sem, h41, g46, g47, g48, g49]) h53
    · have hF54 := Rn_f hF39 h41
      try simp [-List.map_set, go_sem, h41]
      have h55 := Rn_some hF54
      have h56 := ho34 _ h55
      subst h56
      exact hj1 (s32.1, s32.2.1) _ (by simp [-List.map_set, go_sem, h41]) hψ36
noncomputable def F_laws_markViewCountS__io0 (a0 : (List ViewCount)) (a1 : Int) : Option (Int × (List ViewCount)) :=
  ((wloop (σ := (List ViewCount) × Int × Int) (β := ((List ViewCount) × Int)) (fun s39 =>
  if decide (s39.2.2 < (s39.1.length : Int)) = true then (
  (ix s39.1 s39.2.2).bind fun x50 =>
  (F_laws_markIntS__io0 x50.View s39.2.1).bind fun z57 =>
  (ix (s39.1.set s39.2.2.toNat (ViewCount.mk z57.2 x50.Times)) s39.2.2).bind fun x60 =>
  some (.go ((s39.1.set s39.2.2.toNat (ViewCount.mk z57.2 x50.Times)).set s39.2.2.toNat (ViewCount.mk x60.View z57.1), IntKind.i64.wrap (z57.1 + 1), IntKind.i64.wrap (s39.2.2 + 1)))) else (
  some (.out (s39.1, s39.2.1)))) (a0, a1, 0) : Option (((List ViewCount) × Int))).bind fun (x5 : (List ViewCount) × Int) =>
  some (x5.2, x5.1))
theorem c_laws_markViewCountS__io0 {a0 : (List ViewCount)} {a1 : Int} {r : Int × (List ViewCount)} (hr : F_laws_markViewCountS__io0 a0 a1 = some r) : PCalls Try.prog 25 [(.io, .sl true 2 (a0.map row_ViewCount_o)), (.sh, .int .i64 a1)] (fun o os => o = .int .i64 r.1 ∧ os = [.sl true 2 (r.2.map row_ViewCount_o), .junk]) := by
  refine pcalls_lift (R := fun (r : Int × (List ViewCount)) o os => o = .int .i64 r.1 ∧ os = [.sl true 2 (r.2.map row_ViewCount_o), .junk]) [] [] hr cl25 Try.func25 rfl (by simp [Try.f25]) fun Φ hΦ hF => ?_
  unfold F_laws_markViewCountS__io0 at hF
  simp only [Try.f25, ioL_nil, ioL_sh, ioL_mv, ioL_io]
  try simp [-List.map_set, go_sem]
  refine pw_wkL [(0, .v (.sl true 2 (a0.map row_ViewCount_o))), (1, .v (.int .i64 a1))] (by simp [-List.map_set, go_sem]) ?_
  try simp [-List.map_set, go_sem]
  refine pw_wkL [(0, .v (.sl true 2 (a0.map row_ViewCount_o))), (1, .v (.int .i64 a1)), (5, .v (.int .i64 0))] (by simp [-List.map_set, go_sem]) ?_
  repeat rw [pw_seq]
  refine pw_joinF (fun (x5 : (List ViewCount) × Int) => [(0, .v (.sl true 2 (x5.1.map row_ViewCount_o))), (1, .v (.int .i64 x5.2))]) hF ?_ ?_
  · intro x5 hF6
    try dsimp only at hF6
    try simp [-List.map_set, go_sem]
    refine pw_wkL [(0, .v (.sl true 2 (x5.1.map row_ViewCount_o))), (4, .v (.int .i64 x5.2))] (by simp [-List.map_set, go_sem]) ?_
    try simp [-List.map_set, go_sem]
    have h73 := Rn_some hF6
    have h74 := hΦ _ h73
    subst h74
    try simp [-List.map_set, go_sem]
  · intro ψ3 hj1 hF4
    repeat rw [pw_seq]
    rw [pw_block]
    try simp [-List.map_set, go_sem]
    obtain ⟨b71, hb72, hψ43⟩ := hF4
    refine pw_wloop (fun (s39 : (List ViewCount) × Int × Int) => [(0, .v (.sl true 2 (s39.1.map row_ViewCount_o))), (1, .v (.int .i64 s39.2.1)), (5, .v (.int .i64 s39.2.2))]) hb72 (by simp [-List.map_set, go_sem]) ?_
    intro s39 φ44 N45 ho41 hg42 hF46
    try dsimp only at hF46
    try simp [-List.map_set, go_sem]
    refine qln_some fun hl47 => ?_
    try simp [-List.map_set, go_sem]
    refine pw_wkL [(0, .v (.sl true 2 (s39.1.map row_ViewCount_o))), (1, .v (.int .i64 s39.2.1)), (5, .v (.int .i64 s39.2.2)), (9, .v (.bool (decide (s39.2.2 < (s39.1.length : Int)))))] (by simp [-List.map_set, go_sem]) ?_
    repeat rw [pw_seq]
    refine pw_cond' (v := decide (s39.2.2 < (s39.1.length : Int))) (by simp [-List.map_set, go_sem]) (fun h48 => ?_) (fun h48 => ?_)
    · have hF49 := Rn_t hF46 h48
      try simp [-List.map_set, go_sem, h48]
      refine pw_wkL [(0, .v (.sl true 2 (s39.1.map row_ViewCount_o))), (1, .v (.int .i64 s39.2.1)), (5, .v (.int .i64 s39.2.2))] (by simp [-List.map_set, go_sem, h48]) ?_
      repeat rw [pw_seq]
      rw [pw_block]
      obtain ⟨x50, e51, hF52⟩ := Rn_bind hF49
      obtain ⟨g53, g54, g55⟩ := ix_some e51
      have g56 := ix_get e51
      try simp only [Int.toNat_natCast, Int.toNat_zero, Int.toNat_one, Int.reduceToNat] at g55 g56
      obtain ⟨z57, e58, hF59⟩ := Rn_bind hF52
      try simp [-List.map_set, go_sem, h48, g53, g54, g55, g56]
      refine pw_callE [.io, .sh] rfl rfl (by (try simp [-List.map_set, go_sem, clE, h48, g53, g54, g55, g56]); first | rfl | done) (by rfl) (c_laws_markIntS__io0 e58) (by (try simp [-List.map_set, go_sem, h48, g53, g54, g55, g56]); first | rfl | done) (fun r0 os0 ho0 => ?_)
      obtain ⟨ho1, ho2⟩ := ho0
      subst ho1
      subst ho2
      refine ⟨by simp [-List.map_set, go_sem, h48, g53, g54, g55, g56], ?_⟩
      try simp [-List.map_set, go_sem, h48, g53, g54, g55, g56]
      refine pw_wkL [(0, .v (.sl true 2 ((s39.1.set s39.2.2.toNat (ViewCount.mk z57.2 x50.Times)).map row_ViewCount_o))), (1, .v (.int .i64 z57.1)), (5, .v (.int .i64 s39.2.2))] (by simp [-List.map_set, go_sem, h48, g53, g54, g55, g56]) ?_
      obtain ⟨x60, e61, hF62⟩ := Rn_bind hF59
      obtain ⟨g63, g64, g65⟩ := ix_some e61
      have g66 := ix_get e61
      try simp only [Int.toNat_natCast, Int.toNat_zero, Int.toNat_one, Int.reduceToNat] at g65 g66
      try simp [-List.map_set, go_sem, h48, g53, g54, g55, g56, g63, g64, g65, g66]
      refine pw_wkL [(0, .v (.sl true 2 (((s39.1.set s39.2.2.toNat (ViewCount.mk z57.2 x50.Times)).set s39.2.2.toNat (ViewCount.mk x60.View z57.1)).map row_ViewCount_o))), (1, .v (.int .i64 z57.1)), (5, .v (.int .i64 s39.2.2))] (by simp [-List.map_set, go_sem, h48, g53, g54, g55, g56, g63, g64, g65, g66]) ?_
      try simp [-List.map_set, go_sem, h48, g53, g54, g55, g56, g63, g64, g65, g66]
      refine pw_wkL [(0, .v (.sl true 2 (((s39.1.set s39.2.2.toNat (ViewCount.mk z57.2 x50.Times)).set s39.2.2.toNat (ViewCount.mk x60.View z57.1)).map row_ViewCount_o))), (1, .v (.int .i64 (IntKind.i64.wrap (z57.1 + 1)))), (5, .v (.int .i64 s39.2.2))] (by simp [-List.map_set, go_sem, h48, g53, g54, g55, g56, g63, g64, g65, g66]) ?_
      try simp [-List.map_set, go_sem, h48, g53, g54, g55, g56, g63, g64, g65, g66]
      have h67 := Rn_some hF62
      exact hg42 ((s39.1.set s39.2.2.toNat (ViewCount.mk z57.2 x50.Times)).set s39.2.2.toNat (ViewCount.mk x60.View z57.1), IntKind.i64.wrap (z57.1 + 1), IntKind.i64.wrap (s39.2.2 + 1)) _ (by simp [-List.map_set, go_sem, h48, g53, g54, g55, g56, g63, g64, g65, g66]) h67
    · have hF68 := Rn_f hF46 h48
      try simp [-List.map_set, go_sem, h48]
      have h69 := Rn_some hF68
      have h70 := ho41 _ h69
      subst h70
      exact hj1 (s39.1, s39.2.1) _ (by simp [-List.map_set, go_sem, h48]) hψ43
noncomputable def F_laws_heldIntS (a0 : (List Int)) (a1 : Int) : Option (Int) :=
  ((wloop (σ := Int × Int) (β := Int ⊕ Int) (fun s7 =>
  if decide (s7.2 < (a0.length : Int)) = true then (
  (ix a0 s7.2).bind fun x18 =>
  if (x18 != s7.1) = true then (
  some (.out (.inr (-1)))) else (
  some (.go (IntKind.i64.wrap (s7.1 + 1), IntKind.i64.wrap (s7.2 + 1))))) else (
  some (.out (.inl s7.1)))) (a1, 0) : Option (Int ⊕ Int)).bind (Sum.elim (fun (x5 : Int) =>
  some x5) some))
theorem c_laws_heldIntS {a0 : (List Int)} {a1 : Int} {r : Int} (hr : F_laws_heldIntS a0 a1 = some r) : PCalls Try.prog 77 [(.sh, .sl false 1 (a0.map row_i64)), (.sh, .int .i64 a1)] (fun o os => o = .int .i64 r ∧ os = [.junk, .junk]) := by
  refine pcalls_lift (R := fun (r : Int) o os => o = .int .i64 r ∧ os = [.junk, .junk]) [] [] hr cl77 Try.func77 rfl (by simp [Try.f77]) fun Φ hΦ hF => ?_
  unfold F_laws_heldIntS at hF
  simp only [Try.f77, ioL_nil, ioL_sh, ioL_mv, ioL_io]
  try simp [-List.map_set, go_sem]
  refine pw_wkL [(0, .v (.sl false 1 (a0.map row_i64))), (1, .v (.int .i64 a1))] (by simp [-List.map_set, go_sem]) ?_
  try simp [-List.map_set, go_sem]
  refine pw_wkL [(0, .v (.sl false 1 (a0.map row_i64))), (1, .v (.int .i64 a1)), (5, .v (.int .i64 0))] (by simp [-List.map_set, go_sem]) ?_
  repeat rw [pw_seq]
  refine pw_joinS (fun (x5 : Int) => [(1, .v (.int .i64 x5))]) hF ?_ ?_
  · intro x5 hF6
    try dsimp only at hF6
    try simp [-List.map_set, go_sem]
    refine pw_wkL [(4, .v (.int .i64 x5))] (by simp [-List.map_set, go_sem]) ?_
    try simp [-List.map_set, go_sem]
    have h38 := Rn_some hF6
    have h39 := hΦ _ h38
    subst h39
    try simp [-List.map_set, go_sem]
  · intro ψ3 hj1 hr2 hF4
    repeat rw [pw_seq]
    rw [pw_block]
    try simp [-List.map_set, go_sem]
    obtain ⟨b36, hb37, hψ11⟩ := hF4
    refine pw_wloop (fun (s7 : Int × Int) => [(0, .v (.sl false 1 (a0.map row_i64))), (1, .v (.int .i64 s7.1)), (5, .v (.int .i64 s7.2))]) hb37 (by simp [-List.map_set, go_sem]) ?_
    intro s7 φ12 N13 ho9 hg10 hF14
    try dsimp only at hF14
    try simp [-List.map_set, go_sem]
    refine qln_some fun hl15 => ?_
    try simp [-List.map_set, go_sem]
    refine pw_wkL [(0, .v (.sl false 1 (a0.map row_i64))), (1, .v (.int .i64 s7.1)), (5, .v (.int .i64 s7.2)), (9, .v (.bool (decide (s7.2 < (a0.length : Int)))))] (by simp [-List.map_set, go_sem]) ?_
    repeat rw [pw_seq]
    refine pw_cond' (v := decide (s7.2 < (a0.length : Int))) (by simp [-List.map_set, go_sem]) (fun h16 => ?_) (fun h16 => ?_)
    · have hF17 := Rn_t hF14 h16
      try simp [-List.map_set, go_sem, h16]
      refine pw_wkL [(0, .v (.sl false 1 (a0.map row_i64))), (1, .v (.int .i64 s7.1)), (5, .v (.int .i64 s7.2))] (by simp [-List.map_set, go_sem, h16]) ?_
      repeat rw [pw_seq]
      rw [pw_block]
      obtain ⟨x18, e19, hF20⟩ := Rn_bind hF17
      obtain ⟨g21, g22, g23⟩ := ix_some e19
      have g24 := ix_get e19
      try simp only [Int.toNat_natCast, Int.toNat_zero, Int.toNat_one, Int.reduceToNat] at g23 g24
      try simp [-List.map_set, go_sem, h16, g21, g22, g23, g24]
      refine pw_wkL [(0, .v (.sl false 1 (a0.map row_i64))), (1, .v (.int .i64 s7.1)), (5, .v (.int .i64 s7.2)), (17, .v (.bool (x18 != s7.1)))] (by simp [-List.map_set, go_sem, h16, g21, g22, g23, g24]) ?_
      repeat rw [pw_seq]
      refine pw_cond' (v := (x18 != s7.1)) (by simp [-List.map_set, go_sem, h16, g21, g22, g23, g24]) (fun h25 => ?_) (fun h25 => ?_)
      · have hF26 := Rn_t hF20 h25
        try simp [-List.map_set, go_sem, h16, g21, g22, g23, g24, h25]
        refine pw_wkL [(4, .v (.int .i64 (-1)))] (by simp [-List.map_set, go_sem, h16, g21, g22, g23, g24, h25]) ?_
        try simp [-List.map_set, go_sem, h16, g21, g22, g23, g24, h25]
        have h27 := Rn_some hF26
        have h28 := ho9 _ h27
        subst h28
        have h29 := hr2 _ hψ11
        have h30 := hΦ _ h29
        subst h30
        try simp [-List.map_set, go_sem, h16, g21, g22, g23, g24, h25]
      · have hF31 := Rn_f hF20 h25
        try simp [-List.map_set, go_sem, h16, g21, g22, g23, g24, h25]
        refine pw_wkL [(0, .v (.sl false 1 (a0.map row_i64))), (1, .v (.int .i64 s7.1)), (5, .v (.int .i64 s7.2))] (by simp [-List.map_set, go_sem, h16, g21, g22, g23, g24, h25]) ?_
        try simp [-List.map_set, go_sem, h16, g21, g22, g23, g24, h25]
        refine pw_wkL [(0, .v (.sl false 1 (a0.map row_i64))), (1, .v (.int .i64 (IntKind.i64.wrap (s7.1 + 1)))), (5, .v (.int .i64 s7.2))] (by simp [-List.map_set, go_sem, h16, g21, g22, g23, g24, h25]) ?_
        try simp [-List.map_set, go_sem, h16, g21, g22, g23, g24, h25]
        have h32 := Rn_some hF31
        exact hg10 (IntKind.i64.wrap (s7.1 + 1), IntKind.i64.wrap (s7.2 + 1)) _ (by simp [-List.map_set, go_sem, h16, g21, g22, g23, g24, h25]) h32
    · have hF33 := Rn_f hF14 h16
      try simp [-List.map_set, go_sem, h16]
      have h34 := Rn_some hF33
      have h35 := ho9 _ h34
      subst h35
      exact hj1 s7.1 _ (by simp [-List.map_set, go_sem, h16]) hψ11
noncomputable def F_laws_heldViewCountS (a0 : (List ViewCount)) (a1 : Int) : Option (Int) :=
  ((wloop (σ := Int × Int) (β := Int ⊕ Int) (fun s7 =>
  if decide (s7.2 < (a0.length : Int)) = true then (
  (ix a0 s7.2).bind fun x18 =>
  (F_laws_heldIntS x18.View s7.1).bind fun z25 =>
  if decide (z25 < 0) = true then (
  some (.out (.inr (-1)))) else (
  if (x18.Times != z25) = true then (
  some (.out (.inr (-1)))) else (
  some (.go (IntKind.i64.wrap (z25 + 1), IntKind.i64.wrap (s7.2 + 1)))))) else (
  some (.out (.inl s7.1)))) (a1, 0) : Option (Int ⊕ Int)).bind (Sum.elim (fun (x5 : Int) =>
  some x5) some))
theorem c_laws_heldViewCountS {a0 : (List ViewCount)} {a1 : Int} {r : Int} (hr : F_laws_heldViewCountS a0 a1 = some r) : PCalls Try.prog 26 [(.sh, .sl false 2 (a0.map row_ViewCount_z)), (.sh, .int .i64 a1)] (fun o os => o = .int .i64 r ∧ os = [.junk, .junk]) := by
  refine pcalls_lift (R := fun (r : Int) o os => o = .int .i64 r ∧ os = [.junk, .junk]) [] [] hr cl26 Try.func26 rfl (by simp [Try.f26]) fun Φ hΦ hF => ?_
  unfold F_laws_heldViewCountS at hF
  simp only [Try.f26, ioL_nil, ioL_sh, ioL_mv, ioL_io]
  try simp [-List.map_set, go_sem]
  refine pw_wkL [(0, .v (.sl false 2 (a0.map row_ViewCount_z))), (1, .v (.int .i64 a1))] (by simp [-List.map_set, go_sem]) ?_
  try simp [-List.map_set, go_sem]
  refine pw_wkL [(0, .v (.sl false 2 (a0.map row_ViewCount_z))), (1, .v (.int .i64 a1)), (5, .v (.int .i64 0))] (by simp [-List.map_set, go_sem]) ?_
  repeat rw [pw_seq]
  refine pw_joinS (fun (x5 : Int) => [(1, .v (.int .i64 x5))]) hF ?_ ?_
  · intro x5 hF6
    try dsimp only at hF6
    try simp [-List.map_set, go_sem]
    refine pw_wkL [(4, .v (.int .i64 x5))] (by simp [-List.map_set, go_sem]) ?_
    try simp [-List.map_set, go_sem]
    have h48 := Rn_some hF6
    have h49 := hΦ _ h48
    subst h49
    try simp [-List.map_set, go_sem]
  · intro ψ3 hj1 hr2 hF4
    repeat rw [pw_seq]
    rw [pw_block]
    try simp [-List.map_set, go_sem]
    obtain ⟨b46, hb47, hψ11⟩ := hF4
    refine pw_wloop (fun (s7 : Int × Int) => [(0, .v (.sl false 2 (a0.map row_ViewCount_z))), (1, .v (.int .i64 s7.1)), (5, .v (.int .i64 s7.2))]) hb47 (by simp [-List.map_set, go_sem]) ?_
    intro s7 φ12 N13 ho9 hg10 hF14
    try dsimp only at hF14
    try simp [-List.map_set, go_sem]
    refine qln_some fun hl15 => ?_
    try simp [-List.map_set, go_sem]
    refine pw_wkL [(0, .v (.sl false 2 (a0.map row_ViewCount_z))), (1, .v (.int .i64 s7.1)), (5, .v (.int .i64 s7.2)), (9, .v (.bool (decide (s7.2 < (a0.length : Int)))))] (by simp [-List.map_set, go_sem]) ?_
    repeat rw [pw_seq]
    refine pw_cond' (v := decide (s7.2 < (a0.length : Int))) (by simp [-List.map_set, go_sem]) (fun h16 => ?_) (fun h16 => ?_)
    · have hF17 := Rn_t hF14 h16
      try simp [-List.map_set, go_sem, h16]
      refine pw_wkL [(0, .v (.sl false 2 (a0.map row_ViewCount_z))), (1, .v (.int .i64 s7.1)), (5, .v (.int .i64 s7.2))] (by simp [-List.map_set, go_sem, h16]) ?_
      repeat rw [pw_seq]
      rw [pw_block]
      obtain ⟨x18, e19, hF20⟩ := Rn_bind hF17
      obtain ⟨g21, g22, g23⟩ := ix_some e19
      have g24 := ix_get e19
      try simp only [Int.toNat_natCast, Int.toNat_zero, Int.toNat_one, Int.reduceToNat] at g23 g24
      obtain ⟨z25, e26, hF27⟩ := Rn_bind hF20
      try simp [-List.map_set, go_sem, h16, g21, g22, g23, g24]
      refine pw_callE [.sh, .sh] rfl rfl (by (try simp [-List.map_set, go_sem, clE, h16, g21, g22, g23, g24]); first | rfl | done) (by rfl) (c_laws_heldIntS e26) (by (try simp [-List.map_set, go_sem, h16, g21, g22, g23, g24]); first | rfl | done) (fun r0 os0 ho0 => ?_)
      obtain ⟨ho1, ho2⟩ := ho0
      subst ho1
      subst ho2
      refine ⟨by simp [-List.map_set, go_sem, h16, g21, g22, g23, g24], ?_⟩
      try simp [-List.map_set, go_sem, h16, g21, g22, g23, g24]
      refine pw_wkL [(0, .v (.sl false 2 (a0.map row_ViewCount_z))), (1, .v (.int .i64 z25)), (5, .v (.int .i64 s7.2))] (by simp [-List.map_set, go_sem, h16, g21, g22, g23, g24]) ?_
      try simp [-List.map_set, go_sem, h16, g21, g22, g23, g24]
      refine pw_wkL [(0, .v (.sl false 2 (a0.map row_ViewCount_z))), (1, .v (.int .i64 z25)), (5, .v (.int .i64 s7.2)), (20, .v (.bool (decide (z25 < 0))))] (by simp [-List.map_set, go_sem, h16, g21, g22, g23, g24]) ?_
      repeat rw [pw_seq]
      refine pw_cond' (v := decide (z25 < 0)) (by simp [-List.map_set, go_sem, h16, g21, g22, g23, g24]) (fun h28 => ?_) (fun h28 => ?_)
      · have hF29 := Rn_t hF27 h28
        try simp [-List.map_set, go_sem, h16, g21, g22, g23, g24, h28]
        refine pw_wkL [(4, .v (.int .i64 (-1)))] (by simp [-List.map_set, go_sem, h16, g21, g22, g23, g24, h28]) ?_
        try simp [-List.map_set, go_sem, h16, g21, g22, g23, g24, h28]
        have h30 := Rn_some hF29
        have h31 := ho9 _ h30
        subst h31
        have h32 := hr2 _ hψ11
        have h33 := hΦ _ h32
        subst h33
        try simp [-List.map_set, go_sem, h16, g21, g22, g23, g24, h28]
      · have hF34 := Rn_f hF27 h28
        try simp [-List.map_set, go_sem, h16, g21, g22, g23, g24, h28]
        refine pw_wkL [(0, .v (.sl false 2 (a0.map row_ViewCount_z))), (1, .v (.int .i64 z25)), (5, .v (.int .i64 s7.2))] (by simp [-List.map_set, go_sem, h16, g21, g22, g23, g24, h28]) ?_
        try simp [-List.map_set, go_sem, h16, g21, g22, g23, g24, h28]
        refine pw_wkL [(0, .v (.sl false 2 (a0.map row_ViewCount_z))), (1, .v (.int .i64 z25)), (5, .v (.int .i64 s7.2)), (27, .v (.bool (x18.Times != z25)))] (by simp [-List.map_set, go_sem, h16, g21, g22, g23, g24, h28]) ?_
        repeat rw [pw_seq]
        refine pw_cond' (v := (x18.Times != z25)) (by simp [-List.map_set, go_sem, h16, g21, g22, g23, g24, h28]) (fun h35 => ?_) (fun h35 => ?_)
        · have hF36 := Rn_t hF34 h35
          try simp [-List.map_set, go_sem, h16, g21, g22, g23, g24, h28, h35]
          refine pw_wkL [(4, .v (.int .i64 (-1)))] (by simp [-List.map_set, go_sem, h16, g21, g22, g23, g24, h28, h35]) ?_
          try simp [-List.map_set, go_sem, h16, g21, g22, g23, g24, h28, h35]
          have h37 := Rn_some hF36
          have h38 := ho9 _ h37
          subst h38
          have h39 := hr2 _ hψ11
          have h40 := hΦ _ h39
          subst h40
          try simp [-List.map_set, go_sem, h16, g21, g22, g23, g24, h28, h35]
        · have hF41 := Rn_f hF34 h35
          try simp [-List.map_set, go_sem, h16, g21, g22, g23, g24, h28, h35]
          refine pw_wkL [(0, .v (.sl false 2 (a0.map row_ViewCount_z))), (1, .v (.int .i64 z25)), (5, .v (.int .i64 s7.2))] (by simp [-List.map_set, go_sem, h16, g21, g22, g23, g24, h28, h35]) ?_
          try simp [-List.map_set, go_sem, h16, g21, g22, g23, g24, h28, h35]
          refine pw_wkL [(0, .v (.sl false 2 (a0.map row_ViewCount_z))), (1, .v (.int .i64 (IntKind.i64.wrap (z25 + 1)))), (5, .v (.int .i64 s7.2))] (by simp [-List.map_set, go_sem, h16, g21, g22, g23, g24, h28, h35]) ?_
          try simp [-List.map_set, go_sem, h16, g21, g22, g23, g24, h28, h35]
          have h42 := Rn_some hF41
          exact hg10 (IntKind.i64.wrap (z25 + 1), IntKind.i64.wrap (s7.2 + 1)) _ (by simp [-List.map_set, go_sem, h16, g21, g22, g23, g24, h28, h35]) h42
    · have hF43 := Rn_f hF14 h16
      try simp [-List.map_set, go_sem, h16]
      have h44 := Rn_some hF43
      have h45 := ho9 _ h44
      subst h45
      exact hj1 s7.1 _ (by simp [-List.map_set, go_sem, h16]) hψ11
noncomputable def F_laws_FnExactCountViews (a0 : (List (List Int))) : Option (Bool) :=
  (F_laws_szIntSS a0 1048576).bind fun z1 =>
  if decide (z1 < 0) = true then (
  some true) else (
  (F_laws_toIntSS a0).bind fun z9 =>
  (F_spec_CountViews z9).bind fun z12 =>
  (F_laws_toIntSS a0).bind fun z15 =>
  (F_impl_CountViews z15).bind fun z18 =>
  (((F_laws_eqViewCountS z18.1 z12.1).bind fun z27 =>
  if (!z27) = true then (
  some true) else (
  some (z18.2 != z12.2)) : Option (Bool)).bind fun (x25 : Bool) =>
  if x25 = true then (
  some false) else (
  (F_laws_toIntSS a0).bind fun z40 =>
  (F_laws_eqIntSS z15 z40).bind fun z43 =>
  if (!z43) = true then (
  some false) else (
  (F_laws_markIntSS__io0 z15 1).bind fun z51 =>
  ((if decide (z51.1 < 0) = true then (
  some true) else (
  (F_laws_eqViewCountS z18.1 z12.1).bind fun z64 =>
  if (!z64) = true then (
  some true) else (
  some (z18.2 != z12.2))) : Option (Bool)).bind fun (x58 : Bool) =>
  if x58 = true then (
  some false) else (
  (F_laws_markViewCountS__io0 z18.1 1).bind fun z77 =>
  (F_laws_heldViewCountS z77.2 1).bind fun z80 =>
  if decide (z80 < 0) = true then (
  some false) else (
  if (z80 != z77.1) = true then (
  some false) else (
  (F_laws_toIntSS a0).bind fun z93 =>
  (F_impl_CountViews z93).bind fun z96 =>
  (((F_laws_eqViewCountS z96.1 z12.1).bind fun z105 =>
  if (!z105) = true then (
  some true) else (
  some (z96.2 != z12.2)) : Option (Bool)).bind fun (x103 : Bool) =>
  if x103 = true then (
  some false) else (
  (F_laws_heldViewCountS z77.2 1).bind fun z118 =>
  if decide (z118 < 0) = true then (
  some false) else (
  if (z118 != z77.1) = true then (
  some false) else (
  some true))))))))))))
theorem c_laws_FnExactCountViews {a0 : (List (List Int))} {r : Bool} (hr : F_laws_FnExactCountViews a0 = some r) : PCalls Try.prog 8 [(.sh, .sl false 1 (a0.map row_zi64))] (fun o os => o = .bool r ∧ os = [.junk]) := by
  refine pcalls_lift (R := fun (r : Bool) o os => o = .bool r ∧ os = [.junk]) [21] [] hr cl8 Try.func8 rfl (by simp [Try.f8]) fun Φ hΦ hF => ?_
  unfold F_laws_FnExactCountViews at hF
  simp only [Try.f8, ioL_nil, ioL_sh, ioL_mv, ioL_io]
  try simp [-List.map_set, go_sem]
  refine pw_wkL [(0, .v (.sl false 1 (a0.map row_zi64)))] (by simp [-List.map_set, go_sem]) ?_
  try simp [-List.map_set, go_sem]
  refine pw_wkL [(0, .v (.sl false 1 (a0.map row_zi64))), (3, .v (.int .i64 1048576))] (by simp [-List.map_set, go_sem]) ?_
  obtain ⟨z1, e2, hF3⟩ := Rn_bind hF
  try simp [-List.map_set, go_sem]
  refine pw_callE [.sh, .sh] rfl rfl (by (try simp [-List.map_set, go_sem, clE]); first | rfl | done) (by rfl) (c_laws_szIntSS e2) (by (try simp [-List.map_set, go_sem]); first | rfl | done) (fun r0 os0 ho0 => ?_)
  obtain ⟨ho1, ho2⟩ := ho0
  subst ho1
  subst ho2
  refine ⟨by simp [-List.map_set, go_sem], ?_⟩
  try simp [-List.map_set, go_sem]
  refine pw_wkL [(0, .v (.sl false 1 (a0.map row_zi64))), (3, .v (.int .i64 z1))] (by simp [-List.map_set, go_sem]) ?_
  try simp [-List.map_set, go_sem]
  refine pw_wkL [(0, .v (.sl false 1 (a0.map row_zi64))), (18, .v (.bool (decide (z1 < 0))))] (by simp [-List.map_set, go_sem]) ?_
  repeat rw [pw_seq]
  refine pw_cond' (v := decide (z1 < 0)) (by simp [-List.map_set, go_sem]) (fun h4 => ?_) (fun h4 => ?_)
  · have hF5 := Rn_t hF3 h4
    try simp [-List.map_set, go_sem, h4]
    refine pw_wkL [(2, .v (.bool true))] (by simp [-List.map_set, go_sem, h4]) ?_
    try simp [-List.map_set, go_sem, h4]
    have h6 := Rn_some hF5
    have h7 := hΦ _ h6
    subst h7
    try simp [-List.map_set, go_sem, h4]
  · have hF8 := Rn_f hF3 h4
    try simp [-List.map_set, go_sem, h4]
    refine pw_wkL [(0, .v (.sl false 1 (a0.map row_zi64)))] (by simp [-List.map_set, go_sem, h4]) ?_
    obtain ⟨z9, e10, hF11⟩ := Rn_bind hF8
    try simp [-List.map_set, go_sem, h4]
    refine pw_callE [.sh] rfl rfl (by (try simp [-List.map_set, go_sem, clE, h4]); first | rfl | done) (by rfl) (c_laws_toIntSS e10) (by (try simp [-List.map_set, go_sem, h4]); first | rfl | done) (fun r0 os0 ho0 => ?_)
    obtain ⟨ho1, ho2⟩ := ho0
    subst ho1
    subst ho2
    refine ⟨by simp [-List.map_set, go_sem, h4], ?_⟩
    obtain ⟨z12, e13, hF14⟩ := Rn_bind hF11
    try simp [-List.map_set, go_sem, h4]
    refine pw_callE [.sh] rfl rfl (by (try simp [-List.map_set, go_sem, clE, h4]); first | rfl | done) (by rfl) (c_spec_CountViews e13) (by (try simp [-List.map_set, go_sem, h4]); first | rfl | done) (fun r0 os0 ho0 => ?_)
    obtain ⟨ho1, ho2⟩ := ho0
    subst ho1
    subst ho2
    refine ⟨by simp [-List.map_set, go_sem, h4], ?_⟩
    try simp [-List.map_set, go_sem, h4]
    refine pw_wkL [(0, .v (.sl false 1 (a0.map row_zi64))), (4, .v (.sl false 2 (z12.1.map row_ViewCount_z))), (5, .v (.bool z12.2))] (by simp [-List.map_set, go_sem, h4]) ?_
    obtain ⟨z15, e16, hF17⟩ := Rn_bind hF14
    try simp [-List.map_set, go_sem, h4]
    refine pw_callE [.sh] rfl rfl (by (try simp [-List.map_set, go_sem, clE, h4]); first | rfl | done) (by rfl) (c_laws_toIntSS e16) (by (try simp [-List.map_set, go_sem, h4]); first | rfl | done) (fun r0 os0 ho0 => ?_)
    obtain ⟨ho1, ho2⟩ := ho0
    subst ho1
    subst ho2
    refine ⟨by simp [-List.map_set, go_sem, h4], ?_⟩
    try simp [-List.map_set, go_sem, h4]
    refine pw_wkL [(0, .v (.sl false 1 (a0.map row_zi64))), (4, .v (.sl false 2 (z12.1.map row_ViewCount_z))), (5, .v (.bool z12.2)), (6, .v (.sl true 1 (z15.map row_oi64)))] (by simp [-List.map_set, go_sem, h4]) ?_
    obtain ⟨z18, e19, hF20⟩ := Rn_bind hF17
    try simp [-List.map_set, go_sem, h4]
    refine pw_callE [.sh] rfl rfl (by (try simp [-List.map_set, go_sem, clE, h4]); first | rfl | done) (by rfl) (c_impl_CountViews e19) (by (try simp [-List.map_set, go_sem, h4]); first | rfl | done) (fun r0 os0 ho0 => ?_)
    obtain ⟨ho1, ho2⟩ := ho0
    subst ho1
    subst ho2
    refine ⟨by simp [-List.map_set, go_sem, h4], ?_⟩
    try simp [-List.map_set, go_sem, h4]
    refine pw_wkL [(0, .v (.sl false 1 (a0.map row_zi64))), (4, .v (.sl false 2 (z12.1.map row_ViewCount_z))), (5, .v (.bool z12.2)), (6, .v (.sl true 1 (z15.map row_oi64))), (7, .v (.sl true 2 (z18.1.map row_ViewCount_o))), (8, .v (.bool z18.2))] (by simp [-List.map_set, go_sem, h4]) ?_
    repeat rw [pw_seq]
    refine pw_joinF (fun (x25 : Bool) => [(0, .v (.sl false 1 (a0.map row_zi64))), (4, .v (.sl false 2 (z12.1.map row_ViewCount_z))), (5, .v (.bool z12.2)), (6, .v (.sl true 1 (z15.map row_oi64))), (7, .v (.sl true 2 (z18.1.map row_ViewCount_o))), (8, .v (.bool z18.2)), (40, .v (.bool x25))]) hF20 ?_ ?_
    · intro x25 hF26
      try dsimp only at hF26
      repeat rw [pw_seq]
      refine pw_cond' (v := x25) (by simp [-List.map_set, go_sem, h4]) (fun h35 => ?_) (fun h35 => ?_)
      · have hF36 := Rn_t hF26 h35
        try simp [-List.map_set, go_sem, h4, h35]
        refine pw_wkL [(2, .v (.bool false))] (by simp [-List.map_set, go_sem, h4, h35]) ?_
        try simp [-List.map_set, go_sem, h4, h35]
        have h37 := Rn_some hF36
        have h38 := hΦ _ h37
        subst h38
        try simp [-List.map_set, go_sem, h4, h35]
      · have hF39 := Rn_f hF26 h35
        try simp [-List.map_set, go_sem, h4, h35]
        refine pw_wkL [(0, .v (.sl false 1 (a0.map row_zi64))), (4, .v (.sl false 2 (z12.1.map row_ViewCount_z))), (5, .v (.bool z12.2)), (6, .v (.sl true 1 (z15.map row_oi64))), (7, .v (.sl true 2 (z18.1.map row_ViewCount_o))), (8, .v (.bool z18.2))] (by simp [-List.map_set, go_sem, h4, h35]) ?_
        obtain ⟨z40, e41, hF42⟩ := Rn_bind hF39
        try simp [-List.map_set, go_sem, h4, h35]
        refine pw_callE [.sh] rfl rfl (by (try simp [-List.map_set, go_sem, clE, h4, h35]); first | rfl | done) (by rfl) (c_laws_toIntSS e41) (by (try simp [-List.map_set, go_sem, h4, h35]); first | rfl | done) (fun r0 os0 ho0 => ?_)
        obtain ⟨ho1, ho2⟩ := ho0
        subst ho1
        subst ho2
        refine ⟨by simp [-List.map_set, go_sem, h4, h35], ?_⟩
        obtain ⟨z43, e44, hF45⟩ := Rn_bind hF42
        try simp [-List.map_set, go_sem, h4, h35]
        refine pw_callE [.sh, .sh] rfl rfl (by (try simp [-List.map_set, go_sem, clE, h4, h35]); first | rfl | done) (by rfl) (c_laws_eqIntSS e44) (by (try simp [-List.map_set, go_sem, h4, h35]); first | rfl | done) (fun r0 os0 ho0 => ?_)
        obtain ⟨ho1, ho2⟩ := ho0
        subst ho1
        subst ho2
        refine ⟨by simp [-List.map_set, go_sem, h4, h35], ?_⟩
        try simp [-List.map_set, go_sem, h4, h35]
        refine pw_wkL [(0, .v (.sl false 1 (a0.map row_zi64))), (4, .v (.sl false 2 (z12.1.map row_ViewCount_z))), (5, .v (.bool z12.2)), (6, .v (.sl true 1 (z15.map row_oi64))), (7, .v (.sl true 2 (z18.1.map row_ViewCount_o))), (8, .v (.bool z18.2)), (45, .v (.bool (!z43)))] (by simp [-List.map_set, go_sem, h4, h35]) ?_
        repeat rw [pw_seq]
        refine pw_cond' (v := (!z43)) (by simp [-List.map_set, go_sem, h4, h35]) (fun h46 => ?_) (fun h46 => ?_)
        · have hF47 := Rn_t hF45 h46
          try simp [-List.map_set, go_sem, h4, h35, h46]
          refine pw_wkL [(2, .v (.bool false))] (by simp [-List.map_set, go_sem, h4, h35, h46]) ?_
          try simp [-List.map_set, go_sem, h4, h35, h46]
          have h48 := Rn_some hF47
          have h49 := hΦ _ h48
          subst h49
          try simp [-List.map_set, go_sem, h4, h35, h46]
        · have hF50 := Rn_f hF45 h46
          try simp [-List.map_set, go_sem, h4, h35, h46]
          refine pw_wkL [(0, .v (.sl false 1 (a0.map row_zi64))), (4, .v (.sl false 2 (z12.1.map row_ViewCount_z))), (5, .v (.bool z12.2)), (6, .v (.sl true 1 (z15.map row_oi64))), (7, .v (.sl true 2 (z18.1.map row_ViewCount_o))), (8, .v (.bool z18.2))] (by simp [-List.map_set, go_sem, h4, h35, h46]) ?_
          try simp [-List.map_set, go_sem, h4, h35, h46]
          refine pw_wkL [(0, .v (.sl false 1 (a0.map row_zi64))), (4, .v (.sl false 2 (z12.1.map row_ViewCount_z))), (5, .v (.bool z12.2)), (6, .v (.sl true 1 (z15.map row_oi64))), (7, .v (.sl true 2 (z18.1.map row_ViewCount_o))), (8, .v (.bool z18.2)), (9, .v (.int .i64 1))] (by simp [-List.map_set, go_sem, h4, h35, h46]) ?_
          obtain ⟨z51, e52, hF53⟩ := Rn_bind hF50
          try simp [-List.map_set, go_sem, h4, h35, h46]
          refine pw_callE [.io, .sh] rfl rfl (by (try simp [-List.map_set, go_sem, clE, h4, h35, h46]); first | rfl | done) (by rfl) (c_laws_markIntSS__io0 e52) (by (try simp [-List.map_set, go_sem, h4, h35, h46]); first | rfl | done) (fun r0 os0 ho0 => ?_)
          obtain ⟨ho1, ho2⟩ := ho0
          subst ho1
          subst ho2
          refine ⟨by simp [-List.map_set, go_sem, h4, h35, h46], ?_⟩
          try simp [-List.map_set, go_sem, h4, h35, h46]
          refine pw_wkL [(0, .v (.sl false 1 (a0.map row_zi64))), (4, .v (.sl false 2 (z12.1.map row_ViewCount_z))), (5, .v (.bool z12.2)), (7, .v (.sl true 2 (z18.1.map row_ViewCount_o))), (8, .v (.bool z18.2)), (9, .v (.int .i64 z51.1))] (by simp [-List.map_set, go_sem, h4, h35, h46]) ?_
          repeat rw [pw_seq]
          refine pw_joinF (fun (x58 : Bool) => [(0, .v (.sl false 1 (a0.map row_zi64))), (4, .v (.sl false 2 (z12.1.map row_ViewCount_z))), (5, .v (.bool z12.2)), (7, .v (.sl true 2 (z18.1.map row_ViewCount_o))), (61, .v (.bool x58))]) hF53 ?_ ?_
          · intro x58 hF59
            try dsimp only at hF59
            repeat rw [pw_seq]
            refine pw_cond' (v := x58) (by simp [-List.map_set, go_sem, h4, h35, h46]) (fun h72 => ?_) (fun h72 => ?_)
            · have hF73 := Rn_t hF59 h72
              try simp [-List.map_set, go_sem, h4, h35, h46, h72]
              refine pw_wkL [(2, .v (.bool false))] (by simp [-List.map_set, go_sem, h4, h35, h46, h72]) ?_
              try simp [-List.map_set, go_sem, h4, h35, h46, h72]
              have h74 := Rn_some hF73
              have h75 := hΦ _ h74
              subst h75
              try simp [-List.map_set, go_sem, h4, h35, h46, h72]
            · have hF76 := Rn_f hF59 h72
              try simp [-List.map_set, go_sem, h4, h35, h46, h72]
              refine pw_wkL [(0, .v (.sl false 1 (a0.map row_zi64))), (4, .v (.sl false 2 (z12.1.map row_ViewCount_z))), (5, .v (.bool z12.2)), (7, .v (.sl true 2 (z18.1.map row_ViewCount_o)))] (by simp [-List.map_set, go_sem, h4, h35, h46, h72]) ?_
              try simp [-List.map_set, go_sem, h4, h35, h46, h72]
              refine pw_wkL [(0, .v (.sl false 1 (a0.map row_zi64))), (4, .v (.sl false 2 (z12.1.map row_ViewCount_z))), (5, .v (.bool z12.2)), (7, .v (.sl true 2 (z18.1.map row_ViewCount_o))), (10, .v (.int .i64 1))] (by simp [-List.map_set, go_sem, h4, h35, h46, h72]) ?_
              obtain ⟨z77, e78, hF79⟩ := Rn_bind hF76
              try simp [-List.map_set, go_sem, h4, h35, h46, h72]
              refine pw_callE [.io, .sh] rfl rfl (by (try simp [-List.map_set, go_sem, clE, h4, h35, h46, h72]); first | rfl | done) (by rfl) (c_laws_markViewCountS__io0 e78) (by (try simp [-List.map_set, go_sem, h4, h35, h46, h72]); first | rfl | done) (fun r0 os0 ho0 => ?_)
              obtain ⟨ho1, ho2⟩ := ho0
              subst ho1
              subst ho2
              refine ⟨by simp [-List.map_set, go_sem, h4, h35, h46, h72], ?_⟩
              try simp [-List.map_set, go_sem, h4, h35, h46, h72]
              refine pw_wkL [(0, .v (.sl false 1 (a0.map row_zi64))), (4, .v (.sl false 2 (z12.1.map row_ViewCount_z))), (5, .v (.bool z12.2)), (7, .v (.sl true 2 (z77.2.map row_ViewCount_o))), (10, .v (.int .i64 z77.1))] (by simp [-List.map_set, go_sem, h4, h35, h46, h72]) ?_
              try simp [-List.map_set, go_sem, h4, h35, h46, h72]
              refine pw_wkL [(0, .v (.sl false 1 (a0.map row_zi64))), (4, .v (.sl false 2 (z12.1.map row_ViewCount_z))), (5, .v (.bool z12.2)), (7, .v (.sl true 2 (z77.2.map row_ViewCount_o))), (10, .v (.int .i64 z77.1)), (11, .v (.int .i64 1))] (by simp [-List.map_set, go_sem, h4, h35, h46, h72]) ?_
              obtain ⟨z80, e81, hF82⟩ := Rn_bind hF79
              try simp [-List.map_set, go_sem, h4, h35, h46, h72]
              refine pw_callE [.sh, .sh] rfl rfl (by (try simp [-List.map_set, go_sem, clE, h4, h35, h46, h72]); first | rfl | done) (by rfl) (c_laws_heldViewCountS e81) (by (try simp [-List.map_set, go_sem, h4, h35, h46, h72]); first | rfl | done) (fun r0 os0 ho0 => ?_)
              obtain ⟨ho1, ho2⟩ := ho0
              subst ho1
              subst ho2
              refine ⟨by simp [-List.map_set, go_sem, h4, h35, h46, h72], ?_⟩
              try simp [-List.map_set, go_sem, h4, h35, h46, h72]
              refine pw_wkL [(0, .v (.sl false 1 (a0.map row_zi64))), (4, .v (.sl false 2 (z12.1.map row_ViewCount_z))), (5, .v (.bool z12.2)), (7, .v (.sl true 2 (z77.2.map row_ViewCount_o))), (10, .v (.int .i64 z77.1)), (11, .v (.int .i64 z80))] (by simp [-List.map_set, go_sem, h4, h35, h46, h72]) ?_
              try simp [-List.map_set, go_sem, h4, h35, h46, h72]
              refine pw_wkL [(0, .v (.sl false 1 (a0.map row_zi64))), (4, .v (.sl false 2 (z12.1.map row_ViewCount_z))), (5, .v (.bool z12.2)), (7, .v (.sl true 2 (z77.2.map row_ViewCount_o))), (10, .v (.int .i64 z77.1)), (11, .v (.int .i64 z80)), (69, .v (.bool (decide (z80 < 0))))] (by simp [-List.map_set, go_sem, h4, h35, h46, h72]) ?_
              repeat rw [pw_seq]
              refine pw_cond' (v := decide (z80 < 0)) (by simp [-List.map_set, go_sem, h4, h35, h46, h72]) (fun h83 => ?_) (fun h83 => ?_)
              · have hF84 := Rn_t hF82 h83
                try simp [-List.map_set, go_sem, h4, h35, h46, h72, h83]
                refine pw_wkL [(2, .v (.bool false))] (by simp [-List.map_set, go_sem, h4, h35, h46, h72, h83]) ?_
                try simp [-List.map_set, go_sem, h4, h35, h46, h72, h83]
                have h85 := Rn_some hF84
                have h86 := hΦ _ h85
                subst h86
                try simp [-List.map_set, go_sem, h4, h35, h46, h72, h83]
              · have hF87 := Rn_f hF82 h83
                try simp [-List.map_set, go_sem, h4, h35, h46, h72, h83]
                refine pw_wkL [(0, .v (.sl false 1 (a0.map row_zi64))), (4, .v (.sl false 2 (z12.1.map row_ViewCount_z))), (5, .v (.bool z12.2)), (7, .v (.sl true 2 (z77.2.map row_ViewCount_o))), (10, .v (.int .i64 z77.1)), (11, .v (.int .i64 z80))] (by simp [-List.map_set, go_sem, h4, h35, h46, h72, h83]) ?_
                try simp [-List.map_set, go_sem, h4, h35, h46, h72, h83]
                refine pw_wkL [(0, .v (.sl false 1 (a0.map row_zi64))), (4, .v (.sl false 2 (z12.1.map row_ViewCount_z))), (5, .v (.bool z12.2)), (7, .v (.sl true 2 (z77.2.map row_ViewCount_o))), (10, .v (.int .i64 z77.1)), (72, .v (.bool (z80 != z77.1)))] (by simp [-List.map_set, go_sem, h4, h35, h46, h72, h83]) ?_
                repeat rw [pw_seq]
                refine pw_cond' (v := (z80 != z77.1)) (by simp [-List.map_set, go_sem, h4, h35, h46, h72, h83]) (fun h88 => ?_) (fun h88 => ?_)
                · have hF89 := Rn_t hF87 h88
                  try simp [-List.map_set, go_sem, h4, h35, h46, h72, h83, h88]
                  refine pw_wkL [(2, .v (.bool false))] (by simp [-List.map_set, go_sem, h4, h35, h46, h72, h83, h88]) ?_
                  try simp [-List.map_set, go_sem, h4, h35, h46, h72, h83, h88]
                  have h90 := Rn_some hF89
                  have h91 := hΦ _ h90
                  subst h91
                  try simp [-List.map_set, go_sem, h4, h35, h46, h72, h83, h88]
                · have hF92 := Rn_f hF87 h88
                  try simp [-List.map_set, go_sem, h4, h35, h46, h72, h83, h88]
                  refine pw_wkL [(0, .v (.sl false 1 (a0.map row_zi64))), (4, .v (.sl false 2 (z12.1.map row_ViewCount_z))), (5, .v (.bool z12.2)), (7, .v (.sl true 2 (z77.2.map row_ViewCount_o))), (10, .v (.int .i64 z77.1))] (by simp [-List.map_set, go_sem, h4, h35, h46, h72, h83, h88]) ?_
                  obtain ⟨z93, e94, hF95⟩ := Rn_bind hF92
                  try simp [-List.map_set, go_sem, h4, h35, h46, h72, h83, h88]
                  refine pw_callE [.sh] rfl rfl (by (try simp [-List.map_set, go_sem, clE, h4, h35, h46, h72, h83, h88]); first | rfl | done) (by rfl) (c_laws_toIntSS e94) (by (try simp [-List.map_set, go_sem, h4, h35, h46, h72, h83, h88]); first | rfl | done) (fun r0 os0 ho0 => ?_)
                  obtain ⟨ho1, ho2⟩ := ho0
                  subst ho1
                  subst ho2
                  refine ⟨by simp [-List.map_set, go_sem, h4, h35, h46, h72, h83, h88], ?_⟩
                  obtain ⟨z96, e97, hF98⟩ := Rn_bind hF95
                  try simp [-List.map_set, go_sem, h4, h35, h46, h72, h83, h88]
                  refine pw_callE [.sh] rfl rfl (by (try simp [-List.map_set, go_sem, clE, h4, h35, h46, h72, h83, h88]); first | rfl | done) (by rfl) (c_impl_CountViews e97) (by (try simp [-List.map_set, go_sem, h4, h35, h46, h72, h83, h88]); first | rfl | done) (fun r0 os0 ho0 => ?_)
                  obtain ⟨ho1, ho2⟩ := ho0
                  subst ho1
                  subst ho2
                  refine ⟨by simp [-List.map_set, go_sem, h4, h35, h46, h72, h83, h88], ?_⟩
                  try simp [-List.map_set, go_sem, h4, h35, h46, h72, h83, h88]
                  refine pw_wkL [(4, .v (.sl false 2 (z12.1.map row_ViewCount_z))), (5, .v (.bool z12.2)), (7, .v (.sl true 2 (z77.2.map row_ViewCount_o))), (10, .v (.int .i64 z77.1)), (12, .v (.sl true 2 (z96.1.map row_ViewCount_o))), (13, .v (.bool z96.2))] (by simp [-List.map_set, go_sem, h4, h35, h46, h72, h83, h88]) ?_
                  repeat rw [pw_seq]
                  refine pw_joinF (fun (x103 : Bool) => [(7, .v (.sl true 2 (z77.2.map row_ViewCount_o))), (10, .v (.int .i64 z77.1)), (87, .v (.bool x103))]) hF98 ?_ ?_
                  · intro x103 hF104
                    try dsimp only at hF104
                    repeat rw [pw_seq]
                    refine pw_cond' (v := x103) (by simp [-List.map_set, go_sem, h4, h35, h46, h72, h83, h88]) (fun h113 => ?_) (fun h113 => ?_)
                    · have hF114 := Rn_t hF104 h113
                      try simp [-List.map_set, go_sem, h4, h35, h46, h72, h83, h88, h113]
                      refine pw_wkL [(2, .v (.bool false))] (by simp [-List.map_set, go_sem, h4, h35, h46, h72, h83, h88, h113]) ?_
                      try simp [-List.map_set, go_sem, h4, h35, h46, h72, h83, h88, h113]
                      have h115 := Rn_some hF114
                      have h116 := hΦ _ h115
                      subst h116
                      try simp [-List.map_set, go_sem, h4, h35, h46, h72, h83, h88, h113]
                    · have hF117 := Rn_f hF104 h113
                      try simp [-List.map_set, go_sem, h4, h35, h46, h72, h83, h88, h113]
                      refine pw_wkL [(7, .v (.sl true 2 (z77.2.map row_ViewCount_o))), (10, .v (.int .i64 z77.1))] (by simp [-List.map_set, go_sem, h4, h35, h46, h72, h83, h88, h113]) ?_
                      try simp [-List.map_set, go_sem, h4, h35, h46, h72, h83, h88, h113]
                      refine pw_wkL [(7, .v (.sl true 2 (z77.2.map row_ViewCount_o))), (10, .v (.int .i64 z77.1)), (11, .v (.int .i64 1))] (by simp [-List.map_set, go_sem, h4, h35, h46, h72, h83, h88, h113]) ?_
                      obtain ⟨z118, e119, hF120⟩ := Rn_bind hF117
                      try simp [-List.map_set, go_sem, h4, h35, h46, h72, h83, h88, h113]
                      refine pw_callE [.sh, .sh] rfl rfl (by (try simp [-List.map_set, go_sem, clE, h4, h35, h46, h72, h83, h88, h113]); first | rfl | done) (by rfl) (c_laws_heldViewCountS e119) (by (try simp [-List.map_set, go_sem, h4, h35, h46, h72, h83, h88, h113]); first | rfl | done) (fun r0 os0 ho0 => ?_)
                      obtain ⟨ho1, ho2⟩ := ho0
                      subst ho1
                      subst ho2
                      refine ⟨by simp [-List.map_set, go_sem, h4, h35, h46, h72, h83, h88, h113], ?_⟩
                      try simp [-List.map_set, go_sem, h4, h35, h46, h72, h83, h88, h113]
                      refine pw_wkL [(10, .v (.int .i64 z77.1)), (11, .v (.int .i64 z118))] (by simp [-List.map_set, go_sem, h4, h35, h46, h72, h83, h88, h113]) ?_
                      try simp [-List.map_set, go_sem, h4, h35, h46, h72, h83, h88, h113]
                      refine pw_wkL [(10, .v (.int .i64 z77.1)), (11, .v (.int .i64 z118)), (92, .v (.bool (decide (z118 < 0))))] (by simp [-List.map_set, go_sem, h4, h35, h46, h72, h83, h88, h113]) ?_
                      repeat rw [pw_seq]
                      refine pw_cond' (v := decide (z118 < 0)) (by simp [-List.map_set, go_sem, h4, h35, h46, h72, h83, h88, h113]) (fun h121 => ?_) (fun h121 => ?_)
                      · have hF122 := Rn_t hF120 h121
                        try simp [-List.map_set, go_sem, h4, h35, h46, h72, h83, h88, h113, h121]
                        refine pw_wkL [(2, .v (.bool false))] (by simp [-List.map_set, go_sem, h4, h35, h46, h72, h83, h88, h113, h121]) ?_
                        try simp [-List.map_set, go_sem, h4, h35, h46, h72, h83, h88, h113, h121]
                        have h123 := Rn_some hF122
                        have h124 := hΦ _ h123
                        subst h124
                        try simp [-List.map_set, go_sem, h4, h35, h46, h72, h83, h88, h113, h121]
                      · have hF125 := Rn_f hF120 h121
                        try simp [-List.map_set, go_sem, h4, h35, h46, h72, h83, h88, h113, h121]
                        refine pw_wkL [(10, .v (.int .i64 z77.1)), (11, .v (.int .i64 z118))] (by simp [-List.map_set, go_sem, h4, h35, h46, h72, h83, h88, h113, h121]) ?_
                        try simp [-List.map_set, go_sem, h4, h35, h46, h72, h83, h88, h113, h121]
                        refine pw_wkL [(95, .v (.bool (z118 != z77.1)))] (by simp [-List.map_set, go_sem, h4, h35, h46, h72, h83, h88, h113, h121]) ?_
                        repeat rw [pw_seq]
                        refine pw_cond' (v := (z118 != z77.1)) (by simp [-List.map_set, go_sem, h4, h35, h46, h72, h83, h88, h113, h121]) (fun h126 => ?_) (fun h126 => ?_)
                        · have hF127 := Rn_t hF125 h126
                          try simp [-List.map_set, go_sem, h4, h35, h46, h72, h83, h88, h113, h121, h126]
                          refine pw_wkL [(2, .v (.bool false))] (by simp [-List.map_set, go_sem, h4, h35, h46, h72, h83, h88, h113, h121, h126]) ?_
                          try simp [-List.map_set, go_sem, h4, h35, h46, h72, h83, h88, h113, h121, h126]
                          have h128 := Rn_some hF127
                          have h129 := hΦ _ h128
                          subst h129
                          try simp [-List.map_set, go_sem, h4, h35, h46, h72, h83, h88, h113, h121, h126]
                        · have hF130 := Rn_f hF125 h126
                          try simp [-List.map_set, go_sem, h4, h35, h46, h72, h83, h88, h113, h121, h126]
                          refine pw_wkL [] (by simp [-List.map_set, go_sem, h4, h35, h46, h72, h83, h88, h113, h121, h126]) ?_
                          try simp [-List.map_set, go_sem, h4, h35, h46, h72, h83, h88, h113, h121, h126]
                          refine pw_wkL [(2, .v (.bool true))] (by simp [-List.map_set, go_sem, h4, h35, h46, h72, h83, h88, h113, h121, h126]) ?_
                          try simp [-List.map_set, go_sem, h4, h35, h46, h72, h83, h88, h113, h121, h126]
                          have h131 := Rn_some hF130
                          have h132 := hΦ _ h131
                          subst h132
                          try simp [-List.map_set, go_sem, h4, h35, h46, h72, h83, h88, h113, h121, h126]
                  · intro ψ101 hj99 hF102
                    obtain ⟨z105, e106, hF107⟩ := Rn_bind hF102
                    try simp [-List.map_set, go_sem, h4, h35, h46, h72, h83, h88]
                    refine pw_callE [.sh, .sh] rfl rfl (by (try simp [-List.map_set, go_sem, clE, h4, h35, h46, h72, h83, h88]); first | rfl | done) (by rfl) (c_laws_eqViewCountS e106) (by (try simp [-List.map_set, go_sem, h4, h35, h46, h72, h83, h88]); first | rfl | done) (fun r0 os0 ho0 => ?_)
                    obtain ⟨ho1, ho2⟩ := ho0
                    subst ho1
                    subst ho2
                    refine ⟨by simp [-List.map_set, go_sem, h4, h35, h46, h72, h83, h88], ?_⟩
                    try simp [-List.map_set, go_sem, h4, h35, h46, h72, h83, h88]
                    refine pwg_split (fun h108 => ?_) (fun h108 => ?_)
                    · have hF109 := Rn_t hF107 h108
                      try simp [-List.map_set, go_sem, h4, h35, h46, h72, h83, h88, h108]
                      have h110 := Rn_some hF109
                      exact hj99 true _ (by simp [-List.map_set, go_sem, h4, h35, h46, h72, h83, h88, h108]) h110
                    · have hF111 := Rn_f hF107 h108
                      try simp [-List.map_set, go_sem, h4, h35, h46, h72, h83, h88, h108]
                      have h112 := Rn_some hF111
                      exact hj99 (z96.2 != z12.2) _ (by simp [-List.map_set, go_sem, h4, h35, h46, h72, h83, h88, h108]) h112
          · intro ψ56 hj54 hF57
            try simp [-List.map_set, go_sem, h4, h35, h46]
            refine pwg_split (fun h60 => ?_) (fun h60 => ?_)
            · have hF61 := Rn_t hF57 h60
              try simp [-List.map_set, go_sem, h4, h35, h46, h60]
              have h62 := Rn_some hF61
              exact hj54 true _ (by simp [-List.map_set, go_sem, h4, h35, h46, h60]) h62
            · have hF63 := Rn_f hF57 h60
              obtain ⟨z64, e65, hF66⟩ := Rn_bind hF63
              try simp [-List.map_set, go_sem, h4, h35, h46, h60]
              refine pw_callE [.sh, .sh] rfl rfl (by (try simp [-List.map_set, go_sem, clE, h4, h35, h46, h60]); first | rfl | done) (by rfl) (c_laws_eqViewCountS e65) (by (try simp [-List.map_set, go_sem, h4, h35, h46, h60]); first | rfl | done) (fun r0 os0 ho0 => ?_)
              obtain ⟨ho1, ho2⟩ := ho0
              subst ho1
              subst ho2
              refine ⟨by simp [-List.map_set, go_sem, h4, h35, h46, h60], ?_⟩
              try simp [-List.map_set, go_sem, h4, h35, h46, h60]
              refine pwg_split (fun h67 => ?_) (fun h67 => ?_)
              · have hF68 := Rn_t hF66 h67
                try simp [-List.map_set, go_sem, h4, h35, h46, h60, h67]
                have h69 := Rn_some hF68
                exact hj54 true _ (by simp [-List.map_set, go_sem, h4, h35, h46, h60, h67]) h69
              · have hF70 := Rn_f hF66 h67
                try simp [-List.map_set, go_sem, h4, h35, h46, h60, h67]
                have h71 := Rn_some hF70
                exact hj54 (z18.2 != z12.2) _ (by simp [-List.map_set, go_sem, h4, h35, h46, h60, h67]) h71
    · intro ψ23 hj21 hF24
      obtain ⟨z27, e28, hF29⟩ := Rn_bind hF24
      try simp [-List.map_set, go_sem, h4]
      refine pw_callE [.sh, .sh] rfl rfl (by (try simp [-List.map_set, go_sem, clE, h4]); first | rfl | done) (by rfl) (c_laws_eqViewCountS e28) (by (try simp [-List.map_set, go_sem, h4]); first | rfl | done) (fun r0 os0 ho0 => ?_)
      obtain ⟨ho1, ho2⟩ := ho0
      subst ho1
      subst ho2
      refine ⟨by simp [-List.map_set, go_sem, h4], ?_⟩
      try simp [-List.map_set, go_sem, h4]
      refine pwg_split (fun h30 => ?_) (fun h30 => ?_)
      · have hF31 := Rn_t hF29 h30
        try simp [-List.map_set, go_sem, h4, h30]
        have h32 := Rn_some hF31
        exact hj21 true _ (by simp [-List.map_set, go_sem, h4, h30]) h32
      · have hF33 := Rn_f hF29 h30
        try simp [-List.map_set, go_sem, h4, h30]
        have h34 := Rn_some hF33
        exact hj21 (z18.2 != z12.2) _ (by simp [-List.map_set, go_sem, h4, h30]) h34
end Go.Pm
