/-
  Plain functions and their walks. Written by wip/tools/lift.py.
-/
import Derived.Test.YtjfbgenpcplmcaaM14
namespace Go.Pm
open Go.Am IntKind
open Go.Proofs
set_option maxRecDepth 100000
attribute [local irreducible] pw pwx pw1 pwg qv qz qf
attribute [-simp] List.map_set
set_option linter.unusedSimpArgs false
set_option linter.unusedVariables false
theorem c_impl_isCount : ∀ {a0} {r}, F_impl_isCount a0 = some r → PCalls Try.prog 45 [(.sh, .sl false 2 (a0.map row_ViewCount_z))] (Eo (.bool r) [.junk]) := by
  intro a0 r hr
  apply pF 49 [] [] [] [.tmp 2] hr cl45 Try.func45
  intro Φ hΦ hF g
  unfold F_impl_isCount at hF
  iterate 2 (try simp [go_sem, g]; try intros; refine pw_wk ?_)
  repeat rw [sq]
  refine pI hF (fun h1 hF => ?_) (fun h1 hF => ?_)
  ·cases hΦ _ (Rn_some hF)
   try simp [go_sem, g]
   refine pw_wk ?_
   try simp [go_sem, g]
  ·iterate 3 (try simp [go_sem, g]; try intros; refine pw_wk ?_)
   repeat rw [sq]
   refine pJs hF (fun x4 => []) (fun x4 hF => ?_) fun _ hj2 hr3 hF => ?_
   ·cases hΦ _ (Rn_some hF)
    try simp [go_sem, g]
    refine pw_wk ?_
    try simp [go_sem, g]
   ·repeat rw [sq]
    rw [pw_block]
    obtain ⟨b23, hb24, hψ9⟩ := hF
    refine pR hb24 (fun i6 s5 => [(0, .v (.sl false 2 (a0.map row_ViewCount_z))), (3, .v (.int .i64 s5)), (9, .v (.sl false 2 (a0.map row_ViewCount_z))), (10, .v (.int .i64 (a0.length : Int))), (11, .v (.int .i64 i6))]) (fun s5 _ hN25 => ?_) (fun i6 s5 _ _ hi10 hi11 ho7 hg8 hF => ?_)
    ·subst hN25
     try simp [go_sem]
     refine pw_wk ?_
     repeat rw [sq]
     refine pw_cond_f (by simp [go_sem]) ?_
     try simp [go_sem]
     exact pT (hj2 ()) hψ9 (by simp [go_sem])
    ·try simp [go_sem, g]
     refine pw_wk ?_
     repeat rw [sq]
     refine pw_cond_t (by simp [go_sem, g, hi10, hi11]) ?_
     try simp [go_sem, g]
     refine pw_wk ?_
     repeat rw [sq]
     rw [pw_block]
     obtain ⟨x12, g, hF⟩ := Rx g hF
     try simp [go_sem, g]
     refine pw_wkK [0, 3, 4, 5, 9, 10, 11] (by simp [go_sem, g]; rfl) ?_
     repeat rw [sq]
     refine pJ hF (fun x15 => [(0, .v (.sl false 2 (a0.map row_ViewCount_z))), (3, .v (.int .i64 s5)), (5, .bl [.sl false 1 (x12.View.map row_i64), .int .i64 x12.Times]), (9, .v (.sl false 2 (a0.map row_ViewCount_z))), (10, .v (.int .i64 (a0.length : Int))), (11, .v (.int .i64 i6)), (43, .v (.bool x15))]) (fun x15 hF => ?_) fun _ hj13 hF => ?_
     ·repeat rw [sq]
      refine pI hF (fun h22 hF => ?_) (fun h22 hF => ?_)
      ·cases ho7 _ (Rn_some hF)
       cases hΦ _ (hr3 _ hψ9)
       try simp [go_sem, g]
       refine pw_wk ?_
       try simp [go_sem, g]
      ·iterate 2 (try simp [go_sem, g]; refine pw_wk ?_)
       try simp [go_sem, g]
       exact pT (hg8 (i64.wrap (s5 + x12.Times))) (Rn_some hF) (by simp [go_sem, g, wr_i hi10 hi11 (by assumption)])
     ·repeat rw [sq]
      refine pw_draw D45_7 follows (by kernel_rfl) rfl ?_
      try simp only [go_sem, D45_7]
      try simp [go_sem, g]
      try intros
      refine pwgD_F hF (fun h16 hF => ?_) fun h16 hF => ?_
      ·try simp [go_sem, g, h16]
       exact pT (hj13 true) (Rn_some hF)
      ·try simp [go_sem, g, h16]
       refine pC hF [.sh, .sh, .sh] c_impl_within (fun z17 hF => ?_)
       try simp [go_sem, g, h16]
       refine pwgD_F hF (fun h18 hF => ?_) fun h18 hF => ?_
       ·try simp [go_sem, g, h18]
        exact pT (hj13 true) (Rn_some hF)
       ·try simp [go_sem, g, h18]
        refine pwgD_F hF (fun h19 hF => ?_) fun h19 hF => ?_
        ·obtain ⟨x20, g, hF⟩ := Rx g hF
         try simp [go_sem, g, h19]
         refine pC hF [.sh, .sh] c_slices_Compare_int_int (fun z21 hF => ?_)
         try simp [go_sem, g, h19, h18]
         exact pT (hj13 (decide (0 ≤ z21))) (Rn_some hF)
        ·try simp [go_sem, g, h19, h18]
         exact pT (hj13 false) (Rn_some hF)
def D54_10 : List DE := [⟨0, [5], [], none, false, false, false⟩, ⟨1, [7], [7], none, false, false, false⟩, ⟨2, [46], [7], some 46, false, false, false⟩, ⟨4, [7], [7], none, false, false, false⟩, ⟨5, [49], [7], some 49, false, false, false⟩, ⟨3, [47], [], none, false, true, true⟩, ⟨6, [48, 50], [], none, false, false, false⟩, ⟨7, [51], [], none, false, false, false⟩, ⟨8, [45, 52], [], none, true, false, false⟩, ⟨9, [53], [], none, false, false, false⟩]
def D54_8 : List DE := [⟨0, [8], [], none, false, false, false⟩, ⟨1, [23], [], none, false, false, false⟩, ⟨2, [24], [], none, false, false, false⟩, ⟨3, [5, 25], [], none, false, false, false⟩, ⟨4, [8, 25], [], none, false, false, false⟩, ⟨5, [26, 27, 25], [], none, false, false, false⟩, ⟨6, [28, 25], [], none, false, false, false⟩, ⟨7, [29, 25], [], none, false, false, false⟩, ⟨8, [7, 25], [7], none, false, false, false⟩, ⟨9, [31, 25], [7], some 31, false, false, false⟩, ⟨10, [30, 32, 25], [], none, false, true, true⟩, ⟨11, [25, 33], [], none, false, false, false⟩]
def D54_9 : List DE := [⟨0, [5], [], none, false, false, false⟩, ⟨1, [8], [], none, false, false, false⟩, ⟨2, [35, 36], [], none, false, false, false⟩, ⟨3, [37], [], none, false, false, false⟩, ⟨4, [38], [], none, false, false, false⟩, ⟨5, [7], [7], none, false, false, false⟩, ⟨6, [40], [7], some 40, false, false, false⟩, ⟨7, [39, 41], [], none, false, false, false⟩, ⟨8, [35, 36], [], none, false, false, false⟩, ⟨9, [43], [], none, false, false, false⟩, ⟨10, [44, 42], [], none, false, false, false⟩]
noncomputable def F_impl_gathered (a0 : (List ViewCount)) : Option ((List ViewCount) × Bool) :=
  (F_slices_Clone_impl_ViewCount_impl_ViewCount a0).bind fun z1 =>
  (F_slices_SortStableFunc_impl_ViewCount_impl_ViewCount__io0_impl_gathered_1 z1).bind fun z2 =>
  ((rloop (σ := (List ViewCount)) (fun i27 s26 =>
  (((ix z2 i27).bind fun x36 =>
  ((if decide (0 ≤ (i64.wrap ((s26.length : Int) - 1))) = true then (
  (ix s26 (i64.wrap ((s26.length : Int) - 1))).bind fun x41 =>
  (F_slices_Equal_int_int x41.View x36.View).bind fun z42 =>
  some z42) else (
  some false) : Option (Bool)).bind fun x39 =>
  if x39 = true then (
  (ix s26 (i64.wrap ((s26.length : Int) - 1))).bind fun x44 =>
  some (s26.set ((i64.wrap ((s26.length : Int) - 1)).toNat) (ViewCount.mk x44.View (i64.wrap (x44.Times + x36.Times))))) else (
  (F_slices_Clone_int_int x36.View).bind fun z45 =>
  gd ((s26.length + 1) * 32 ≤ 140737488355328 ∧ s26.length + 1 ≤ 4611686018427387904) <|
  some (s26 ++ [(ViewCount.mk z45 x36.Times)]))) : Option ((List ViewCount))).bind fun x35 =>
  some (.go x35))) (fun s26 => s26) (z2.length) 0 [] : Option ((List ViewCount))).bind fun x5 =>
  (F_impl_isCount x5).bind fun z50 =>
  if (!z50) = true then (
  some ([], false)) else (
  some (x5, true)))
theorem c_impl_gathered : ∀ {a0} {r}, F_impl_gathered a0 = some r → PCalls Try.prog 54 [(.sh, .sl false 2 (a0.map row_ViewCount_z))] (Eo (.tup [.sl true 2 (r.1.map row_ViewCount_o), .bool r.2]) [.junk]) := by
  intro a0 r hr
  apply pF 59 [] [] [] [.tmp 2, .tmp 3] hr cl54 Try.func54
  intro Φ hΦ hF g
  unfold F_impl_gathered at hF
  try simp [go_sem, g]
  refine pw_wk ?_
  try simp [go_sem, g]
  refine pC hF [.sh] c_slices_Clone_impl_ViewCount_impl_ViewCount (fun z1 hF => ?_)
  try simp [go_sem, g]
  refine pw_wk ?_
  try simp [go_sem, g]
  refine pC hF [.io, .sh] c_slices_SortStableFunc_impl_ViewCount_impl_ViewCount__io0_impl_gathered_1 (fun z2 hF => ?_)
  iterate 2 (try simp [go_sem, g]; try intros; refine pw_wk ?_)
  try simp [go_sem, g]
  try intros
  refine pw_wkK [4, 5, 14, 15, 16] (by simp [go_sem, g]; rfl) ?_
  repeat rw [sq]
  refine pJ hF (fun x5 => [(5, .v (.sl true 2 (x5.map row_ViewCount_o)))]) (fun x5 hF => ?_) fun _ hj3 hF => ?_
  ·try simp [go_sem, g]
   refine pC hF [.sh] c_impl_isCount (fun z50 hF => ?_)
   try simp [go_sem, g]
   refine pw_wk ?_
   repeat rw [sq]
   refine pI hF (fun h51 hF => ?_) (fun h51 hF => ?_)
   ·cases hΦ _ (Rn_some hF)
    try simp [go_sem, g]
    refine pw_wk ?_
    try simp [go_sem, g]
   ·cases hΦ _ (Rn_some hF)
    iterate 2 (try simp [go_sem, g]; refine pw_wk ?_)
    try simp [go_sem, g]
  ·repeat rw [sq]
   rw [pw_block]
   obtain ⟨b46, hb47, hψ30⟩ := hF
   refine pR hb47 (fun i27 s26 => [(4, .v (.sl true 2 (z2.map row_ViewCount_z))), (5, .v (.sl true 2 (s26.map row_ViewCount_o))), (14, .rf 4 []), (15, .v (.int .i64 (z2.length : Int))), (16, .v (.int .i64 i27))]) (fun s26 _ hN48 => ?_) (fun i27 s26 _ _ hi31 hi32 ho28 hg29 hF => ?_)
   ·subst hN48
    try simp [go_sem]
    refine pw_wk ?_
    repeat rw [sq]
    refine pw_cond_f (by simp [go_sem]) ?_
    try simp [go_sem]
    exact pT (hj3 s26) hψ30 (by simp [go_sem])
   ·try simp [go_sem, g]
    refine pw_wk ?_
    repeat rw [sq]
    refine pw_cond_t (by simp [go_sem, g, hi31, hi32]) ?_
    try simp [go_sem, g]
    refine pw_wk ?_
    repeat rw [sq]
    refine pJ hF (fun x35 => [(4, .v (.sl true 2 (z2.map row_ViewCount_z))), (5, .v (.sl true 2 (x35.map row_ViewCount_o))), (14, .rf 4 []), (15, .v (.int .i64 (z2.length : Int))), (16, .v (.int .i64 i27))]) (fun x35 hF => ?_) fun _ hj33 hF => ?_
    ·try simp [go_sem, g]
     exact pT (hg29 x35) (Rn_some hF) (by simp [go_sem, g, wr_i hi31 hi32 (by assumption)])
    ·repeat rw [sq]
     rw [pw_block]
     obtain ⟨x36, g, hF⟩ := Rx g hF
     iterate 2 (try simp [go_sem, g]; try intros; refine pw_wk ?_)
     repeat rw [sq]
     refine pJ hF (fun x39 => [(4, .v (.sl true 2 (z2.map row_ViewCount_z))), (5, .v (.sl true 2 (s26.map row_ViewCount_o))), (7, .bl [.sl false 1 (x36.View.map row_i64), .int .i64 x36.Times]), (8, .v (.int .i64 (i64.wrap ((s26.length : Int) - 1)))), (14, .rf 4 []), (15, .v (.int .i64 (z2.length : Int))), (16, .v (.int .i64 i27)), (34, .v (.bool x39))]) (fun x39 hF => ?_) fun _ hj37 hF => ?_
     ·repeat rw [sq]
      refine pI hF (fun h43 hF => ?_) (fun h43 hF => ?_)
      ·repeat rw [sq]
       refine pw_draw D54_9 follows (by kernel_rfl) rfl ?_
       try simp only [go_sem, D54_9]
       obtain ⟨x44, g, hF⟩ := Rx g hF
       try simp [go_sem, g]
       exact pT (hj33 (s26.set ((i64.wrap ((s26.length : Int) - 1)).toNat) (ViewCount.mk x44.View (i64.wrap (x44.Times + x36.Times))))) (Rn_some hF)
      ·repeat rw [sq]
       refine pw_draw D54_10 follows (by kernel_rfl) rfl ?_
       try simp only [go_sem, D54_10]
       try simp [go_sem, g]
       refine pC hF [.sh] c_slices_Clone_int_int (fun z45 hF => ?_)
       obtain ⟨g, hF⟩ := Rg g hF
       try simp [go_sem, g]
       exact pT (hj33 (s26 ++ [(ViewCount.mk z45 x36.Times)])) (Rn_some hF)
     ·repeat rw [sq]
      refine pw_draw D54_8 follows (by kernel_rfl) rfl ?_
      try simp only [go_sem, D54_8]
      try simp [go_sem, g]
      refine pwgD_F hF (fun h40 hF => ?_) fun h40 hF => ?_
      ·obtain ⟨x41, g, hF⟩ := Rx g hF
       try simp [go_sem, g, h40]
       refine pC hF [.sh, .sh] c_slices_Equal_int_int (fun z42 hF => ?_)
       try simp [go_sem, g, h40]
       exact pT (hj37 z42) (Rn_some hF)
      ·try simp [go_sem, g, h40]
       exact pT (hj37 false) (Rn_some hF)
noncomputable def F_impl_countedViews (a0 : (List (List Int))) : Option ((List ViewCount) × Bool) :=
  ((rloop (σ := (List ViewCount)) (fun i5 s4 =>
  (ix a0 i5).bind fun x11 =>
  gd ((s4.length + 1) * 32 ≤ 140737488355328 ∧ s4.length + 1 ≤ 4611686018427387904) <|
  some (.go (s4 ++ [(ViewCount.mk x11 1)]))) (fun s4 => s4) (a0.length) 0 [] : Option ((List ViewCount))).bind fun x3 =>
  (F_impl_gathered x3).bind fun z16 =>
  some (z16.1, z16.2))
theorem c_impl_countedViews : ∀ {a0} {r}, F_impl_countedViews a0 = some r → PCalls Try.prog 59 [(.sh, .sl false 1 (a0.map row_zi64))] (Eo (.tup [.sl true 2 (r.1.map row_ViewCount_o), .bool r.2]) [.junk]) := by
  intro a0 r hr
  apply pF 24 [] [] [] [.tmp 2, .tmp 3] hr cl59 Try.func59
  intro Φ hΦ hF g
  unfold F_impl_countedViews at hF
  iterate 3 (try simp [go_sem, g]; try intros; refine pw_wk ?_)
  repeat rw [sq]
  refine pJ hF (fun x3 => [(4, .v (.sl true 2 (x3.map row_ViewCount_z)))]) (fun x3 hF => ?_) fun _ hj1 hF => ?_
  ·try simp [go_sem, g]
   refine pC hF [.sh] c_impl_gathered (fun z16 hF => ?_)
   try simp [go_sem, g]
   refine pw_wkK [2, 3] (by simp [go_sem, g]; rfl) ?_
   cases hΦ _ (Rn_some hF)
   try simp [go_sem, g]
  ·repeat rw [sq]
   rw [pw_block]
   obtain ⟨b12, hb13, hψ8⟩ := hF
   refine pR hb13 (fun i5 s4 => [(4, .v (.sl true 2 (s4.map row_ViewCount_z))), (8, .v (.sl false 1 (a0.map row_zi64))), (9, .v (.int .i64 (a0.length : Int))), (10, .v (.int .i64 i5))]) (fun s4 _ hN14 => ?_) (fun i5 s4 _ _ hi9 hi10 ho6 hg7 hF => ?_)
   ·subst hN14
    try simp [go_sem]
    refine pw_wk ?_
    repeat rw [sq]
    refine pw_cond_f (by simp [go_sem]) ?_
    try simp [go_sem]
    exact pT (hj1 s4) hψ8 (by simp [go_sem])
   ·try simp [go_sem, g]
    refine pw_wk ?_
    repeat rw [sq]
    refine pw_cond_t (by simp [go_sem, g, hi9, hi10]) ?_
    try simp [go_sem, g]
    refine pw_wk ?_
    repeat rw [sq]
    rw [pw_block]
    obtain ⟨x11, g, hF⟩ := Rx g hF
    try simp [go_sem, g]
    refine pw_wkK [4, 6, 8, 9, 10] (by simp [go_sem, g]; rfl) ?_
    obtain ⟨g, hF⟩ := Rg g hF
    try simp [go_sem, g]
    refine pw_wk ?_
    try simp [go_sem, g]
    exact pT (hg7 (s4 ++ [(ViewCount.mk x11 1)])) (Rn_some hF) (by simp [go_sem, g, wr_i hi9 hi10 (by assumption)])
def D28_14 : List DE := [⟨0, [12], [], none, false, false, false⟩, ⟨1, [50], [], none, false, false, false⟩, ⟨2, [13], [], none, false, false, false⟩, ⟨3, [0], [], none, false, false, false⟩, ⟨4, [53], [], none, false, false, false⟩, ⟨5, [52, 54], [], none, false, false, false⟩, ⟨6, [51], [], none, false, false, false⟩, ⟨7, [55], [], none, false, false, false⟩]
noncomputable def F_impl_BlindViews (a0 : Int) (a1 : Int) (a2 : Int) : Option ((List ViewCount) × Bool) :=
  ((if decide (23 < a0) = true then (
  some true) else (
  (F_impl_isPrime a0).bind fun z5 =>
  if (!z5) = true then (
  some true) else (
  (F_impl_within a1 0 (i64.wrap (a0 - 1))).bind fun z7 =>
  if (!z7) = true then (
  some true) else (
  (F_impl_within a2 1 3).bind fun z9 =>
  some (!z9)))) : Option (Bool)).bind fun x3 =>
  if x3 = true then (
  some ([], false)) else (
  ((wloop (σ := Int × Int) (fun s14 =>
  if decide (s14.2 < a2) = true then (
  some (.go (i64.wrap (s14.1 * (i64.wrap (a0 - 1))), i64.wrap (s14.2 + 1)))) else (
  some (.out s14.1))) (1, 0) : Option (Int)).bind fun x13 =>
  ((wloop (σ := (List (List Int)) × Int) (fun s42 =>
  if decide (s42.2 < x13) = true then (
  ((wloop (σ := Int × Int × Int) (fun s51 =>
  if decide (s51.2.1 < a2) = true then (
  gd (i64.wrap (a0 - 1) ≠ 0) <|
  gd (i64.wrap (a0 - 1) ≠ 0) <|
  some (.go (i64.wrap (s51.1 + (i64.wrap (1 + (s51.2.2.tmod (i64.wrap (a0 - 1)))))), i64.wrap (s51.2.1 + 1), i64.wrap (s51.2.2.tdiv (i64.wrap (a0 - 1)))))) else (
  some (.out s51.1))) (0, 0, s42.2) : Option (Int)).bind fun x50 =>
  gd (a0 ≠ 0) <|
  gd ((s42.1.length + 1) * 24 ≤ 140737488355328 ∧ s42.1.length + 1 ≤ 4611686018427387904) <|
  some (.go (s42.1 ++ [[(i64.wrap (a1 * x50)).tmod a0]], i64.wrap (s42.2 + 1))))) else (
  some (.out s42.1))) ([], 0) : Option ((List (List Int)))).bind fun x24 =>
  (F_impl_countedViews x24).bind fun z61 =>
  some (z61.1, z61.2)))))
theorem c_impl_BlindViews : ∀ {a0} {a1} {a2} {r}, F_impl_BlindViews a0 a1 a2 = some r → PCalls Try.prog 28 [(.sh, .int .i64 a0), (.sh, .int .i64 a1), (.sh, .int .i64 a2)] (Eo (.tup [.sl true 2 (r.1.map row_ViewCount_o), .bool r.2]) [.junk, .junk, .junk]) := by
  intro a0 a1 a2 r hr
  apply pF 77 [] [] [] [.tmp 6, .tmp 7] hr cl28 Try.func28
  intro Φ hΦ hF g
  unfold F_impl_BlindViews at hF
  try simp [go_sem, g]
  refine pw_wk ?_
  repeat rw [sq]
  refine pJ hF (fun x3 => [(0, .v (.int .i64 a0)), (1, .v (.int .i64 a1)), (2, .v (.int .i64 a2)), (32, .v (.bool x3))]) (fun x3 hF => ?_) fun _ hj1 hF => ?_
  ·repeat rw [sq]
   refine pI hF (fun h10 hF => ?_) (fun h10 hF => ?_)
   ·cases hΦ _ (Rn_some hF)
    try simp [go_sem, g]
    refine pw_wk ?_
    try simp [go_sem, g]
   ·iterate 3 (try simp [go_sem, g]; refine pw_wk ?_)
    repeat rw [sq]
    refine pJ hF (fun x13 => [(0, .v (.int .i64 a0)), (1, .v (.int .i64 a1)), (2, .v (.int .i64 a2)), (8, .v (.sl true 1 [])), (9, .v (.int .i64 x13))]) (fun x13 hF => ?_) fun _ hj11 hF => ?_
    ·try simp [go_sem, g]
     refine pw_wk ?_
     repeat rw [sq]
     refine pJ hF (fun x24 => [(8, .v (.sl true 1 (x24.map row_oi64)))]) (fun x24 hF => ?_) fun _ hj22 hF => ?_
     ·try simp [go_sem, g]
      refine pC hF [.sh] c_impl_countedViews (fun z61 hF => ?_)
      try simp [go_sem, g]
      refine pw_wkK [6, 7] (by simp [go_sem, g]; rfl) ?_
      cases hΦ _ (Rn_some hF)
      try simp [go_sem, g]
     ·repeat rw [sq]
      rw [pw_block]
      obtain ⟨b59, hb60, hψ46⟩ := hF
      refine pL hb60 (fun s42 => [(0, .v (.int .i64 a0)), (1, .v (.int .i64 a1)), (2, .v (.int .i64 a2)), (8, .v (.sl true 1 (s42.1.map row_oi64))), (42, .v (.int .i64 x13)), (43, .v (.int .i64 s42.2))]) (fun s42 _ _ ho44 hg45 hF => ?_)
      try simp [go_sem, g]
      refine pw_wkK [0, 1, 2, 8, 42, 43, 44] (by simp [go_sem, g]; rfl) ?_
      repeat rw [sq]
      refine pI hF (fun h47 hF => ?_) (fun h47 hF => ?_)
      ·try simp [go_sem, g]
       refine pw_wk ?_
       repeat rw [sq]
       rw [pw_block]
       iterate 3 (try simp [go_sem, g]; refine pw_wk ?_)
       repeat rw [sq]
       refine pJ hF (fun x50 => [(0, .v (.int .i64 a0)), (1, .v (.int .i64 a1)), (2, .v (.int .i64 a2)), (8, .v (.sl true 1 (s42.1.map row_oi64))), (11, .v (.int .i64 x50)), (42, .v (.int .i64 x13)), (43, .v (.int .i64 s42.2))]) (fun x50 hF => ?_) fun _ hj48 hF => ?_
       ·obtain ⟨g, hF⟩ := Rz g hF
        obtain ⟨g, hF⟩ := Rg g hF
        try simp [go_sem, g]
        refine pw_wkK [0, 1, 2, 8, 42, 43] (by simp [go_sem, g]; rfl) ?_
        try simp [go_sem, g]
        exact pT (hg45 (s42.1 ++ [[(i64.wrap (a1 * x50)).tmod a0]], i64.wrap (s42.2 + 1))) (Rn_some hF)
       ·repeat rw [sq]
        rw [pw_block]
        obtain ⟨b57, hb58, hψ55⟩ := hF
        refine pL hb58 (fun s51 => [(0, .v (.int .i64 a0)), (1, .v (.int .i64 a1)), (2, .v (.int .i64 a2)), (8, .v (.sl true 1 (s42.1.map row_oi64))), (11, .v (.int .i64 s51.1)), (12, .v (.int .i64 s51.2.1)), (13, .v (.int .i64 s51.2.2)), (42, .v (.int .i64 x13)), (43, .v (.int .i64 s42.2))]) (fun s51 _ _ ho53 hg54 hF => ?_)
        try simp [go_sem, g]
        refine pw_wk ?_
        repeat rw [sq]
        refine pI hF (fun h56 hF => ?_) (fun h56 hF => ?_)
        ·try simp [go_sem, g]
         refine pw_wk ?_
         repeat rw [sq]
         rw [pw_block]
         obtain ⟨g, hF⟩ := Rz g hF
         try simp [go_sem, g]
         refine pw_wkK [0, 1, 2, 8, 11, 12, 13, 42, 43] (by simp [go_sem, g]; rfl) ?_
         repeat rw [sq]
         refine pw_draw D28_14 follows (by kernel_rfl) rfl ?_
         try simp only [go_sem, D28_14]
         obtain ⟨g, hF⟩ := Rz g hF
         try simp [go_sem, g]
         exact pT (hg54 (i64.wrap (s51.1 + (i64.wrap (1 + (s51.2.2.tmod (i64.wrap (a0 - 1)))))), i64.wrap (s51.2.1 + 1), i64.wrap (s51.2.2.tdiv (i64.wrap (a0 - 1))))) (Rn_some hF)
        ·try simp [go_sem, g]
         cases ho53 _ (Rn_some hF)
         exact pT (hj48 s51.1) hψ55
      ·try simp [go_sem, g]
       cases ho44 _ (Rn_some hF)
       exact pT (hj22 s42.1) hψ46
    ·repeat rw [sq]
     rw [pw_block]
     obtain ⟨b20, hb21, hψ18⟩ := hF
     refine pL hb21 (fun s14 => [(0, .v (.int .i64 a0)), (1, .v (.int .i64 a1)), (2, .v (.int .i64 a2)), (8, .v (.sl true 1 [])), (9, .v (.int .i64 s14.1)), (34, .v (.int .i64 a2)), (35, .v (.int .i64 s14.2))]) (fun s14 _ _ ho16 hg17 hF => ?_)
     try simp [go_sem, g]
     refine pw_wk ?_
     repeat rw [sq]
     refine pI hF (fun h19 hF => ?_) (fun h19 hF => ?_)
     ·try simp [go_sem, g]
      refine pw_wk ?_
      repeat rw [sq]
      rw [pw_block]
      try simp [go_sem, g]
      refine pw_wkK [0, 1, 2, 8, 9, 34, 35] (by simp [go_sem, g]; rfl) ?_
      try simp [go_sem, g]
      exact pT (hg17 (i64.wrap (s14.1 * (i64.wrap (a0 - 1))), i64.wrap (s14.2 + 1))) (Rn_some hF)
     ·try simp [go_sem, g]
      cases ho16 _ (Rn_some hF)
      exact pT (hj11 s14.1) hψ18
  ·try simp [go_sem, g]
   refine pwg_F hF (fun h4 hF => ?_) fun h4 hF => ?_
   ·try simp [go_sem, g, h4]
    exact pT (hj1 true) (Rn_some hF)
   ·try simp [go_sem, g, h4]
    refine pC hF [.sh] c_impl_isPrime (fun z5 hF => ?_)
    try simp [go_sem, g, h4]
    refine pwg_F hF (fun h6 hF => ?_) fun h6 hF => ?_
    ·try simp [go_sem, g, h6]
     exact pT (hj1 true) (Rn_some hF)
    ·try simp [go_sem, g, h6]
     refine pC hF [.sh, .sh, .sh] c_impl_within (fun z7 hF => ?_)
     try simp [go_sem, g, h6]
     refine pwg_F hF (fun h8 hF => ?_) fun h8 hF => ?_
     ·try simp [go_sem, g, h8]
      exact pT (hj1 true) (Rn_some hF)
     ·try simp [go_sem, g, h8]
      refine pC hF [.sh, .sh, .sh] c_impl_within (fun z9 hF => ?_)
      try simp [go_sem, g, h8]
      exact pT (hj1 (!z9)) (Rn_some hF)
noncomputable def F_impl_DecryptElement (a0 : Group) (a1 : Int) (a2 : Cipher) : Option (Int × Bool) :=
  (((F_impl_IsValidGroup a0).bind fun z4 =>
  if (!z4) = true then (
  some true) else (
  (F_impl_Group_isExp a0 a1).bind fun z6 =>
  if (!z6) = true then (
  some true) else (
  (F_impl_Group_hasCipher a0 a2).bind fun z8 =>
  some (!z8))) : Option (Bool)).bind fun x3 =>
  if x3 = true then (
  some (0, false)) else (
  (F_impl_Group_decrypt a0 a1 a2).bind fun z10 =>
  some (z10, true)))
theorem c_impl_DecryptElement : ∀ {a0} {a1} {a2} {r}, F_impl_DecryptElement a0 a1 a2 = some r → PCalls Try.prog 29 [(.sh, .agg [.int .i64 a0.P, .int .i64 a0.Q, .int .i64 a0.G]), (.sh, .int .i64 a1), (.sh, .agg [.int .i64 a2.A, .int .i64 a2.B])] (Eo (.tup [.int .i64 r.1, .bool r.2]) [.junk, .junk, .junk]) := by
  intro a0 a1 a2 r hr
  apply pF 27 [] [] [] [.tmp 6, .tmp 7] hr cl29 Try.func29
  intro Φ hΦ hF g
  unfold F_impl_DecryptElement at hF
  try simp [go_sem, g]
  refine pw_wk ?_
  repeat rw [sq]
  refine pJ hF (fun x3 => [(1, .v (.int .i64 a1)), (3, .bl [.int .i64 a0.P, .int .i64 a0.Q, .int .i64 a0.G]), (5, .bl [.int .i64 a2.A, .int .i64 a2.B]), (22, .v (.bool x3))]) (fun x3 hF => ?_) fun _ hj1 hF => ?_
  ·repeat rw [sq]
   refine pI hF (fun h9 hF => ?_) (fun h9 hF => ?_)
   ·cases hΦ _ (Rn_some hF)
    try simp [go_sem, g]
    refine pw_wk ?_
    try simp [go_sem, g]
   ·try simp [go_sem, g]
    refine pw_wk ?_
    try simp [go_sem, g]
    refine pC hF [.sh, .sh, .sh] c_impl_Group_decrypt (fun z10 hF => ?_)
    try simp [go_sem, g]
    refine pw_wkK [6, 7] (by simp [go_sem, g]; rfl) ?_
    cases hΦ _ (Rn_some hF)
    try simp [go_sem, g]
  ·try simp [go_sem, g]
   refine pC hF [.sh] c_impl_IsValidGroup (fun z4 hF => ?_)
   try simp [go_sem, g]
   refine pwg_F hF (fun h5 hF => ?_) fun h5 hF => ?_
   ·try simp [go_sem, g, h5]
    exact pT (hj1 true) (Rn_some hF)
   ·try simp [go_sem, g, h5]
    refine pC hF [.sh, .sh] c_impl_Group_isExp (fun z6 hF => ?_)
    try simp [go_sem, g, h5]
    refine pwg_F hF (fun h7 hF => ?_) fun h7 hF => ?_
    ·try simp [go_sem, g, h7]
     exact pT (hj1 true) (Rn_some hF)
    ·try simp [go_sem, g, h7]
     refine pC hF [.sh, .sh] c_impl_Group_hasCipher (fun z8 hF => ?_)
     try simp [go_sem, g, h7]
     exact pT (hj1 (!z8)) (Rn_some hF)
def D5_27 : List DE := [⟨0, [5], [5], some 5, false, false, false⟩, ⟨1, [6], [], none, false, false, false⟩, ⟨2, [7], [], none, false, false, false⟩, ⟨3, [23], [], none, false, false, false⟩, ⟨4, [141, 142], [], none, false, false, false⟩, ⟨5, [143], [], none, false, false, false⟩, ⟨6, [139, 140, 144], [], none, false, true, true⟩, ⟨7, [145], [], none, false, false, false⟩, ⟨8, [138], [], none, false, false, false⟩, ⟨9, [138], [], none, false, false, false⟩, ⟨10, [146], [], none, false, false, false⟩, ⟨11, [147], [], none, false, false, false⟩]
def D5_28 : List DE := [⟨0, [5], [5], some 5, false, false, false⟩, ⟨1, [6], [], none, false, false, false⟩, ⟨2, [7], [], none, false, false, false⟩, ⟨3, [24], [], none, false, false, false⟩, ⟨4, [151, 152], [], none, false, false, false⟩, ⟨5, [153], [], none, false, false, false⟩, ⟨6, [149, 150, 154], [], none, false, true, true⟩, ⟨7, [155], [], none, false, false, false⟩, ⟨8, [148], [], none, false, false, false⟩, ⟨9, [148], [], none, false, false, false⟩, ⟨10, [156], [], none, false, false, false⟩, ⟨11, [157], [], none, false, false, false⟩]
noncomputable def F_laws_FnEqualGroups (a0 : (List Int)) (a1 : (List Int)) : Option (Bool) :=
  if decide (1048576 < (i64.wrap ((a0.length : Int) + (a1.length : Int)))) = true then (
  some true) else (
  (F_spec_DrawEqualGroups a0).bind fun z2 =>
  (F_impl_EqualGroups z2.1 z2.2.1 z2.2.2).bind fun z3 =>
  (F_spec_EqualGroups z2.1 z2.2.1 z2.2.2).bind fun z4 =>
  (F_spec_DrawFalseEqualCount a1).bind fun z5 =>
  (F_impl_FalseEqualCount z5.1 z5.2).bind fun z6 =>
  (F_spec_FalseEqualCount z5.1 z5.2).bind fun z7 =>
  ((if (z3.2 != z4.2) = true then (
  some true) else (
  (F_laws_qInts z3.1 z4.1).bind fun z12 =>
  if (!z12) = true then (
  some true) else (
  if (z6.2 != z7.2) = true then (
  some true) else (
  some (z6.1 != z7.1)))) : Option (Bool)).bind fun x10 =>
  if x10 = true then (
  some false) else (
  ((if z6.2 = true then (
  some (decide (z5.2 ≤ 3))) else (
  some false) : Option (Bool)).bind fun x18 =>
  ((if x18 = true then (
  (F_impl_BlindViews z5.1 1 z5.2).bind fun z24 =>
  ((rloop (σ := Int) (fun i29 s28 =>
  (((ix z24.1 i29).bind fun x38 =>
  ((if ((x38.View.length : Int) == 1) = true then (
  (ix x38.View 0).bind fun x43 =>
  some (x43 == 0)) else (
  some false) : Option (Bool)).bind fun x41 =>
  if x41 = true then (
  some x38.Times) else (
  some s28)) : Option (Int)).bind fun x37 =>
  some (.go x37))) (fun s28 => s28) (z24.1.length) 0 0 : Option (Int)).bind fun x27 =>
  ((if (!z24.2) = true then (
  some true) else (
  some (x27 != z6.1)) : Option (Bool)).bind fun x51 =>
  if x51 = true then (
  some (.inr false)) else (
  some (.inl ()))))) else (
  some (.inl ())) : Option (Unit ⊕ Bool)).bind (Sum.elim (fun x22 =>
  if (!z3.2) = true then (
  some true) else (
  ((rloop (σ := Unit) (fun i59 s58 =>
  (ix z3.1 i59).bind fun x65 =>
  (ix z2.2.2 i59).bind fun x66 =>
  (F_impl_DecryptElement z2.1 z2.2.1 x66).bind fun z67 =>
  (ix z2.2.2 x65).bind fun x68 =>
  (F_impl_DecryptElement z2.1 z2.2.1 x68).bind fun z69 =>
  ((if (!z67.2) = true then (
  some true) else (
  if (!z69.2) = true then (
  some true) else (
  if (z67.1 != z69.1) = true then (
  some true) else (
  (ix z3.1 x65).bind fun x76 =>
  some (x76 != x65)))) : Option (Bool)).bind fun x72 =>
  if x72 = true then (
  some (.out (.inr false))) else (
  some (.go ())))) (fun s58 => .inl ()) (z3.1.length) 0 () : Option (Unit ⊕ Bool)).bind (Sum.elim (fun x57 =>
  some true) some)))) some))))))
theorem c_laws_FnEqualGroups : ∀ {a0} {a1} {r}, F_laws_FnEqualGroups a0 a1 = some r → PCalls Try.prog 5 [(.sh, .sl false 1 (a0.map row_u8)), (.sh, .sl false 1 (a1.map row_u8))] (Eo (.bool r) [.junk, .junk]) := by
  intro a0 a1 r hr
  apply pF 178 [] [18] [] [.tmp 4] hr cl5 Try.func5
  intro Φ hΦ hF g
  unfold F_laws_FnEqualGroups at hF
  iterate 2 (try simp [go_sem, g]; try intros; refine pw_wk ?_)
  repeat rw [sq]
  refine pI hF (fun h1 hF => ?_) (fun h1 hF => ?_)
  ·cases hΦ _ (Rn_some hF)
   try simp [go_sem, g]
   refine pw_wk ?_
   try simp [go_sem, g]
  ·try simp [go_sem, g]
   refine pw_wk ?_
   try simp [go_sem, g]
   refine pC hF [.sh] c_spec_DrawEqualGroups (fun z2 hF => ?_)
   try simp [go_sem, g]
   refine pw_wkK [1, 5, 6, 7] (by simp [go_sem, g]; rfl) ?_
   try simp [go_sem, g]
   refine pC hF [.sh, .sh, .sh] c_impl_EqualGroups (fun z3 hF => ?_)
   try simp [go_sem, g]
   refine pw_wk ?_
   try simp [go_sem, g]
   refine pC hF [.sh, .sh, .sh] c_spec_EqualGroups (fun z4 hF => ?_)
   try simp [go_sem, g]
   refine pw_wkK [1, 5, 6, 7, 8, 9, 10, 11] (by simp [go_sem, g]; rfl) ?_
   try simp [go_sem, g]
   refine pC hF [.sh] c_spec_DrawFalseEqualCount (fun z5 hF => ?_)
   try simp [go_sem, g]
   refine pw_wk ?_
   try simp [go_sem, g]
   refine pC hF [.sh, .sh] c_impl_FalseEqualCount (fun z6 hF => ?_)
   try simp [go_sem, g]
   refine pw_wkK [5, 6, 7, 8, 9, 10, 11, 12, 13, 14, 15] (by simp [go_sem, g]; rfl) ?_
   try simp [go_sem, g]
   refine pC hF [.sh, .sh] c_spec_FalseEqualCount (fun z7 hF => ?_)
   try simp [go_sem, g]
   refine pw_wk ?_
   repeat rw [sq]
   refine pJ hF (fun x10 => [(5, .bl [.int .i64 z2.1.P, .int .i64 z2.1.Q, .int .i64 z2.1.G]), (6, .v (.int .i64 z2.2.1)), (7, .v (.sl true 2 (z2.2.2.map row_Cipher))), (8, .v (.sl true 1 (z3.1.map row_i64))), (9, .v (.bool z3.2)), (12, .v (.int .i64 z5.1)), (13, .v (.int .i64 z5.2)), (14, .v (.int .i64 z6.1)), (15, .v (.bool z6.2)), (90, .v (.bool x10))]) (fun x10 hF => ?_) fun _ hj8 hF => ?_
   ·repeat rw [sq]
    refine pI hF (fun h15 hF => ?_) (fun h15 hF => ?_)
    ·cases hΦ _ (Rn_some hF)
     try simp [go_sem, g]
     refine pw_wk ?_
     try simp [go_sem, g]
    ·try simp [go_sem, g]
     refine pw_wk ?_
     repeat rw [sq]
     refine pJ hF (fun x18 => [(5, .bl [.int .i64 z2.1.P, .int .i64 z2.1.Q, .int .i64 z2.1.G]), (6, .v (.int .i64 z2.2.1)), (7, .v (.sl true 2 (z2.2.2.map row_Cipher))), (8, .v (.sl true 1 (z3.1.map row_i64))), (9, .v (.bool z3.2)), (12, .v (.int .i64 z5.1)), (13, .v (.int .i64 z5.2)), (14, .v (.int .i64 z6.1)), (95, .v (.bool x18))]) (fun x18 hF => ?_) fun _ hj16 hF => ?_
     ·repeat rw [sq]
      refine pJs hF (fun x22 => [(5, .bl [.int .i64 z2.1.P, .int .i64 z2.1.Q, .int .i64 z2.1.G]), (6, .v (.int .i64 z2.2.1)), (7, .v (.sl true 2 (z2.2.2.map row_Cipher))), (8, .v (.sl true 1 (z3.1.map row_i64))), (9, .v (.bool z3.2))]) (fun x22 hF => ?_) fun _ hj20 hr21 hF => ?_
      ·try simp [go_sem, g]
       refine pw_wkK [5, 6, 7, 8, 130] (by simp [go_sem, g]; rfl) ?_
       repeat rw [sq]
       refine pI hF (fun h54 hF => ?_) (fun h54 hF => ?_)
       ·cases hΦ _ (Rn_some hF)
        try simp [go_sem, g]
        refine pw_wk ?_
        try simp [go_sem, g]
       ·iterate 2 (try simp [go_sem, g]; try intros; refine pw_wk ?_)
        repeat rw [sq]
        refine pJs hF (fun x57 => []) (fun x57 hF => ?_) fun _ hj55 hr56 hF => ?_
        ·cases hΦ _ (Rn_some hF)
         try simp [go_sem, g]
         refine pw_wk ?_
         try simp [go_sem, g]
        ·repeat rw [sq]
         rw [pw_block]
         obtain ⟨b78, hb79, hψ62⟩ := hF
         refine pR hb79 (fun i59 s58 => [(5, .bl [.int .i64 z2.1.P, .int .i64 z2.1.Q, .int .i64 z2.1.G]), (6, .v (.int .i64 z2.2.1)), (7, .v (.sl true 2 (z2.2.2.map row_Cipher))), (8, .v (.sl true 1 (z3.1.map row_i64))), (131, .rf 8 []), (132, .v (.int .i64 (z3.1.length : Int))), (133, .v (.int .i64 i59))]) (fun s58 _ hN80 => ?_) (fun i59 s58 _ _ hi63 hi64 ho60 hg61 hF => ?_)
         ·subst hN80
          try simp [go_sem]
          refine pw_wk ?_
          repeat rw [sq]
          refine pw_cond_f (by simp [go_sem]) ?_
          try simp [go_sem]
          exact pT (hj55 ()) hψ62 (by simp [go_sem])
         ·try simp [go_sem, g]
          refine pw_wk ?_
          repeat rw [sq]
          refine pw_cond_t (by simp [go_sem, g, hi63, hi64]) ?_
          try simp [go_sem, g]
          refine pw_wk ?_
          repeat rw [sq]
          rw [pw_block]
          obtain ⟨x65, g, hF⟩ := Rx g hF
          try simp [go_sem, g]
          refine pw_wk ?_
          repeat rw [sq]
          refine pw_draw D5_27 follows (by kernel_rfl) rfl ?_
          try simp only [go_sem, D5_27]
          obtain ⟨x66, g, hF⟩ := Rx g hF
          try simp [go_sem, g]
          refine pC hF [.sh, .sh, .sh] c_impl_DecryptElement (fun z67 hF => ?_)
          try simp [go_sem, g]
          refine pw_wkK [5, 6, 7, 8, 24, 25, 26, 131, 132, 133] (by simp [go_sem, g]; rfl) ?_
          repeat rw [sq]
          refine pw_draw D5_28 follows (by kernel_rfl) rfl ?_
          try simp only [go_sem, D5_28]
          obtain ⟨x68, g, hF⟩ := Rx g hF
          try simp [go_sem, g]
          refine pC hF [.sh, .sh, .sh] c_impl_DecryptElement (fun z69 hF => ?_)
          try simp [go_sem, g]
          refine pw_wkK [5, 6, 7, 8, 24, 25, 26, 27, 28, 131, 132, 133] (by simp [go_sem, g]; rfl) ?_
          repeat rw [sq]
          refine pJ hF (fun x72 => [(5, .bl [.int .i64 z2.1.P, .int .i64 z2.1.Q, .int .i64 z2.1.G]), (6, .v (.int .i64 z2.2.1)), (7, .v (.sl true 2 (z2.2.2.map row_Cipher))), (8, .v (.sl true 1 (z3.1.map row_i64))), (131, .rf 8 []), (132, .v (.int .i64 (z3.1.length : Int))), (133, .v (.int .i64 i59)), (176, .v (.bool x72))]) (fun x72 hF => ?_) fun _ hj70 hF => ?_
          ·repeat rw [sq]
           refine pI hF (fun h77 hF => ?_) (fun h77 hF => ?_)
           ·cases ho60 _ (Rn_some hF)
            cases hΦ _ (hr56 _ hψ62)
            try simp [go_sem, g]
            refine pw_wk ?_
            try simp [go_sem, g]
           ·try simp [go_sem, g]
            refine pw_wk ?_
            try simp [go_sem, g]
            exact pT (hg61 ()) (Rn_some hF) (by simp [go_sem, g, wr_i hi63 hi64 (by assumption)])
          ·try simp [go_sem, g]
           refine pwg_F hF (fun h73 hF => ?_) fun h73 hF => ?_
           ·try simp [go_sem, g, h73]
            exact pT (hj70 true) (Rn_some hF)
           ·try simp [go_sem, g, h73]
            refine pwg_F hF (fun h74 hF => ?_) fun h74 hF => ?_
            ·try simp [go_sem, g, h74]
             exact pT (hj70 true) (Rn_some hF)
            ·try simp [go_sem, g, h74]
             refine pwg_F hF (fun h75 hF => ?_) fun h75 hF => ?_
             ·try simp [go_sem, g, h75]
              exact pT (hj70 true) (Rn_some hF)
             ·obtain ⟨x76, g, hF⟩ := Rx g hF
              try simp [go_sem, g, h75]
              exact pT (hj70 (x76 != x65)) (Rn_some hF)
      ·repeat rw [sq]
       refine pI hF (fun h23 hF => ?_) (fun h23 hF => ?_)
       ·try simp [go_sem, g]
        refine pC hF [.sh, .sh, .sh] c_impl_BlindViews (fun z24 hF => ?_)
        try simp [go_sem, g]
        refine pw_wkK [5, 6, 7, 8, 9, 14, 18, 19] (by simp [go_sem, g]; rfl) ?_
        iterate 2 (try simp [go_sem, g]; try intros; refine pw_wk ?_)
        repeat rw [sq]
        refine pJ hF (fun x27 => [(5, .bl [.int .i64 z2.1.P, .int .i64 z2.1.Q, .int .i64 z2.1.G]), (6, .v (.int .i64 z2.2.1)), (7, .v (.sl true 2 (z2.2.2.map row_Cipher))), (8, .v (.sl true 1 (z3.1.map row_i64))), (9, .v (.bool z3.2)), (14, .v (.int .i64 z6.1)), (19, .v (.bool z24.2)), (20, .v (.int .i64 x27))]) (fun x27 hF => ?_) fun _ hj25 hF => ?_
        ·repeat rw [sq]
         refine pJ hF (fun x51 => [(5, .bl [.int .i64 z2.1.P, .int .i64 z2.1.Q, .int .i64 z2.1.G]), (6, .v (.int .i64 z2.2.1)), (7, .v (.sl true 2 (z2.2.2.map row_Cipher))), (8, .v (.sl true 1 (z3.1.map row_i64))), (9, .v (.bool z3.2)), (128, .v (.bool x51))]) (fun x51 hF => ?_) fun _ hj49 hF => ?_
         ·repeat rw [sq]
          refine pI hF (fun h53 hF => ?_) (fun h53 hF => ?_)
          ·cases hΦ _ (hr21 _ (Rn_some hF))
           try simp [go_sem, g]
           refine pw_wk ?_
           try simp [go_sem, g]
          ·try simp [go_sem, g]
           exact pT (hj20 ()) (Rn_some hF)
         ·try simp [go_sem, g]
          refine pwg_F hF (fun h52 hF => ?_) fun h52 hF => ?_
          ·try simp [go_sem, g, h52]
           exact pT (hj49 true) (Rn_some hF)
          ·try simp [go_sem, g, h52]
           exact pT (hj49 (x27 != z6.1)) (Rn_some hF)
        ·repeat rw [sq]
         rw [pw_block]
         obtain ⟨b45, hb46, hψ32⟩ := hF
         refine pR hb46 (fun i29 s28 => [(5, .bl [.int .i64 z2.1.P, .int .i64 z2.1.Q, .int .i64 z2.1.G]), (6, .v (.int .i64 z2.2.1)), (7, .v (.sl true 2 (z2.2.2.map row_Cipher))), (8, .v (.sl true 1 (z3.1.map row_i64))), (9, .v (.bool z3.2)), (14, .v (.int .i64 z6.1)), (19, .v (.bool z24.2)), (20, .v (.int .i64 s28)), (102, .v (.sl false 2 (z24.1.map row_ViewCount_z))), (103, .v (.int .i64 (z24.1.length : Int))), (104, .v (.int .i64 i29))]) (fun s28 _ hN47 => ?_) (fun i29 s28 _ _ hi33 hi34 ho30 hg31 hF => ?_)
         ·subst hN47
          try simp [go_sem]
          refine pw_wk ?_
          repeat rw [sq]
          refine pw_cond_f (by simp [go_sem]) ?_
          try simp [go_sem]
          exact pT (hj25 s28) hψ32 (by simp [go_sem])
         ·try simp [go_sem, g]
          refine pw_wk ?_
          repeat rw [sq]
          refine pw_cond_t (by simp [go_sem, g, hi33, hi34]) ?_
          try simp [go_sem, g]
          refine pw_wk ?_
          repeat rw [sq]
          refine pJ hF (fun x37 => [(5, .bl [.int .i64 z2.1.P, .int .i64 z2.1.Q, .int .i64 z2.1.G]), (6, .v (.int .i64 z2.2.1)), (7, .v (.sl true 2 (z2.2.2.map row_Cipher))), (8, .v (.sl true 1 (z3.1.map row_i64))), (9, .v (.bool z3.2)), (14, .v (.int .i64 z6.1)), (19, .v (.bool z24.2)), (20, .v (.int .i64 x37)), (102, .v (.sl false 2 (z24.1.map row_ViewCount_z))), (103, .v (.int .i64 (z24.1.length : Int))), (104, .v (.int .i64 i29))]) (fun x37 hF => ?_) fun _ hj35 hF => ?_
          ·try simp [go_sem, g]
           exact pT (hg31 x37) (Rn_some hF) (by simp [go_sem, g, wr_i hi33 hi34 (by assumption)])
          ·repeat rw [sq]
           rw [pw_block]
           obtain ⟨x38, g, hF⟩ := Rx g hF
           try simp [go_sem, g]
           refine pw_wk ?_
           repeat rw [sq]
           refine pJ hF (fun x41 => [(5, .bl [.int .i64 z2.1.P, .int .i64 z2.1.Q, .int .i64 z2.1.G]), (6, .v (.int .i64 z2.2.1)), (7, .v (.sl true 2 (z2.2.2.map row_Cipher))), (8, .v (.sl true 1 (z3.1.map row_i64))), (9, .v (.bool z3.2)), (14, .v (.int .i64 z6.1)), (19, .v (.bool z24.2)), (20, .v (.int .i64 s28)), (22, .bl [.sl false 1 (x38.View.map row_i64), .int .i64 x38.Times]), (102, .v (.sl false 2 (z24.1.map row_ViewCount_z))), (103, .v (.int .i64 (z24.1.length : Int))), (104, .v (.int .i64 i29)), (118, .v (.bool x41))]) (fun x41 hF => ?_) fun _ hj39 hF => ?_
           ·repeat rw [sq]
            refine pI hF (fun h44 hF => ?_) (fun h44 hF => ?_)
            ·try simp [go_sem, g]
             exact pT (hj35 x38.Times) (Rn_some hF)
            ·try simp [go_sem, g]
             first | exact pT (hj35 s28) (Rn_some hF) | exact pT (hj35 _) (Rn_some hF)
           ·try simp [go_sem, g]
            try intros
            refine pwg_F hF (fun h42 hF => ?_) fun h42 hF => ?_
            ·obtain ⟨x43, g, hF⟩ := Rxn g 0 hF
             try simp [go_sem, g, h42]
             exact pT (hj39 (x43 == 0)) (Rn_some hF)
            ·try simp [go_sem, g, h42]
             exact pT (hj39 false) (Rn_some hF)
       ·try simp [go_sem, g]
        exact pT (hj20 ()) (Rn_some hF)
     ·try simp [go_sem, g]
      refine pwg_F hF (fun h19 hF => ?_) fun h19 hF => ?_
      ·try simp [go_sem, g, h19]
       exact pT (hj16 (decide (z5.2 ≤ 3))) (Rn_some hF)
      ·try simp [go_sem, g, h19]
       exact pT (hj16 false) (Rn_some hF)
   ·try simp [go_sem, g]
    refine pwg_F hF (fun h11 hF => ?_) fun h11 hF => ?_
    ·try simp [go_sem, g, h11]
     exact pT (hj8 true) (Rn_some hF)
    ·try simp [go_sem, g, h11]
     refine pC hF [.sh, .sh] c_laws_qInts (fun z12 hF => ?_)
     try simp [go_sem, g, h11]
     refine pwg_F hF (fun h13 hF => ?_) fun h13 hF => ?_
     ·try simp [go_sem, g, h13]
      exact pT (hj8 true) (Rn_some hF)
     ·try simp [go_sem, g, h13]
      refine pwg_F hF (fun h14 hF => ?_) fun h14 hF => ?_
      ·try simp [go_sem, g, h14]
       exact pT (hj8 true) (Rn_some hF)
      ·try simp [go_sem, g, h14]
       exact pT (hj8 (z6.1 != z7.1)) (Rn_some hF)
end Go.Pm
