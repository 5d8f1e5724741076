/-
  Plain functions and their walks. Written by wip/tools/lift.py.
-/
import Derived.Test.YtpiihmmnhgnnjaaGreatM20
namespace Go.Pm
open Go.Am IntKind
open Go.Proofs
set_option maxRecDepth 100000
attribute [local irreducible] pw pwx pw1 pwg qv qz qf
attribute [-simp] List.map_set
set_option linter.unusedSimpArgs false
set_option linter.unusedVariables false
theorem c_spec_gMul : ∀ {a0} {a1} {r}, F_spec_gMul a0 a1 = some r → PCalls Tryz.prog 60 [(.sh, .agg [.int .i64 a0.P, .int .i64 a0.Q, .int .i64 a0.G]), (.sh, .sl false 1 (a1.map row_i64))] (Eo (.int .i64 r) [.junk, .junk]) := by
  intro a0 a1 r hr
  apply pF 22 [] [] [] [.tmp 4] hr cl60 Tryz.func60
  intro Φ hΦ hF g
  unfold F_spec_gMul at hF
  iterate 3 (try simp [go_sem, g]; try intros; refine pw_wk ?_)
  repeat rw [sq]
  refine pJ hF (fun x3 => [(5, .v (.int .i64 x3))]) (fun x3 hF => ?_) fun _ hj1 hF => ?_
  ·cases hΦ _ (Rn_some hF)
   try simp [go_sem, g]
   refine pw_wk ?_
   try simp [go_sem, g]
  ·repeat rw [sq]
   rw [pw_block]
   obtain ⟨b12, hb13, hψ8⟩ := hF
   refine pR hb13 (fun i5 s4 => [(2, .bl [.int .i64 a0.P, .int .i64 a0.Q, .int .i64 a0.G]), (5, .v (.int .i64 s4)), (8, .v (.sl false 1 (a1.map row_i64))), (9, .v (.int .i64 (a1.length : Int))), (10, .v (.int .i64 i5))]) (fun s4 _ hN14 => ?_) (fun i5 s4 _ _ hi9 hi10 ho6 hg7 hF => ?_)
   ·subst hN14
    try simp [go_sem]
    refine pw_wk ?_
    repeat rw [sq]
    refine pw_cond_f (by simp [go_sem]) ?_
    try simp [go_sem]
    exact pT (hj1 s4) hψ8 (by simp [go_sem])
   ·try simp [go_sem, g]
    refine pw_wk ?_
    repeat rw [sq]
    refine pw_cond_t (by simp [go_sem, g, hi9, hi10]) ?_
    try simp [go_sem, g]
    refine pw_wk ?_
    repeat rw [sq]
    rw [pw_block]
    obtain ⟨x11, g, hF⟩ := Rx g hF
    try simp [go_sem, g]
    refine pw_wkK [2, 5, 7, 8, 9, 10] (by simp [go_sem, g]; rfl) ?_
    obtain ⟨g, hF⟩ := Rz g hF
    try simp [go_sem, g]
    refine pw_wk ?_
    try simp [go_sem, g]
    exact pT (hg7 ((i64.wrap (s4 * x11)).tmod a0.P)) (Rn_some hF) (by simp [go_sem, g, wr_i hi9 hi10 (by assumption)])
def D25_8 : List DE := [d0 0 [3], d0 1 [5], d1 2 [1] 1, d2 3 [26] 1 26, d0 4 [3], d0 5 [5], d0 6 [28, 29], d0 7 [30], d0 8 [6], d0 9 [31, 32], ⟨10, [27, 33], [], none, true, true, true⟩, d0 11 [24, 25], d0 12 [35, 34]]
noncomputable def F_spec_nJoint (a0 : Plan) : Option ((List Int)) :=
  (F_spec_nDealt a0 1).bind fun z1 =>
  ((wloop (σ := (List Int) × Int) (fun s39 =>
  if decide (s39.2 ≤ a0.Trustees) = true then (
  (((F_spec_nDealt a0 s39.2).bind fun z48 =>
  rloop (σ := (List Int)) (fun i60 s59 =>
  (ix z48 i60).bind fun x66 =>
  (ix s59 i60).bind fun x67 =>
  (F_spec_gMul a0.Gr [x67, x66]).bind fun z68 =>
  some (.go (s59.set i60.toNat z68))) (fun s59 => s59) (z48.length) 0 s39.1 : Option ((List Int))).bind fun x47 =>
  some (.go (x47, i64.wrap (s39.2 + 1))))) else (
  some (.out s39.1))) (z1, 2) : Option ((List Int))).bind fun x4 =>
  some x4)
theorem c_spec_nJoint : ∀ {a0} {r}, F_spec_nJoint a0 = some r → PCalls Tryz.prog 25 [(.sh, .agg [.int .i64 a0.Gr.P, .int .i64 a0.Gr.Q, .int .i64 a0.Gr.G, .int .i64 a0.Ct.Kind, .int .i64 a0.Ct.Options, .int .i64 a0.Ct.Least, .int .i64 a0.Ct.Most, .int .i64 a0.Ct.Points, .int .i64 a0.Threshold, .int .i64 a0.Trustees, .int .i64 a0.Mixers, .int .i64 a0.Voters, .int .i64 a0.Seed])] (Eo (.sl true 1 (r.map row_i64)) [.junk]) := by
  intro a0 r hr
  apply pF 38 [] [] [] [.tmp 2] hr cl25 Tryz.func25
  intro Φ hΦ hF g
  unfold F_spec_nJoint at hF
  try simp [go_sem, g]
  refine pw_wk ?_
  try simp [go_sem, g]
  refine pC hF [.sh, .sh] c_spec_nDealt (fun z1 hF => ?_)
  iterate 2 (try simp [go_sem, g]; refine pw_wk ?_)
  repeat rw [sq]
  refine pJ hF (fun x4 => [(3, .v (.sl true 1 (x4.map row_i64)))]) (fun x4 hF => ?_) fun _ hj2 hF => ?_
  ·cases hΦ _ (Rn_some hF)
   try simp [go_sem, g]
   refine pw_wk ?_
   try simp [go_sem, g]
  ·repeat rw [sq]
   rw [pw_block]
   obtain ⟨b73, hb74, hψ43⟩ := hF
   refine pL hb74 (fun s39 => [(1, .bl [.int .i64 a0.Gr.P, .int .i64 a0.Gr.Q, .int .i64 a0.Gr.G, .int .i64 a0.Ct.Kind, .int .i64 a0.Ct.Options, .int .i64 a0.Ct.Least, .int .i64 a0.Ct.Most, .int .i64 a0.Ct.Points, .int .i64 a0.Threshold, .int .i64 a0.Trustees, .int .i64 a0.Mixers, .int .i64 a0.Voters, .int .i64 a0.Seed]), (3, .v (.sl true 1 (s39.1.map row_i64))), (4, .v (.int .i64 s39.2))]) (fun s39 _ _ ho41 hg42 hF => ?_)
   try simp [go_sem, g]
   refine pw_wkK [1, 3, 4, 12] (by simp [go_sem, g]; rfl) ?_
   repeat rw [sq]
   refine pI hF (fun h44 hF => ?_) (fun h44 hF => ?_)
   ·try simp [go_sem, g]
    refine pw_wk ?_
    repeat rw [sq]
    refine pJ hF (fun x47 => [(1, .bl [.int .i64 a0.Gr.P, .int .i64 a0.Gr.Q, .int .i64 a0.Gr.G, .int .i64 a0.Ct.Kind, .int .i64 a0.Ct.Options, .int .i64 a0.Ct.Least, .int .i64 a0.Ct.Most, .int .i64 a0.Ct.Points, .int .i64 a0.Threshold, .int .i64 a0.Trustees, .int .i64 a0.Mixers, .int .i64 a0.Voters, .int .i64 a0.Seed]), (3, .v (.sl true 1 (x47.map row_i64))), (4, .v (.int .i64 s39.2))]) (fun x47 hF => ?_) fun _ hj45 hF => ?_
    ·try simp [go_sem, g]
     exact pT (hg42 (x47, i64.wrap (s39.2 + 1))) (Rn_some hF)
    ·repeat rw [sq]
     rw [pw_block]
     try simp [go_sem, g]
     refine pC hF [.sh, .sh] c_spec_nDealt (fun z48 hF => ?_)
     try simp [go_sem, g]
     try intros
     refine pw_wk ?_
     repeat rw [sq]
     rw [pw_block]
     obtain ⟨b69, hb70, hψ63⟩ := hF
     refine pR hb70 (fun i60 s59 => [(1, .bl [.int .i64 a0.Gr.P, .int .i64 a0.Gr.Q, .int .i64 a0.Gr.G, .int .i64 a0.Ct.Kind, .int .i64 a0.Ct.Options, .int .i64 a0.Ct.Least, .int .i64 a0.Ct.Most, .int .i64 a0.Ct.Points, .int .i64 a0.Threshold, .int .i64 a0.Trustees, .int .i64 a0.Mixers, .int .i64 a0.Voters, .int .i64 a0.Seed]), (3, .v (.sl true 1 (s59.map row_i64))), (4, .v (.int .i64 s39.2)), (17, .v (.sl true 1 (z48.map row_i64))), (18, .v (.int .i64 (z48.length : Int))), (19, .v (.int .i64 i60))]) (fun s59 _ hN71 => ?_) (fun i60 s59 _ _ hi64 hi65 ho61 hg62 hF => ?_)
     ·subst hN71
      try simp [go_sem]
      refine pw_wk ?_
      repeat rw [sq]
      refine pw_cond_f (by simp [go_sem]) ?_
      try simp [go_sem]
      exact pT (hj45 s59) hψ63 (by simp [go_sem])
     ·try simp [go_sem, g]
      refine pw_wk ?_
      repeat rw [sq]
      refine pw_cond_t (by simp [go_sem, g, hi64, hi65]) ?_
      try simp [go_sem, g]
      refine pw_wk ?_
      repeat rw [sq]
      rw [pw_block]
      obtain ⟨x66, g, hF⟩ := Rx g hF
      try simp [go_sem, g]
      refine pw_wkK [1, 3, 4, 5, 6, 17, 18, 19] (by simp [go_sem, g]; rfl) ?_
      repeat rw [sq]
      refine pw_draw D25_8 follows (by kernel_rfl) rfl ?_
      try simp only [go_sem, D25_8]
      obtain ⟨x67, g, hF⟩ := Rx g hF
      try simp [go_sem, g]
      refine pC hF [.sh, .sh] c_spec_gMul (fun z68 hF => ?_)
      try simp [go_sem, g]
      refine pw_wkK [1, 3, 4, 17, 18, 19] (by simp [go_sem, g]; rfl) ?_
      try simp [go_sem, g]
      exact pT (hg62 (s59.set i60.toNat z68)) (Rn_some hF) (by simp [go_sem, g, wr_i hi64 hi65 (by assumption)])
   ·try simp [go_sem, g]
    cases ho41 _ (Rn_some hF)
    exact pT (hj2 s39.1) hψ43
noncomputable def F_spec_JointCommits (a0 : Plan) : Option ((List Int) × Bool) :=
  (F_spec_nPlan a0).bind fun z1 =>
  if (!z1) = true then (
  some ([], false)) else (
  (F_spec_nJoint a0).bind fun z3 =>
  some (z3, true))
theorem c_spec_JointCommits : ∀ {a0} {r}, F_spec_JointCommits a0 = some r → PCalls Tryz.prog 9 [(.sh, .agg [.int .i64 a0.Gr.P, .int .i64 a0.Gr.Q, .int .i64 a0.Gr.G, .int .i64 a0.Ct.Kind, .int .i64 a0.Ct.Options, .int .i64 a0.Ct.Least, .int .i64 a0.Ct.Most, .int .i64 a0.Ct.Points, .int .i64 a0.Threshold, .int .i64 a0.Trustees, .int .i64 a0.Mixers, .int .i64 a0.Voters, .int .i64 a0.Seed])] (Eo (.tup [.sl true 1 (r.1.map row_i64), .bool r.2]) [.junk]) := by
  intro a0 r hr
  apply pF 9 [] [] [] [.tmp 2, .tmp 3] hr cl9 Tryz.func9
  intro Φ hΦ hF g
  unfold F_spec_JointCommits at hF
  try simp [go_sem, g]
  refine pw_wk ?_
  try simp [go_sem, g]
  refine pC hF [.sh] c_spec_nPlan (fun z1 hF => ?_)
  try simp [go_sem, g]
  refine pw_wk ?_
  repeat rw [sq]
  refine pI hF (fun h2 hF => ?_) (fun h2 hF => ?_)
  ·cases hΦ _ (Rn_some hF)
   try simp [go_sem, g]
   refine pw_wk ?_
   try simp [go_sem, g]
  ·try simp [go_sem, g]
   refine pw_wk ?_
   try simp [go_sem, g]
   refine pC hF [.sh] c_spec_nJoint (fun z3 hF => ?_)
   try simp [go_sem, g]
   refine pw_wkK [2, 3] (by simp [go_sem, g]; rfl) ?_
   cases hΦ _ (Rn_some hF)
   try simp [go_sem, g]
def D10_6 : List DE := [d0 0 [0], d0 1 [5], d0 2 [16, 17], d0 3 [18], d0 4 [1], d0 5 [5], d0 6 [20, 21], d0 7 [22], d0 8 [19, 23]]
noncomputable def F_laws_sameInts (a0 : (List Int)) (a1 : (List Int)) : Option (Bool) :=
  if ((a0.length : Int) != (a1.length : Int)) = true then (
  some false) else (
  ((rloop (σ := Unit) (fun i6 s5 =>
  (ix a0 i6).bind fun x12 =>
  (ix a1 i6).bind fun x13 =>
  if (x12 != x13) = true then (
  some (.out (.inr false))) else (
  some (.go ()))) (fun s5 => .inl ()) (a0.length) 0 () : Option (Unit ⊕ Bool)).bind (Sum.elim (fun x4 =>
  some true) some)))
theorem c_laws_sameInts : ∀ {a0} {a1} {r}, F_laws_sameInts a0 a1 = some r → PCalls Tryz.prog 10 [(.sh, .sl false 1 (a0.map row_i64)), (.sh, .sl false 1 (a1.map row_i64))] (Eo (.bool r) [.junk, .junk]) := by
  intro a0 a1 r hr
  apply pF 26 [] [] [] [.tmp 4] hr cl10 Tryz.func10
  intro Φ hΦ hF g
  unfold F_laws_sameInts at hF
  iterate 2 (try simp [go_sem, g]; try intros; refine pw_wk ?_)
  repeat rw [sq]
  refine pI hF (fun h1 hF => ?_) (fun h1 hF => ?_)
  ·cases hΦ _ (Rn_some hF)
   try simp [go_sem, g]
   refine pw_wk ?_
   try simp [go_sem, g]
  ·iterate 2 (try simp [go_sem, g]; try intros; refine pw_wk ?_)
   repeat rw [sq]
   refine pJs hF (fun x4 => []) (fun x4 hF => ?_) fun _ hj2 hr3 hF => ?_
   ·try simp [go_sem, g]
    refine pw_wkK [4] (by simp [go_sem, g]; rfl) ?_
    cases hΦ _ (Rn_some hF)
    try simp [go_sem, g]
   ·repeat rw [sq]
    rw [pw_block]
    obtain ⟨b15, hb16, hψ9⟩ := hF
    refine pR hb16 (fun i6 s5 => [(0, .v (.sl false 1 (a0.map row_i64))), (1, .v (.sl false 1 (a1.map row_i64))), (12, .v (.int .i64 (a0.length : Int))), (13, .v (.int .i64 i6))]) (fun s5 _ hN17 => ?_) (fun i6 s5 _ _ hi10 hi11 ho7 hg8 hF => ?_)
    ·subst hN17
     try simp [go_sem]
     refine pw_wk ?_
     repeat rw [sq]
     refine pw_cond_f (by simp [go_sem]) ?_
     try simp [go_sem]
     exact pT (hj2 ()) hψ9 (by simp [go_sem])
    ·try simp [go_sem, g]
     refine pw_wkK [0, 1, 12, 13, 14] (by simp [go_sem, g]; rfl) ?_
     repeat rw [sq]
     refine pw_cond_t (by simp [go_sem, g, hi10, hi11]) ?_
     try simp [go_sem, g]
     refine pw_wk ?_
     repeat rw [sq]
     rw [pw_block]
     try simp [go_sem, g]
     refine pw_wk ?_
     repeat rw [sq]
     refine pw_draw D10_6 follows (by kernel_rfl) rfl ?_
     try simp only [go_sem, D10_6]
     obtain ⟨x12, g, hF⟩ := Rx g hF
     obtain ⟨x13, g, hF⟩ := Rx g hF
     try simp [go_sem, g]
     refine pw_wkK [0, 1, 12, 13, 24] (by simp [go_sem, g]; rfl) ?_
     repeat rw [sq]
     refine pI hF (fun h14 hF => ?_) (fun h14 hF => ?_)
     ·cases ho7 _ (Rn_some hF)
      cases hΦ _ (hr3 _ hψ9)
      try simp [go_sem, g]
      refine pw_wk ?_
      try simp [go_sem, g]
     ·try simp [go_sem, g]
      refine pw_wk ?_
      try simp [go_sem, g]
      exact pT (hg8 ()) (Rn_some hF) (by simp [go_sem, g, wr_i hi10 hi11 (by assumption)])
noncomputable def F_spec_sGroup (a0 : Group) : Option (Bool) :=
  (((F_spec_l2Good a0).bind fun z4 =>
  if z4 = true then (
  some (decide (7 < a0.Q))) else (
  some false) : Option (Bool)).bind fun x3 =>
  some x3)
theorem c_spec_sGroup : ∀ {a0} {r}, F_spec_sGroup a0 = some r → PCalls Tryz.prog 26 [(.sh, .agg [.int .i64 a0.P, .int .i64 a0.Q, .int .i64 a0.G])] (Eo (.bool r) [.junk]) := by
  intro a0 r hr
  apply pF 10 [] [] [] [.tmp 2] hr cl26 Tryz.func26
  intro Φ hΦ hF g
  unfold F_spec_sGroup at hF
  try simp [go_sem, g]
  refine pw_wk ?_
  repeat rw [sq]
  refine pJ hF (fun x3 => [(2, .v (.bool x3))]) (fun x3 hF => ?_) fun _ hj1 hF => ?_
  ·cases hΦ _ (Rn_some hF)
   try simp [go_sem, g]
  ·try simp [go_sem, g]
   refine pC hF [.sh] c_spec_l2Good (fun z4 hF => ?_)
   try simp [go_sem, g]
   refine pwg_F hF (fun h5 hF => ?_) fun h5 hF => ?_
   ·try simp [go_sem, g, h5]
    exact pT (hj1 (decide (7 < a0.Q))) (Rn_some hF)
   ·try simp [go_sem, g, h5]
    exact pT (hj1 false) (Rn_some hF)
noncomputable def F_spec_gIs (a0 : Group) (a1 : (List Int)) : Option (Bool) :=
  ((rloop (σ := Unit) (fun i5 s4 =>
  (ix a1 i5).bind fun x11 =>
  (((F_spec_l1In x11 1 (i64.wrap (a0.P - 1))).bind fun z15 =>
  if (!z15) = true then (
  some true) else (
  (F_spec_nPower x11 a0.Q a0.P).bind fun z17 =>
  some (z17 != 1)) : Option (Bool)).bind fun x14 =>
  if x14 = true then (
  some (.out (.inr false))) else (
  some (.go ())))) (fun s4 => .inl ()) (a1.length) 0 () : Option (Unit ⊕ Bool)).bind (Sum.elim (fun x3 =>
  some true) some))
theorem c_spec_gIs : ∀ {a0} {a1} {r}, F_spec_gIs a0 a1 = some r → PCalls Tryz.prog 30 [(.sh, .agg [.int .i64 a0.P, .int .i64 a0.Q, .int .i64 a0.G]), (.sh, .sl false 1 (a1.map row_i64))] (Eo (.bool r) [.junk, .junk]) := by
  intro a0 a1 r hr
  apply pF 29 [] [] [] [.tmp 4] hr cl30 Tryz.func30
  intro Φ hΦ hF g
  unfold F_spec_gIs at hF
  iterate 2 (try simp [go_sem, g]; try intros; refine pw_wk ?_)
  repeat rw [sq]
  refine pJs hF (fun x3 => []) (fun x3 hF => ?_) fun _ hj1 hr2 hF => ?_
  ·cases hΦ _ (Rn_some hF)
   try simp [go_sem, g]
   refine pw_wk ?_
   try simp [go_sem, g]
  ·repeat rw [sq]
   rw [pw_block]
   obtain ⟨b19, hb20, hψ8⟩ := hF
   refine pR hb20 (fun i5 s4 => [(2, .bl [.int .i64 a0.P, .int .i64 a0.Q, .int .i64 a0.G]), (7, .v (.sl false 1 (a1.map row_i64))), (8, .v (.int .i64 (a1.length : Int))), (9, .v (.int .i64 i5))]) (fun s4 _ hN21 => ?_) (fun i5 s4 _ _ hi9 hi10 ho6 hg7 hF => ?_)
   ·subst hN21
    try simp [go_sem]
    refine pw_wk ?_
    repeat rw [sq]
    refine pw_cond_f (by simp [go_sem]) ?_
    try simp [go_sem]
    exact pT (hj1 ()) hψ8 (by simp [go_sem])
   ·try simp [go_sem, g]
    refine pw_wk ?_
    repeat rw [sq]
    refine pw_cond_t (by simp [go_sem, g, hi9, hi10]) ?_
    try simp [go_sem, g]
    refine pw_wk ?_
    repeat rw [sq]
    rw [pw_block]
    obtain ⟨x11, g, hF⟩ := Rx g hF
    try simp [go_sem, g]
    refine pw_wk ?_
    repeat rw [sq]
    refine pJ hF (fun x14 => [(2, .bl [.int .i64 a0.P, .int .i64 a0.Q, .int .i64 a0.G]), (7, .v (.sl false 1 (a1.map row_i64))), (8, .v (.int .i64 (a1.length : Int))), (9, .v (.int .i64 i5)), (27, .v (.bool x14))]) (fun x14 hF => ?_) fun _ hj12 hF => ?_
    ·repeat rw [sq]
     refine pI hF (fun h18 hF => ?_) (fun h18 hF => ?_)
     ·try simp [go_sem, g]
      refine pw_wkK [4] (by simp [go_sem, g]; rfl) ?_
      cases ho6 _ (Rn_some hF)
      cases hΦ _ (hr2 _ hψ8)
      try simp [go_sem, g]
     ·try simp [go_sem, g]
      refine pw_wk ?_
      try simp [go_sem, g]
      exact pT (hg7 ()) (Rn_some hF) (by simp [go_sem, g, wr_i hi9 hi10 (by assumption)])
    ·try simp [go_sem, g]
     refine pC hF [.sh, .sh, .sh] c_spec_l1In (fun z15 hF => ?_)
     try simp [go_sem, g]
     refine pwg_F hF (fun h16 hF => ?_) fun h16 hF => ?_
     ·try simp [go_sem, g, h16]
      exact pT (hj12 true) (Rn_some hF)
     ·try simp [go_sem, g, h16]
      refine pC hF [.sh, .sh, .sh] c_spec_nPower (fun z17 hF => ?_)
      try simp [go_sem, g, h16]
      exact pT (hj12 (z17 != 1)) (Rn_some hF)
noncomputable def F_spec_sCommits (a0 : Group) (a1 : (List Int)) : Option (Bool) :=
  (((F_spec_l1In (a1.length : Int) 1 7).bind fun z4 =>
  if z4 = true then (
  (F_spec_gIs a0 a1).bind fun z6 =>
  some z6) else (
  some false) : Option (Bool)).bind fun x3 =>
  some x3)
theorem c_spec_sCommits : ∀ {a0} {a1} {r}, F_spec_sCommits a0 a1 = some r → PCalls Tryz.prog 27 [(.sh, .agg [.int .i64 a0.P, .int .i64 a0.Q, .int .i64 a0.G]), (.sh, .sl false 1 (a1.map row_i64))] (Eo (.bool r) [.junk, .junk]) := by
  intro a0 a1 r hr
  apply pF 13 [] [] [] [.tmp 4] hr cl27 Tryz.func27
  intro Φ hΦ hF g
  unfold F_spec_sCommits at hF
  try simp [go_sem, g]
  refine pw_wk ?_
  repeat rw [sq]
  refine pJ hF (fun x3 => [(4, .v (.bool x3))]) (fun x3 hF => ?_) fun _ hj1 hF => ?_
  ·cases hΦ _ (Rn_some hF)
   try simp [go_sem, g]
  ·try simp [go_sem, g]
   try intros
   refine pC hF [.sh, .sh, .sh] c_spec_l1In (fun z4 hF => ?_)
   try simp [go_sem, g]
   refine pwg_F hF (fun h5 hF => ?_) fun h5 hF => ?_
   ·try simp [go_sem, g, h5]
    refine pC hF [.sh, .sh] c_spec_gIs (fun z6 hF => ?_)
    try simp [go_sem, g, h5]
    exact pT (hj1 z6) (Rn_some hF)
   ·try simp [go_sem, g, h5]
    exact pT (hj1 false) (Rn_some hF)
def D28_5 : List DE := [d2 0 [3] 3 3, d0 1 [7], d2 2 [3] 3 3, d0 3 [10], d0 4 [8], d3 5 [19, 20, 21], d0 6 [18, 22], ⟨7, [17, 23], [], none, true, true, true⟩, d0 8 [24]]
noncomputable def F_spec_sAt (a0 : Group) (a1 : (List Int)) (a2 : Int) : Option (Int) :=
  ((rloop (σ := Int × Int) (fun i5 s4 =>
  (ix a1 i5).bind fun x11 =>
  (F_spec_gExp a0 x11 s4.2).bind fun z12 =>
  (F_spec_gMul a0 [s4.1, z12]).bind fun z13 =>
  gd (a0.Q ≠ 0) <|
  some (.go (z13, (i64.wrap (s4.2 * a2)).tmod a0.Q))) (fun s4 => s4.1) (a1.length) 0 (1, 1) : Option (Int)).bind fun x3 =>
  some x3)
theorem c_spec_sAt : ∀ {a0} {a1} {a2} {r}, F_spec_sAt a0 a1 a2 = some r → PCalls Tryz.prog 28 [(.sh, .agg [.int .i64 a0.P, .int .i64 a0.Q, .int .i64 a0.G]), (.sh, .sl false 1 (a1.map row_i64)), (.sh, .int .i64 a2)] (Eo (.int .i64 r) [.junk, .junk, .junk]) := by
  intro a0 a1 a2 r hr
  apply pF 33 [] [] [] [.tmp 6] hr cl28 Tryz.func28
  intro Φ hΦ hF g
  unfold F_spec_sAt at hF
  iterate 3 (try simp [go_sem, g]; try intros; refine pw_wk ?_)
  repeat rw [sq]
  refine pJ hF (fun x3 => [(7, .v (.int .i64 x3))]) (fun x3 hF => ?_) fun _ hj1 hF => ?_
  ·cases hΦ _ (Rn_some hF)
   try simp [go_sem, g]
   refine pw_wk ?_
   try simp [go_sem, g]
  ·repeat rw [sq]
   rw [pw_block]
   obtain ⟨b14, hb15, hψ8⟩ := hF
   refine pR hb15 (fun i5 s4 => [(2, .v (.int .i64 a2)), (3, .bl [.int .i64 a0.P, .int .i64 a0.Q, .int .i64 a0.G]), (7, .v (.int .i64 s4.1)), (8, .v (.int .i64 s4.2)), (11, .v (.sl false 1 (a1.map row_i64))), (12, .v (.int .i64 (a1.length : Int))), (13, .v (.int .i64 i5))]) (fun s4 _ hN16 => ?_) (fun i5 s4 _ _ hi9 hi10 ho6 hg7 hF => ?_)
   ·subst hN16
    try simp [go_sem]
    refine pw_wk ?_
    repeat rw [sq]
    refine pw_cond_f (by simp [go_sem]) ?_
    try simp [go_sem]
    exact pT (hj1 s4.1) hψ8 (by simp [go_sem])
   ·try simp [go_sem, g]
    refine pw_wk ?_
    repeat rw [sq]
    refine pw_cond_t (by simp [go_sem, g, hi9, hi10]) ?_
    try simp [go_sem, g]
    refine pw_wk ?_
    repeat rw [sq]
    rw [pw_block]
    obtain ⟨x11, g, hF⟩ := Rx g hF
    try simp [go_sem, g]
    refine pw_wkK [2, 3, 7, 8, 10, 11, 12, 13] (by simp [go_sem, g]; rfl) ?_
    repeat rw [sq]
    refine pw_draw D28_5 follows (by kernel_rfl) rfl ?_
    try simp only [go_sem, D28_5]
    try simp [go_sem, g]
    refine pC hF [.sh, .sh, .sh] c_spec_gExp (fun z12 hF => ?_)
    try simp [go_sem, g]
    refine pC hF [.sh, .sh] c_spec_gMul (fun z13 hF => ?_)
    obtain ⟨g, hF⟩ := Rz g hF
    try simp [go_sem, g]
    refine pw_wk ?_
    try simp [go_sem, g]
    refine pw_wkK [2, 3, 7, 8, 11, 12, 13] (by simp [go_sem, g]; rfl) ?_
    try simp [go_sem, g]
    exact pT (hg7 (z13, (i64.wrap (s4.2 * a2)).tmod a0.Q)) (Rn_some hF) (by simp [go_sem, g, wr_i hi9 hi10 (by assumption)])
noncomputable def F_spec_CommitAt (a0 : Group) (a1 : (List Int)) (a2 : Int) : Option (Int × Bool) :=
  (((F_spec_sGroup a0).bind fun z4 =>
  if (!z4) = true then (
  some true) else (
  (F_spec_sCommits a0 a1).bind fun z6 =>
  if (!z6) = true then (
  some true) else (
  (F_spec_l1In a2 0 7).bind fun z8 =>
  some (!z8))) : Option (Bool)).bind fun x3 =>
  if x3 = true then (
  some (0, false)) else (
  (F_spec_sAt a0 a1 a2).bind fun z10 =>
  some (z10, true)))
theorem c_spec_CommitAt : ∀ {a0} {a1} {a2} {r}, F_spec_CommitAt a0 a1 a2 = some r → PCalls Tryz.prog 11 [(.sh, .agg [.int .i64 a0.P, .int .i64 a0.Q, .int .i64 a0.G]), (.sh, .sl false 1 (a1.map row_i64)), (.sh, .int .i64 a2)] (Eo (.tup [.int .i64 r.1, .bool r.2]) [.junk, .junk, .junk]) := by
  intro a0 a1 a2 r hr
  apply pF 26 [] [] [] [.tmp 6, .tmp 7] hr cl11 Tryz.func11
  intro Φ hΦ hF g
  unfold F_spec_CommitAt at hF
  try simp [go_sem, g]
  refine pw_wk ?_
  repeat rw [sq]
  refine pJ hF (fun x3 => [(1, .v (.sl false 1 (a1.map row_i64))), (2, .v (.int .i64 a2)), (3, .bl [.int .i64 a0.P, .int .i64 a0.Q, .int .i64 a0.G]), (21, .v (.bool x3))]) (fun x3 hF => ?_) fun _ hj1 hF => ?_
  ·repeat rw [sq]
   refine pI hF (fun h9 hF => ?_) (fun h9 hF => ?_)
   ·cases hΦ _ (Rn_some hF)
    try simp [go_sem, g]
    refine pw_wk ?_
    try simp [go_sem, g]
   ·try simp [go_sem, g]
    refine pw_wk ?_
    try simp [go_sem, g]
    refine pC hF [.sh, .sh, .sh] c_spec_sAt (fun z10 hF => ?_)
    cases hΦ _ (Rn_some hF)
    try simp [go_sem, g]
    refine pw_wk ?_
    try simp [go_sem, g]
  ·try simp [go_sem, g]
   refine pC hF [.sh] c_spec_sGroup (fun z4 hF => ?_)
   try simp [go_sem, g]
   refine pwg_F hF (fun h5 hF => ?_) fun h5 hF => ?_
   ·try simp [go_sem, g, h5]
    exact pT (hj1 true) (Rn_some hF)
   ·try simp [go_sem, g, h5]
    refine pC hF [.sh, .sh] c_spec_sCommits (fun z6 hF => ?_)
    try simp [go_sem, g, h5]
    refine pwg_F hF (fun h7 hF => ?_) fun h7 hF => ?_
    ·try simp [go_sem, g, h7]
     exact pT (hj1 true) (Rn_some hF)
    ·try simp [go_sem, g, h7]
     refine pC hF [.sh, .sh, .sh] c_spec_l1In (fun z8 hF => ?_)
     try simp [go_sem, g, h7]
     exact pT (hj1 (!z8)) (Rn_some hF)
noncomputable def F_spec_l1All (a0 : (List Int)) (a1 : Int) (a2 : Int) : Option (Bool) :=
  ((rloop (σ := Unit) (fun i5 s4 =>
  (ix a0 i5).bind fun x11 =>
  (F_spec_l1In x11 a1 a2).bind fun z12 =>
  if (!z12) = true then (
  some (.out (.inr false))) else (
  some (.go ()))) (fun s4 => .inl ()) (a0.length) 0 () : Option (Unit ⊕ Bool)).bind (Sum.elim (fun x3 =>
  some true) some))
theorem c_spec_l1All : ∀ {a0} {a1} {a2} {r}, F_spec_l1All a0 a1 a2 = some r → PCalls Tryz.prog 63 [(.sh, .sl false 1 (a0.map row_i64)), (.sh, .int .i64 a1), (.sh, .int .i64 a2)] (Eo (.bool r) [.junk, .junk, .junk]) := by
  intro a0 a1 a2 r hr
  apply pF 21 [] [] [] [.tmp 6] hr cl63 Tryz.func63
  intro Φ hΦ hF g
  unfold F_spec_l1All at hF
  iterate 2 (try simp [go_sem, g]; try intros; refine pw_wk ?_)
  repeat rw [sq]
  refine pJs hF (fun x3 => []) (fun x3 hF => ?_) fun _ hj1 hr2 hF => ?_
  ·cases hΦ _ (Rn_some hF)
   try simp [go_sem, g]
   refine pw_wk ?_
   try simp [go_sem, g]
  ·repeat rw [sq]
   rw [pw_block]
   obtain ⟨b14, hb15, hψ8⟩ := hF
   refine pR hb15 (fun i5 s4 => [(1, .v (.int .i64 a1)), (2, .v (.int .i64 a2)), (9, .v (.sl false 1 (a0.map row_i64))), (10, .v (.int .i64 (a0.length : Int))), (11, .v (.int .i64 i5))]) (fun s4 _ hN16 => ?_) (fun i5 s4 _ _ hi9 hi10 ho6 hg7 hF => ?_)
   ·subst hN16
    try simp [go_sem]
    refine pw_wk ?_
    repeat rw [sq]
    refine pw_cond_f (by simp [go_sem]) ?_
    try simp [go_sem]
    exact pT (hj1 ()) hψ8 (by simp [go_sem])
   ·try simp [go_sem, g]
    refine pw_wk ?_
    repeat rw [sq]
    refine pw_cond_t (by simp [go_sem, g, hi9, hi10]) ?_
    try simp [go_sem, g]
    refine pw_wk ?_
    repeat rw [sq]
    rw [pw_block]
    obtain ⟨x11, g, hF⟩ := Rx g hF
    try simp [go_sem, g]
    refine pw_wk ?_
    try simp [go_sem, g]
    refine pC hF [.sh, .sh, .sh] c_spec_l1In (fun z12 hF => ?_)
    try simp [go_sem, g]
    refine pw_wkK [1, 2, 9, 10, 11, 19] (by simp [go_sem, g]; rfl) ?_
    repeat rw [sq]
    refine pI hF (fun h13 hF => ?_) (fun h13 hF => ?_)
    ·cases ho6 _ (Rn_some hF)
     cases hΦ _ (hr2 _ hψ8)
     try simp [go_sem, g]
     refine pw_wk ?_
     try simp [go_sem, g]
    ·try simp [go_sem, g]
     refine pw_wk ?_
     try simp [go_sem, g]
     exact pT (hg7 ()) (Rn_some hF) (by simp [go_sem, g, wr_i hi9 hi10 (by assumption)])
noncomputable def F_spec_gExps (a0 : Group) (a1 : (List Int)) : Option (Bool) :=
  (F_spec_l1All a1 0 (i64.wrap (a0.Q - 1))).bind fun z1 =>
  some z1
theorem c_spec_gExps : ∀ {a0} {a1} {r}, F_spec_gExps a0 a1 = some r → PCalls Tryz.prog 31 [(.sh, .agg [.int .i64 a0.P, .int .i64 a0.Q, .int .i64 a0.G]), (.sh, .sl false 1 (a1.map row_i64))] (Eo (.bool r) [.junk, .junk]) := by
  intro a0 a1 r hr
  apply pF 10 [] [] [] [.tmp 4] hr cl31 Tryz.func31
  intro Φ hΦ hF g
  unfold F_spec_gExps at hF
  try simp [go_sem, g]
  refine pw_wk ?_
  try simp [go_sem, g]
  refine pC hF [.sh, .sh, .sh] c_spec_l1All (fun z1 hF => ?_)
  cases hΦ _ (Rn_some hF)
  try simp [go_sem, g]
  refine pw_wk ?_
  try simp [go_sem, g]
noncomputable def F_spec_ExpOf (a0 : Group) (a1 : Int) (a2 : Int) : Option (Int × Bool) :=
  (((F_spec_l2Good a0).bind fun z4 =>
  if (!z4) = true then (
  some true) else (
  (F_spec_gIs a0 [a1]).bind fun z6 =>
  if (!z6) = true then (
  some true) else (
  (F_spec_gExps a0 [a2]).bind fun z8 =>
  some (!z8))) : Option (Bool)).bind fun x3 =>
  if x3 = true then (
  some (0, false)) else (
  (F_spec_gExp a0 a1 a2).bind fun z10 =>
  some (z10, true)))
theorem c_spec_ExpOf : ∀ {a0} {a1} {a2} {r}, F_spec_ExpOf a0 a1 a2 = some r → PCalls Tryz.prog 12 [(.sh, .agg [.int .i64 a0.P, .int .i64 a0.Q, .int .i64 a0.G]), (.sh, .int .i64 a1), (.sh, .int .i64 a2)] (Eo (.tup [.int .i64 r.1, .bool r.2]) [.junk, .junk, .junk]) := by
  intro a0 a1 a2 r hr
  apply pF 29 [] [] [] [.tmp 6, .tmp 7] hr cl12 Tryz.func12
  intro Φ hΦ hF g
  unfold F_spec_ExpOf at hF
  try simp [go_sem, g]
  refine pw_wk ?_
  repeat rw [sq]
  refine pJ hF (fun x3 => [(1, .v (.int .i64 a1)), (2, .v (.int .i64 a2)), (3, .bl [.int .i64 a0.P, .int .i64 a0.Q, .int .i64 a0.G]), (24, .v (.bool x3))]) (fun x3 hF => ?_) fun _ hj1 hF => ?_
  ·repeat rw [sq]
   refine pI hF (fun h9 hF => ?_) (fun h9 hF => ?_)
   ·cases hΦ _ (Rn_some hF)
    try simp [go_sem, g]
    refine pw_wk ?_
    try simp [go_sem, g]
   ·try simp [go_sem, g]
    refine pw_wk ?_
    try simp [go_sem, g]
    refine pC hF [.sh, .sh, .sh] c_spec_gExp (fun z10 hF => ?_)
    cases hΦ _ (Rn_some hF)
    try simp [go_sem, g]
    refine pw_wk ?_
    try simp [go_sem, g]
  ·try simp [go_sem, g]
   refine pC hF [.sh] c_spec_l2Good (fun z4 hF => ?_)
   try simp [go_sem, g]
   refine pwg_F hF (fun h5 hF => ?_) fun h5 hF => ?_
   ·try simp [go_sem, g, h5]
    exact pT (hj1 true) (Rn_some hF)
   ·try simp [go_sem, g, h5]
    refine pC hF [.sh, .sh] c_spec_gIs (fun z6 hF => ?_)
    try simp [go_sem, g, h5]
    refine pwg_F hF (fun h7 hF => ?_) fun h7 hF => ?_
    ·try simp [go_sem, g, h7]
     exact pT (hj1 true) (Rn_some hF)
    ·try simp [go_sem, g, h7]
     refine pC hF [.sh, .sh] c_spec_gExps (fun z8 hF => ?_)
     try simp [go_sem, g, h7]
     exact pT (hj1 (!z8)) (Rn_some hF)
noncomputable def F_spec_l1Cur_of__io0 (a0c0 : (List Int)) (a0c1 : Int) (a0c2 : Int) (a1 : (List ByteArray)) : Option (ByteArray × ((List Int) × Int × Int)) :=
  (F_spec_l1Cur_pick__io0 a0c0 a0c1 a0c2 (a1.length : Int)).bind fun z1 =>
  (ix a1 z1.1).bind fun x2 =>
  some (x2, (z1.2.1, z1.2.2.1, z1.2.2.2))
theorem c_spec_l1Cur_of__io0 : ∀ {a0c0} {a0c1} {a0c2} {a1} {r}, F_spec_l1Cur_of__io0 a0c0 a0c1 a0c2 a1 = some r → PCalls Tryz.prog 65 [(.io, .bx [.sl false 1 (a0c0.map row_u8), .int .i64 a0c1, .int .u64 a0c2]), (.sh, .sl false 1 (a1.map row_s))] (Eo (.str r.1) [.bx [.sl false 1 (r.2.1.map row_u8), .int .i64 r.2.2.1, .int .u64 r.2.2.2], .junk]) := by
  intro a0c0 a0c1 a0c2 a1 r hr
  apply pF 12 [0] [] [] [.tmp 4] hr cl65 Tryz.func65
  intro Φ hΦ hF g
  unfold F_spec_l1Cur_of__io0 at hF
  try simp [go_sem, g]
  try intros
  refine pw_wk ?_
  try simp [go_sem, g]
  try intros
  refine pC hF [.io, .sh] c_spec_l1Cur_pick__io0 (fun z1 hF => ?_)
  obtain ⟨x2, g, hF⟩ := Rx g hF
  cases hΦ _ (Rn_some hF)
  try simp [go_sem, g]
  refine pw_wk ?_
  try simp [go_sem, g]
noncomputable def F_spec_l1Cur_of__io0_mv1 (a0c0 : (List Int)) (a0c1 : Int) (a0c2 : Int) (a1 : (List ByteArray)) : Option (ByteArray × ((List Int) × Int × Int)) :=
  (F_spec_l1Cur_pick__io0 a0c0 a0c1 a0c2 (a1.length : Int)).bind fun z1 =>
  (ix a1 z1.1).bind fun x2 =>
  some (x2, (z1.2.1, z1.2.2.1, z1.2.2.2))
theorem c_spec_l1Cur_of__io0_mv1 : ∀ {a0c0} {a0c1} {a0c2} {a1} {r}, F_spec_l1Cur_of__io0_mv1 a0c0 a0c1 a0c2 a1 = some r → PCalls Tryz.prog 65 [(.io, .bx [.sl false 1 (a0c0.map row_u8), .int .i64 a0c1, .int .u64 a0c2]), (.mv, .sl true 1 (a1.map row_s))] (Eo (.str r.1) [.bx [.sl false 1 (r.2.1.map row_u8), .int .i64 r.2.2.1, .int .u64 r.2.2.2], .junk]) := by
  intro a0c0 a0c1 a0c2 a1 r hr
  apply pF 12 [0] [] [] [.tmp 4] hr cl65 Tryz.func65
  intro Φ hΦ hF g
  unfold F_spec_l1Cur_of__io0_mv1 at hF
  try simp [go_sem, g]
  try intros
  refine pw_wk ?_
  try simp [go_sem, g]
  try intros
  refine pC hF [.io, .sh] c_spec_l1Cur_pick__io0 (fun z1 hF => ?_)
  obtain ⟨x2, g, hF⟩ := Rx g hF
  cases hΦ _ (Rn_some hF)
  try simp [go_sem, g]
  refine pw_wk ?_
  try simp [go_sem, g]
noncomputable def F_spec_l1Cur_label__io0 (a0c0 : (List Int)) (a0c1 : Int) (a0c2 : Int) : Option (ByteArray × ((List Int) × Int × Int)) :=
  (F_spec_l1Cur_of__io0_mv1 a0c0 a0c1 a0c2 [(⟨#[]⟩ : ByteArray), (⟨#[97]⟩ : ByteArray), (⟨#[118, 111, 116, 101]⟩ : ByteArray), (⟨#[109, 105, 120]⟩ : ByteArray), (⟨#[98, 111, 97, 114, 100, 32, 49]⟩ : ByteArray), (⟨#[107, 101, 121]⟩ : ByteArray), (⟨#[108, 111, 110, 103, 32, 108, 97, 98, 101, 108, 32, 119, 105, 116, 104, 32, 115, 101, 118, 101, 114, 97, 108, 32, 119, 111, 114, 100, 115, 32, 105, 110, 32, 105, 116]⟩ : ByteArray)]).bind fun z1 =>
  (F_spec_l1Cur_one__io0 z1.2.1 z1.2.2.1 z1.2.2.2 16).bind fun z2 =>
  ((if z2.1 = true then (
  wloop (σ := ((List Int) × Int × Int) × ByteArray) (fun s14 =>
  (F_spec_l1Cur_pick__io0 s14.1.1 s14.1.2.1 s14.1.2.2 2).bind fun z19 =>
  if decide ((s14.2.size : Int) < (i64.wrap (40 + z19.1))) = true then (
  gd (s14.2.size + (⟨#[120]⟩ : ByteArray).size ≤ 9223372036854775807) <|
  some (.go ((z19.2.1, z19.2.2.1, z19.2.2.2), (s14.2 ++ (⟨#[120]⟩ : ByteArray))))) else (
  some (.out ((z19.2.1, z19.2.2.1, z19.2.2.2), s14.2)))) ((z2.2.1, z2.2.2.1, z2.2.2.2), z1.1)) else (
  some ((z2.2.1, z2.2.2.1, z2.2.2.2), z1.1)) : Option ((((List Int) × Int × Int) × ByteArray))).bind fun x5 =>
  some (x5.2, (x5.1.1, x5.1.2.1, x5.1.2.2)))
theorem c_spec_l1Cur_label__io0 : ∀ {a0c0} {a0c1} {a0c2} {r}, F_spec_l1Cur_label__io0 a0c0 a0c1 a0c2 = some r → PCalls Tryz.prog 33 [(.io, .bx [.sl false 1 (a0c0.map row_u8), .int .i64 a0c1, .int .u64 a0c2])] (Eo (.str r.1) [.bx [.sl false 1 (r.2.1.map row_u8), .int .i64 r.2.2.1, .int .u64 r.2.2.2]]) := by
  intro a0c0 a0c1 a0c2 r hr
  apply pF 18 [0] [] [] [.tmp 2] hr cl33 Tryz.func33
  intro Φ hΦ hF g
  unfold F_spec_l1Cur_label__io0 at hF
  try simp [go_sem, g]
  refine pw_wk ?_
  try simp [go_sem, g]
  refine pC hF [.io, .mv] c_spec_l1Cur_of__io0_mv1 (fun z1 hF => ?_)
  try simp [go_sem, g]
  refine pw_wk ?_
  try simp [go_sem, g]
  refine pC hF [.io, .sh] c_spec_l1Cur_one__io0 (fun z2 hF => ?_)
  try simp [go_sem, g]
  refine pw_wk ?_
  repeat rw [sq]
  refine pJ hF (fun x5 => [(0, .v (.bx [.sl false 1 (x5.1.1.map row_u8), .int .i64 x5.1.2.1, .int .u64 x5.1.2.2])), (3, .v (.str x5.2))]) (fun x5 hF => ?_) fun _ hj3 hF => ?_
  ·cases hΦ _ (Rn_some hF)
   try simp [go_sem, g]
   refine pw_wk ?_
   try simp [go_sem, g]
  ·repeat rw [sq]
   refine pI hF (fun h6 hF => ?_) (fun h6 hF => ?_)
   ·repeat rw [sq]
    rw [pw_block]
    obtain ⟨b21, hb22, hψ18⟩ := hF
    refine pL hb22 (fun s14 => [(0, .v (.bx [.sl false 1 (s14.1.1.map row_u8), .int .i64 s14.1.2.1, .int .u64 s14.1.2.2])), (3, .v (.str s14.2))]) (fun s14 _ _ ho16 hg17 hF => ?_)
    try simp [go_sem, g]
    refine pC hF [.io, .sh] c_spec_l1Cur_pick__io0 (fun z19 hF => ?_)
    try simp [go_sem, g]
    refine pw_wkK [0, 3, 14] (by simp [go_sem, g]; rfl) ?_
    repeat rw [sq]
    refine pI hF (fun h20 hF => ?_) (fun h20 hF => ?_)
    ·try simp [go_sem, g]
     refine pw_wk ?_
     repeat rw [sq]
     rw [pw_block]
     obtain ⟨g, hF⟩ := Rsa g hF
     try simp [go_sem, g]
     exact pT (hg17 ((z19.2.1, z19.2.2.1, z19.2.2.2), (s14.2 ++ (⟨#[120]⟩ : ByteArray)))) (Rn_some hF)
    ·try simp [go_sem, g]
     cases ho16 _ (Rn_some hF)
     exact pT (hj3 ((z19.2.1, z19.2.2.1, z19.2.2.2), s14.2)) hψ18
   ·try simp [go_sem, g]
    exact pT (hj3 ((z2.2.1, z2.2.2.1, z2.2.2.2), z1.1)) (Rn_some hF)
noncomputable def F_spec_DrawCoinsFor (a0 : (List Int)) : Option (Plan × ByteArray × Int × Int) :=
  (F_spec_l1Cur_anyPlan__io0 a0 0 0).bind fun z1 =>
  (F_spec_l1Cur_label__io0 z1.2.1 z1.2.2.1 z1.2.2.2).bind fun z2 =>
  (F_spec_l1Cur_digest__io0 z2.2.1 z2.2.2.1 z2.2.2.2).bind fun z3 =>
  (F_spec_l1Cur_among__io0_mv1 z3.2.1 z3.2.2.1 z3.2.2.2 [0, 1, 5, 200, 201, (-1)]).bind fun z4 =>
  some (z1.1, z2.1, z3.1, z4.1)
theorem c_spec_DrawCoinsFor : ∀ {a0} {r}, F_spec_DrawCoinsFor a0 = some r → PCalls Tryz.prog 13 [(.sh, .sl false 1 (a0.map row_u8))] (Eo (.tup [.agg [.int .i64 r.1.Gr.P, .int .i64 r.1.Gr.Q, .int .i64 r.1.Gr.G, .int .i64 r.1.Ct.Kind, .int .i64 r.1.Ct.Options, .int .i64 r.1.Ct.Least, .int .i64 r.1.Ct.Most, .int .i64 r.1.Ct.Points, .int .i64 r.1.Threshold, .int .i64 r.1.Trustees, .int .i64 r.1.Mixers, .int .i64 r.1.Voters, .int .i64 r.1.Seed], .str r.2.1, .int .i64 r.2.2.1, .int .i64 r.2.2.2]) [.junk]) := by
  intro a0 r hr
  apply pF 19 [] [] [9] [.cell 2 29, .tmp 3, .tmp 4, .tmp 5] hr cl13 Tryz.func13
  intro Φ hΦ hF g
  unfold F_spec_DrawCoinsFor at hF
  iterate 2 (try simp [go_sem, g]; refine pw_wk ?_)
  try simp [go_sem, g]
  refine pC hF [.io] c_spec_l1Cur_anyPlan__io0 (fun z1 hF => ?_)
  try simp [go_sem, g]
  refine pC hF [.io] c_spec_l1Cur_label__io0 (fun z2 hF => ?_)
  try simp [go_sem, g]
  refine pC hF [.io] c_spec_l1Cur_digest__io0 (fun z3 hF => ?_)
  try simp [go_sem, g]
  refine pC hF [.io, .mv] c_spec_l1Cur_among__io0_mv1 (fun z4 hF => ?_)
  try simp [go_sem, g]
  refine pw_wkK [2, 3, 4, 5] (by simp [go_sem, g]; rfl) ?_
  cases hΦ _ (Rn_some hF)
  try simp [go_sem, g]
noncomputable def F_impl_isLabel (a0 : ByteArray) : Option (Bool) :=
  some (decide ((a0.size : Int) ≤ 40))
theorem c_impl_isLabel : ∀ {a0} {r}, F_impl_isLabel a0 = some r → PCalls Tryz.prog 36 [(.sh, .str a0)] (Eo (.bool r) [.junk]) := by
  intro a0 r hr
  apply pF 6 [] [] [] [.tmp 2] hr cl36 Tryz.func36
  intro Φ hΦ hF g
  unfold F_impl_isLabel at hF
  cases hΦ _ (Rn_some hF)
  iterate 2 (try simp [go_sem, g]; refine pw_wk ?_)
  try simp [go_sem, g]
noncomputable def F_impl_CoinsFor (a0 : Plan) (a1 : ByteArray) (a2 : Int) (a3 : Int) : Option ((List Int) × Bool) :=
  (((F_impl_IsValidPlan a0).bind fun z4 =>
  if (!z4) = true then (
  some true) else (
  (F_impl_isLabel a1).bind fun z6 =>
  if (!z6) = true then (
  some true) else (
  (F_impl_isDigest a2).bind fun z8 =>
  if (!z8) = true then (
  some true) else (
  (F_impl_within a3 0 200).bind fun z10 =>
  some (!z10)))) : Option (Bool)).bind fun x3 =>
  if x3 = true then (
  some ([], false)) else (
  (F_impl_Plan_coins a0 a1 a2 a3).bind fun z12 =>
  some (z12, true)))
theorem c_impl_CoinsFor : ∀ {a0} {a1} {a2} {a3} {r}, F_impl_CoinsFor a0 a1 a2 a3 = some r → PCalls Tryz.prog 14 [(.sh, .agg [.int .i64 a0.Gr.P, .int .i64 a0.Gr.Q, .int .i64 a0.Gr.G, .int .i64 a0.Ct.Kind, .int .i64 a0.Ct.Options, .int .i64 a0.Ct.Least, .int .i64 a0.Ct.Most, .int .i64 a0.Ct.Points, .int .i64 a0.Threshold, .int .i64 a0.Trustees, .int .i64 a0.Mixers, .int .i64 a0.Voters, .int .i64 a0.Seed]), (.sh, .str a1), (.sh, .int .i64 a2), (.sh, .int .i64 a3)] (Eo (.tup [.sl true 1 (r.1.map row_i64), .bool r.2]) [.junk, .junk, .junk, .junk]) := by
  intro a0 a1 a2 a3 r hr
  apply pF 33 [] [] [] [.tmp 8, .tmp 9] hr cl14 Tryz.func14
  intro Φ hΦ hF g
  unfold F_impl_CoinsFor at hF
  try simp [go_sem, g]
  refine pw_wk ?_
  repeat rw [sq]
  refine pJ hF (fun x3 => [(1, .v (.str a1)), (2, .v (.int .i64 a2)), (3, .v (.int .i64 a3)), (4, .bl [.int .i64 a0.Gr.P, .int .i64 a0.Gr.Q, .int .i64 a0.Gr.G, .int .i64 a0.Ct.Kind, .int .i64 a0.Ct.Options, .int .i64 a0.Ct.Least, .int .i64 a0.Ct.Most, .int .i64 a0.Ct.Points, .int .i64 a0.Threshold, .int .i64 a0.Trustees, .int .i64 a0.Mixers, .int .i64 a0.Voters, .int .i64 a0.Seed]), (27, .v (.bool x3))]) (fun x3 hF => ?_) fun _ hj1 hF => ?_
  ·repeat rw [sq]
   refine pI hF (fun h11 hF => ?_) (fun h11 hF => ?_)
   ·cases hΦ _ (Rn_some hF)
    try simp [go_sem, g]
    refine pw_wk ?_
    try simp [go_sem, g]
   ·try simp [go_sem, g]
    refine pw_wk ?_
    try simp [go_sem, g]
    refine pC hF [.sh, .sh, .sh, .sh] c_impl_Plan_coins (fun z12 hF => ?_)
    try simp [go_sem, g]
    refine pw_wkK [8, 9] (by simp [go_sem, g]; rfl) ?_
    cases hΦ _ (Rn_some hF)
    try simp [go_sem, g]
  ·try simp [go_sem, g]
   refine pC hF [.sh] c_impl_IsValidPlan (fun z4 hF => ?_)
   try simp [go_sem, g]
   refine pwg_F hF (fun h5 hF => ?_) fun h5 hF => ?_
   ·try simp [go_sem, g, h5]
    exact pT (hj1 true) (Rn_some hF)
   ·try simp [go_sem, g, h5]
    refine pC hF [.sh] c_impl_isLabel (fun z6 hF => ?_)
    try simp [go_sem, g, h5]
    refine pwg_F hF (fun h7 hF => ?_) fun h7 hF => ?_
    ·try simp [go_sem, g, h7]
     exact pT (hj1 true) (Rn_some hF)
    ·try simp [go_sem, g, h7]
     refine pC hF [.sh] c_impl_isDigest (fun z8 hF => ?_)
     try simp [go_sem, g, h7]
     refine pwg_F hF (fun h9 hF => ?_) fun h9 hF => ?_
     ·try simp [go_sem, g, h9]
      exact pT (hj1 true) (Rn_some hF)
     ·try simp [go_sem, g, h9]
      refine pC hF [.sh, .sh, .sh] c_impl_within (fun z10 hF => ?_)
      try simp [go_sem, g, h9]
      exact pT (hj1 (!z10)) (Rn_some hF)
noncomputable def F_spec_CoinsFor (a0 : Plan) (a1 : ByteArray) (a2 : Int) (a3 : Int) : Option ((List Int) × Bool) :=
  (((F_spec_nPlan a0).bind fun z4 =>
  if (!z4) = true then (
  some true) else (
  if decide (40 < (a1.size : Int)) = true then (
  some true) else (
  (F_spec_l3Digest a2).bind fun z7 =>
  if (!z7) = true then (
  some true) else (
  (F_spec_l1In a3 0 200).bind fun z9 =>
  some (!z9)))) : Option (Bool)).bind fun x3 =>
  if x3 = true then (
  some ([], false)) else (
  (F_spec_nCoins a0 a1 a2 a3).bind fun z11 =>
  some (z11, true)))
theorem c_spec_CoinsFor : ∀ {a0} {a1} {a2} {a3} {r}, F_spec_CoinsFor a0 a1 a2 a3 = some r → PCalls Tryz.prog 15 [(.sh, .agg [.int .i64 a0.Gr.P, .int .i64 a0.Gr.Q, .int .i64 a0.Gr.G, .int .i64 a0.Ct.Kind, .int .i64 a0.Ct.Options, .int .i64 a0.Ct.Least, .int .i64 a0.Ct.Most, .int .i64 a0.Ct.Points, .int .i64 a0.Threshold, .int .i64 a0.Trustees, .int .i64 a0.Mixers, .int .i64 a0.Voters, .int .i64 a0.Seed]), (.sh, .str a1), (.sh, .int .i64 a2), (.sh, .int .i64 a3)] (Eo (.tup [.sl true 1 (r.1.map row_i64), .bool r.2]) [.junk, .junk, .junk, .junk]) := by
  intro a0 a1 a2 a3 r hr
  apply pF 33 [] [] [] [.tmp 8, .tmp 9] hr cl15 Tryz.func15
  intro Φ hΦ hF g
  unfold F_spec_CoinsFor at hF
  try simp [go_sem, g]
  refine pw_wk ?_
  repeat rw [sq]
  refine pJ hF (fun x3 => [(1, .v (.str a1)), (2, .v (.int .i64 a2)), (3, .v (.int .i64 a3)), (4, .bl [.int .i64 a0.Gr.P, .int .i64 a0.Gr.Q, .int .i64 a0.Gr.G, .int .i64 a0.Ct.Kind, .int .i64 a0.Ct.Options, .int .i64 a0.Ct.Least, .int .i64 a0.Ct.Most, .int .i64 a0.Ct.Points, .int .i64 a0.Threshold, .int .i64 a0.Trustees, .int .i64 a0.Mixers, .int .i64 a0.Voters, .int .i64 a0.Seed]), (27, .v (.bool x3))]) (fun x3 hF => ?_) fun _ hj1 hF => ?_
  ·repeat rw [sq]
   refine pI hF (fun h10 hF => ?_) (fun h10 hF => ?_)
   ·cases hΦ _ (Rn_some hF)
    try simp [go_sem, g]
    refine pw_wk ?_
    try simp [go_sem, g]
   ·try simp [go_sem, g]
    refine pw_wk ?_
    try simp [go_sem, g]
    refine pC hF [.sh, .sh, .sh, .sh] c_spec_nCoins (fun z11 hF => ?_)
    try simp [go_sem, g]
    refine pw_wkK [8, 9] (by simp [go_sem, g]; rfl) ?_
    cases hΦ _ (Rn_some hF)
    try simp [go_sem, g]
  ·try simp [go_sem, g]
   refine pC hF [.sh] c_spec_nPlan (fun z4 hF => ?_)
   try simp [go_sem, g]
   refine pwg_F hF (fun h5 hF => ?_) fun h5 hF => ?_
   ·try simp [go_sem, g, h5]
    exact pT (hj1 true) (Rn_some hF)
   ·try simp [go_sem, g, h5]
    refine pwg_F hF (fun h6 hF => ?_) fun h6 hF => ?_
    ·try simp [go_sem, g, h6]
     exact pT (hj1 true) (Rn_some hF)
    ·try simp [go_sem, g, h6]
     refine pC hF [.sh] c_spec_l3Digest (fun z7 hF => ?_)
     try simp [go_sem, g, h6]
     refine pwg_F hF (fun h8 hF => ?_) fun h8 hF => ?_
     ·try simp [go_sem, g, h8]
      exact pT (hj1 true) (Rn_some hF)
     ·try simp [go_sem, g, h8]
      refine pC hF [.sh, .sh, .sh] c_spec_l1In (fun z9 hF => ?_)
      try simp [go_sem, g, h8]
      exact pT (hj1 (!z9)) (Rn_some hF)
noncomputable def F_laws_FnShares (a0 : (List Int)) (a1 : (List Int)) : Option (Bool) :=
  (F_laws_big a0 a1).bind fun z1 =>
  if z1 = true then (
  some true) else (
  (F_spec_DrawTrusteeShare a0).bind fun z3 =>
  (F_impl_TrusteeShare z3.1 z3.2).bind fun z4 =>
  (F_spec_TrusteeShare z3.1 z3.2).bind fun z5 =>
  ((if (z4.2 != z5.2) = true then (
  some true) else (
  some (z4.1 != z5.1)) : Option (Bool)).bind fun x8 =>
  if x8 = true then (
  some false) else (
  (F_impl_JointCommits z3.1).bind fun z11 =>
  (F_spec_JointCommits z3.1).bind fun z12 =>
  ((if (z11.2 != z12.2) = true then (
  some true) else (
  (F_laws_sameInts z11.1 z12.1).bind fun z17 =>
  some (!z17)) : Option (Bool)).bind fun x15 =>
  if x15 = true then (
  some false) else (
  ((if z4.2 = true then (
  some z11.2) else (
  some false) : Option (Bool)).bind fun x21 =>
  ((if x21 = true then (
  (F_spec_CommitAt z3.1.Gr z12.1 z3.2).bind fun z27 =>
  (F_spec_ExpOf z3.1.Gr z3.1.Gr.G z4.1).bind fun z28 =>
  ((if (!z27.2) = true then (
  some true) else (
  if (!z28.2) = true then (
  some true) else (
  some (z27.1 != z28.1))) : Option (Bool)).bind fun x31 =>
  if x31 = true then (
  some (.inr false)) else (
  some (.inl ())))) else (
  some (.inl ())) : Option (Unit ⊕ Bool)).bind (Sum.elim (fun x25 =>
  (F_spec_DrawCoinsFor a1).bind fun z35 =>
  (F_impl_CoinsFor z35.1 z35.2.1 z35.2.2.1 z35.2.2.2).bind fun z36 =>
  (F_spec_CoinsFor z35.1 z35.2.1 z35.2.2.1 z35.2.2.2).bind fun z37 =>
  ((if (z36.2 == z37.2) = true then (
  (F_laws_sameInts z36.1 z37.1).bind fun z42 =>
  some z42) else (
  some false) : Option (Bool)).bind fun x40 =>
  some x40)) some))))))))
theorem c_laws_FnShares : ∀ {a0} {a1} {r}, F_laws_FnShares a0 a1 = some r → PCalls Tryz.prog 3 [(.sh, .sl false 1 (a0.map row_u8)), (.sh, .sl false 1 (a1.map row_u8))] (Eo (.bool r) [.junk, .junk]) := by
  intro a0 a1 r hr
  apply pF 138 [] [] [] [.tmp 4] hr cl3 Tryz.func3
  intro Φ hΦ hF g
  unfold F_laws_FnShares at hF
  try simp [go_sem, g]
  refine pw_wk ?_
  try simp [go_sem, g]
  refine pC hF [.sh, .sh] c_laws_big (fun z1 hF => ?_)
  try simp [go_sem, g]
  refine pw_wk ?_
  repeat rw [sq]
  refine pI hF (fun h2 hF => ?_) (fun h2 hF => ?_)
  ·cases hΦ _ (Rn_some hF)
   try simp [go_sem, g]
   refine pw_wk ?_
   try simp [go_sem, g]
  ·try simp [go_sem, g]
   refine pw_wk ?_
   try simp [go_sem, g]
   refine pC hF [.sh] c_spec_DrawTrusteeShare (fun z3 hF => ?_)
   try simp [go_sem, g]
   refine pw_wkK [1, 5, 6] (by simp [go_sem, g]; rfl) ?_
   try simp [go_sem, g]
   refine pC hF [.sh, .sh] c_impl_TrusteeShare (fun z4 hF => ?_)
   try simp [go_sem, g]
   refine pw_wk ?_
   try simp [go_sem, g]
   refine pC hF [.sh, .sh] c_spec_TrusteeShare (fun z5 hF => ?_)
   try simp [go_sem, g]
   refine pw_wkK [1, 5, 6, 7, 8, 9, 10] (by simp [go_sem, g]; rfl) ?_
   repeat rw [sq]
   refine pJ hF (fun x8 => [(1, .v (.sl false 1 (a1.map row_u8))), (5, .bl [.int .i64 z3.1.Gr.P, .int .i64 z3.1.Gr.Q, .int .i64 z3.1.Gr.G, .int .i64 z3.1.Ct.Kind, .int .i64 z3.1.Ct.Options, .int .i64 z3.1.Ct.Least, .int .i64 z3.1.Ct.Most, .int .i64 z3.1.Ct.Points, .int .i64 z3.1.Threshold, .int .i64 z3.1.Trustees, .int .i64 z3.1.Mixers, .int .i64 z3.1.Voters, .int .i64 z3.1.Seed]), (6, .v (.int .i64 z3.2)), (7, .v (.int .i64 z4.1)), (8, .v (.bool z4.2)), (54, .v (.bool x8))]) (fun x8 hF => ?_) fun _ hj6 hF => ?_
   ·repeat rw [sq]
    refine pI hF (fun h10 hF => ?_) (fun h10 hF => ?_)
    ·cases hΦ _ (Rn_some hF)
     try simp [go_sem, g]
     refine pw_wk ?_
     try simp [go_sem, g]
    ·try simp [go_sem, g]
     refine pw_wk ?_
     try simp [go_sem, g]
     refine pC hF [.sh] c_impl_JointCommits (fun z11 hF => ?_)
     try simp [go_sem, g]
     refine pw_wk ?_
     try simp [go_sem, g]
     refine pC hF [.sh] c_spec_JointCommits (fun z12 hF => ?_)
     try simp [go_sem, g]
     refine pw_wkK [1, 5, 6, 7, 8, 11, 12, 13, 14] (by simp [go_sem, g]; rfl) ?_
     repeat rw [sq]
     refine pJ hF (fun x15 => [(1, .v (.sl false 1 (a1.map row_u8))), (5, .bl [.int .i64 z3.1.Gr.P, .int .i64 z3.1.Gr.Q, .int .i64 z3.1.Gr.G, .int .i64 z3.1.Ct.Kind, .int .i64 z3.1.Ct.Options, .int .i64 z3.1.Ct.Least, .int .i64 z3.1.Ct.Most, .int .i64 z3.1.Ct.Points, .int .i64 z3.1.Threshold, .int .i64 z3.1.Trustees, .int .i64 z3.1.Mixers, .int .i64 z3.1.Voters, .int .i64 z3.1.Seed]), (6, .v (.int .i64 z3.2)), (7, .v (.int .i64 z4.1)), (8, .v (.bool z4.2)), (12, .v (.bool z11.2)), (13, .v (.sl true 1 (z12.1.map row_i64))), (73, .v (.bool x15))]) (fun x15 hF => ?_) fun _ hj13 hF => ?_
     ·repeat rw [sq]
      refine pI hF (fun h18 hF => ?_) (fun h18 hF => ?_)
      ·cases hΦ _ (Rn_some hF)
       try simp [go_sem, g]
       refine pw_wk ?_
       try simp [go_sem, g]
      ·try simp [go_sem, g]
       refine pw_wk ?_
       repeat rw [sq]
       refine pJ hF (fun x21 => [(1, .v (.sl false 1 (a1.map row_u8))), (5, .bl [.int .i64 z3.1.Gr.P, .int .i64 z3.1.Gr.Q, .int .i64 z3.1.Gr.G, .int .i64 z3.1.Ct.Kind, .int .i64 z3.1.Ct.Options, .int .i64 z3.1.Ct.Least, .int .i64 z3.1.Ct.Most, .int .i64 z3.1.Ct.Points, .int .i64 z3.1.Threshold, .int .i64 z3.1.Trustees, .int .i64 z3.1.Mixers, .int .i64 z3.1.Voters, .int .i64 z3.1.Seed]), (6, .v (.int .i64 z3.2)), (7, .v (.int .i64 z4.1)), (13, .v (.sl true 1 (z12.1.map row_i64))), (77, .v (.bool x21))]) (fun x21 hF => ?_) fun _ hj19 hF => ?_
       ·repeat rw [sq]
        refine pJs hF (fun x25 => [(1, .v (.sl false 1 (a1.map row_u8)))]) (fun x25 hF => ?_) fun _ hj23 hr24 hF => ?_
        ·try simp [go_sem, g]
         refine pC hF [.sh] c_spec_DrawCoinsFor (fun z35 hF => ?_)
         try simp [go_sem, g]
         refine pw_wkK [19, 20, 21, 22] (by simp [go_sem, g]; rfl) ?_
         try simp [go_sem, g]
         refine pC hF [.sh, .sh, .sh, .sh] c_impl_CoinsFor (fun z36 hF => ?_)
         try simp [go_sem, g]
         refine pw_wkK [19, 20, 21, 22, 23, 24] (by simp [go_sem, g]; rfl) ?_
         try simp [go_sem, g]
         refine pC hF [.sh, .sh, .sh, .sh] c_spec_CoinsFor (fun z37 hF => ?_)
         try simp [go_sem, g]
         refine pw_wkK [23, 24, 25, 26] (by simp [go_sem, g]; rfl) ?_
         repeat rw [sq]
         refine pJ hF (fun x40 => [(4, .v (.bool x40))]) (fun x40 hF => ?_) fun _ hj38 hF => ?_
         ·cases hΦ _ (Rn_some hF)
          try simp [go_sem, g]
         ·try simp [go_sem, g]
          refine pwg_F hF (fun h41 hF => ?_) fun h41 hF => ?_
          ·try simp [go_sem, g, h41]
           refine pC hF [.sh, .sh] c_laws_sameInts (fun z42 hF => ?_)
           try simp [go_sem, g, h41]
           exact pT (hj38 z42) (Rn_some hF)
          ·try simp [go_sem, g, h41]
           exact pT (hj38 false) (Rn_some hF)
        ·repeat rw [sq]
         refine pI hF (fun h26 hF => ?_) (fun h26 hF => ?_)
         ·try simp [go_sem, g]
          refine pC hF [.sh, .sh, .sh] c_spec_CommitAt (fun z27 hF => ?_)
          try simp [go_sem, g]
          refine pw_wkK [1, 5, 7, 15, 16] (by simp [go_sem, g]; rfl) ?_
          try simp [go_sem, g]
          refine pC hF [.sh, .sh, .sh] c_spec_ExpOf (fun z28 hF => ?_)
          try simp [go_sem, g]
          refine pw_wkK [1, 15, 16, 17, 18] (by simp [go_sem, g]; rfl) ?_
          repeat rw [sq]
          refine pJ hF (fun x31 => [(1, .v (.sl false 1 (a1.map row_u8))), (106, .v (.bool x31))]) (fun x31 hF => ?_) fun _ hj29 hF => ?_
          ·repeat rw [sq]
           refine pI hF (fun h34 hF => ?_) (fun h34 hF => ?_)
           ·cases hΦ _ (hr24 _ (Rn_some hF))
            try simp [go_sem, g]
            refine pw_wk ?_
            try simp [go_sem, g]
           ·try simp [go_sem, g]
            exact pT (hj23 ()) (Rn_some hF)
          ·try simp [go_sem, g]
           refine pwg_F hF (fun h32 hF => ?_) fun h32 hF => ?_
           ·try simp [go_sem, g, h32]
            exact pT (hj29 true) (Rn_some hF)
           ·try simp [go_sem, g, h32]
            refine pwg_F hF (fun h33 hF => ?_) fun h33 hF => ?_
            ·try simp [go_sem, g, h33]
             exact pT (hj29 true) (Rn_some hF)
            ·try simp [go_sem, g, h33]
             exact pT (hj29 (z27.1 != z28.1)) (Rn_some hF)
         ·try simp [go_sem, g]
          exact pT (hj23 ()) (Rn_some hF)
       ·try simp [go_sem, g]
        refine pwg_F hF (fun h22 hF => ?_) fun h22 hF => ?_
        ·try simp [go_sem, g, h22]
         exact pT (hj19 z11.2) (Rn_some hF)
        ·try simp [go_sem, g, h22]
         exact pT (hj19 false) (Rn_some hF)
     ·try simp [go_sem, g]
      refine pwg_F hF (fun h16 hF => ?_) fun h16 hF => ?_
      ·try simp [go_sem, g, h16]
       exact pT (hj13 true) (Rn_some hF)
      ·try simp [go_sem, g, h16]
       refine pC hF [.sh, .sh] c_laws_sameInts (fun z17 hF => ?_)
       try simp [go_sem, g, h16]
       exact pT (hj13 (!z17)) (Rn_some hF)
   ·try simp [go_sem, g]
    refine pwg_F hF (fun h9 hF => ?_) fun h9 hF => ?_
    ·try simp [go_sem, g, h9]
     exact pT (hj6 true) (Rn_some hF)
    ·try simp [go_sem, g, h9]
     exact pT (hj6 (z4.1 != z5.1)) (Rn_some hF)
end Go.Pm
