/-
  Plain functions and their walks. Written by wip/tools/lift.py.
-/
import Derived.Test.YtloeipgajoimfaaGreatM28
namespace Go.Pm
open Go.Am IntKind
open Go.Proofs
set_option maxRecDepth 100000
attribute [local irreducible] pw pwx pw1 pwg qv qz qf
attribute [-simp] List.map_set
set_option linter.unusedSimpArgs false
set_option linter.unusedVariables false
theorem c_impl_IsValidContest : ∀ {a0} {r}, F_impl_IsValidContest a0 = some r → PCalls Tryz.prog 73 [(.sh, .agg [.int .i64 a0.Kind, .int .i64 a0.Options, .int .i64 a0.Least, .int .i64 a0.Most, .int .i64 a0.Points])] (Eo (.bool r) [.junk]) := by
  intro a0 r hr
  apply pF 68 [] [] [] [.tmp 2] hr cl73 Tryz.func73
  intro Φ hΦ hF g
  unfold F_impl_IsValidContest at hF
  try simp [go_sem, g]
  refine pw_wk ?_
  repeat rw [sq]
  refine pJ hF (fun x3 => [(1, .bl [.int .i64 a0.Kind, .int .i64 a0.Options, .int .i64 a0.Least, .int .i64 a0.Most, .int .i64 a0.Points]), (12, .v (.bool x3))]) (fun x3 hF => ?_) fun _ hj1 hF => ?_
  ·repeat rw [sq]
   refine pI hF (fun h5 hF => ?_) (fun h5 hF => ?_)
   ·cases hΦ _ (Rn_some hF)
    try simp [go_sem, g]
    refine pw_wk ?_
    try simp [go_sem, g]
   ·iterate 2 (try simp [go_sem, g]; refine pw_wk ?_)
    repeat rw [sq]
    rw [pw_block]
    try simp [go_sem, g]
    refine pw_wk ?_
    repeat rw [sq]
    refine pJ hF (fun x8 => [(1, .bl [.int .i64 a0.Kind, .int .i64 a0.Options, .int .i64 a0.Least, .int .i64 a0.Most, .int .i64 a0.Points]), (14, .v (.int .i64 a0.Kind)), (15, .v (.bool x8))]) (fun x8 hF => ?_) fun _ hj6 hF => ?_
    ·repeat rw [sq]
     refine pI hF (fun h10 hF => ?_) (fun h10 hF => ?_)
     ·repeat rw [sq]
      refine pJ hF (fun x13 => [(2, .v (.bool x13))]) (fun x13 hF => ?_) fun _ hj11 hF => ?_
      ·cases hΦ _ (Rn_some hF)
       try simp [go_sem, g]
      ·try simp [go_sem, g]
       refine pC hF [.sh, .sh, .sh] c_impl_within (fun z14 hF => ?_)
       try simp [go_sem, g]
       refine pwg_F hF (fun h15 hF => ?_) fun h15 hF => ?_
       ·try simp [go_sem, g, h15]
        refine pwg_F hF (fun h16 hF => ?_) fun h16 hF => ?_
        ·try simp [go_sem, g, h16]
         exact pT (hj11 (a0.Points == 0)) (Rn_some hF)
        ·try simp [go_sem, g, h16]
         exact pT (hj11 false) (Rn_some hF)
       ·try simp [go_sem, g, h15]
        exact pT (hj11 false) (Rn_some hF)
     ·try simp [go_sem, g]
      refine pw_wk ?_
      repeat rw [sq]
      refine pI hF (fun h17 hF => ?_) (fun h17 hF => ?_)
      ·repeat rw [sq]
       refine pJ hF (fun x20 => [(2, .v (.bool x20))]) (fun x20 hF => ?_) fun _ hj18 hF => ?_
       ·cases hΦ _ (Rn_some hF)
        try simp [go_sem, g]
       ·try simp [go_sem, g]
        refine pC hF [.sh, .sh, .sh] c_impl_within (fun z21 hF => ?_)
        try simp [go_sem, g]
        refine pwg_F hF (fun h22 hF => ?_) fun h22 hF => ?_
        ·try simp [go_sem, g, h22]
         refine pC hF [.sh, .sh, .sh] c_impl_within (fun z23 hF => ?_)
         try simp [go_sem, g, h22]
         refine pwg_F hF (fun h24 hF => ?_) fun h24 hF => ?_
         ·try simp [go_sem, g, h24]
          exact pT (hj18 (decide (a0.Most ≤ (i64.wrap (a0.Options * a0.Points))))) (Rn_some hF)
         ·try simp [go_sem, g, h24]
          exact pT (hj18 false) (Rn_some hF)
        ·try simp [go_sem, g, h22]
         exact pT (hj18 false) (Rn_some hF)
      ·try simp [go_sem, g]
       refine pw_wkK [1, 53] (by simp [go_sem, g]; rfl) ?_
       repeat rw [sq]
       refine pI hF (fun h25 hF => ?_) (fun h25 hF => ?_)
       ·repeat rw [sq]
        refine pJ hF (fun x28 => [(2, .v (.bool x28))]) (fun x28 hF => ?_) fun _ hj26 hF => ?_
        ·cases hΦ _ (Rn_some hF)
         try simp [go_sem, g]
        ·try simp [go_sem, g]
         refine pwg_F hF (fun h29 hF => ?_) fun h29 hF => ?_
         ·try simp [go_sem, g, h29]
          refine pwg_F hF (fun h30 hF => ?_) fun h30 hF => ?_
          ·try simp [go_sem, g, h30]
           exact pT (hj26 (a0.Points == 0)) (Rn_some hF)
          ·try simp [go_sem, g, h30]
           exact pT (hj26 false) (Rn_some hF)
         ·try simp [go_sem, g, h29]
          exact pT (hj26 false) (Rn_some hF)
       ·cases hΦ _ (Rn_some hF)
        iterate 2 (try simp [go_sem, g]; refine pw_wk ?_)
        try simp [go_sem, g]
    ·repeat rw [sq]
     refine pI hF (fun h9 hF => ?_) (fun h9 hF => ?_)
     ·try simp [go_sem, g]
      exact pT (hj6 (a0.Kind == 1)) (Rn_some hF)
     ·try simp [go_sem, g]
      exact pT (hj6 (a0.Kind == 3)) (Rn_some hF)
  ·try simp [go_sem, g]
   refine pwg_F hF (fun h4 hF => ?_) fun h4 hF => ?_
   ·try simp [go_sem, g, h4]
    exact pT (hj1 true) (Rn_some hF)
   ·try simp [go_sem, g, h4]
    exact pT (hj1 (decide (a0.Most < a0.Least))) (Rn_some hF)
def D50_3 : List DE := [d0 0 [0], d0 1 [9], d0 2 [10], d0 3 [0], d0 4 [12], d0 5 [13], d0 6 [0], d0 7 [15], d0 8 [16], d0 9 [0], d0 10 [18], d0 11 [19], d0 12 [0], d0 13 [21], d0 14 [22], d0 15 [11, 14, 17, 20, 23], d0 16 [], d2 17 [4, 24] 4 4]
noncomputable def F_impl_DecodeContest (a0 : (List Int)) : Option (Contest × Bool) :=
  if ((a0.length : Int) != 5) = true then (
  some ((Contest.mk 0 0 0 0 0), false)) else (
  (ix a0 0).bind fun x2 =>
  (ix a0 1).bind fun x3 =>
  (ix a0 2).bind fun x4 =>
  (ix a0 3).bind fun x5 =>
  (ix a0 4).bind fun x6 =>
  (F_impl_IsValidContest (Contest.mk x2 x3 x4 x5 x6)).bind fun z7 =>
  if (!z7) = true then (
  some ((Contest.mk 0 0 0 0 0), false)) else (
  some ((Contest.mk x2 x3 x4 x5 x6), true)))
theorem c_impl_DecodeContest : ∀ {a0} {r}, F_impl_DecodeContest a0 = some r → PCalls Tryz.prog 50 [(.sh, .sl false 1 (a0.map row_i64))] (Eo (.tup [.agg [.int .i64 r.1.Kind, .int .i64 r.1.Options, .int .i64 r.1.Least, .int .i64 r.1.Most, .int .i64 r.1.Points], .bool r.2]) [.junk]) := by
  intro a0 r hr
  apply pF 30 [] [] [] [.cell 2 44, .tmp 3] hr cl50 Tryz.func50
  intro Φ hΦ hF g
  unfold F_impl_DecodeContest at hF
  iterate 2 (try simp [go_sem, g]; try intros; refine pw_wk ?_)
  repeat rw [sq]
  refine pI hF (fun h1 hF => ?_) (fun h1 hF => ?_)
  ·cases hΦ _ (Rn_some hF)
   try simp [go_sem, g]
   refine pw_wk ?_
   try simp [go_sem, g]
  ·try simp [go_sem, g]
   refine pw_wk ?_
   repeat rw [sq]
   refine pw_draw D50_3 follows (by kernel_rfl) rfl ?_
   try simp only [go_sem, D50_3]
   obtain ⟨x2, g, hF⟩ := Rxn g 0 hF
   obtain ⟨x3, g, hF⟩ := Rxn g 1 hF
   obtain ⟨x4, g, hF⟩ := Rxn g 2 hF
   obtain ⟨x5, g, hF⟩ := Rxn g 3 hF
   obtain ⟨x6, g, hF⟩ := Rxn g 4 hF
   try simp [go_sem, g]
   refine pw_wkK [2, 4] (by simp [go_sem, g]; rfl) ?_
   try simp [go_sem, g]
   refine pC hF [.sh] c_impl_IsValidContest (fun z7 hF => ?_)
   try simp [go_sem, g]
   refine pw_wk ?_
   repeat rw [sq]
   refine pI hF (fun h8 hF => ?_) (fun h8 hF => ?_)
   ·cases hΦ _ (Rn_some hF)
    try simp [go_sem, g]
    refine pw_wk ?_
    try simp [go_sem, g]
   ·cases hΦ _ (Rn_some hF)
    iterate 2 (try simp [go_sem, g]; refine pw_wk ?_)
    try simp [go_sem, g]
noncomputable def F_impl_planOf (a0 : Group) (a1 : Opening) : Option (Plan) :=
  some (Plan.mk a0 a1.Ct a1.Threshold a1.Trustees a1.Mixers a1.Voters 0)
theorem c_impl_planOf : ∀ {a0} {a1} {r}, F_impl_planOf a0 a1 = some r → PCalls Tryz.prog 51 [(.sh, .agg [.int .i64 a0.P, .int .i64 a0.Q, .int .i64 a0.G]), (.sh, .agg [.int .i64 a1.Ct.Kind, .int .i64 a1.Ct.Options, .int .i64 a1.Ct.Least, .int .i64 a1.Ct.Most, .int .i64 a1.Ct.Points, .int .i64 a1.Threshold, .int .i64 a1.Trustees, .int .i64 a1.Mixers, .int .i64 a1.Voters])] (Eo (.agg [.int .i64 r.Gr.P, .int .i64 r.Gr.Q, .int .i64 r.Gr.G, .int .i64 r.Ct.Kind, .int .i64 r.Ct.Options, .int .i64 r.Ct.Least, .int .i64 r.Ct.Most, .int .i64 r.Ct.Points, .int .i64 r.Threshold, .int .i64 r.Trustees, .int .i64 r.Mixers, .int .i64 r.Voters, .int .i64 r.Seed]) [.junk, .junk]) := by
  intro a0 a1 r hr
  apply pF 17 [] [] [] [.cell 4 46] hr cl51 Tryz.func51
  intro Φ hΦ hF g
  unfold F_impl_planOf at hF
  try simp [go_sem, g]
  refine pw_wk ?_
  try simp [go_sem, g]
  refine pw_wkK [4] (by simp [go_sem, g]; rfl) ?_
  cases hΦ _ (Rn_some hF)
  try simp [go_sem, g]
noncomputable def F_impl_Contest_base (a0 : Contest) : Option (Int) :=
  if (a0.Kind == 2) = true then (
  some (i64.wrap (a0.Points + 1))) else (
  if (a0.Kind == 3) = true then (
  some (i64.wrap (a0.Options + 1))) else (
  if (a0.Kind == 4) = true then (
  some 27) else (
  some 2)))
theorem c_impl_Contest_base : ∀ {a0} {r}, F_impl_Contest_base a0 = some r → PCalls Tryz.prog 104 [(.sh, .agg [.int .i64 a0.Kind, .int .i64 a0.Options, .int .i64 a0.Least, .int .i64 a0.Most, .int .i64 a0.Points])] (Eo (.int .i64 r) [.junk]) := by
  intro a0 r hr
  apply pF 17 [] [] [] [.tmp 2] hr cl104 Tryz.func104
  intro Φ hΦ hF g
  unfold F_impl_Contest_base at hF
  iterate 2 (try simp [go_sem, g]; refine pw_wk ?_)
  repeat rw [sq]
  rw [pw_block]
  try simp [go_sem, g]
  refine pw_wk ?_
  repeat rw [sq]
  refine pI hF (fun h1 hF => ?_) (fun h1 hF => ?_)
  ·try simp [go_sem, g]
   refine pw_wkK [2] (by simp [go_sem, g]; rfl) ?_
   cases hΦ _ (Rn_some hF)
   try simp [go_sem, g]
  ·try simp [go_sem, g]
   refine pw_wk ?_
   repeat rw [sq]
   refine pI hF (fun h2 hF => ?_) (fun h2 hF => ?_)
   ·try simp [go_sem, g]
    refine pw_wkK [2] (by simp [go_sem, g]; rfl) ?_
    cases hΦ _ (Rn_some hF)
    try simp [go_sem, g]
   ·try simp [go_sem, g]
    refine pw_wkK [15] (by simp [go_sem, g]; rfl) ?_
    repeat rw [sq]
    refine pI hF (fun h3 hF => ?_) (fun h3 hF => ?_)
    ·cases hΦ _ (Rn_some hF)
     try simp [go_sem, g]
     refine pw_wk ?_
     try simp [go_sem, g]
    ·cases hΦ _ (Rn_some hF)
     iterate 2 (try simp [go_sem, g]; refine pw_wk ?_)
     try simp [go_sem, g]
noncomputable def F_impl_codeOf (a0 : (List Int)) (a1 : Int) : Option (Int) :=
  ((wloop (σ := Int × Int) (fun s4 =>
  if decide (0 ≤ s4.2) = true then (
  (ix a0 s4.2).bind fun x10 =>
  some (.go (i64.wrap ((i64.wrap (s4.1 * a1)) + x10), i64.wrap (s4.2 - 1)))) else (
  some (.out s4.1))) (0, i64.wrap ((a0.length : Int) - 1)) : Option (Int)).bind fun x3 =>
  some x3)
theorem c_impl_codeOf : ∀ {a0} {a1} {r}, F_impl_codeOf a0 a1 = some r → PCalls Tryz.prog 103 [(.sh, .sl false 1 (a0.map row_i64)), (.sh, .int .i64 a1)] (Eo (.int .i64 r) [.junk, .junk]) := by
  intro a0 a1 r hr
  apply pF 23 [] [] [] [.tmp 4] hr cl103 Tryz.func103
  intro Φ hΦ hF g
  unfold F_impl_codeOf at hF
  iterate 3 (try simp [go_sem, g]; try intros; refine pw_wk ?_)
  repeat rw [sq]
  refine pJ hF (fun x3 => [(5, .v (.int .i64 x3))]) (fun x3 hF => ?_) fun _ hj1 hF => ?_
  ·cases hΦ _ (Rn_some hF)
   try simp [go_sem, g]
   refine pw_wk ?_
   try simp [go_sem, g]
  ·repeat rw [sq]
   rw [pw_block]
   obtain ⟨b11, hb12, hψ8⟩ := hF
   refine pL hb12 (fun s4 => [(0, .v (.sl false 1 (a0.map row_i64))), (1, .v (.int .i64 a1)), (5, .v (.int .i64 s4.1)), (6, .v (.int .i64 s4.2))]) (fun s4 _ _ ho6 hg7 hF => ?_)
   try simp [go_sem, g]
   refine pw_wk ?_
   repeat rw [sq]
   refine pI hF (fun h9 hF => ?_) (fun h9 hF => ?_)
   ·try simp [go_sem, g]
    refine pw_wk ?_
    repeat rw [sq]
    rw [pw_block]
    obtain ⟨x10, g, hF⟩ := Rx g hF
    try simp [go_sem, g]
    refine pw_wkK [0, 1, 5, 6] (by simp [go_sem, g]; rfl) ?_
    try simp [go_sem, g]
    exact pT (hg7 (i64.wrap ((i64.wrap (s4.1 * a1)) + x10), i64.wrap (s4.2 - 1))) (Rn_some hF)
   ·try simp [go_sem, g]
    cases ho6 _ (Rn_some hF)
    exact pT (hj1 s4.1) hψ8
noncomputable def F_impl_Contest_greatest (a0 : Contest) : Option (Int) :=
  ((if (a0.Kind == 1) = true then (
  wloop (σ := (List Int) × Int) (fun s5 =>
  if decide (s5.2 < a0.Options) = true then (
  ((if decide ((i64.wrap (a0.Options - a0.Most)) ≤ s5.2) = true then (
  some 1) else (
  some 0) : Option (Int)).bind fun x13 =>
  gd ((s5.1.length + 1) * 8 ≤ 140737488355328 ∧ s5.1.length + 1 ≤ 4611686018427387904) <|
  some (.go (s5.1 ++ [x13], i64.wrap (s5.2 + 1))))) else (
  some (.out s5.1))) ([], 0)) else (
  if (a0.Kind == 2) = true then (
  gd (0 ≤ a0.Options ∧ a0.Options ≤ a0.Options ∧ 8 * a0.Options ≤ 140737488355328 ∧ a0.Options ≤ 4611686018427387904) <|
  (some (List.replicate a0.Options.toNat 0)).bind fun x18 =>
  wloop (σ := (List Int) × Int × Int) (fun s29 =>
  if decide (0 ≤ s29.2.2) = true then (
  (ix s29.1 s29.2.2).bind fun x35 =>
  (ix (s29.1.set s29.2.2.toNat (if a0.Points < s29.2.1 then a0.Points else s29.2.1)) s29.2.2).bind fun x36 =>
  some (.go (s29.1.set s29.2.2.toNat (if a0.Points < s29.2.1 then a0.Points else s29.2.1), i64.wrap (s29.2.1 - x36), i64.wrap (s29.2.2 - 1)))) else (
  some (.out s29.1))) (x18, a0.Most, i64.wrap (a0.Options - 1))) else (
  if (a0.Kind == 3) = true then (
  wloop (σ := (List Int) × Int) (fun s40 =>
  if decide (s40.2 < a0.Most) = true then (
  gd ((s40.1.length + 1) * 8 ≤ 140737488355328 ∧ s40.1.length + 1 ≤ 4611686018427387904) <|
  some (.go (s40.1 ++ [i64.wrap ((i64.wrap ((i64.wrap (a0.Options - a0.Most)) + 1)) + s40.2)], i64.wrap (s40.2 + 1)))) else (
  some (.out s40.1))) ([], 0)) else (
  wloop (σ := (List Int) × Int) (fun s48 =>
  if decide (s48.2 < a0.Most) = true then (
  gd ((s48.1.length + 1) * 8 ≤ 140737488355328 ∧ s48.1.length + 1 ≤ 4611686018427387904) <|
  some (.go (s48.1 ++ [26], i64.wrap (s48.2 + 1)))) else (
  some (.out s48.1))) ([], 0)))) : Option ((List Int))).bind fun x3 =>
  (F_impl_Contest_base a0).bind fun z56 =>
  (F_impl_codeOf x3 z56).bind fun z57 =>
  some z57)
theorem c_impl_Contest_greatest : ∀ {a0} {r}, F_impl_Contest_greatest a0 = some r → PCalls Tryz.prog 90 [(.sh, .agg [.int .i64 a0.Kind, .int .i64 a0.Options, .int .i64 a0.Least, .int .i64 a0.Most, .int .i64 a0.Points])] (Eo (.int .i64 r) [.junk]) := by
  intro a0 r hr
  apply pF 89 [] [] [] [.tmp 2] hr cl90 Tryz.func90
  intro Φ hΦ hF g
  unfold F_impl_Contest_greatest at hF
  iterate 3 (try simp [go_sem, g]; refine pw_wk ?_)
  repeat rw [sq]
  refine pJ hF (fun x3 => [(1, .bl [.int .i64 a0.Kind, .int .i64 a0.Options, .int .i64 a0.Least, .int .i64 a0.Most, .int .i64 a0.Points]), (3, .v (.sl true 1 (x3.map row_i64)))]) (fun x3 hF => ?_) fun _ hj1 hF => ?_
  ·try simp [go_sem, g]
   refine pC hF [.sh] c_impl_Contest_base (fun z56 hF => ?_)
   try simp [go_sem, g]
   refine pC hF [.sh, .sh] c_impl_codeOf (fun z57 hF => ?_)
   try simp [go_sem, g]
   refine pw_wkK [2] (by simp [go_sem, g]; rfl) ?_
   cases hΦ _ (Rn_some hF)
   try simp [go_sem, g]
  ·repeat rw [sq]
   rw [pw_block]
   try simp [go_sem, g]
   refine pw_wk ?_
   repeat rw [sq]
   refine pI hF (fun h4 hF => ?_) (fun h4 hF => ?_)
   ·try simp [go_sem, g]
    refine pw_wkK [1, 3, 23, 24] (by simp [go_sem, g]; rfl) ?_
    repeat rw [sq]
    rw [pw_block]
    obtain ⟨b15, hb16, hψ9⟩ := hF
    refine pL hb16 (fun s5 => [(1, .bl [.int .i64 a0.Kind, .int .i64 a0.Options, .int .i64 a0.Least, .int .i64 a0.Most, .int .i64 a0.Points]), (3, .v (.sl true 1 (s5.1.map row_i64))), (23, .v (.int .i64 a0.Options)), (24, .v (.int .i64 s5.2))]) (fun s5 _ _ ho7 hg8 hF => ?_)
    try simp [go_sem, g]
    refine pw_wk ?_
    repeat rw [sq]
    refine pI hF (fun h10 hF => ?_) (fun h10 hF => ?_)
    ·try simp [go_sem, g]
     refine pw_wk ?_
     repeat rw [sq]
     rw [pw_block]
     iterate 2 (try simp [go_sem, g]; refine pw_wk ?_)
     try simp [go_sem, g]
     refine pw_wkK [1, 3, 5, 23, 24, 33] (by simp [go_sem, g]; rfl) ?_
     repeat rw [sq]
     refine pJ hF (fun x13 => [(1, .bl [.int .i64 a0.Kind, .int .i64 a0.Options, .int .i64 a0.Least, .int .i64 a0.Most, .int .i64 a0.Points]), (3, .v (.sl true 1 (s5.1.map row_i64))), (5, .v (.int .i64 x13)), (23, .v (.int .i64 a0.Options)), (24, .v (.int .i64 s5.2))]) (fun x13 hF => ?_) fun _ hj11 hF => ?_
     ·obtain ⟨g, hF⟩ := Rg g hF
      try simp [go_sem, g]
      refine pw_wk ?_
      try simp [go_sem, g]
      exact pT (hg8 (s5.1 ++ [x13], i64.wrap (s5.2 + 1))) (Rn_some hF)
     ·repeat rw [sq]
      refine pI hF (fun h14 hF => ?_) (fun h14 hF => ?_)
      ·try simp [go_sem, g]
       exact pT (hj11 1) (Rn_some hF)
      ·try simp [go_sem, g]
       exact pT (hj11 0) (Rn_some hF)
    ·try simp [go_sem, g]
     cases ho7 _ (Rn_some hF)
     exact pT (hj1 s5.1) hψ9
   ·try simp [go_sem, g]
    refine pw_wkK [1, 3, 11, 39] (by simp [go_sem, g]; rfl) ?_
    repeat rw [sq]
    refine pI hF (fun h17 hF => ?_) (fun h17 hF => ?_)
    ·obtain ⟨g, hF⟩ := Rg g hF
     obtain ⟨x18, e19, hF⟩ := Rn_bind hF
     have g20 : List.replicate a0.Options.toNat ([.int .i64 0] : List PV) = x18.map row_i64 := by injection e19 with e19; rw [← e19]; simp [go_sem]
     iterate 2 (try simp [go_sem, g, g20]; refine pw_wk ?_)
     try simp [go_sem, g, g20]
     refine pw_wkK [1, 3, 6, 7] (by simp [go_sem, g]; rfl) ?_
     repeat rw [sq]
     rw [pw_block]
     obtain ⟨b37, hb38, hψ33⟩ := hF
     refine pL hb38 (fun s29 => [(1, .bl [.int .i64 a0.Kind, .int .i64 a0.Options, .int .i64 a0.Least, .int .i64 a0.Most, .int .i64 a0.Points]), (3, .v (.sl true 1 (s29.1.map row_i64))), (6, .v (.int .i64 s29.2.1)), (7, .v (.int .i64 s29.2.2))]) (fun s29 _ _ ho31 hg32 hF => ?_)
     try simp [go_sem, g]
     refine pw_wk ?_
     repeat rw [sq]
     refine pI hF (fun h34 hF => ?_) (fun h34 hF => ?_)
     ·try simp [go_sem, g]
      refine pw_wk ?_
      repeat rw [sq]
      rw [pw_block]
      obtain ⟨x35, g, hF⟩ := Rx g hF
      try simp [go_sem, g]
      refine pw_wkK [1, 3, 6, 7] (by simp [go_sem, g]; rfl) ?_
      obtain ⟨x36, g, hF⟩ := Rx g hF
      try simp [go_sem, g]
      refine pw_wk ?_
      try simp [go_sem, g]
      exact pT (hg32 (s29.1.set s29.2.2.toNat (if a0.Points < s29.2.1 then a0.Points else s29.2.1), i64.wrap (s29.2.1 - x36), i64.wrap (s29.2.2 - 1))) (Rn_some hF)
     ·try simp [go_sem, g]
      cases ho31 _ (Rn_some hF)
      exact pT (hj1 s29.1) hψ33
    ·try simp [go_sem, g]
     refine pw_wk ?_
     repeat rw [sq]
     refine pI hF (fun h39 hF => ?_) (fun h39 hF => ?_)
     ·try simp [go_sem, g]
      refine pw_wk ?_
      repeat rw [sq]
      rw [pw_block]
      obtain ⟨b46, hb47, hψ44⟩ := hF
      refine pL hb47 (fun s40 => [(1, .bl [.int .i64 a0.Kind, .int .i64 a0.Options, .int .i64 a0.Least, .int .i64 a0.Most, .int .i64 a0.Points]), (3, .v (.sl true 1 (s40.1.map row_i64))), (69, .v (.int .i64 a0.Most)), (70, .v (.int .i64 s40.2))]) (fun s40 _ _ ho42 hg43 hF => ?_)
      try simp [go_sem, g]
      refine pw_wk ?_
      repeat rw [sq]
      refine pI hF (fun h45 hF => ?_) (fun h45 hF => ?_)
      ·try simp [go_sem, g]
       refine pw_wk ?_
       repeat rw [sq]
       rw [pw_block]
       obtain ⟨g, hF⟩ := Rg g hF
       try simp [go_sem, g]
       refine pw_wk ?_
       try simp [go_sem, g]
       refine pw_wkK [1, 3, 69, 70] (by simp [go_sem, g]; rfl) ?_
       try simp [go_sem, g]
       exact pT (hg43 (s40.1 ++ [i64.wrap ((i64.wrap ((i64.wrap (a0.Options - a0.Most)) + 1)) + s40.2)], i64.wrap (s40.2 + 1))) (Rn_some hF)
      ·try simp [go_sem, g]
       cases ho42 _ (Rn_some hF)
       exact pT (hj1 s40.1) hψ44
     ·try simp [go_sem, g]
      refine pw_wk ?_
      repeat rw [sq]
      rw [pw_block]
      obtain ⟨b54, hb55, hψ52⟩ := hF
      refine pL hb55 (fun s48 => [(1, .bl [.int .i64 a0.Kind, .int .i64 a0.Options, .int .i64 a0.Least, .int .i64 a0.Most, .int .i64 a0.Points]), (3, .v (.sl true 1 (s48.1.map row_i64))), (13, .v (.int .i64 a0.Most)), (14, .v (.int .i64 s48.2))]) (fun s48 _ _ ho50 hg51 hF => ?_)
      try simp [go_sem, g]
      refine pw_wk ?_
      repeat rw [sq]
      refine pI hF (fun h53 hF => ?_) (fun h53 hF => ?_)
      ·try simp [go_sem, g]
       refine pw_wk ?_
       repeat rw [sq]
       rw [pw_block]
       obtain ⟨g, hF⟩ := Rg g hF
       try simp [go_sem, g]
       refine pw_wkK [1, 3, 13, 14] (by simp [go_sem, g]; rfl) ?_
       try simp [go_sem, g]
       exact pT (hg51 (s48.1 ++ [26], i64.wrap (s48.2 + 1))) (Rn_some hF)
      ·try simp [go_sem, g]
       cases ho50 _ (Rn_some hF)
       exact pT (hj1 s48.1) hψ52
noncomputable def F_impl_Contest_isForm (a0 : Contest) : Option (Bool) :=
  ((if (a0.Kind == 1) = true then (
  some true) else (
  some (a0.Kind == 2)) : Option (Bool)).bind fun x3 =>
  some x3)
theorem c_impl_Contest_isForm : ∀ {a0} {r}, F_impl_Contest_isForm a0 = some r → PCalls Tryz.prog 76 [(.sh, .agg [.int .i64 a0.Kind, .int .i64 a0.Options, .int .i64 a0.Least, .int .i64 a0.Most, .int .i64 a0.Points])] (Eo (.bool r) [.junk]) := by
  intro a0 r hr
  apply pF 11 [] [] [] [.tmp 2] hr cl76 Tryz.func76
  intro Φ hΦ hF g
  unfold F_impl_Contest_isForm at hF
  try simp [go_sem, g]
  refine pw_wk ?_
  repeat rw [sq]
  refine pJ hF (fun x3 => [(2, .v (.bool x3))]) (fun x3 hF => ?_) fun _ hj1 hF => ?_
  ·cases hΦ _ (Rn_some hF)
   try simp [go_sem, g]
  ·try simp [go_sem, g]
   refine pwg_F hF (fun h4 hF => ?_) fun h4 hF => ?_
   ·try simp [go_sem, g, h4]
    exact pT (hj1 true) (Rn_some hF)
   ·try simp [go_sem, g, h4]
    exact pT (hj1 (a0.Kind == 2)) (Rn_some hF)
def D74_1 : List DE := [d2 0 [2] 2 2, d3 1 [5], d0 2 [6], d0 3 [7], d2 4 [3, 8] 3 3, d3 5 [9, 8], d0 6 [10, 8], d0 7 [8, 11], d0 8 [12], d2 9 [3, 13] 3 3, d3 10 [14, 13], d0 11 [15, 13], d0 12 [13, 16], d0 13 [17], d2 14 [3, 18] 3 3, d1 16 [2, 18] 2, d2 17 [21, 18] 2 21, d3 15 [19, 18], d0 18 [20, 22, 18], d0 19 [18, 23]]
noncomputable def F_impl_IsSealable (a0 : Group) (a1 : Contest) : Option (Bool) :=
  (((F_impl_IsValidGroup a0).bind fun z4 =>
  if (!z4) = true then (
  some true) else (
  (F_impl_IsValidContest a1).bind fun z6 =>
  if (!z6) = true then (
  some true) else (
  (F_impl_Contest_greatest a1).bind fun z8 =>
  if decide (100000 < z8) = true then (
  some true) else (
  (F_impl_Contest_greatest a1).bind fun z10 =>
  some (decide (a0.Q ≤ z10))))) : Option (Bool)).bind fun x3 =>
  if x3 = true then (
  some false) else (
  (((F_impl_Contest_isForm a1).bind fun z15 =>
  if (!z15) = true then (
  some true) else (
  if decide ((i64.wrap (a1.Most - a1.Least)) < 8) = true then (
  some (decide (a1.Most < a0.Q))) else (
  some false)) : Option (Bool)).bind fun x14 =>
  some x14)))
theorem c_impl_IsSealable : ∀ {a0} {a1} {r}, F_impl_IsSealable a0 a1 = some r → PCalls Tryz.prog 74 [(.sh, .agg [.int .i64 a0.P, .int .i64 a0.Q, .int .i64 a0.G]), (.sh, .agg [.int .i64 a1.Kind, .int .i64 a1.Options, .int .i64 a1.Least, .int .i64 a1.Most, .int .i64 a1.Points])] (Eo (.bool r) [.junk, .junk]) := by
  intro a0 a1 r hr
  apply pF 43 [] [] [] [.tmp 4] hr cl74 Tryz.func74
  intro Φ hΦ hF g
  unfold F_impl_IsSealable at hF
  try simp [go_sem, g]
  refine pw_wk ?_
  repeat rw [sq]
  refine pJ hF (fun x3 => [(2, .bl [.int .i64 a0.P, .int .i64 a0.Q, .int .i64 a0.G]), (3, .bl [.int .i64 a1.Kind, .int .i64 a1.Options, .int .i64 a1.Least, .int .i64 a1.Most, .int .i64 a1.Points]), (24, .v (.bool x3))]) (fun x3 hF => ?_) fun _ hj1 hF => ?_
  ·repeat rw [sq]
   refine pI hF (fun h11 hF => ?_) (fun h11 hF => ?_)
   ·cases hΦ _ (Rn_some hF)
    try simp [go_sem, g]
    refine pw_wk ?_
    try simp [go_sem, g]
   ·try simp [go_sem, g]
    refine pw_wk ?_
    repeat rw [sq]
    refine pJ hF (fun x14 => [(4, .v (.bool x14))]) (fun x14 hF => ?_) fun _ hj12 hF => ?_
    ·cases hΦ _ (Rn_some hF)
     try simp [go_sem, g]
    ·try simp [go_sem, g]
     refine pC hF [.sh] c_impl_Contest_isForm (fun z15 hF => ?_)
     try simp [go_sem, g]
     refine pwg_F hF (fun h16 hF => ?_) fun h16 hF => ?_
     ·try simp [go_sem, g, h16]
      exact pT (hj12 true) (Rn_some hF)
     ·try simp [go_sem, g, h16]
      refine pwg_F hF (fun h17 hF => ?_) fun h17 hF => ?_
      ·try simp [go_sem, g, h17, h16]
       exact pT (hj12 (decide (a1.Most < a0.Q))) (Rn_some hF)
      ·try simp [go_sem, g, h17, h16]
       exact pT (hj12 false) (Rn_some hF)
  ·repeat rw [sq]
   refine pw_draw D74_1 follows (by kernel_rfl) rfl ?_
   try simp only [go_sem, D74_1]
   try simp [go_sem, g]
   refine pC hF [.sh] c_impl_IsValidGroup (fun z4 hF => ?_)
   try simp [go_sem, g]
   refine pwgD_F hF (fun h5 hF => ?_) fun h5 hF => ?_
   ·try simp [go_sem, g, h5]
    exact pT (hj1 true) (Rn_some hF)
   ·try simp [go_sem, g, h5]
    refine pC hF [.sh] c_impl_IsValidContest (fun z6 hF => ?_)
    try simp [go_sem, g, h5]
    refine pwgD_F hF (fun h7 hF => ?_) fun h7 hF => ?_
    ·try simp [go_sem, g, h7]
     exact pT (hj1 true) (Rn_some hF)
    ·try simp [go_sem, g, h7]
     refine pC hF [.sh] c_impl_Contest_greatest (fun z8 hF => ?_)
     try simp [go_sem, g, h7]
     refine pwgD_F hF (fun h9 hF => ?_) fun h9 hF => ?_
     ·try simp [go_sem, g, h9]
      exact pT (hj1 true) (Rn_some hF)
     ·try simp [go_sem, g, h9]
      refine pC hF [.sh] c_impl_Contest_greatest (fun z10 hF => ?_)
      try simp [go_sem, g, h9]
      exact pT (hj1 (decide (a0.Q ≤ z10))) (Rn_some hF)
noncomputable def F_impl_Contest_most (a0 : Contest) : Option (Int) :=
  if (a0.Kind == 2) = true then (
  some a0.Points) else (
  some 1)
theorem c_impl_Contest_most : ∀ {a0} {r}, F_impl_Contest_most a0 = some r → PCalls Tryz.prog 77 [(.sh, .agg [.int .i64 a0.Kind, .int .i64 a0.Options, .int .i64 a0.Least, .int .i64 a0.Most, .int .i64 a0.Points])] (Eo (.int .i64 r) [.junk]) := by
  intro a0 r hr
  apply pF 8 [] [] [] [.tmp 2] hr cl77 Tryz.func77
  intro Φ hΦ hF g
  unfold F_impl_Contest_most at hF
  iterate 2 (try simp [go_sem, g]; refine pw_wk ?_)
  repeat rw [sq]
  refine pI hF (fun h1 hF => ?_) (fun h1 hF => ?_)
  ·cases hΦ _ (Rn_some hF)
   try simp [go_sem, g]
   refine pw_wk ?_
   try simp [go_sem, g]
  ·cases hΦ _ (Rn_some hF)
   iterate 2 (try simp [go_sem, g]; refine pw_wk ?_)
   try simp [go_sem, g]
def D91_7 : List DE := [d0 0 [9], d1 1 [3] 3, d2 2 [32] 3 32, d0 3 [33], d0 4 [31, 34], d0 5 [35], d1 6 [3] 3, d2 7 [37] 3 37, d0 8 [38], d1 9 [3] 3, d2 10 [40] 3 40, d0 11 [39, 41], d1 12 [3] 3, d2 13 [43] 3 43, d3 14 [36, 42, 44], d0 15 [45]]
noncomputable def F_impl_Group_derive (a0 : Group) (a1 : ByteArray) (a2 : Int) : Option (Int × Bool) :=
  ((wloop (σ := Int) (fun s4 =>
  if decide (s4 < 1000) = true then (
  (F_impl_HashLabelled a1 [a0.P, a0.Q, a0.G, a2, s4]).bind fun z10 =>
  if (!z10.2) = true then (
  some (.out (.inr (0, false)))) else (
  gd (i64.wrap (a0.P - 1) ≠ 0) <|
  gd (a0.Q ≠ 0) <|
  (F_impl_power (i64.wrap (1 + (z10.1.tmod (i64.wrap (a0.P - 1))))) (i64.wrap ((i64.wrap (a0.P - 1)).tdiv a0.Q)) a0.P).bind fun z12 =>
  if (z12 != 1) = true then (
  some (.out (.inr (z12, true)))) else (
  some (.go (i64.wrap (s4 + 1)))))) else (
  some (.out (.inl ())))) 0 : Option (Unit ⊕ (Int × Bool))).bind (Sum.elim (fun x3 =>
  some (0, false)) some))
theorem c_impl_Group_derive : ∀ {a0} {a1} {a2} {r}, F_impl_Group_derive a0 a1 a2 = some r → PCalls Tryz.prog 91 [(.sh, .agg [.int .i64 a0.P, .int .i64 a0.Q, .int .i64 a0.G]), (.sh, .str a1), (.sh, .int .i64 a2)] (Eo (.tup [.int .i64 r.1, .bool r.2]) [.junk, .junk, .junk]) := by
  intro a0 a1 a2 r hr
  apply pF 50 [] [] [] [.tmp 6, .tmp 7] hr cl91 Tryz.func91
  intro Φ hΦ hF g
  unfold F_impl_Group_derive at hF
  iterate 2 (try simp [go_sem, g]; refine pw_wk ?_)
  repeat rw [sq]
  refine pJs hF (fun x3 => []) (fun x3 hF => ?_) fun _ hj1 hr2 hF => ?_
  ·cases hΦ _ (Rn_some hF)
   try simp [go_sem, g]
   refine pw_wk ?_
   try simp [go_sem, g]
  ·repeat rw [sq]
   rw [pw_block]
   obtain ⟨b14, hb15, hψ8⟩ := hF
   refine pL hb15 (fun s4 => [(1, .v (.str a1)), (2, .v (.int .i64 a2)), (3, .bl [.int .i64 a0.P, .int .i64 a0.Q, .int .i64 a0.G]), (12, .v (.int .i64 s4))]) (fun s4 _ _ ho6 hg7 hF => ?_)
   try simp [go_sem, g]
   refine pw_wk ?_
   repeat rw [sq]
   refine pI hF (fun h9 hF => ?_) (fun h9 hF => ?_)
   ·try simp [go_sem, g]
    refine pw_wk ?_
    repeat rw [sq]
    rw [pw_block]
    try simp [go_sem, g]
    refine pw_wk ?_
    try simp [go_sem, g]
    refine pC hF [.sh, .sh] c_impl_HashLabelled (fun z10 hF => ?_)
    try simp [go_sem, g]
    refine pw_wkK [1, 2, 3, 9, 10, 12] (by simp [go_sem, g]; rfl) ?_
    try simp [go_sem, g]
    refine pw_wk ?_
    repeat rw [sq]
    refine pI hF (fun h11 hF => ?_) (fun h11 hF => ?_)
    ·cases ho6 _ (Rn_some hF)
     cases hΦ _ (hr2 _ hψ8)
     try simp [go_sem, g]
     refine pw_wk ?_
     try simp [go_sem, g]
    ·try simp [go_sem, g]
     refine pw_wk ?_
     repeat rw [sq]
     refine pw_draw D91_7 follows (by kernel_rfl) rfl ?_
     try simp only [go_sem, D91_7]
     obtain ⟨g, hF⟩ := Rz g hF
     obtain ⟨g, hF⟩ := Rz g hF
     try simp [go_sem, g]
     refine pC hF [.sh, .sh, .sh] c_impl_power (fun z12 hF => ?_)
     try simp [go_sem, g]
     refine pw_wkK [1, 2, 3, 11, 12] (by simp [go_sem, g]; rfl) ?_
     try simp [go_sem, g]
     refine pw_wk ?_
     repeat rw [sq]
     refine pI hF (fun h13 hF => ?_) (fun h13 hF => ?_)
     ·cases ho6 _ (Rn_some hF)
      cases hΦ _ (hr2 _ hψ8)
      try simp [go_sem, g]
      refine pw_wk ?_
      try simp [go_sem, g]
     ·try simp [go_sem, g]
      refine pw_wk ?_
      try simp [go_sem, g]
      exact pT (hg7 (i64.wrap (s4 + 1))) (Rn_some hF)
   ·try simp [go_sem, g]
    cases ho6 _ (Rn_some hF)
    exact pT (hj1 ()) hψ8
noncomputable def F_impl_Group_basesOf (a0 : Group) (a1 : Int) : Option (Bases × Bool) :=
  (F_impl_Group_derive a0 (⟨#[104]⟩ : ByteArray) 0).bind fun z1 =>
  ((wloop (σ := Int × (List Int) × Bool × Int) (fun s16 =>
  if decide (s16.2.2.2 < a1) = true then (
  (F_impl_Group_derive a0 (⟨#[104, 115]⟩ : ByteArray) s16.2.2.2).bind fun z22 =>
  ((if s16.2.2.1 = true then (
  some z22.2) else (
  some false) : Option (Bool)).bind fun x25 =>
  gd ((s16.2.1.length + 1) * 8 ≤ 140737488355328 ∧ s16.2.1.length + 1 ≤ 4611686018427387904) <|
  some (.go (s16.1, s16.2.1 ++ [z22.1], x25, i64.wrap (s16.2.2.2 + 1))))) else (
  some (.out (s16.1, s16.2.1, s16.2.2.1)))) (z1.1, [], true, 0) : Option ((Int × (List Int) × Bool))).bind fun x4 =>
  ((if (!z1.2) = true then (
  some true) else (
  some (!x4.2.2)) : Option (Bool)).bind fun x31 =>
  if x31 = true then (
  some ((Bases.mk 0 []), false)) else (
  some ((Bases.mk x4.1 x4.2.1), true))))
theorem c_impl_Group_basesOf : ∀ {a0} {a1} {r}, F_impl_Group_basesOf a0 a1 = some r → PCalls Tryz.prog 78 [(.sh, .agg [.int .i64 a0.P, .int .i64 a0.Q, .int .i64 a0.G]), (.sh, .int .i64 a1)] (Eo (.tup [.agg [.int .i64 r.1.H, .sl true 1 (r.1.Hs.map row_i64)], .bool r.2]) [.junk, .junk]) := by
  intro a0 a1 r hr
  apply pF 49 [] [] [] [.cell 4 110, .tmp 5] hr cl78 Tryz.func78
  intro Φ hΦ hF g
  unfold F_impl_Group_basesOf at hF
  try simp [go_sem, g]
  refine pw_wk ?_
  try simp [go_sem, g]
  refine pC hF [.sh, .sh, .sh] c_impl_Group_derive (fun z1 hF => ?_)
  try simp [go_sem, g]
  refine pw_wkK [1, 2, 4, 6, 7] (by simp [go_sem, g]; rfl) ?_
  iterate 2 (try simp [go_sem, g]; refine pw_wk ?_)
  repeat rw [sq]
  refine pJ hF (fun x4 => [(4, .bl [.int .i64 0, .sl true 1 []]), (7, .v (.bool z1.2)), (8, .bl [.int .i64 x4.1, .sl true 1 (x4.2.1.map row_i64)]), (9, .v (.bool x4.2.2))]) (fun x4 hF => ?_) fun _ hj2 hF => ?_
  ·repeat rw [sq]
   refine pJ hF (fun x31 => [(4, .bl [.int .i64 0, .sl true 1 []]), (8, .bl [.int .i64 x4.1, .sl true 1 (x4.2.1.map row_i64)]), (46, .v (.bool x31))]) (fun x31 hF => ?_) fun _ hj29 hF => ?_
   ·repeat rw [sq]
    refine pI hF (fun h33 hF => ?_) (fun h33 hF => ?_)
    ·try simp [go_sem, g]
     refine pw_wkK [4, 5] (by simp [go_sem, g]; rfl) ?_
     cases hΦ _ (Rn_some hF)
     try simp [go_sem, g]
    ·try simp [go_sem, g]
     refine pw_wk ?_
     try simp [go_sem, g]
     refine pw_wkK [4, 5] (by simp [go_sem, g]; rfl) ?_
     cases hΦ _ (Rn_some hF)
     try simp [go_sem, g]
   ·try simp [go_sem, g]
    refine pwg_F hF (fun h32 hF => ?_) fun h32 hF => ?_
    ·try simp [go_sem, g, h32]
     exact pT (hj29 true) (Rn_some hF)
    ·try simp [go_sem, g, h32]
     exact pT (hj29 (!x4.2.2)) (Rn_some hF)
  ·repeat rw [sq]
   rw [pw_block]
   obtain ⟨b27, hb28, hψ20⟩ := hF
   refine pL hb28 (fun s16 => [(2, .bl [.int .i64 a0.P, .int .i64 a0.Q, .int .i64 a0.G]), (4, .bl [.int .i64 0, .sl true 1 []]), (7, .v (.bool z1.2)), (8, .bl [.int .i64 s16.1, .sl true 1 (s16.2.1.map row_i64)]), (9, .v (.bool s16.2.2.1)), (20, .v (.int .i64 a1)), (21, .v (.int .i64 s16.2.2.2))]) (fun s16 _ _ ho18 hg19 hF => ?_)
   try simp [go_sem, g]
   refine pw_wk ?_
   repeat rw [sq]
   refine pI hF (fun h21 hF => ?_) (fun h21 hF => ?_)
   ·try simp [go_sem, g]
    refine pw_wk ?_
    repeat rw [sq]
    rw [pw_block]
    try simp [go_sem, g]
    refine pw_wkK [2, 4, 7, 8, 9, 10, 20, 21] (by simp [go_sem, g]; rfl) ?_
    try simp [go_sem, g]
    refine pC hF [.sh, .sh, .sh] c_impl_Group_derive (fun z22 hF => ?_)
    try simp [go_sem, g]
    refine pw_wk ?_
    repeat rw [sq]
    refine pJ hF (fun x25 => [(2, .bl [.int .i64 a0.P, .int .i64 a0.Q, .int .i64 a0.G]), (4, .bl [.int .i64 0, .sl true 1 []]), (7, .v (.bool z1.2)), (8, .bl [.int .i64 s16.1, .sl true 1 (s16.2.1.map row_i64)]), (9, .v (.bool x25)), (11, .v (.int .i64 z22.1)), (20, .v (.int .i64 a1)), (21, .v (.int .i64 s16.2.2.2))]) (fun x25 hF => ?_) fun _ hj23 hF => ?_
    ·obtain ⟨g, hF⟩ := Rg g hF
     try simp [go_sem, g]
     refine pw_wkK [2, 4, 7, 8, 9, 20, 21] (by simp [go_sem, g]; rfl) ?_
     try simp [go_sem, g]
     exact pT (hg19 (s16.1, s16.2.1 ++ [z22.1], x25, i64.wrap (s16.2.2.2 + 1))) (Rn_some hF)
    ·try simp [go_sem, g]
     refine pwg_F hF (fun h26 hF => ?_) fun h26 hF => ?_
     ·try simp [go_sem, g, h26]
      exact pT (hj23 z22.2) (Rn_some hF)
     ·try simp [go_sem, g, h26]
      exact pT (hj23 false) (Rn_some hF)
   ·try simp [go_sem, g]
    cases ho18 _ (Rn_some hF)
    exact pT (hj2 (s16.1, s16.2.1, s16.2.2.1)) hψ20
def D52_3 : List DE := [d1 0 [1] 1, d2 1 [49] 1 49, d3 2 [50], d0 3 [51], d1 4 [1, 52] 1, d2 5 [53, 52] 1 53, d1 6 [1, 52] 1, d2 7 [55, 52] 1 55, d1 10 [1, 52] 1, d1 11 [59, 52] 1, d2 12 [60, 52] 1 60, d3 8 [56, 52], d0 9 [54, 57, 52], d0 13 [58, 61, 52], d0 14 [52, 62]]
noncomputable def F_impl_IsValidPlan (a0 : Plan) : Option (Bool) :=
  (((F_impl_IsSealable a0.Gr a0.Ct).bind fun z4 =>
  if (!z4) = true then (
  some true) else (
  if decide (a0.Gr.Q ≤ 7) = true then (
  some true) else (
  (F_impl_within a0.Trustees 1 4).bind fun z7 =>
  if (!z7) = true then (
  some true) else (
  (F_impl_within a0.Threshold 1 a0.Trustees).bind fun z9 =>
  if (!z9) = true then (
  some true) else (
  (F_impl_within a0.Mixers 0 3).bind fun z11 =>
  if (!z11) = true then (
  some true) else (
  (F_impl_within a0.Voters 1 12).bind fun z13 =>
  if (!z13) = true then (
  some true) else (
  (F_impl_isDigest a0.Seed).bind fun z15 =>
  some (!z15))))))) : Option (Bool)).bind fun x3 =>
  if x3 = true then (
  some false) else (
  (((F_impl_Contest_isForm a0.Ct).bind fun z20 =>
  if z20 = true then (
  (F_impl_Contest_most a0.Ct).bind fun z22 =>
  some (decide (a0.Gr.Q ≤ (i64.wrap (a0.Voters * z22))))) else (
  some false) : Option (Bool)).bind fun x19 =>
  if x19 = true then (
  some false) else (
  (F_impl_Group_basesOf a0.Gr 12).bind fun z24 =>
  some z24.2))))
theorem c_impl_IsValidPlan : ∀ {a0} {r}, F_impl_IsValidPlan a0 = some r → PCalls Tryz.prog 52 [(.sh, .agg [.int .i64 a0.Gr.P, .int .i64 a0.Gr.Q, .int .i64 a0.Gr.G, .int .i64 a0.Ct.Kind, .int .i64 a0.Ct.Options, .int .i64 a0.Ct.Least, .int .i64 a0.Ct.Most, .int .i64 a0.Ct.Points, .int .i64 a0.Threshold, .int .i64 a0.Trustees, .int .i64 a0.Mixers, .int .i64 a0.Voters, .int .i64 a0.Seed])] (Eo (.bool r) [.junk]) := by
  intro a0 r hr
  apply pF 71 [] [] [] [.tmp 2] hr cl52 Tryz.func52
  intro Φ hΦ hF g
  unfold F_impl_IsValidPlan at hF
  try simp [go_sem, g]
  refine pw_wk ?_
  repeat rw [sq]
  refine pJ hF (fun x3 => [(1, .bl [.int .i64 a0.Gr.P, .int .i64 a0.Gr.Q, .int .i64 a0.Gr.G, .int .i64 a0.Ct.Kind, .int .i64 a0.Ct.Options, .int .i64 a0.Ct.Least, .int .i64 a0.Ct.Most, .int .i64 a0.Ct.Points, .int .i64 a0.Threshold, .int .i64 a0.Trustees, .int .i64 a0.Mixers, .int .i64 a0.Voters, .int .i64 a0.Seed]), (48, .v (.bool x3))]) (fun x3 hF => ?_) fun _ hj1 hF => ?_
  ·repeat rw [sq]
   refine pI hF (fun h16 hF => ?_) (fun h16 hF => ?_)
   ·cases hΦ _ (Rn_some hF)
    try simp [go_sem, g]
    refine pw_wk ?_
    try simp [go_sem, g]
   ·try simp [go_sem, g]
    refine pw_wk ?_
    repeat rw [sq]
    refine pJ hF (fun x19 => [(1, .bl [.int .i64 a0.Gr.P, .int .i64 a0.Gr.Q, .int .i64 a0.Gr.G, .int .i64 a0.Ct.Kind, .int .i64 a0.Ct.Options, .int .i64 a0.Ct.Least, .int .i64 a0.Ct.Most, .int .i64 a0.Ct.Points, .int .i64 a0.Threshold, .int .i64 a0.Trustees, .int .i64 a0.Mixers, .int .i64 a0.Voters, .int .i64 a0.Seed]), (63, .v (.bool x19))]) (fun x19 hF => ?_) fun _ hj17 hF => ?_
    ·repeat rw [sq]
     refine pI hF (fun h23 hF => ?_) (fun h23 hF => ?_)
     ·cases hΦ _ (Rn_some hF)
      try simp [go_sem, g]
      refine pw_wk ?_
      try simp [go_sem, g]
     ·try simp [go_sem, g]
      refine pw_wk ?_
      try simp [go_sem, g]
      refine pC hF [.sh, .sh] c_impl_Group_basesOf (fun z24 hF => ?_)
      try simp [go_sem, g]
      refine pw_wkK [4] (by simp [go_sem, g]; rfl) ?_
      cases hΦ _ (Rn_some hF)
      try simp [go_sem, g]
      refine pw_wk ?_
      try simp [go_sem, g]
    ·repeat rw [sq]
     refine pw_draw D52_3 follows (by kernel_rfl) rfl ?_
     try simp only [go_sem, D52_3]
     try simp [go_sem, g]
     refine pC hF [.sh] c_impl_Contest_isForm (fun z20 hF => ?_)
     try simp [go_sem, g]
     refine pwgD_F hF (fun h21 hF => ?_) fun h21 hF => ?_
     ·try simp [go_sem, g, h21]
      refine pC hF [.sh] c_impl_Contest_most (fun z22 hF => ?_)
      try simp [go_sem, g, h21]
      exact pT (hj17 (decide (a0.Gr.Q ≤ (i64.wrap (a0.Voters * z22))))) (Rn_some hF)
     ·try simp [go_sem, g, h21]
      exact pT (hj17 false) (Rn_some hF)
  ·try simp [go_sem, g]
   refine pC hF [.sh, .sh] c_impl_IsSealable (fun z4 hF => ?_)
   try simp [go_sem, g]
   refine pwg_F hF (fun h5 hF => ?_) fun h5 hF => ?_
   ·try simp [go_sem, g, h5]
    exact pT (hj1 true) (Rn_some hF)
   ·try simp [go_sem, g, h5]
    refine pwg_F hF (fun h6 hF => ?_) fun h6 hF => ?_
    ·try simp [go_sem, g, h6]
     exact pT (hj1 true) (Rn_some hF)
    ·try simp [go_sem, g, h6]
     refine pC hF [.sh, .sh, .sh] c_impl_within (fun z7 hF => ?_)
     try simp [go_sem, g, h6]
     refine pwg_F hF (fun h8 hF => ?_) fun h8 hF => ?_
     ·try simp [go_sem, g, h8]
      exact pT (hj1 true) (Rn_some hF)
     ·try simp [go_sem, g, h8]
      refine pC hF [.sh, .sh, .sh] c_impl_within (fun z9 hF => ?_)
      try simp [go_sem, g, h8]
      refine pwg_F hF (fun h10 hF => ?_) fun h10 hF => ?_
      ·try simp [go_sem, g, h10]
       exact pT (hj1 true) (Rn_some hF)
      ·try simp [go_sem, g, h10]
       refine pC hF [.sh, .sh, .sh] c_impl_within (fun z11 hF => ?_)
       try simp [go_sem, g, h10]
       refine pwg_F hF (fun h12 hF => ?_) fun h12 hF => ?_
       ·try simp [go_sem, g, h12]
        exact pT (hj1 true) (Rn_some hF)
       ·try simp [go_sem, g, h12]
        refine pC hF [.sh, .sh, .sh] c_impl_within (fun z13 hF => ?_)
        try simp [go_sem, g, h12]
        refine pwg_F hF (fun h14 hF => ?_) fun h14 hF => ?_
        ·try simp [go_sem, g, h14]
         exact pT (hj1 true) (Rn_some hF)
        ·try simp [go_sem, g, h14]
         refine pC hF [.sh] c_impl_isDigest (fun z15 hF => ?_)
         try simp [go_sem, g, h14]
         exact pT (hj1 (!z15)) (Rn_some hF)
noncomputable def F_impl_Plan_authors (a0 : Plan) : Option (Int) :=
  some (i64.wrap ((i64.wrap ((i64.wrap (1 + a0.Trustees)) + a0.Mixers)) + a0.Voters))
theorem c_impl_Plan_authors : ∀ {a0} {r}, F_impl_Plan_authors a0 = some r → PCalls Tryz.prog 53 [(.sh, .agg [.int .i64 a0.Gr.P, .int .i64 a0.Gr.Q, .int .i64 a0.Gr.G, .int .i64 a0.Ct.Kind, .int .i64 a0.Ct.Options, .int .i64 a0.Ct.Least, .int .i64 a0.Ct.Most, .int .i64 a0.Ct.Points, .int .i64 a0.Threshold, .int .i64 a0.Trustees, .int .i64 a0.Mixers, .int .i64 a0.Voters, .int .i64 a0.Seed])] (Eo (.int .i64 r) [.junk]) := by
  intro a0 r hr
  apply pF 12 [] [] [] [.tmp 2] hr cl53 Tryz.func53
  intro Φ hΦ hF g
  unfold F_impl_Plan_authors at hF
  try simp [go_sem, g]
  refine pw_wk ?_
  try simp [go_sem, g]
  refine pw_wkK [2] (by simp [go_sem, g]; rfl) ?_
  cases hΦ _ (Rn_some hF)
  try simp [go_sem, g]
def D32_5 : List DE := [d2 0 [7] 7 7, d0 1 [6], d0 2 [53], d0 3 [54], d0 4 [6], d0 5 [56], d0 6 [57], d0 7 [6], d0 8 [59], d0 9 [60], d0 10 [6], d0 11 [62], d0 12 [63], d0 13 [52, 55, 58, 61, 64], d0 14 [], d2 15 [9, 65] 9 9]
def D32_7 : List DE := [d0 0 [8], d0 1 [69], d0 2 [70], d2 3 [10, 71] 10 10, d3 4 [72, 71], d0 5 [73, 71], d0 6 [71, 74], d0 7 [75], d1 8 [3, 76] 3, d2 9 [77, 76] 3 77, d0 10 [78, 76], d2 11 [10, 76] 10 10, d3 12 [80, 76], d0 13 [79, 81, 76], d0 14 [76, 82]]
noncomputable def F_impl_Group_opening (a0 : Group) (a1 : Board) : Option (Opening × Bool) :=
  ((if ((a1.Entries.length : Int) == 0) = true then (
  some true) else (
  (ix a1.Entries 0).bind fun x5 =>
  if (x5.Kind != 1) = true then (
  some true) else (
  if (x5.Author != 0) = true then (
  some true) else (
  some ((x5.Data.length : Int) != 9)))) : Option (Bool)).bind fun x3 =>
  if x3 = true then (
  some ((Opening.mk (Contest.mk 0 0 0 0 0) 0 0 0 0), false)) else (
  (ix a1.Entries 0).bind fun x9 =>
  gd (0 ≤ 5 ∧ 5 ≤ x9.Data.length) <|
  (F_impl_DecodeContest ((x9.Data.take 5).drop 0)).bind fun z10 =>
  (ix x9.Data 5).bind fun x11 =>
  (ix x9.Data 6).bind fun x12 =>
  (ix x9.Data 7).bind fun x13 =>
  (ix x9.Data 8).bind fun x14 =>
  (F_impl_planOf a0 (Opening.mk z10.1 x11 x12 x13 x14)).bind fun z15 =>
  ((if (!z10.2) = true then (
  some true) else (
  (F_impl_IsValidPlan z15).bind fun z20 =>
  if (!z20) = true then (
  some true) else (
  (F_impl_Plan_authors z15).bind fun z22 =>
  some ((a1.Keys.length : Int) != z22))) : Option (Bool)).bind fun x18 =>
  if x18 = true then (
  some ((Opening.mk (Contest.mk 0 0 0 0 0) 0 0 0 0), false)) else (
  some ((Opening.mk z10.1 x11 x12 x13 x14), true)))))
theorem c_impl_Group_opening : ∀ {a0} {a1} {r}, F_impl_Group_opening a0 a1 = some r → PCalls Tryz.prog 32 [(.sh, .agg [.int .i64 a0.P, .int .i64 a0.Q, .int .i64 a0.G]), (.sh, .agg [.sl false 1 (a1.Keys.map row_i64), .sl false 6 (a1.Entries.map row_Entry_z)])] (Eo (.tup [.agg [.int .i64 r.1.Ct.Kind, .int .i64 r.1.Ct.Options, .int .i64 r.1.Ct.Least, .int .i64 r.1.Ct.Most, .int .i64 r.1.Ct.Points, .int .i64 r.1.Threshold, .int .i64 r.1.Trustees, .int .i64 r.1.Mixers, .int .i64 r.1.Voters], .bool r.2]) [.junk, .junk]) := by
  intro a0 a1 r hr
  apply pF 86 [] [] [] [.cell 4 54, .tmp 5] hr cl32 Tryz.func32
  intro Φ hΦ hF g
  unfold F_impl_Group_opening at hF
  try simp [go_sem, g]
  refine pw_wk ?_
  repeat rw [sq]
  refine pJ hF (fun x3 => [(2, .bl [.int .i64 a0.P, .int .i64 a0.Q, .int .i64 a0.G]), (3, .bl [.sl false 1 (a1.Keys.map row_i64), .sl false 6 (a1.Entries.map row_Entry_z)]), (4, .bl [.int .i64 0, .int .i64 0, .int .i64 0, .int .i64 0, .int .i64 0, .int .i64 0, .int .i64 0, .int .i64 0, .int .i64 0]), (39, .v (.bool x3))]) (fun x3 hF => ?_) fun _ hj1 hF => ?_
  ·repeat rw [sq]
   refine pI hF (fun h8 hF => ?_) (fun h8 hF => ?_)
   ·cases hΦ _ (Rn_some hF)
    try simp [go_sem, g]
    refine pw_wk ?_
    try simp [go_sem, g]
   ·obtain ⟨x9, g, hF⟩ := Rxn g 0 hF
    try simp [go_sem, g]
    refine pw_wk ?_
    try simp [go_sem, g]
    refine pw_wkK [2, 3, 4, 6] (by simp [go_sem, g]; rfl) ?_
    obtain ⟨g, hF⟩ := Rg g hF
    try simp [go_sem, g]
    refine pC hF [.sh] c_impl_DecodeContest (fun z10 hF => ?_)
    try simp [go_sem, g]
    refine pw_wk ?_
    repeat rw [sq]
    refine pw_draw D32_5 follows (by kernel_rfl) rfl ?_
    try simp only [go_sem, D32_5]
    obtain ⟨x11, g, hF⟩ := Rxn g 5 hF
    obtain ⟨x12, g, hF⟩ := Rxn g 6 hF
    obtain ⟨x13, g, hF⟩ := Rxn g 7 hF
    obtain ⟨x14, g, hF⟩ := Rxn g 8 hF
    try simp [go_sem, g]
    refine pw_wkK [2, 3, 4, 8, 9] (by simp [go_sem, g]; rfl) ?_
    try simp [go_sem, g]
    refine pC hF [.sh, .sh] c_impl_planOf (fun z15 hF => ?_)
    try simp [go_sem, g]
    refine pw_wk ?_
    repeat rw [sq]
    refine pJ hF (fun x18 => [(4, .bl [.int .i64 0, .int .i64 0, .int .i64 0, .int .i64 0, .int .i64 0, .int .i64 0, .int .i64 0, .int .i64 0, .int .i64 0]), (9, .bl [.int .i64 z10.1.Kind, .int .i64 z10.1.Options, .int .i64 z10.1.Least, .int .i64 z10.1.Most, .int .i64 z10.1.Points, .int .i64 x11, .int .i64 x12, .int .i64 x13, .int .i64 x14]), (83, .v (.bool x18))]) (fun x18 hF => ?_) fun _ hj16 hF => ?_
    ·repeat rw [sq]
     refine pI hF (fun h23 hF => ?_) (fun h23 hF => ?_)
     ·cases hΦ _ (Rn_some hF)
      try simp [go_sem, g]
      refine pw_wk ?_
      try simp [go_sem, g]
     ·cases hΦ _ (Rn_some hF)
      iterate 2 (try simp [go_sem, g]; refine pw_wk ?_)
      try simp [go_sem, g]
    ·repeat rw [sq]
     refine pw_draw D32_7 follows (by kernel_rfl) rfl ?_
     try simp only [go_sem, D32_7]
     try simp [go_sem, g]
     refine pwgD_F hF (fun h19 hF => ?_) fun h19 hF => ?_
     ·try simp [go_sem, g, h19]
      exact pT (hj16 true) (Rn_some hF)
     ·try simp [go_sem, g, h19]
      refine pC hF [.sh] c_impl_IsValidPlan (fun z20 hF => ?_)
      try simp [go_sem, g, h19]
      refine pwgD_F hF (fun h21 hF => ?_) fun h21 hF => ?_
      ·try simp [go_sem, g, h21]
       exact pT (hj16 true) (Rn_some hF)
      ·try simp [go_sem, g, h21]
       try intros
       refine pC hF [.sh] c_impl_Plan_authors (fun z22 hF => ?_)
       try simp [go_sem, g, h21]
       exact pT (hj16 ((a1.Keys.length : Int) != z22)) (Rn_some hF)
  ·try simp [go_sem, g]
   try intros
   refine pwg_F hF (fun h4 hF => ?_) fun h4 hF => ?_
   ·try simp [go_sem, g, h4]
    exact pT (hj1 true) (Rn_some hF)
   ·obtain ⟨x5, g, hF⟩ := Rxn g 0 hF
    try simp [go_sem, g, h4]
    refine pwg_F hF (fun h6 hF => ?_) fun h6 hF => ?_
    ·try simp [go_sem, g, h6]
     exact pT (hj1 true) (Rn_some hF)
    ·try simp [go_sem, g, h6]
     refine pwg_F hF (fun h7 hF => ?_) fun h7 hF => ?_
     ·try simp [go_sem, g, h7]
      exact pT (hj1 true) (Rn_some hF)
     ·try simp [go_sem, g, h7]
      try intros
      exact pT (hj1 ((x5.Data.length : Int) != 9)) (Rn_some hF)
noncomputable def F_impl_OpeningOf (a0 : Group) (a1 : Board) : Option (Opening × Bool) :=
  (F_impl_areBoard a0 a1).bind fun z1 =>
  if (!z1) = true then (
  some ((Opening.mk (Contest.mk 0 0 0 0 0) 0 0 0 0), false)) else (
  (F_impl_Group_opening a0 a1).bind fun z3 =>
  some (z3.1, z3.2))
theorem c_impl_OpeningOf : ∀ {a0} {a1} {r}, F_impl_OpeningOf a0 a1 = some r → PCalls Tryz.prog 19 [(.sh, .agg [.int .i64 a0.P, .int .i64 a0.Q, .int .i64 a0.G]), (.sh, .agg [.sl false 1 (a1.Keys.map row_i64), .sl false 6 (a1.Entries.map row_Entry_z)])] (Eo (.tup [.agg [.int .i64 r.1.Ct.Kind, .int .i64 r.1.Ct.Options, .int .i64 r.1.Ct.Least, .int .i64 r.1.Ct.Most, .int .i64 r.1.Ct.Points, .int .i64 r.1.Threshold, .int .i64 r.1.Trustees, .int .i64 r.1.Mixers, .int .i64 r.1.Voters], .bool r.2]) [.junk, .junk]) := by
  intro a0 a1 r hr
  apply pF 16 [] [] [] [.cell 4 54, .tmp 5] hr cl19 Tryz.func19
  intro Φ hΦ hF g
  unfold F_impl_OpeningOf at hF
  try simp [go_sem, g]
  refine pw_wk ?_
  try simp [go_sem, g]
  refine pC hF [.sh, .sh] c_impl_areBoard (fun z1 hF => ?_)
  try simp [go_sem, g]
  refine pw_wk ?_
  repeat rw [sq]
  refine pI hF (fun h2 hF => ?_) (fun h2 hF => ?_)
  ·try simp [go_sem, g]
   refine pw_wkK [4, 5] (by simp [go_sem, g]; rfl) ?_
   cases hΦ _ (Rn_some hF)
   try simp [go_sem, g]
  ·try simp [go_sem, g]
   refine pw_wk ?_
   try simp [go_sem, g]
   refine pC hF [.sh, .sh] c_impl_Group_opening (fun z3 hF => ?_)
   try simp [go_sem, g]
   refine pw_wkK [4, 5] (by simp [go_sem, g]; rfl) ?_
   cases hΦ _ (Rn_some hF)
   try simp [go_sem, g]
theorem mul64 (n : Nat) (hn : n ≤ 1000000) (H : AH) : ACalls Tryz.prog 55 [.int .u64 1, .int .u64 n] H (fun v H' => v = .tuple #[.int .u64 0, .int .u64 n] ∧ H' = H) := by
  refine acalls_intro cl55 Tryz.func55 rfl rfl (by simp [Tryz.f55]) fun hw => ?_
  simp [Tryz.f55, awp, aops, aop, ahp, aplain, plainOps, matl, mat, plainV, putO, athen, FR.put, FR.init, rdv, rda, binV, binInt, okConst]
  simp [aend, resL, resV, resT, FR.put]
  have w : ∀ m : Int, 0 ≤ m → m ≤ 1000000 → u64.wrap m = m := fun m h1 h2 => by
    have : u64.wrap m = m % 18446744073709551616 := by simp [wrap, signed]; rfl
    rw [this]; omega
  have a1 : n % 2 ^ u64.bits &&& 4294967295 % 2 ^ u64.bits = n := by
    show n % 18446744073709551616 &&& (2 ^ 32 - 1) = n
    rw [Nat.and_two_pow_sub_one_eq_mod]; omega
  have a2 : 1 % 2 ^ u64.bits &&& 4294967295 % 2 ^ u64.bits = 1 := by decide
  have f1 : Int.fdiv 1 (2 ^ min 32 u64.bits) = 0 := by decide
  have f2 : (n : Int).fdiv (2 ^ min 32 u64.bits) = 0 := by
    show (n : Int).fdiv 4294967296 = 0
    rw [Int.fdiv_eq_ediv_of_nonneg _ (by omega)]; omega
  have f3 : Int.fdiv 0 (2 ^ min 32 u64.bits) = 0 := by decide
  have w1 := w n (by omega) (by omega)
  have w2 := w 1 (by omega) (by omega)
  have w3 := w 0 (by omega) (by omega)
  have a3 : ((0 : Int) % 2 ^ u64.bits).toNat &&& 4294967295 % 2 ^ u64.bits = 0 := by decide
  simp [a1, a2, f1, f2, f3, w1, w2, w3, a3]
theorem mulU (n : Nat) (hn : n ≤ 1000000) (H : AH) : ACalls Tryz.prog 33 [.int .u64 1, .int .u64 n] H (fun v H' => v = .tuple #[.int .u64 0, .int .u64 n] ∧ H' = H) := by
  refine acalls_intro cl33 Tryz.func33 rfl rfl (by simp [Tryz.f33]) fun hw => ?_
  simp [Tryz.f33, awp, aops, aop, ahp, aplain, plainOps, matl, mat, plainV, putO, athen, FR.put, FR.init, rdv, rda, binV, binInt, okConst]
  refine (mul64 n hn H).mono fun v H' hv => ?_
  obtain ⟨rfl, rfl⟩ := hv
  simp [aend, resL, resV, resT, FR.put]
def D20_9 : List DE := [d0 0 [8], d0 1 [7], d0 2 [8], d0 3 [39, 40], d0 4 [7], d0 5 [8], d0 6 [42, 43], d3 7 [41, 44], d0 8 [38, 45], d0 9 [46]]
theorem rep20 : RepC Tryz.prog 20 := by
  intro id off c n k a H hk ha hid hc h1 hn
  have e1 : elemTy Tryz.prog 24 = some 3 := by kernel_rfl
  have e2 : tsz Tryz.prog 3 = some (false, 1, 8, [.int .i64 0]) := by kernel_rfl
  refine acalls_intro cl20 Tryz.func20 rfl rfl (by simp [Tryz.f20]) fun hw => ?_
  have a1 : (0 : Int) ≤ (n : Int) := by omega
  have a2 : ¬ (n : Int) < 0 := by omega
  have a6 : decide (9223372036854775807 < (n : Int)) = false := by simp; omega
  have a3 : i64.wrap ((n : Nat) : Int) = (n : Int) := by rw [wrap_i64]; omega
  have a4 : u64.wrap ((n : Nat) : Int) = (n : Int) := by
    have : ∀ m : Int, u64.wrap m = m % 18446744073709551616 := fun m => by simp [wrap, signed]; rfl
    rw [this]; omega
  have a5 : u64.wrap 1 = 1 := by decide
  have i1 : intTy Tryz.prog 78 = some .u64 := by kernel_rfl
  have i2 : intTy Tryz.prog 3 = some .i64 := by kernel_rfl
  have i3 : isByS Tryz.prog 3 = false := by kernel_rfl
  have i4 : isByS Tryz.prog 78 = false := by kernel_rfl
  have k1 : ∀ m : Int, convV Tryz.prog 3 78 (.int .i64 m) = some (.int .u64 (u64.wrap m)) := fun m => by simp [convV, i1, i2]
  have k2 : ∀ m : Int, convV Tryz.prog 78 3 (.int .u64 m) = some (.int .i64 (i64.wrap m)) := fun m => by simp [convV, i1, i2]
  generalize hQ : aend _ _ _ = Q
  repeat refine awp_as ?_
  refine awp_step (by simp [awp, aops, aop, ahp, aplain, plainOps, matl, mat, plainV, putO, FR.init, okConst]; first | exact ⟨rfl, rfl⟩ | exact ⟨rfl, rfl, rfl⟩) ?_
  repeat refine awp_as ?_
  refine awp_step (by simp [awp, aops, aop, ahp, aplain, plainOps, matl, mat, plainV, putO, FR.put, FR.init, rdv, rda, binV, binInt, okConst, a2]; first | exact ⟨rfl, rfl⟩ | exact ⟨rfl, rfl, rfl⟩) ?_
  repeat refine awp_as ?_
  refine awp_step (by simp [awp, FR.put, rdv, okConst, a2, a6]; first | exact ⟨rfl, rfl⟩ | exact ⟨rfl, rfl, rfl⟩) ?_
  repeat refine awp_as ?_
  refine awp_step (by
    simp [awp, aops, aop, ahp, aplain, plainOps, matl, mat, plainV, putO, FR.put, FR.init, rdv, rda, binV, binInt, okConst, a2, a3, a4, a5, Am.lenV, e1, k1, i3]
    refine (mulU n hn H).mono fun v H' hv => ?_
    obtain ⟨rfl, rfl⟩ := hv
    first | exact ⟨rfl, rfl⟩ | exact ⟨rfl, rfl, rfl⟩) ?_
  repeat refine awp_as ?_
  refine awp_step (by simp [awp, aops, aop, ahp, aplain, plainOps, matl, mat, plainV, putO, FR.put, FR.init, rdv, rda, binV, binInt, okConst, yieldA, a2, a3, a4, a5, a6]; first | exact ⟨rfl, rfl⟩ | exact ⟨rfl, rfl, rfl⟩) ?_
  repeat refine awp_as ?_
  refine awp_step (by simp [awp, FR.put, rdv, okConst, a2, a6]; first | exact ⟨rfl, rfl⟩ | exact ⟨rfl, rfl, rfl⟩) ?_
  repeat refine awp_as ?_
  have b1 : 8 * (n : Int) ≤ 140737488355328 := by omega
  have b2 : (n : Int) ≤ 4611686018427387904 := by omega
  have b3 : (8 * (n : Int) ≤ 140737488355328 ∧ (n : Int) ≤ 4611686018427387904) := ⟨b1, b2⟩
  have hz : (List.replicate n [Value.int i64 0]).flatten = List.replicate n (.int .i64 0) := by simp
  refine awp_step (H' := H.push ⟨true, List.replicate n (.int .i64 0)⟩) (by
    simp [awp, aops, aop, ahp, aplain, plainOps, matl, mat, plainV, putO, FR.put, FR.init, rdv, rda, binV, binInt, okConst, a1, a2, a3, a4, a5, e1, e2, k2, i4, b1, b2, hz]
    exact rfl) ?_
  let B : Nat → Blk := fun m => ⟨true, List.replicate m (.int .i64 a) ++ List.replicate (n - m) (.int .i64 0)⟩
  have hps : ∀ x y, (H.push x).set H.n (some y) = H.push y := fun x y => by
    simp only [AH.push, AH.set, AH.mk.injEq, true_and]
    funext i
    split <;> rfl
  have hid' : id ≠ H.n := by omega
  have hl1 : ∀ x, (H.push x).load id off = some (k.cells.drop off) := fun x => by simp [AH.push, AH.load, hid', hk]
  have hd : k.cells.drop off = .int .i64 a :: k.cells.drop (off + 1) := by
    obtain ⟨h, e⟩ := List.getElem?_eq_some_iff.1 ha
    rw [List.drop_eq_getElem_cons h, e]
  have hb1 : ∀ x, (H.push x).b H.n = some x := fun x => by simp [AH.push]
  have hp1 : putAt (List.replicate n (.int .i64 0)) 0 [.int .i64 a] = some (B 1).cells := by
    obtain ⟨m, rfl⟩ : ∃ m, n = m + 1 := ⟨n - 1, by omega⟩
    simp [List.replicate_succ, putAt, B]
  have h1n : ¬ n = 0 := by omega
  have hmin : min 1 n = 1 := by omega
  repeat refine awp_as ?_
  refine awp_step (H' := H.push (B 1)) (by
    simp [awp, aops, aop, ahp, aplain, plainOps, matl, mat, plainV, putO, FR.put, FR.init, rdv, rda, binV, binInt, okConst, srcV, takeN, solid, e1, e2, hl1, hd, hb1, hmin, h1n, h1, hp1]
    exact ⟨rfl, hps _ _⟩) ?_
  repeat refine awp_as ?_
  refine awp_seqI (I := fun f g => f 7 = .v (.slice (some ⟨H.n, 0, some 1⟩) n n) ∧ g = H.push (B n)) ?_ ?_
  · show awp Tryz.prog _ (.loop _) (ablock 0 _) _ _
    refine awp_up (n := n) (fun m f g => 1 ≤ m ∧ f 7 = .v (.slice (some ⟨H.n, 0, some 1⟩) n n) ∧ f 8 = .v (.int .i64 (m : Int)) ∧ g = H.push (B m)) ?_ h1 ⟨Nat.le_refl _, by simp [FR.put], by simp [FR.put], rfl⟩
    rintro m f g hm ⟨m1, h7, h8, rfl⟩
    refine ⟨(FR.put (fun _ => jv) 7 (.v (.slice (some ⟨H.n, 0, some 1⟩) n n))).put 8 (.v (.int .i64 (m : Int))), fun t => ?_, ?_⟩
    · by_cases t8 : t = 8
      · subst t8; simp [FR.put, h8]
      · by_cases t7 : t = 7
        · subst t7; simp [FR.put, h7]
        · right; simp [FR.put, t7, t8]
    repeat refine awp_as ?_
    refine awp_step (H' := H.push (B m)) (by
      simp [awp, aops, aop, ahp, aplain, plainOps, matl, mat, plainV, putO, FR.put, FR.init, rdv, rda, binV, binInt, okConst, e1, e2, Am.lenV]
      exact rfl) ?_
    repeat refine awp_as ?_
    by_cases hmn : m < n
    · have hmn' : decide ((m : Int) < (n : Int)) = true := by simpa using hmn
      refine awp_step (H' := H.push (B m)) (by
        simp [awp, FR.put, rdv, hmn]
        exact rfl) ?_
      show awp Tryz.prog _ (.region 9 _ true) (ablock 1 _) _ _
      simp only [awp, if_true]
      refine ⟨follows, 0, D20_9, by kernel_rfl, ?_⟩
      have f1 : (0 : Int) ≤ (m : Int) := by omega
      have f3 : ¬ (n - m = 0) := by omega
      have f4 : ¬ (m = 0) := by omega
      have hld : (H.push (B m)).load H.n 0 = some (B m).cells := by simp [AH.load, hb1]
      have hT : takeN m (B m).cells = some (List.replicate m (.int .i64 a)) := by
        rw [takeN_ok (by simp [B])]
        simp [B]
      simp [D20_9, d0, d3, dops, dop, gop, gopx, dcond, okL, okS, okR, DE.ex, awp, athen, aops, aop, ahp, aplain, plainOps, matl, mat, plainV, putO, FR.put, rdv, rda, binV, binInt, okConst, e1, e2, Am.lenV, sliceV, sliceBnds, bnd, bndM, srcV, f1, f3, f4, hm, hld, hT, hb1, solid]
      obtain ⟨q, hq⟩ : ∃ q, q = min m (n - m) := ⟨_, rfl⟩
      rw [← hq]
      have q0 : 0 < q := by omega
      have q1 : m + q ≤ n := by omega
      have hw1 : i64.wrap ((m : Int) + (q : Int)) = ((m + q : Nat) : Int) := by rw [wrap_i64]; omega
      have hput : putAt (B m).cells m (List.replicate q (.int .i64 a)) = some (B (m + q)).cells := by
        have hne : List.replicate q (Value.int .i64 a) ≠ [] := by
          intro e0
          have := congrArg List.length e0
          simp at this; omega
        obtain ⟨r, hr⟩ := putAt_ok (cs := (B m).cells) (n := m) hne (by simp [B]; omega)
        rw [hr]
        rcases putAt_spec hr with ⟨h, _⟩ | ⟨_, rfl⟩
        · exact absurd h hne
        · congr 1
          simp only [B, List.length_replicate]
          rw [List.take_append_of_le_length (by simp), List.take_of_length_le (by simp), List.drop_append, List.drop_of_length_le (by simp), List.nil_append, List.length_replicate, List.drop_replicate, List.replicate_append_replicate]
          congr 2
          omega
      refine ⟨⟨rfl, q0⟩, ?_⟩
      rw [hput, hw1]
      refine ⟨m + q, by omega, q1, by omega, by simp [FR.put], by simp [FR.put], ?_⟩
      rw [show (⟨true, (B (m + q)).cells⟩ : Blk) = B (m + q) from rfl]
      exact hps _ _
    · have e : m = n := by omega
      subst e
      refine awp_seqX ?_
      simp [awp, FR.put, rdv, ablock]
  · rintro f g ⟨h7, rfl⟩
    subst hQ
    have hB : B n = ⟨true, List.replicate n (.int .i64 a)⟩ := by simp [B]
    simp [awp, aops, aop, ahp, aplain, plainOps, matl, mat, plainV, putO, athen, FR.put, rdv, rda, okConst, h7, aend, resL, resV, resT, Tryz.f20, hB]
def F_slices_Repeat_int_int (a0 : List Int) (a1 : Int) : Option (List Int) :=
  gd (a0.length = 1 ∧ 1 ≤ a1 ∧ a1 ≤ 1000000) <|
  some (List.replicate a1.toNat (a0.headD 0))
theorem c_slices_Repeat_int_int {a0 : List Int} {a1 : Int} {r : List Int} (hr : F_slices_Repeat_int_int a0 a1 = some r) : PCalls Tryz.prog 20 [(.sh, .sl false 1 (a0.map row_i64)), (.sh, .int .i64 a1)] (Eo (.sl true 1 (r.map row_i64)) [.junk, .junk]) := by
  have hF : Rn _ (fun x => x = r) := ⟨r, hr, rfl⟩
  unfold F_slices_Repeat_int_int at hF
  obtain ⟨⟨g0, g1, g2⟩, hF⟩ := Rn_gd hF
  have h1 := Rn_some hF
  subst h1
  obtain ⟨n, rfl⟩ := Int.eq_ofNat_of_zero_le (by omega : 0 ≤ a1)
  obtain ⟨x, rfl⟩ := List.length_eq_one_iff.1 g0
  rw [show (List.replicate (n : Int).toNat ([x].headD 0)).map row_i64 = List.replicate n [.int .i64 x] from by rw [List.map_replicate]; rfl]
  exact rep_calls (md := .sh) rep20 cl20 (fun E x v h => ⟨none, h⟩) (by omega) (by omega)
noncomputable def F_slices_Index_int_int (a0 : (List Int)) (a1 : Int) : Option (Int) :=
  ((rloop (σ := Unit) (fun i5 s4 =>
  (ix a0 i5).bind fun x11 =>
  if (a1 == x11) = true then (
  some (.out (.inr i5))) else (
  some (.go ()))) (fun s4 => .inl ()) (a0.length) 0 () : Option (Unit ⊕ Int)).bind (Sum.elim (fun x3 =>
  some (-1)) some))
theorem c_slices_Index_int_int : ∀ {a0} {a1} {r}, F_slices_Index_int_int a0 a1 = some r → PCalls Tryz.prog 34 [(.sh, .sl false 1 (a0.map row_i64)), (.sh, .int .i64 a1)] (Eo (.int .i64 r) [.junk, .junk]) := by
  intro a0 a1 r hr
  apply pF 19 [] [] [] [.tmp 4] hr cl34 Tryz.func34
  intro Φ hΦ hF g
  unfold F_slices_Index_int_int at hF
  iterate 2 (try simp [go_sem, g]; try intros; refine pw_wk ?_)
  repeat rw [sq]
  refine pJs hF (fun x3 => []) (fun x3 hF => ?_) fun _ hj1 hr2 hF => ?_
  ·cases hΦ _ (Rn_some hF)
   try simp [go_sem, g]
   refine pw_wk ?_
   try simp [go_sem, g]
  ·repeat rw [sq]
   rw [pw_block]
   obtain ⟨b13, hb14, hψ8⟩ := hF
   refine pR hb14 (fun i5 s4 => [(0, .v (.sl false 1 (a0.map row_i64))), (1, .v (.int .i64 a1)), (7, .v (.int .i64 (a0.length : Int))), (8, .v (.int .i64 i5))]) (fun s4 _ hN15 => ?_) (fun i5 s4 _ _ hi9 hi10 ho6 hg7 hF => ?_)
   ·subst hN15
    try simp [go_sem]
    refine pw_wk ?_
    repeat rw [sq]
    refine pw_cond_f (by simp [go_sem]) ?_
    try simp [go_sem]
    exact pT (hj1 ()) hψ8 (by simp [go_sem])
   ·try simp [go_sem, g]
    refine pw_wk ?_
    repeat rw [sq]
    refine pw_cond_t (by simp [go_sem, g, hi9, hi10]) ?_
    try simp [go_sem, g]
    refine pw_wk ?_
    repeat rw [sq]
    rw [pw_block]
    obtain ⟨x11, g, hF⟩ := Rx g hF
    try simp [go_sem, g]
    refine pw_wk ?_
    try simp [go_sem, g]
    refine pw_wkK [0, 1, 5, 7, 8, 16] (by simp [go_sem, g]; rfl) ?_
    repeat rw [sq]
    refine pI hF (fun h12 hF => ?_) (fun h12 hF => ?_)
    ·cases ho6 _ (Rn_some hF)
     cases hΦ _ (hr2 _ hψ8)
     try simp [go_sem, g]
     refine pw_wk ?_
     try simp [go_sem, g]
    ·try simp [go_sem, g]
     refine pw_wk ?_
     try simp [go_sem, g]
     exact pT (hg7 ()) (Rn_some hF) (by simp [go_sem, g, wr_i hi9 hi10 (by assumption)])
noncomputable def F_slices_Contains_int_int (a0 : (List Int)) (a1 : Int) : Option (Bool) :=
  (F_slices_Index_int_int a0 a1).bind fun z1 =>
  some (decide (0 ≤ z1))
theorem c_slices_Contains_int_int : ∀ {a0} {a1} {r}, F_slices_Contains_int_int a0 a1 = some r → PCalls Tryz.prog 22 [(.sh, .sl false 1 (a0.map row_i64)), (.sh, .int .i64 a1)] (Eo (.bool r) [.junk, .junk]) := by
  intro a0 a1 r hr
  apply pF 9 [] [] [] [.tmp 4] hr cl22 Tryz.func22
  intro Φ hΦ hF g
  unfold F_slices_Contains_int_int at hF
  try simp [go_sem, g]
  refine pw_wk ?_
  try simp [go_sem, g]
  refine pC hF [.sh, .sh] c_slices_Index_int_int (fun z1 hF => ?_)
  cases hΦ _ (Rn_some hF)
  try simp [go_sem, g]
  refine pw_wk ?_
  try simp [go_sem, g]
def D8_15 : List DE := [d0 0 [8], d0 1 [12], d2 2 [2] 2 2, d0 3 [8], d0 4 [12], d0 5 [80, 81], d0 6 [82], d0 7 [13], d0 8 [83, 84], ⟨9, [79, 85], [], none, true, true, true⟩, d0 10 [77, 78], d0 11 [87, 86]]
noncomputable def F_impl_BoardCommits (a0 : Group) (a1 : Board) : Option ((List Int) × Bool) :=
  (F_impl_OpeningOf a0 a1).bind fun z1 =>
  if (!z1.2) = true then (
  some ([], false)) else (
  (F_slices_Repeat_int_int [1] z1.1.Threshold).bind fun z3 =>
  ((rloop (σ := (List Int) × (List Int)) (fun i57 s56 =>
  (((ix a1.Entries i57).bind fun x66 =>
  ((if (x66.Kind != 2) = true then (
  some true) else (
  (F_impl_within x66.Author 1 z1.1.Trustees).bind fun z71 =>
  some (!z71)) : Option (Bool)).bind fun x69 =>
  if x69 = true then (
  some (.inl (s56.1, s56.2))) else (
  (((F_slices_Contains_int_int s56.2 x66.Author).bind fun z76 =>
  if z76 = true then (
  some true) else (
  if ((x66.Data.length : Int) != z1.1.Threshold) = true then (
  some true) else (
  (F_impl_Group_hasAll a0 x66.Data).bind fun z79 =>
  some (!z79))) : Option (Bool)).bind fun x75 =>
  if x75 = true then (
  some (.inr (.out (.inr ([], false))))) else (
  gd ((s56.2.length + 1) * 8 ≤ 140737488355328 ∧ s56.2.length + 1 ≤ 4611686018427387904) <|
  rloop (σ := (List Int)) (fun i92 s91 =>
  (ix x66.Data i92).bind fun x98 =>
  (ix s91 i92).bind fun x99 =>
  (F_impl_Group_mul a0 [x99, x98]).bind fun z100 =>
  some (.go (s91.set i92.toNat z100))) (fun s91 => .inl (s91, s56.2 ++ [x66.Author])) (x66.Data.length) 0 s56.1)))) : Option (((List Int) × (List Int)) ⊕ (Stp ((List Int) × (List Int)) (((List Int) × (List Int)) ⊕ ((List Int) × Bool))))).bind (Sum.elim (fun x65 =>
  some (.go (x65.1, x65.2))) some))) (fun s56 => .inl (s56.1, s56.2)) (a1.Entries.length) 0 (z3, []) : Option (((List Int) × (List Int)) ⊕ ((List Int) × Bool))).bind (Sum.elim (fun x6 =>
  if ((x6.2.length : Int) != z1.1.Trustees) = true then (
  some ([], false)) else (
  some (x6.1, true))) some)))
theorem c_impl_BoardCommits : ∀ {a0} {a1} {r}, F_impl_BoardCommits a0 a1 = some r → PCalls Tryz.prog 8 [(.sh, .agg [.int .i64 a0.P, .int .i64 a0.Q, .int .i64 a0.G]), (.sh, .agg [.sl false 1 (a1.Keys.map row_i64), .sl false 6 (a1.Entries.map row_Entry_z)])] (Eo (.tup [.sl true 1 (r.1.map row_i64), .bool r.2]) [.junk, .junk]) := by
  intro a0 a1 r hr
  apply pF 96 [] [] [] [.tmp 4, .tmp 5] hr cl8 Tryz.func8
  intro Φ hΦ hF g
  unfold F_impl_BoardCommits at hF
  try simp [go_sem, g]
  refine pw_wk ?_
  try simp [go_sem, g]
  refine pC hF [.sh, .sh] c_impl_OpeningOf (fun z1 hF => ?_)
  try simp [go_sem, g]
  refine pw_wkK [2, 3, 6, 7] (by simp [go_sem, g]; rfl) ?_
  try simp [go_sem, g]
  refine pw_wk ?_
  repeat rw [sq]
  refine pI hF (fun h2 hF => ?_) (fun h2 hF => ?_)
  ·cases hΦ _ (Rn_some hF)
   try simp [go_sem, g]
   refine pw_wk ?_
   try simp [go_sem, g]
  ·try simp [go_sem, g]
   refine pw_wk ?_
   try simp [go_sem, g]
   refine pC hF [.sh, .sh] c_slices_Repeat_int_int (fun z3 hF => ?_)
   try simp [go_sem, g]
   try intros
   refine pw_wk ?_
   try simp [go_sem, g]
   try intros
   refine pw_wkK [2, 6, 8, 9, 28, 29, 30] (by simp [go_sem, g]; rfl) ?_
   repeat rw [sq]
   refine pJs hF (fun x6 => [(6, .bl [.int .i64 z1.1.Ct.Kind, .int .i64 z1.1.Ct.Options, .int .i64 z1.1.Ct.Least, .int .i64 z1.1.Ct.Most, .int .i64 z1.1.Ct.Points, .int .i64 z1.1.Threshold, .int .i64 z1.1.Trustees, .int .i64 z1.1.Mixers, .int .i64 z1.1.Voters]), (8, .v (.sl true 1 (x6.1.map row_i64))), (9, .v (.sl true 1 (x6.2.map row_i64)))]) (fun x6 hF => ?_) fun _ hj4 hr5 hF => ?_
   ·try simp [go_sem, g]
    try intros
    refine pw_wk ?_
    repeat rw [sq]
    refine pI hF (fun h109 hF => ?_) (fun h109 hF => ?_)
    ·cases hΦ _ (Rn_some hF)
     try simp [go_sem, g]
     refine pw_wk ?_
     try simp [go_sem, g]
    ·cases hΦ _ (Rn_some hF)
     iterate 2 (try simp [go_sem, g]; refine pw_wk ?_)
     try simp [go_sem, g]
   ·repeat rw [sq]
    rw [pw_block]
    obtain ⟨b105, hb106, hψ60⟩ := hF
    refine pR hb106 (fun i57 s56 => [(2, .bl [.int .i64 a0.P, .int .i64 a0.Q, .int .i64 a0.G]), (6, .bl [.int .i64 z1.1.Ct.Kind, .int .i64 z1.1.Ct.Options, .int .i64 z1.1.Ct.Least, .int .i64 z1.1.Ct.Most, .int .i64 z1.1.Ct.Points, .int .i64 z1.1.Threshold, .int .i64 z1.1.Trustees, .int .i64 z1.1.Mixers, .int .i64 z1.1.Voters]), (8, .v (.sl true 1 (s56.1.map row_i64))), (9, .v (.sl true 1 (s56.2.map row_i64))), (28, .v (.sl false 6 (a1.Entries.map row_Entry_z))), (29, .v (.int .i64 (a1.Entries.length : Int))), (30, .v (.int .i64 i57))]) (fun s56 _ hN107 => ?_) (fun i57 s56 _ _ hi61 hi62 ho58 hg59 hF => ?_)
    ·subst hN107
     try simp [go_sem]
     refine pw_wk ?_
     repeat rw [sq]
     refine pw_cond_f (by simp [go_sem]) ?_
     try simp [go_sem]
     exact pT (hj4 (s56.1, s56.2)) hψ60 (by simp [go_sem])
    ·try simp [go_sem, g]
     refine pw_wk ?_
     repeat rw [sq]
     refine pw_cond_t (by simp [go_sem, g, hi61, hi62]) ?_
     try simp [go_sem, g]
     refine pw_wk ?_
     repeat rw [sq]
     refine pJs hF (fun x65 => [(2, .bl [.int .i64 a0.P, .int .i64 a0.Q, .int .i64 a0.G]), (6, .bl [.int .i64 z1.1.Ct.Kind, .int .i64 z1.1.Ct.Options, .int .i64 z1.1.Ct.Least, .int .i64 z1.1.Ct.Most, .int .i64 z1.1.Ct.Points, .int .i64 z1.1.Threshold, .int .i64 z1.1.Trustees, .int .i64 z1.1.Mixers, .int .i64 z1.1.Voters]), (8, .v (.sl true 1 (x65.1.map row_i64))), (9, .v (.sl true 1 (x65.2.map row_i64))), (28, .v (.sl false 6 (a1.Entries.map row_Entry_z))), (29, .v (.int .i64 (a1.Entries.length : Int))), (30, .v (.int .i64 i57))]) (fun x65 hF => ?_) fun _ hj63 hr64 hF => ?_
     ·try simp [go_sem, g]
      exact pT (hg59 (x65.1, x65.2)) (Rn_some hF) (by simp [go_sem, g, wr_i hi61 hi62 (by assumption)])
     ·repeat rw [sq]
      rw [pw_block]
      obtain ⟨x66, g, hF⟩ := Rx g hF
      try simp [go_sem, g]
      refine pw_wk ?_
      repeat rw [sq]
      refine pJ hF (fun x69 => [(2, .bl [.int .i64 a0.P, .int .i64 a0.Q, .int .i64 a0.G]), (6, .bl [.int .i64 z1.1.Ct.Kind, .int .i64 z1.1.Ct.Options, .int .i64 z1.1.Ct.Least, .int .i64 z1.1.Ct.Most, .int .i64 z1.1.Ct.Points, .int .i64 z1.1.Threshold, .int .i64 z1.1.Trustees, .int .i64 z1.1.Mixers, .int .i64 z1.1.Voters]), (8, .v (.sl true 1 (s56.1.map row_i64))), (9, .v (.sl true 1 (s56.2.map row_i64))), (11, .bl [.int .i64 x66.Kind, .int .i64 x66.Author, .sl false 1 (x66.Data.map row_i64), .sl false 1 (x66.Sign.Commits.map row_i64), .sl false 1 (x66.Sign.Challenges.map row_i64), .sl false 1 (x66.Sign.Responses.map row_i64)]), (28, .v (.sl false 6 (a1.Entries.map row_Entry_z))), (29, .v (.int .i64 (a1.Entries.length : Int))), (30, .v (.int .i64 i57)), (44, .v (.bool x69))]) (fun x69 hF => ?_) fun _ hj67 hF => ?_
      ·repeat rw [sq]
       refine pI hF (fun h72 hF => ?_) (fun h72 hF => ?_)
       ·try simp [go_sem, g]
        exact pT (hj63 (s56.1, s56.2)) (Rn_some hF)
       ·try simp [go_sem, g]
        refine pw_wk ?_
        repeat rw [sq]
        refine pJ hF (fun x75 => [(2, .bl [.int .i64 a0.P, .int .i64 a0.Q, .int .i64 a0.G]), (6, .bl [.int .i64 z1.1.Ct.Kind, .int .i64 z1.1.Ct.Options, .int .i64 z1.1.Ct.Least, .int .i64 z1.1.Ct.Most, .int .i64 z1.1.Ct.Points, .int .i64 z1.1.Threshold, .int .i64 z1.1.Trustees, .int .i64 z1.1.Mixers, .int .i64 z1.1.Voters]), (8, .v (.sl true 1 (s56.1.map row_i64))), (9, .v (.sl true 1 (s56.2.map row_i64))), (11, .bl [.int .i64 x66.Kind, .int .i64 x66.Author, .sl false 1 (x66.Data.map row_i64), .sl false 1 (x66.Sign.Commits.map row_i64), .sl false 1 (x66.Sign.Challenges.map row_i64), .sl false 1 (x66.Sign.Responses.map row_i64)]), (28, .v (.sl false 6 (a1.Entries.map row_Entry_z))), (29, .v (.int .i64 (a1.Entries.length : Int))), (30, .v (.int .i64 i57)), (63, .v (.bool x75))]) (fun x75 hF => ?_) fun _ hj73 hF => ?_
        ·repeat rw [sq]
         refine pI hF (fun h80 hF => ?_) (fun h80 hF => ?_)
         ·cases ho58 _ (hr64 _ (Rn_some hF))
          cases hΦ _ (hr5 _ hψ60)
          try simp [go_sem, g]
          refine pw_wk ?_
          try simp [go_sem, g]
         ·obtain ⟨g, hF⟩ := Rg g hF
          try simp [go_sem, g]
          refine pw_wk ?_
          try simp [go_sem, g]
          refine pw_wkK [2, 6, 8, 9, 11, 28, 29, 30] (by simp [go_sem, g]; rfl) ?_
          try simp [go_sem, g]
          try intros
          refine pw_wk ?_
          repeat rw [sq]
          rw [pw_block]
          obtain ⟨b101, hb102, hψ95⟩ := hF
          refine pR hb102 (fun i92 s91 => [(2, .bl [.int .i64 a0.P, .int .i64 a0.Q, .int .i64 a0.G]), (6, .bl [.int .i64 z1.1.Ct.Kind, .int .i64 z1.1.Ct.Options, .int .i64 z1.1.Ct.Least, .int .i64 z1.1.Ct.Most, .int .i64 z1.1.Ct.Points, .int .i64 z1.1.Threshold, .int .i64 z1.1.Trustees, .int .i64 z1.1.Mixers, .int .i64 z1.1.Voters]), (8, .v (.sl true 1 (s91.map row_i64))), (9, .v (.sl true 1 ((s56.2 ++ [x66.Author]).map row_i64))), (28, .v (.sl false 6 (a1.Entries.map row_Entry_z))), (29, .v (.int .i64 (a1.Entries.length : Int))), (30, .v (.int .i64 i57)), (70, .v (.sl false 1 (x66.Data.map row_i64))), (71, .v (.int .i64 (x66.Data.length : Int))), (72, .v (.int .i64 i92))]) (fun s91 _ hN103 => ?_) (fun i92 s91 _ _ hi96 hi97 ho93 hg94 hF => ?_)
          ·subst hN103
           try simp [go_sem]
           refine pw_wk ?_
           repeat rw [sq]
           refine pw_cond_f (by simp [go_sem]) ?_
           try simp [go_sem]
           exact pT (hj63 (s91, s56.2 ++ [x66.Author])) hψ95 (by simp [go_sem])
          ·try simp [go_sem, g]
           refine pw_wk ?_
           repeat rw [sq]
           refine pw_cond_t (by simp [go_sem, g, hi96, hi97]) ?_
           try simp [go_sem, g]
           refine pw_wk ?_
           repeat rw [sq]
           rw [pw_block]
           obtain ⟨x98, g, hF⟩ := Rx g hF
           try simp [go_sem, g]
           refine pw_wkK [2, 6, 8, 9, 12, 13, 28, 29, 30, 70, 71, 72] (by simp [go_sem, g]; rfl) ?_
           repeat rw [sq]
           refine pw_draw D8_15 follows (by kernel_rfl) rfl ?_
           try simp only [go_sem, D8_15]
           obtain ⟨x99, g, hF⟩ := Rx g hF
           try simp [go_sem, g]
           refine pC hF [.sh, .sh] c_impl_Group_mul (fun z100 hF => ?_)
           try simp [go_sem, g]
           refine pw_wkK [2, 6, 8, 9, 28, 29, 30, 70, 71, 72] (by simp [go_sem, g]; rfl) ?_
           try simp [go_sem, g]
           exact pT (hg94 (s91.set i92.toNat z100)) (Rn_some hF) (by simp [go_sem, g, wr_i hi96 hi97 (by assumption)])
        ·try simp [go_sem, g]
         refine pC hF [.sh, .sh] c_slices_Contains_int_int (fun z76 hF => ?_)
         try simp [go_sem, g]
         refine pwg_F hF (fun h77 hF => ?_) fun h77 hF => ?_
         ·try simp [go_sem, g, h77]
          exact pT (hj73 true) (Rn_some hF)
         ·try simp [go_sem, g, h77]
          try intros
          refine pwg_F hF (fun h78 hF => ?_) fun h78 hF => ?_
          ·try simp [go_sem, g, h78]
           exact pT (hj73 true) (Rn_some hF)
          ·try simp [go_sem, g, h78]
           refine pC hF [.sh, .sh] c_impl_Group_hasAll (fun z79 hF => ?_)
           try simp [go_sem, g, h78]
           exact pT (hj73 (!z79)) (Rn_some hF)
      ·try simp [go_sem, g]
       refine pwg_F hF (fun h70 hF => ?_) fun h70 hF => ?_
       ·try simp [go_sem, g, h70]
        exact pT (hj67 true) (Rn_some hF)
       ·try simp [go_sem, g, h70]
        refine pC hF [.sh, .sh, .sh] c_impl_within (fun z71 hF => ?_)
        try simp [go_sem, g, h70]
        exact pT (hj67 (!z71)) (Rn_some hF)
def D9_6 : List DE := [d0 0 [0], d0 1 [5], d0 2 [17, 18], d0 3 [19], d0 4 [1], d0 5 [5], d0 6 [21, 22], d0 7 [23], d0 8 [20, 24]]
noncomputable def F_laws_eqIntS (a0 : (List Int)) (a1 : (List Int)) : Option (Bool) :=
  if ((a0.length : Int) != (a1.length : Int)) = true then (
  some false) else (
  ((wloop (σ := Int) (fun s5 =>
  if decide (s5 < (a0.length : Int)) = true then (
  (ix a0 s5).bind fun x11 =>
  (ix a1 s5).bind fun x12 =>
  if (x11 != x12) = true then (
  some (.out (.inr false))) else (
  some (.go (i64.wrap (s5 + 1))))) else (
  some (.out (.inl ())))) 0 : Option (Unit ⊕ Bool)).bind (Sum.elim (fun x4 =>
  some true) some)))
theorem c_laws_eqIntS : ∀ {a0} {a1} {r}, F_laws_eqIntS a0 a1 = some r → PCalls Tryz.prog 9 [(.sh, .sl false 1 (a0.map row_i64)), (.sh, .sl false 1 (a1.map row_i64))] (Eo (.bool r) [.junk, .junk]) := by
  intro a0 a1 r hr
  apply pF 26 [] [] [] [.tmp 4] hr cl9 Tryz.func9
  intro Φ hΦ hF g
  unfold F_laws_eqIntS at hF
  iterate 2 (try simp [go_sem, g]; try intros; refine pw_wk ?_)
  repeat rw [sq]
  refine pI hF (fun h1 hF => ?_) (fun h1 hF => ?_)
  ·cases hΦ _ (Rn_some hF)
   try simp [go_sem, g]
   refine pw_wk ?_
   try simp [go_sem, g]
  ·iterate 2 (try simp [go_sem, g]; refine pw_wk ?_)
   repeat rw [sq]
   refine pJs hF (fun x4 => []) (fun x4 hF => ?_) fun _ hj2 hr3 hF => ?_
   ·cases hΦ _ (Rn_some hF)
    try simp [go_sem, g]
    refine pw_wk ?_
    try simp [go_sem, g]
   ·repeat rw [sq]
    rw [pw_block]
    obtain ⟨b14, hb15, hψ9⟩ := hF
    refine pL hb15 (fun s5 => [(0, .v (.sl false 1 (a0.map row_i64))), (1, .v (.sl false 1 (a1.map row_i64))), (5, .v (.int .i64 s5))]) (fun s5 _ _ ho7 hg8 hF => ?_)
    try simp [go_sem, g]
    try intros
    refine pw_wkK [0, 1, 5, 14] (by simp [go_sem, g]; rfl) ?_
    repeat rw [sq]
    refine pI hF (fun h10 hF => ?_) (fun h10 hF => ?_)
    ·try simp [go_sem, g]
     refine pw_wk ?_
     repeat rw [sq]
     rw [pw_block]
     repeat rw [sq]
     refine pw_draw D9_6 follows (by kernel_rfl) rfl ?_
     try simp only [go_sem, D9_6]
     obtain ⟨x11, g, hF⟩ := Rx g hF
     obtain ⟨x12, g, hF⟩ := Rx g hF
     try simp [go_sem, g]
     refine pw_wk ?_
     repeat rw [sq]
     refine pI hF (fun h13 hF => ?_) (fun h13 hF => ?_)
     ·try simp [go_sem, g]
      refine pw_wkK [4] (by simp [go_sem, g]; rfl) ?_
      cases ho7 _ (Rn_some hF)
      cases hΦ _ (hr3 _ hψ9)
      try simp [go_sem, g]
     ·try simp [go_sem, g]
      refine pw_wk ?_
      try simp [go_sem, g]
      exact pT (hg8 (i64.wrap (s5 + 1))) (Rn_some hF)
    ·try simp [go_sem, g]
     cases ho7 _ (Rn_some hF)
     exact pT (hj2 ()) hψ9
noncomputable def F_laws_eqProof (a0 : Proof) (a1 : Proof) : Option (Bool) :=
  (F_laws_eqIntS a0.Commits a1.Commits).bind fun z1 =>
  if (!z1) = true then (
  some false) else (
  (F_laws_eqIntS a0.Challenges a1.Challenges).bind fun z3 =>
  if (!z3) = true then (
  some false) else (
  (F_laws_eqIntS a0.Responses a1.Responses).bind fun z5 =>
  if (!z5) = true then (
  some false) else (
  some true)))
theorem c_laws_eqProof : ∀ {a0} {a1} {r}, F_laws_eqProof a0 a1 = some r → PCalls Tryz.prog 59 [(.sh, .agg [.sl false 1 (a0.Commits.map row_i64), .sl false 1 (a0.Challenges.map row_i64), .sl false 1 (a0.Responses.map row_i64)]), (.sh, .agg [.sl false 1 (a1.Commits.map row_i64), .sl false 1 (a1.Challenges.map row_i64), .sl false 1 (a1.Responses.map row_i64)])] (Eo (.bool r) [.junk, .junk]) := by
  intro a0 a1 r hr
  apply pF 23 [] [] [] [.tmp 4] hr cl59 Tryz.func59
  intro Φ hΦ hF g
  unfold F_laws_eqProof at hF
  try simp [go_sem, g]
  refine pw_wk ?_
  try simp [go_sem, g]
  refine pC hF [.sh, .sh] c_laws_eqIntS (fun z1 hF => ?_)
  try simp [go_sem, g]
  refine pw_wk ?_
  repeat rw [sq]
  refine pI hF (fun h2 hF => ?_) (fun h2 hF => ?_)
  ·try simp [go_sem, g]
   refine pw_wkK [4] (by simp [go_sem, g]; rfl) ?_
   cases hΦ _ (Rn_some hF)
   try simp [go_sem, g]
  ·try simp [go_sem, g]
   refine pw_wk ?_
   try simp [go_sem, g]
   refine pC hF [.sh, .sh] c_laws_eqIntS (fun z3 hF => ?_)
   try simp [go_sem, g]
   refine pw_wkK [2, 3, 16] (by simp [go_sem, g]; rfl) ?_
   repeat rw [sq]
   refine pI hF (fun h4 hF => ?_) (fun h4 hF => ?_)
   ·cases hΦ _ (Rn_some hF)
    try simp [go_sem, g]
    refine pw_wk ?_
    try simp [go_sem, g]
   ·try simp [go_sem, g]
    refine pw_wk ?_
    try simp [go_sem, g]
    refine pC hF [.sh, .sh] c_laws_eqIntS (fun z5 hF => ?_)
    try simp [go_sem, g]
    refine pw_wk ?_
    repeat rw [sq]
    refine pI hF (fun h6 hF => ?_) (fun h6 hF => ?_)
    ·cases hΦ _ (Rn_some hF)
     try simp [go_sem, g]
     refine pw_wk ?_
     try simp [go_sem, g]
    ·cases hΦ _ (Rn_some hF)
     iterate 2 (try simp [go_sem, g]; refine pw_wk ?_)
     try simp [go_sem, g]
noncomputable def F_laws_eqEntry (a0 : Entry) (a1 : Entry) : Option (Bool) :=
  if (a0.Kind != a1.Kind) = true then (
  some false) else (
  if (a0.Author != a1.Author) = true then (
  some false) else (
  (F_laws_eqIntS a0.Data a1.Data).bind fun z3 =>
  if (!z3) = true then (
  some false) else (
  (F_laws_eqProof a0.Sign a1.Sign).bind fun z5 =>
  if (!z5) = true then (
  some false) else (
  some true))))
theorem c_laws_eqEntry : ∀ {a0} {a1} {r}, F_laws_eqEntry a0 a1 = some r → PCalls Tryz.prog 37 [(.sh, .agg [.int .i64 a0.Kind, .int .i64 a0.Author, .sl false 1 (a0.Data.map row_i64), .sl false 1 (a0.Sign.Commits.map row_i64), .sl false 1 (a0.Sign.Challenges.map row_i64), .sl false 1 (a0.Sign.Responses.map row_i64)]), (.sh, .agg [.int .i64 a1.Kind, .int .i64 a1.Author, .sl false 1 (a1.Data.map row_i64), .sl false 1 (a1.Sign.Commits.map row_i64), .sl false 1 (a1.Sign.Challenges.map row_i64), .sl false 1 (a1.Sign.Responses.map row_i64)])] (Eo (.bool r) [.junk, .junk]) := by
  intro a0 a1 r hr
  apply pF 27 [] [] [] [.tmp 4] hr cl37 Tryz.func37
  intro Φ hΦ hF g
  unfold F_laws_eqEntry at hF
  iterate 2 (try simp [go_sem, g]; refine pw_wk ?_)
  repeat rw [sq]
  refine pI hF (fun h1 hF => ?_) (fun h1 hF => ?_)
  ·cases hΦ _ (Rn_some hF)
   try simp [go_sem, g]
   refine pw_wk ?_
   try simp [go_sem, g]
  ·try simp [go_sem, g]
   refine pw_wk ?_
   try simp [go_sem, g]
   refine pw_wkK [2, 3, 14] (by simp [go_sem, g]; rfl) ?_
   repeat rw [sq]
   refine pI hF (fun h2 hF => ?_) (fun h2 hF => ?_)
   ·cases hΦ _ (Rn_some hF)
    try simp [go_sem, g]
    refine pw_wk ?_
    try simp [go_sem, g]
   ·try simp [go_sem, g]
    refine pw_wk ?_
    try simp [go_sem, g]
    refine pC hF [.sh, .sh] c_laws_eqIntS (fun z3 hF => ?_)
    try simp [go_sem, g]
    refine pw_wk ?_
    repeat rw [sq]
    refine pI hF (fun h4 hF => ?_) (fun h4 hF => ?_)
    ·cases hΦ _ (Rn_some hF)
     try simp [go_sem, g]
     refine pw_wk ?_
     try simp [go_sem, g]
    ·try simp [go_sem, g]
     refine pw_wk ?_
     try simp [go_sem, g]
     refine pC hF [.sh, .sh] c_laws_eqProof (fun z5 hF => ?_)
     try simp [go_sem, g]
     refine pw_wkK [26] (by simp [go_sem, g]; rfl) ?_
     repeat rw [sq]
     refine pI hF (fun h6 hF => ?_) (fun h6 hF => ?_)
     ·cases hΦ _ (Rn_some hF)
      try simp [go_sem, g]
      refine pw_wk ?_
      try simp [go_sem, g]
     ·cases hΦ _ (Rn_some hF)
      iterate 2 (try simp [go_sem, g]; refine pw_wk ?_)
      try simp [go_sem, g]
def D25_6 : List DE := [d0 0 [0], d0 1 [5], d0 2 [17, 18], d0 3 [19], d0 4 [1], d0 5 [5], d0 6 [21, 22], d0 7 [23], d3 8 [20, 24], d0 9 [25]]
noncomputable def F_laws_eqEntryS (a0 : (List Entry)) (a1 : (List Entry)) : Option (Bool) :=
  if ((a0.length : Int) != (a1.length : Int)) = true then (
  some false) else (
  ((wloop (σ := Int) (fun s5 =>
  if decide (s5 < (a0.length : Int)) = true then (
  (ix a0 s5).bind fun x11 =>
  (ix a1 s5).bind fun x12 =>
  (F_laws_eqEntry x11 x12).bind fun z13 =>
  if (!z13) = true then (
  some (.out (.inr false))) else (
  some (.go (i64.wrap (s5 + 1))))) else (
  some (.out (.inl ())))) 0 : Option (Unit ⊕ Bool)).bind (Sum.elim (fun x4 =>
  some true) some)))
theorem c_laws_eqEntryS : ∀ {a0} {a1} {r}, F_laws_eqEntryS a0 a1 = some r → PCalls Tryz.prog 25 [(.sh, .sl false 6 (a0.map row_Entry_z)), (.sh, .sl false 6 (a1.map row_Entry_z))] (Eo (.bool r) [.junk, .junk]) := by
  intro a0 a1 r hr
  apply pF 27 [] [] [] [.tmp 4] hr cl25 Tryz.func25
  intro Φ hΦ hF g
  unfold F_laws_eqEntryS at hF
  iterate 2 (try simp [go_sem, g]; try intros; refine pw_wk ?_)
  repeat rw [sq]
  refine pI hF (fun h1 hF => ?_) (fun h1 hF => ?_)
  ·cases hΦ _ (Rn_some hF)
   try simp [go_sem, g]
   refine pw_wk ?_
   try simp [go_sem, g]
  ·iterate 2 (try simp [go_sem, g]; refine pw_wk ?_)
   repeat rw [sq]
   refine pJs hF (fun x4 => []) (fun x4 hF => ?_) fun _ hj2 hr3 hF => ?_
   ·cases hΦ _ (Rn_some hF)
    try simp [go_sem, g]
    refine pw_wk ?_
    try simp [go_sem, g]
   ·repeat rw [sq]
    rw [pw_block]
    obtain ⟨b15, hb16, hψ9⟩ := hF
    refine pL hb16 (fun s5 => [(0, .v (.sl false 6 (a0.map row_Entry_z))), (1, .v (.sl false 6 (a1.map row_Entry_z))), (5, .v (.int .i64 s5))]) (fun s5 _ _ ho7 hg8 hF => ?_)
    try simp [go_sem, g]
    try intros
    refine pw_wkK [0, 1, 5, 14] (by simp [go_sem, g]; rfl) ?_
    repeat rw [sq]
    refine pI hF (fun h10 hF => ?_) (fun h10 hF => ?_)
    ·try simp [go_sem, g]
     refine pw_wk ?_
     repeat rw [sq]
     rw [pw_block]
     repeat rw [sq]
     refine pw_draw D25_6 follows (by kernel_rfl) rfl ?_
     try simp only [go_sem, D25_6]
     obtain ⟨x11, g, hF⟩ := Rx g hF
     obtain ⟨x12, g, hF⟩ := Rx g hF
     try simp [go_sem, g]
     refine pC hF [.sh, .sh] c_laws_eqEntry (fun z13 hF => ?_)
     try simp [go_sem, g]
     refine pw_wkK [0, 1, 5, 26] (by simp [go_sem, g]; rfl) ?_
     repeat rw [sq]
     refine pI hF (fun h14 hF => ?_) (fun h14 hF => ?_)
     ·cases ho7 _ (Rn_some hF)
      cases hΦ _ (hr3 _ hψ9)
      try simp [go_sem, g]
      refine pw_wk ?_
      try simp [go_sem, g]
     ·try simp [go_sem, g]
      refine pw_wk ?_
      try simp [go_sem, g]
      exact pT (hg8 (i64.wrap (s5 + 1))) (Rn_some hF)
    ·try simp [go_sem, g]
     cases ho7 _ (Rn_some hF)
     exact pT (hj2 ()) hψ9
noncomputable def F_laws_eqBoard (a0 : Board) (a1 : Board) : Option (Bool) :=
  (F_laws_eqIntS a0.Keys a1.Keys).bind fun z1 =>
  if (!z1) = true then (
  some false) else (
  (F_laws_eqEntryS a0.Entries a1.Entries).bind fun z3 =>
  if (!z3) = true then (
  some false) else (
  some true))
theorem c_laws_eqBoard : ∀ {a0} {a1} {r}, F_laws_eqBoard a0 a1 = some r → PCalls Tryz.prog 10 [(.sh, .agg [.sl false 1 (a0.Keys.map row_i64), .sl false 6 (a0.Entries.map row_Entry_z)]), (.sh, .agg [.sl false 1 (a1.Keys.map row_i64), .sl false 6 (a1.Entries.map row_Entry_z)])] (Eo (.bool r) [.junk, .junk]) := by
  intro a0 a1 r hr
  apply pF 17 [] [] [] [.tmp 4] hr cl10 Tryz.func10
  intro Φ hΦ hF g
  unfold F_laws_eqBoard at hF
  try simp [go_sem, g]
  refine pw_wk ?_
  try simp [go_sem, g]
  refine pC hF [.sh, .sh] c_laws_eqIntS (fun z1 hF => ?_)
  try simp [go_sem, g]
  refine pw_wk ?_
  repeat rw [sq]
  refine pI hF (fun h2 hF => ?_) (fun h2 hF => ?_)
  ·try simp [go_sem, g]
   refine pw_wkK [4] (by simp [go_sem, g]; rfl) ?_
   cases hΦ _ (Rn_some hF)
   try simp [go_sem, g]
  ·try simp [go_sem, g]
   refine pw_wk ?_
   try simp [go_sem, g]
   refine pC hF [.sh, .sh] c_laws_eqEntryS (fun z3 hF => ?_)
   try simp [go_sem, g]
   refine pw_wkK [16] (by simp [go_sem, g]; rfl) ?_
   repeat rw [sq]
   refine pI hF (fun h4 hF => ?_) (fun h4 hF => ?_)
   ·cases hΦ _ (Rn_some hF)
    try simp [go_sem, g]
    refine pw_wk ?_
    try simp [go_sem, g]
   ·cases hΦ _ (Rn_some hF)
    iterate 2 (try simp [go_sem, g]; refine pw_wk ?_)
    try simp [go_sem, g]
noncomputable def F_laws_markIntS__io0 (a0 : (List Int)) (a1 : Int) : Option (Int × (List Int)) :=
  ((wloop (σ := (List Int) × Int × Int) (fun s11 =>
  if decide (s11.2.2 < (s11.1.length : Int)) = true then (
  (ix s11.1 s11.2.2).bind fun x17 =>
  some (.go (s11.1.set s11.2.2.toNat s11.2.1, i64.wrap (s11.2.1 + 1), i64.wrap (s11.2.2 + 1)))) else (
  some (.out (s11.1, s11.2.1)))) (a0, a1, 0) : Option (((List Int) × Int))).bind fun x3 =>
  some (x3.2, x3.1))
theorem c_laws_markIntS__io0 : ∀ {a0} {a1} {r}, F_laws_markIntS__io0 a0 a1 = some r → PCalls Tryz.prog 12 [(.io, .sl true 1 (a0.map row_i64)), (.sh, .int .i64 a1)] (Eo (.int .i64 r.1) [.sl true 1 (r.2.map row_i64), .junk]) := by
  intro a0 a1 r hr
  apply pF 19 [0] [] [] [.tmp 4] hr cl12 Tryz.func12
  intro Φ hΦ hF g
  unfold F_laws_markIntS__io0 at hF
  iterate 2 (try simp [go_sem, g]; refine pw_wk ?_)
  repeat rw [sq]
  refine pJ hF (fun x3 => [(0, .v (.sl true 1 (x3.1.map row_i64))), (1, .v (.int .i64 x3.2))]) (fun x3 hF => ?_) fun _ hj1 hF => ?_
  ·cases hΦ _ (Rn_some hF)
   try simp [go_sem, g]
   refine pw_wk ?_
   try simp [go_sem, g]
  ·repeat rw [sq]
   rw [pw_block]
   obtain ⟨b18, hb19, hψ15⟩ := hF
   refine pL hb19 (fun s11 => [(0, .v (.sl true 1 (s11.1.map row_i64))), (1, .v (.int .i64 s11.2.1)), (5, .v (.int .i64 s11.2.2))]) (fun s11 _ _ ho13 hg14 hF => ?_)
   try simp [go_sem, g]
   try intros
   refine pw_wk ?_
   repeat rw [sq]
   refine pI hF (fun h16 hF => ?_) (fun h16 hF => ?_)
   ·try simp [go_sem, g]
    refine pw_wk ?_
    repeat rw [sq]
    rw [pw_block]
    obtain ⟨x17, g, hF⟩ := Rx g hF
    try simp [go_sem, g]
    refine pw_wkK [0, 1, 5] (by simp [go_sem, g]; rfl) ?_
    try simp [go_sem, g]
    refine pw_wk ?_
    try simp [go_sem, g]
    exact pT (hg14 (s11.1.set s11.2.2.toNat s11.2.1, i64.wrap (s11.2.1 + 1), i64.wrap (s11.2.2 + 1))) (Rn_some hF)
   ·try simp [go_sem, g]
    cases ho13 _ (Rn_some hF)
    exact pT (hj1 (s11.1, s11.2.1)) hψ15
noncomputable def F_laws_markEntryS__io0 (a0 : (List Entry)) (a1 : Int) : Option (Int × (List Entry)) :=
  ((wloop (σ := (List Entry) × Int × Int) (fun s15 =>
  if decide (s15.2.2 < (s15.1.length : Int)) = true then (
  (ix s15.1 s15.2.2).bind fun x21 =>
  (F_laws_markIntS__io0 x21.Data (i64.wrap ((i64.wrap (s15.2.1 + 1)) + 1))).bind fun z22 =>
  (F_laws_markIntS__io0 x21.Sign.Commits z22.1).bind fun z23 =>
  (F_laws_markIntS__io0 x21.Sign.Challenges z23.1).bind fun z24 =>
  (F_laws_markIntS__io0 x21.Sign.Responses z24.1).bind fun z25 =>
  some (.go ((((((s15.1.set s15.2.2.toNat (Entry.mk s15.2.1 x21.Author x21.Data x21.Sign)).set s15.2.2.toNat (Entry.mk s15.2.1 (i64.wrap (s15.2.1 + 1)) x21.Data x21.Sign)).set s15.2.2.toNat (Entry.mk s15.2.1 (i64.wrap (s15.2.1 + 1)) z22.2 x21.Sign)).set s15.2.2.toNat (Entry.mk s15.2.1 (i64.wrap (s15.2.1 + 1)) z22.2 (Proof.mk z23.2 x21.Sign.Challenges x21.Sign.Responses))).set s15.2.2.toNat (Entry.mk s15.2.1 (i64.wrap (s15.2.1 + 1)) z22.2 (Proof.mk z23.2 z24.2 x21.Sign.Responses))).set s15.2.2.toNat (Entry.mk s15.2.1 (i64.wrap (s15.2.1 + 1)) z22.2 (Proof.mk z23.2 z24.2 z25.2)), z25.1, i64.wrap (s15.2.2 + 1)))) else (
  some (.out (s15.1, s15.2.1)))) (a0, a1, 0) : Option (((List Entry) × Int))).bind fun x3 =>
  some (x3.2, x3.1))
theorem c_laws_markEntryS__io0 : ∀ {a0} {a1} {r}, F_laws_markEntryS__io0 a0 a1 = some r → PCalls Tryz.prog 26 [(.io, .sl true 6 (a0.map row_Entry_o)), (.sh, .int .i64 a1)] (Eo (.int .i64 r.1) [.sl true 6 (r.2.map row_Entry_o), .junk]) := by
  intro a0 a1 r hr
  apply pF 58 [0] [] [] [.tmp 4] hr cl26 Tryz.func26
  intro Φ hΦ hF g
  unfold F_laws_markEntryS__io0 at hF
  iterate 2 (try simp [go_sem, g]; refine pw_wk ?_)
  repeat rw [sq]
  refine pJ hF (fun x3 => [(0, .v (.sl true 6 (x3.1.map row_Entry_o))), (1, .v (.int .i64 x3.2))]) (fun x3 hF => ?_) fun _ hj1 hF => ?_
  ·cases hΦ _ (Rn_some hF)
   try simp [go_sem, g]
   refine pw_wk ?_
   try simp [go_sem, g]
  ·repeat rw [sq]
   rw [pw_block]
   obtain ⟨b26, hb27, hψ19⟩ := hF
   refine pL hb27 (fun s15 => [(0, .v (.sl true 6 (s15.1.map row_Entry_o))), (1, .v (.int .i64 s15.2.1)), (5, .v (.int .i64 s15.2.2))]) (fun s15 _ _ ho17 hg18 hF => ?_)
   try simp [go_sem, g]
   try intros
   refine pw_wk ?_
   repeat rw [sq]
   refine pI hF (fun h20 hF => ?_) (fun h20 hF => ?_)
   ·try simp [go_sem, g]
    refine pw_wk ?_
    repeat rw [sq]
    rw [pw_block]
    obtain ⟨x21, g, hF⟩ := Rx g hF
    try simp [go_sem, g]
    refine pw_wkK [0, 1, 5] (by simp [go_sem, g]; rfl) ?_
    iterate 2 (try simp [go_sem, g]; refine pw_wk ?_)
    try simp [go_sem, g]
    refine pw_wkK [0, 1, 5] (by simp [go_sem, g]; rfl) ?_
    try simp [go_sem, g]
    refine pC hF [.io, .sh] c_laws_markIntS__io0 (fun z22 hF => ?_)
    try simp [go_sem, g]
    refine pw_wk ?_
    try simp [go_sem, g]
    refine pC hF [.io, .sh] c_laws_markIntS__io0 (fun z23 hF => ?_)
    try simp [go_sem, g]
    refine pw_wkK [0, 1, 5] (by simp [go_sem, g]; rfl) ?_
    try simp [go_sem, g]
    refine pC hF [.io, .sh] c_laws_markIntS__io0 (fun z24 hF => ?_)
    try simp [go_sem, g]
    refine pw_wk ?_
    try simp [go_sem, g]
    refine pC hF [.io, .sh] c_laws_markIntS__io0 (fun z25 hF => ?_)
    try simp [go_sem, g]
    refine pw_wkK [0, 1, 5] (by simp [go_sem, g]; rfl) ?_
    try simp [go_sem, g]
    exact pT (hg18 ((((((s15.1.set s15.2.2.toNat (Entry.mk s15.2.1 x21.Author x21.Data x21.Sign)).set s15.2.2.toNat (Entry.mk s15.2.1 (i64.wrap (s15.2.1 + 1)) x21.Data x21.Sign)).set s15.2.2.toNat (Entry.mk s15.2.1 (i64.wrap (s15.2.1 + 1)) z22.2 x21.Sign)).set s15.2.2.toNat (Entry.mk s15.2.1 (i64.wrap (s15.2.1 + 1)) z22.2 (Proof.mk z23.2 x21.Sign.Challenges x21.Sign.Responses))).set s15.2.2.toNat (Entry.mk s15.2.1 (i64.wrap (s15.2.1 + 1)) z22.2 (Proof.mk z23.2 z24.2 x21.Sign.Responses))).set s15.2.2.toNat (Entry.mk s15.2.1 (i64.wrap (s15.2.1 + 1)) z22.2 (Proof.mk z23.2 z24.2 z25.2)), z25.1, i64.wrap (s15.2.2 + 1))) (Rn_some hF)
   ·try simp [go_sem, g]
    cases ho17 _ (Rn_some hF)
    exact pT (hj1 (s15.1, s15.2.1)) hψ19
noncomputable def F_laws_markBoard__mv0 (a0 : Board) (a1 : Int) : Option (Int) :=
  (F_laws_markIntS__io0 a0.Keys a1).bind fun z1 =>
  (F_laws_markEntryS__io0 a0.Entries z1.1).bind fun z2 =>
  some z2.1
theorem c_laws_markBoard__mv0 : ∀ {a0} {a1} {r}, F_laws_markBoard__mv0 a0 a1 = some r → PCalls Tryz.prog 11 [(.mv, .agg [.sl true 1 (a0.Keys.map row_i64), .sl true 6 (a0.Entries.map row_Entry_o)]), (.sh, .int .i64 a1)] (Eo (.int .i64 r) [.junk, .junk]) := by
  intro a0 a1 r hr
  apply pF 14 [] [] [] [.tmp 4] hr cl11 Tryz.func11
  intro Φ hΦ hF g
  unfold F_laws_markBoard__mv0 at hF
  try simp [go_sem, g]
  refine pw_wk ?_
  try simp [go_sem, g]
  refine pC hF [.io, .sh] c_laws_markIntS__io0 (fun z1 hF => ?_)
  try simp [go_sem, g]
  refine pw_wk ?_
  try simp [go_sem, g]
  refine pC hF [.io, .sh] c_laws_markEntryS__io0 (fun z2 hF => ?_)
  try simp [go_sem, g]
  refine pw_wkK [1] (by simp [go_sem, g]; rfl) ?_
  cases hΦ _ (Rn_some hF)
  try simp [go_sem, g]
  refine pw_wk ?_
  try simp [go_sem, g]
noncomputable def F_laws_heldIntS (a0 : (List Int)) (a1 : Int) : Option (Int) :=
  ((wloop (σ := Int × Int) (fun s4 =>
  if decide (s4.2 < (a0.length : Int)) = true then (
  (ix a0 s4.2).bind fun x10 =>
  if (x10 != s4.1) = true then (
  some (.out (.inr (-1)))) else (
  some (.go (i64.wrap (s4.1 + 1), i64.wrap (s4.2 + 1))))) else (
  some (.out (.inl s4.1)))) (a1, 0) : Option (Int ⊕ Int)).bind (Sum.elim (fun x3 =>
  some x3) some))
theorem c_laws_heldIntS : ∀ {a0} {a1} {r}, F_laws_heldIntS a0 a1 = some r → PCalls Tryz.prog 13 [(.sh, .sl false 1 (a0.map row_i64)), (.sh, .int .i64 a1)] (Eo (.int .i64 r) [.junk, .junk]) := by
  intro a0 a1 r hr
  apply pF 21 [] [] [] [.tmp 4] hr cl13 Tryz.func13
  intro Φ hΦ hF g
  unfold F_laws_heldIntS at hF
  iterate 2 (try simp [go_sem, g]; refine pw_wk ?_)
  repeat rw [sq]
  refine pJs hF (fun x3 => [(1, .v (.int .i64 x3))]) (fun x3 hF => ?_) fun _ hj1 hr2 hF => ?_
  ·cases hΦ _ (Rn_some hF)
   try simp [go_sem, g]
   refine pw_wk ?_
   try simp [go_sem, g]
  ·repeat rw [sq]
   rw [pw_block]
   obtain ⟨b12, hb13, hψ8⟩ := hF
   refine pL hb13 (fun s4 => [(0, .v (.sl false 1 (a0.map row_i64))), (1, .v (.int .i64 s4.1)), (5, .v (.int .i64 s4.2))]) (fun s4 _ _ ho6 hg7 hF => ?_)
   try simp [go_sem, g]
   try intros
   refine pw_wk ?_
   repeat rw [sq]
   refine pI hF (fun h9 hF => ?_) (fun h9 hF => ?_)
   ·try simp [go_sem, g]
    refine pw_wk ?_
    repeat rw [sq]
    rw [pw_block]
    obtain ⟨x10, g, hF⟩ := Rx g hF
    try simp [go_sem, g]
    refine pw_wkK [0, 1, 5, 17] (by simp [go_sem, g]; rfl) ?_
    repeat rw [sq]
    refine pI hF (fun h11 hF => ?_) (fun h11 hF => ?_)
    ·cases ho6 _ (Rn_some hF)
     cases hΦ _ (hr2 _ hψ8)
     try simp [go_sem, g]
     refine pw_wk ?_
     try simp [go_sem, g]
    ·iterate 2 (try simp [go_sem, g]; refine pw_wk ?_)
     try simp [go_sem, g]
     exact pT (hg7 (i64.wrap (s4.1 + 1), i64.wrap (s4.2 + 1))) (Rn_some hF)
   ·try simp [go_sem, g]
    cases ho6 _ (Rn_some hF)
    exact pT (hj1 s4.1) hψ8
def D3_10 : List DE := [d2 0 [8] 8 8, d2 1 [3] 3 3, d3 2 [48], d3 3 [47, 49], d0 4 [50]]
def D3_24 : List DE := [d2 0 [2] 2 2, d2 2 [3] 3 3, d3 1 [80], d3 3 [82], d3 4 [81, 83], d0 5 [84], d0 6 [79], d0 7 [79], d0 8 [85], d0 9 [86]]
def D3_5 : List DE := [d2 0 [2] 2 2, d2 2 [3] 3 3, d3 1 [22], d3 3 [24], d3 4 [23, 25], d0 5 [26], d0 6 [21], d0 7 [21], d0 8 [27], d0 9 [28]]
def D3_7 : List DE := [d2 0 [2] 2 2, d2 2 [8] 8 8, d3 1 [32], d3 3 [33, 34], d0 4 [35], d0 5 [31], d0 6 [31], d0 7 [36], d0 8 [37]]
noncomputable def F_laws_FnExactBoardCommits (a0 : Group) (a1 : Board) : Option (Bool) :=
  (F_laws_szBoard a1 1048576).bind fun z1 =>
  if decide (z1 < 0) = true then (
  some true) else (
  (F_laws_toGroup a0).bind fun z3 =>
  (F_laws_toBoard a1).bind fun z4 =>
  (F_spec_BoardCommits z3 z4).bind fun z5 =>
  (F_laws_toBoard a1).bind fun z6 =>
  (F_laws_toGroup a0).bind fun z7 =>
  (F_impl_BoardCommits z7 z6).bind fun z8 =>
  (((F_laws_eqIntS z8.1 z5.1).bind fun z12 =>
  if (!z12) = true then (
  some true) else (
  some (z8.2 != z5.2)) : Option (Bool)).bind fun x11 =>
  if x11 = true then (
  some false) else (
  (F_laws_toBoard a1).bind fun z15 =>
  (F_laws_eqBoard z6 z15).bind fun z16 =>
  if (!z16) = true then (
  some false) else (
  (F_laws_markBoard__mv0 z6 1).bind fun z18 =>
  ((if decide (z18 < 0) = true then (
  some true) else (
  (F_laws_eqIntS z8.1 z5.1).bind fun z23 =>
  if (!z23) = true then (
  some true) else (
  some (z8.2 != z5.2))) : Option (Bool)).bind fun x21 =>
  if x21 = true then (
  some false) else (
  (F_laws_markIntS__io0 z8.1 1).bind fun z26 =>
  (F_laws_heldIntS z26.2 1).bind fun z27 =>
  if decide (z27 < 0) = true then (
  some false) else (
  if (z27 != z26.1) = true then (
  some false) else (
  (F_laws_toGroup a0).bind fun z30 =>
  (F_laws_toBoard a1).bind fun z31 =>
  (F_impl_BoardCommits z30 z31).bind fun z32 =>
  (((F_laws_eqIntS z32.1 z5.1).bind fun z36 =>
  if (!z36) = true then (
  some true) else (
  some (z32.2 != z5.2)) : Option (Bool)).bind fun x35 =>
  if x35 = true then (
  some false) else (
  (F_laws_heldIntS z26.2 1).bind fun z39 =>
  if decide (z39 < 0) = true then (
  some false) else (
  if (z39 != z26.1) = true then (
  some false) else (
  some true))))))))))))
theorem c_laws_FnExactBoardCommits : ∀ {a0} {a1} {r}, F_laws_FnExactBoardCommits a0 a1 = some r → PCalls Tryz.prog 3 [(.sh, .agg [.int .i64 a0.P, .int .i64 a0.Q, .int .i64 a0.G]), (.sh, .agg [.sl false 1 (a1.Keys.map row_i64), .sl false 6 (a1.Entries.map row_Entry_z)])] (Eo (.bool r) [.junk, .junk]) := by
  intro a0 a1 r hr
  apply pF 104 [] [] [] [.tmp 4] hr cl3 Tryz.func3
  intro Φ hΦ hF g
  unfold F_laws_FnExactBoardCommits at hF
  iterate 2 (try simp [go_sem, g]; refine pw_wk ?_)
  try simp [go_sem, g]
  refine pC hF [.sh, .sh] c_laws_szBoard (fun z1 hF => ?_)
  try simp [go_sem, g]
  refine pw_wk ?_
  try simp [go_sem, g]
  refine pw_wkK [2, 3, 20] (by simp [go_sem, g]; rfl) ?_
  repeat rw [sq]
  refine pI hF (fun h2 hF => ?_) (fun h2 hF => ?_)
  ·cases hΦ _ (Rn_some hF)
   try simp [go_sem, g]
   refine pw_wk ?_
   try simp [go_sem, g]
  ·try simp [go_sem, g]
   refine pw_wk ?_
   repeat rw [sq]
   refine pw_draw D3_5 follows (by kernel_rfl) rfl ?_
   try simp only [go_sem, D3_5]
   try simp [go_sem, g]
   refine pC hF [.sh] c_laws_toGroup (fun z3 hF => ?_)
   try simp [go_sem, g]
   refine pC hF [.sh] c_laws_toBoard (fun z4 hF => ?_)
   try simp [go_sem, g]
   refine pC hF [.sh, .sh] c_spec_BoardCommits (fun z5 hF => ?_)
   try simp [go_sem, g]
   refine pw_wkK [2, 3, 6, 7] (by simp [go_sem, g]; rfl) ?_
   try simp [go_sem, g]
   refine pC hF [.sh] c_laws_toBoard (fun z6 hF => ?_)
   try simp [go_sem, g]
   refine pw_wk ?_
   repeat rw [sq]
   refine pw_draw D3_7 follows (by kernel_rfl) rfl ?_
   try simp only [go_sem, D3_7]
   try simp [go_sem, g]
   refine pC hF [.sh] c_laws_toGroup (fun z7 hF => ?_)
   try simp [go_sem, g]
   refine pC hF [.sh, .sh] c_impl_BoardCommits (fun z8 hF => ?_)
   try simp [go_sem, g]
   refine pw_wkK [2, 3, 6, 7, 8, 9, 10] (by simp [go_sem, g]; rfl) ?_
   repeat rw [sq]
   refine pJ hF (fun x11 => [(2, .bl [.int .i64 a0.P, .int .i64 a0.Q, .int .i64 a0.G]), (3, .bl [.sl false 1 (a1.Keys.map row_i64), .sl false 6 (a1.Entries.map row_Entry_z)]), (6, .v (.sl true 1 (z5.1.map row_i64))), (7, .v (.bool z5.2)), (8, .bl [.sl true 1 (z6.Keys.map row_i64), .sl true 6 (z6.Entries.map row_Entry_o)]), (9, .v (.sl true 1 (z8.1.map row_i64))), (10, .v (.bool z8.2)), (46, .v (.bool x11))]) (fun x11 hF => ?_) fun _ hj9 hF => ?_
   ·repeat rw [sq]
    refine pI hF (fun h14 hF => ?_) (fun h14 hF => ?_)
    ·cases hΦ _ (Rn_some hF)
     try simp [go_sem, g]
     refine pw_wk ?_
     try simp [go_sem, g]
    ·try simp [go_sem, g]
     refine pw_wk ?_
     repeat rw [sq]
     refine pw_draw D3_10 follows (by kernel_rfl) rfl ?_
     try simp only [go_sem, D3_10]
     try simp [go_sem, g]
     refine pC hF [.sh] c_laws_toBoard (fun z15 hF => ?_)
     try simp [go_sem, g]
     refine pC hF [.sh, .sh] c_laws_eqBoard (fun z16 hF => ?_)
     try simp [go_sem, g]
     refine pw_wk ?_
     repeat rw [sq]
     refine pI hF (fun h17 hF => ?_) (fun h17 hF => ?_)
     ·cases hΦ _ (Rn_some hF)
      try simp [go_sem, g]
      refine pw_wk ?_
      try simp [go_sem, g]
     ·iterate 2 (try simp [go_sem, g]; refine pw_wk ?_)
      try simp [go_sem, g]
      refine pC hF [.mv, .sh] c_laws_markBoard__mv0 (fun z18 hF => ?_)
      try simp [go_sem, g]
      refine pw_wkK [2, 3, 6, 7, 9, 10, 11] (by simp [go_sem, g]; rfl) ?_
      repeat rw [sq]
      refine pJ hF (fun x21 => [(2, .bl [.int .i64 a0.P, .int .i64 a0.Q, .int .i64 a0.G]), (3, .bl [.sl false 1 (a1.Keys.map row_i64), .sl false 6 (a1.Entries.map row_Entry_z)]), (6, .v (.sl true 1 (z5.1.map row_i64))), (7, .v (.bool z5.2)), (9, .v (.sl true 1 (z8.1.map row_i64))), (67, .v (.bool x21))]) (fun x21 hF => ?_) fun _ hj19 hF => ?_
      ·repeat rw [sq]
       refine pI hF (fun h25 hF => ?_) (fun h25 hF => ?_)
       ·cases hΦ _ (Rn_some hF)
        try simp [go_sem, g]
        refine pw_wk ?_
        try simp [go_sem, g]
       ·iterate 2 (try simp [go_sem, g]; refine pw_wk ?_)
        try simp [go_sem, g]
        refine pC hF [.io, .sh] c_laws_markIntS__io0 (fun z26 hF => ?_)
        iterate 2 (try simp [go_sem, g]; refine pw_wk ?_)
        try simp [go_sem, g]
        refine pC hF [.sh, .sh] c_laws_heldIntS (fun z27 hF => ?_)
        try simp [go_sem, g]
        refine pw_wkK [2, 3, 6, 7, 9, 12, 13] (by simp [go_sem, g]; rfl) ?_
        try simp [go_sem, g]
        refine pw_wk ?_
        repeat rw [sq]
        refine pI hF (fun h28 hF => ?_) (fun h28 hF => ?_)
        ·cases hΦ _ (Rn_some hF)
         try simp [go_sem, g]
         refine pw_wk ?_
         try simp [go_sem, g]
        ·iterate 2 (try simp [go_sem, g]; refine pw_wk ?_)
         repeat rw [sq]
         refine pI hF (fun h29 hF => ?_) (fun h29 hF => ?_)
         ·cases hΦ _ (Rn_some hF)
          try simp [go_sem, g]
          refine pw_wk ?_
          try simp [go_sem, g]
         ·try simp [go_sem, g]
          refine pw_wk ?_
          repeat rw [sq]
          refine pw_draw D3_24 follows (by kernel_rfl) rfl ?_
          try simp only [go_sem, D3_24]
          try simp [go_sem, g]
          refine pC hF [.sh] c_laws_toGroup (fun z30 hF => ?_)
          try simp [go_sem, g]
          refine pC hF [.sh] c_laws_toBoard (fun z31 hF => ?_)
          try simp [go_sem, g]
          refine pC hF [.sh, .sh] c_impl_BoardCommits (fun z32 hF => ?_)
          try simp [go_sem, g]
          refine pw_wkK [6, 7, 9, 12, 14, 15] (by simp [go_sem, g]; rfl) ?_
          repeat rw [sq]
          refine pJ hF (fun x35 => [(9, .v (.sl true 1 (z26.2.map row_i64))), (12, .v (.int .i64 z26.1)), (95, .v (.bool x35))]) (fun x35 hF => ?_) fun _ hj33 hF => ?_
          ·repeat rw [sq]
           refine pI hF (fun h38 hF => ?_) (fun h38 hF => ?_)
           ·cases hΦ _ (Rn_some hF)
            try simp [go_sem, g]
            refine pw_wk ?_
            try simp [go_sem, g]
           ·iterate 2 (try simp [go_sem, g]; refine pw_wk ?_)
            try simp [go_sem, g]
            refine pC hF [.sh, .sh] c_laws_heldIntS (fun z39 hF => ?_)
            iterate 2 (try simp [go_sem, g]; refine pw_wk ?_)
            repeat rw [sq]
            refine pI hF (fun h40 hF => ?_) (fun h40 hF => ?_)
            ·cases hΦ _ (Rn_some hF)
             try simp [go_sem, g]
             refine pw_wk ?_
             try simp [go_sem, g]
            ·try simp [go_sem, g]
             refine pw_wk ?_
             try simp [go_sem, g]
             refine pw_wkK [103] (by simp [go_sem, g]; rfl) ?_
             repeat rw [sq]
             refine pI hF (fun h41 hF => ?_) (fun h41 hF => ?_)
             ·cases hΦ _ (Rn_some hF)
              try simp [go_sem, g]
              refine pw_wk ?_
              try simp [go_sem, g]
             ·cases hΦ _ (Rn_some hF)
              iterate 2 (try simp [go_sem, g]; refine pw_wk ?_)
              try simp [go_sem, g]
          ·try simp [go_sem, g]
           refine pC hF [.sh, .sh] c_laws_eqIntS (fun z36 hF => ?_)
           try simp [go_sem, g]
           refine pwg_F hF (fun h37 hF => ?_) fun h37 hF => ?_
           ·try simp [go_sem, g, h37]
            exact pT (hj33 true) (Rn_some hF)
           ·try simp [go_sem, g, h37]
            exact pT (hj33 (z32.2 != z5.2)) (Rn_some hF)
      ·try simp [go_sem, g]
       refine pwg_F hF (fun h22 hF => ?_) fun h22 hF => ?_
       ·try simp [go_sem, g, h22]
        exact pT (hj19 true) (Rn_some hF)
       ·try simp [go_sem, g, h22]
        refine pC hF [.sh, .sh] c_laws_eqIntS (fun z23 hF => ?_)
        try simp [go_sem, g, h22]
        refine pwg_F hF (fun h24 hF => ?_) fun h24 hF => ?_
        ·try simp [go_sem, g, h24]
         exact pT (hj19 true) (Rn_some hF)
        ·try simp [go_sem, g, h24]
         exact pT (hj19 (z8.2 != z5.2)) (Rn_some hF)
   ·try simp [go_sem, g]
    refine pC hF [.sh, .sh] c_laws_eqIntS (fun z12 hF => ?_)
    try simp [go_sem, g]
    refine pwg_F hF (fun h13 hF => ?_) fun h13 hF => ?_
    ·try simp [go_sem, g, h13]
     exact pT (hj9 true) (Rn_some hF)
    ·try simp [go_sem, g, h13]
     exact pT (hj9 (z8.2 != z5.2)) (Rn_some hF)
end Go.Pm
