/-
  Plain functions and their walks. Written by wip/tools/lift.py.
-/
import Derived.Test.YtoljmkdfamffmaaGreatM23
namespace Go.Pm
open Go.Am IntKind
open Go.Proofs
set_option maxRecDepth 100000
attribute [local irreducible] pw pwx pw1 pwg qv qz qf
attribute [-simp] List.map_set
set_option linter.unusedSimpArgs false
set_option linter.unusedVariables false
theorem c_impl_Contest_greatest : ∀ {a0} {r}, F_impl_Contest_greatest a0 = some r → PCalls Tryz.prog 323 [(.sh, .agg [.int .i64 a0.Kind, .int .i64 a0.Options, .int .i64 a0.Least, .int .i64 a0.Most, .int .i64 a0.Points])] (Eo (.int .i64 r) [.junk]) := by
  intro a0 r hr
  apply pF 89 [] [] [] [.tmp 2] hr cl323 Tryz.func323
  intro Φ hΦ hF g
  unfold F_impl_Contest_greatest at hF
  iterate 3 (try simp [go_sem, g]; refine pw_wk ?_)
  repeat rw [sq]
  refine pJ hF (fun x3 => [(1, .bl [.int .i64 a0.Kind, .int .i64 a0.Options, .int .i64 a0.Least, .int .i64 a0.Most, .int .i64 a0.Points]), (3, .v (.sl true 1 (x3.map row_i64)))]) (fun x3 hF => ?_) fun _ hj1 hF => ?_
  ·try simp [go_sem, g]
   refine pC hF [.sh] c_impl_Contest_base (fun z56 hF => ?_)
   try simp [go_sem, g]
   refine pC hF [.sh, .sh] c_impl_codeOf (fun z57 hF => ?_)
   try simp [go_sem, g]
   refine pw_wkK [2] (by simp [go_sem, g]; rfl) ?_
   cases hΦ _ (Rn_some hF)
   try simp [go_sem, g]
  ·repeat rw [sq]
   rw [pw_block]
   try simp [go_sem, g]
   refine pw_wk ?_
   repeat rw [sq]
   refine pI hF (fun h4 hF => ?_) (fun h4 hF => ?_)
   ·try simp [go_sem, g]
    refine pw_wkK [1, 3, 23, 24] (by simp [go_sem, g]; rfl) ?_
    repeat rw [sq]
    rw [pw_block]
    obtain ⟨b15, hb16, hψ9⟩ := hF
    refine pL hb16 (fun s5 => [(1, .bl [.int .i64 a0.Kind, .int .i64 a0.Options, .int .i64 a0.Least, .int .i64 a0.Most, .int .i64 a0.Points]), (3, .v (.sl true 1 (s5.1.map row_i64))), (23, .v (.int .i64 a0.Options)), (24, .v (.int .i64 s5.2))]) (fun s5 _ _ ho7 hg8 hF => ?_)
    try simp [go_sem, g]
    refine pw_wk ?_
    repeat rw [sq]
    refine pI hF (fun h10 hF => ?_) (fun h10 hF => ?_)
    ·try simp [go_sem, g]
     refine pw_wk ?_
     repeat rw [sq]
     rw [pw_block]
     iterate 2 (try simp [go_sem, g]; refine pw_wk ?_)
     try simp [go_sem, g]
     refine pw_wkK [1, 3, 5, 23, 24, 33] (by simp [go_sem, g]; rfl) ?_
     repeat rw [sq]
     refine pJ hF (fun x13 => [(1, .bl [.int .i64 a0.Kind, .int .i64 a0.Options, .int .i64 a0.Least, .int .i64 a0.Most, .int .i64 a0.Points]), (3, .v (.sl true 1 (s5.1.map row_i64))), (5, .v (.int .i64 x13)), (23, .v (.int .i64 a0.Options)), (24, .v (.int .i64 s5.2))]) (fun x13 hF => ?_) fun _ hj11 hF => ?_
     ·obtain ⟨g, hF⟩ := Rg g hF
      try simp [go_sem, g]
      refine pw_wk ?_
      try simp [go_sem, g]
      exact pT (hg8 (s5.1 ++ [x13], i64.wrap (s5.2 + 1))) (Rn_some hF)
     ·repeat rw [sq]
      refine pI hF (fun h14 hF => ?_) (fun h14 hF => ?_)
      ·try simp [go_sem, g]
       exact pT (hj11 1) (Rn_some hF)
      ·try simp [go_sem, g]
       exact pT (hj11 0) (Rn_some hF)
    ·try simp [go_sem, g]
     cases ho7 _ (Rn_some hF)
     exact pT (hj1 s5.1) hψ9
   ·try simp [go_sem, g]
    refine pw_wkK [1, 3, 11, 39] (by simp [go_sem, g]; rfl) ?_
    repeat rw [sq]
    refine pI hF (fun h17 hF => ?_) (fun h17 hF => ?_)
    ·obtain ⟨g, hF⟩ := Rg g hF
     obtain ⟨x18, e19, hF⟩ := Rn_bind hF
     have g20 : List.replicate a0.Options.toNat ([.int .i64 0] : List PV) = x18.map row_i64 := by injection e19 with e19; rw [← e19]; simp [go_sem]
     iterate 2 (try simp [go_sem, g, g20]; refine pw_wk ?_)
     try simp [go_sem, g, g20]
     refine pw_wkK [1, 3, 6, 7] (by simp [go_sem, g]; rfl) ?_
     repeat rw [sq]
     rw [pw_block]
     obtain ⟨b37, hb38, hψ33⟩ := hF
     refine pL hb38 (fun s29 => [(1, .bl [.int .i64 a0.Kind, .int .i64 a0.Options, .int .i64 a0.Least, .int .i64 a0.Most, .int .i64 a0.Points]), (3, .v (.sl true 1 (s29.1.map row_i64))), (6, .v (.int .i64 s29.2.1)), (7, .v (.int .i64 s29.2.2))]) (fun s29 _ _ ho31 hg32 hF => ?_)
     try simp [go_sem, g]
     refine pw_wk ?_
     repeat rw [sq]
     refine pI hF (fun h34 hF => ?_) (fun h34 hF => ?_)
     ·try simp [go_sem, g]
      refine pw_wk ?_
      repeat rw [sq]
      rw [pw_block]
      obtain ⟨x35, g, hF⟩ := Rx g hF
      try simp [go_sem, g]
      refine pw_wkK [1, 3, 6, 7] (by simp [go_sem, g]; rfl) ?_
      obtain ⟨x36, g, hF⟩ := Rx g hF
      try simp [go_sem, g]
      refine pw_wk ?_
      try simp [go_sem, g]
      exact pT (hg32 (s29.1.set s29.2.2.toNat (if a0.Points < s29.2.1 then a0.Points else s29.2.1), i64.wrap (s29.2.1 - x36), i64.wrap (s29.2.2 - 1))) (Rn_some hF)
     ·try simp [go_sem, g]
      cases ho31 _ (Rn_some hF)
      exact pT (hj1 s29.1) hψ33
    ·try simp [go_sem, g]
     refine pw_wk ?_
     repeat rw [sq]
     refine pI hF (fun h39 hF => ?_) (fun h39 hF => ?_)
     ·try simp [go_sem, g]
      refine pw_wk ?_
      repeat rw [sq]
      rw [pw_block]
      obtain ⟨b46, hb47, hψ44⟩ := hF
      refine pL hb47 (fun s40 => [(1, .bl [.int .i64 a0.Kind, .int .i64 a0.Options, .int .i64 a0.Least, .int .i64 a0.Most, .int .i64 a0.Points]), (3, .v (.sl true 1 (s40.1.map row_i64))), (69, .v (.int .i64 a0.Most)), (70, .v (.int .i64 s40.2))]) (fun s40 _ _ ho42 hg43 hF => ?_)
      try simp [go_sem, g]
      refine pw_wk ?_
      repeat rw [sq]
      refine pI hF (fun h45 hF => ?_) (fun h45 hF => ?_)
      ·try simp [go_sem, g]
       refine pw_wk ?_
       repeat rw [sq]
       rw [pw_block]
       obtain ⟨g, hF⟩ := Rg g hF
       try simp [go_sem, g]
       refine pw_wk ?_
       try simp [go_sem, g]
       refine pw_wkK [1, 3, 69, 70] (by simp [go_sem, g]; rfl) ?_
       try simp [go_sem, g]
       exact pT (hg43 (s40.1 ++ [i64.wrap ((i64.wrap ((i64.wrap (a0.Options - a0.Most)) + 1)) + s40.2)], i64.wrap (s40.2 + 1))) (Rn_some hF)
      ·try simp [go_sem, g]
       cases ho42 _ (Rn_some hF)
       exact pT (hj1 s40.1) hψ44
     ·try simp [go_sem, g]
      refine pw_wk ?_
      repeat rw [sq]
      rw [pw_block]
      obtain ⟨b54, hb55, hψ52⟩ := hF
      refine pL hb55 (fun s48 => [(1, .bl [.int .i64 a0.Kind, .int .i64 a0.Options, .int .i64 a0.Least, .int .i64 a0.Most, .int .i64 a0.Points]), (3, .v (.sl true 1 (s48.1.map row_i64))), (13, .v (.int .i64 a0.Most)), (14, .v (.int .i64 s48.2))]) (fun s48 _ _ ho50 hg51 hF => ?_)
      try simp [go_sem, g]
      refine pw_wk ?_
      repeat rw [sq]
      refine pI hF (fun h53 hF => ?_) (fun h53 hF => ?_)
      ·try simp [go_sem, g]
       refine pw_wk ?_
       repeat rw [sq]
       rw [pw_block]
       obtain ⟨g, hF⟩ := Rg g hF
       try simp [go_sem, g]
       refine pw_wkK [1, 3, 13, 14] (by simp [go_sem, g]; rfl) ?_
       try simp [go_sem, g]
       exact pT (hg51 (s48.1 ++ [26], i64.wrap (s48.2 + 1))) (Rn_some hF)
      ·try simp [go_sem, g]
       cases ho50 _ (Rn_some hF)
       exact pT (hj1 s48.1) hψ52
noncomputable def F_impl_Contest_isForm (a0 : Contest) : Option (Bool) :=
  ((if (a0.Kind == 1) = true then (
  some true) else (
  some (a0.Kind == 2)) : Option (Bool)).bind fun x3 =>
  some x3)
theorem c_impl_Contest_isForm : ∀ {a0} {r}, F_impl_Contest_isForm a0 = some r → PCalls Tryz.prog 324 [(.sh, .agg [.int .i64 a0.Kind, .int .i64 a0.Options, .int .i64 a0.Least, .int .i64 a0.Most, .int .i64 a0.Points])] (Eo (.bool r) [.junk]) := by
  intro a0 r hr
  apply pF 11 [] [] [] [.tmp 2] hr cl324 Tryz.func324
  intro Φ hΦ hF g
  unfold F_impl_Contest_isForm at hF
  try simp [go_sem, g]
  refine pw_wk ?_
  repeat rw [sq]
  refine pJ hF (fun x3 => [(2, .v (.bool x3))]) (fun x3 hF => ?_) fun _ hj1 hF => ?_
  ·cases hΦ _ (Rn_some hF)
   try simp [go_sem, g]
  ·try simp [go_sem, g]
   refine pwg_F hF (fun h4 hF => ?_) fun h4 hF => ?_
   ·try simp [go_sem, g, h4]
    exact pT (hj1 true) (Rn_some hF)
   ·try simp [go_sem, g, h4]
    exact pT (hj1 (a0.Kind == 2)) (Rn_some hF)
def D160_1 : List DE := [d2 0 [2] 2 2, d3 1 [5], d0 2 [6], d0 3 [7], d2 4 [3, 8] 3 3, d3 5 [9, 8], d0 6 [10, 8], d0 7 [8, 11], d0 8 [12], d2 9 [3, 13] 3 3, d3 10 [14, 13], d0 11 [15, 13], d0 12 [13, 16], d0 13 [17], d2 14 [3, 18] 3 3, d1 16 [2, 18] 2, d2 17 [21, 18] 2 21, d3 15 [19, 18], d0 18 [20, 22, 18], d0 19 [18, 23]]
noncomputable def F_impl_IsSealable (a0 : Group) (a1 : Contest) : Option (Bool) :=
  (((F_impl_IsValidGroup a0).bind fun z4 =>
  if (!z4) = true then (
  some true) else (
  (F_impl_IsValidContest a1).bind fun z6 =>
  if (!z6) = true then (
  some true) else (
  (F_impl_Contest_greatest a1).bind fun z8 =>
  if decide (100000 < z8) = true then (
  some true) else (
  (F_impl_Contest_greatest a1).bind fun z10 =>
  some (decide (a0.Q ≤ z10))))) : Option (Bool)).bind fun x3 =>
  if x3 = true then (
  some false) else (
  (((F_impl_Contest_isForm a1).bind fun z15 =>
  if (!z15) = true then (
  some true) else (
  if decide ((i64.wrap (a1.Most - a1.Least)) < 8) = true then (
  some (decide (a1.Most < a0.Q))) else (
  some false)) : Option (Bool)).bind fun x14 =>
  some x14)))
theorem c_impl_IsSealable : ∀ {a0} {a1} {r}, F_impl_IsSealable a0 a1 = some r → PCalls Tryz.prog 160 [(.sh, .agg [.int .i64 a0.P, .int .i64 a0.Q, .int .i64 a0.G]), (.sh, .agg [.int .i64 a1.Kind, .int .i64 a1.Options, .int .i64 a1.Least, .int .i64 a1.Most, .int .i64 a1.Points])] (Eo (.bool r) [.junk, .junk]) := by
  intro a0 a1 r hr
  apply pF 43 [] [] [] [.tmp 4] hr cl160 Tryz.func160
  intro Φ hΦ hF g
  unfold F_impl_IsSealable at hF
  try simp [go_sem, g]
  refine pw_wk ?_
  repeat rw [sq]
  refine pJ hF (fun x3 => [(2, .bl [.int .i64 a0.P, .int .i64 a0.Q, .int .i64 a0.G]), (3, .bl [.int .i64 a1.Kind, .int .i64 a1.Options, .int .i64 a1.Least, .int .i64 a1.Most, .int .i64 a1.Points]), (24, .v (.bool x3))]) (fun x3 hF => ?_) fun _ hj1 hF => ?_
  ·repeat rw [sq]
   refine pI hF (fun h11 hF => ?_) (fun h11 hF => ?_)
   ·cases hΦ _ (Rn_some hF)
    try simp [go_sem, g]
    refine pw_wk ?_
    try simp [go_sem, g]
   ·try simp [go_sem, g]
    refine pw_wk ?_
    repeat rw [sq]
    refine pJ hF (fun x14 => [(4, .v (.bool x14))]) (fun x14 hF => ?_) fun _ hj12 hF => ?_
    ·cases hΦ _ (Rn_some hF)
     try simp [go_sem, g]
    ·try simp [go_sem, g]
     refine pC hF [.sh] c_impl_Contest_isForm (fun z15 hF => ?_)
     try simp [go_sem, g]
     refine pwg_F hF (fun h16 hF => ?_) fun h16 hF => ?_
     ·try simp [go_sem, g, h16]
      exact pT (hj12 true) (Rn_some hF)
     ·try simp [go_sem, g, h16]
      refine pwg_F hF (fun h17 hF => ?_) fun h17 hF => ?_
      ·try simp [go_sem, g, h17, h16]
       exact pT (hj12 (decide (a1.Most < a0.Q))) (Rn_some hF)
      ·try simp [go_sem, g, h17, h16]
       exact pT (hj12 false) (Rn_some hF)
  ·repeat rw [sq]
   refine pw_draw D160_1 follows (by kernel_rfl) rfl ?_
   try simp only [go_sem, D160_1]
   try simp [go_sem, g]
   refine pC hF [.sh] c_impl_IsValidGroup (fun z4 hF => ?_)
   try simp [go_sem, g]
   refine pwgD_F hF (fun h5 hF => ?_) fun h5 hF => ?_
   ·try simp [go_sem, g, h5]
    exact pT (hj1 true) (Rn_some hF)
   ·try simp [go_sem, g, h5]
    refine pC hF [.sh] c_impl_IsValidContest (fun z6 hF => ?_)
    try simp [go_sem, g, h5]
    refine pwgD_F hF (fun h7 hF => ?_) fun h7 hF => ?_
    ·try simp [go_sem, g, h7]
     exact pT (hj1 true) (Rn_some hF)
    ·try simp [go_sem, g, h7]
     refine pC hF [.sh] c_impl_Contest_greatest (fun z8 hF => ?_)
     try simp [go_sem, g, h7]
     refine pwgD_F hF (fun h9 hF => ?_) fun h9 hF => ?_
     ·try simp [go_sem, g, h9]
      exact pT (hj1 true) (Rn_some hF)
     ·try simp [go_sem, g, h9]
      refine pC hF [.sh] c_impl_Contest_greatest (fun z10 hF => ?_)
      try simp [go_sem, g, h9]
      exact pT (hj1 (decide (a0.Q ≤ z10))) (Rn_some hF)
noncomputable def F_impl_Contest_most (a0 : Contest) : Option (Int) :=
  if (a0.Kind == 2) = true then (
  some a0.Points) else (
  some 1)
theorem c_impl_Contest_most : ∀ {a0} {r}, F_impl_Contest_most a0 = some r → PCalls Tryz.prog 166 [(.sh, .agg [.int .i64 a0.Kind, .int .i64 a0.Options, .int .i64 a0.Least, .int .i64 a0.Most, .int .i64 a0.Points])] (Eo (.int .i64 r) [.junk]) := by
  intro a0 r hr
  apply pF 8 [] [] [] [.tmp 2] hr cl166 Tryz.func166
  intro Φ hΦ hF g
  unfold F_impl_Contest_most at hF
  iterate 2 (try simp [go_sem, g]; refine pw_wk ?_)
  repeat rw [sq]
  refine pI hF (fun h1 hF => ?_) (fun h1 hF => ?_)
  ·cases hΦ _ (Rn_some hF)
   try simp [go_sem, g]
   refine pw_wk ?_
   try simp [go_sem, g]
  ·cases hΦ _ (Rn_some hF)
   iterate 2 (try simp [go_sem, g]; refine pw_wk ?_)
   try simp [go_sem, g]
def D426_7 : List DE := [d0 0 [9], d1 1 [3] 3, d2 2 [32] 3 32, d0 3 [33], d0 4 [31, 34], d0 5 [35], d1 6 [3] 3, d2 7 [37] 3 37, d0 8 [38], d1 9 [3] 3, d2 10 [40] 3 40, d0 11 [39, 41], d1 12 [3] 3, d2 13 [43] 3 43, d3 14 [36, 42, 44], d0 15 [45]]
noncomputable def F_impl_Group_derive (a0 : Group) (a1 : ByteArray) (a2 : Int) : Option (Int × Bool) :=
  ((wloop (σ := Int) (fun s4 =>
  if decide (s4 < 1000) = true then (
  (F_impl_HashLabelled a1 [a0.P, a0.Q, a0.G, a2, s4]).bind fun z10 =>
  if (!z10.2) = true then (
  some (.out (.inr (0, false)))) else (
  gd (i64.wrap (a0.P - 1) ≠ 0) <|
  gd (a0.Q ≠ 0) <|
  (F_impl_power (i64.wrap (1 + (z10.1.tmod (i64.wrap (a0.P - 1))))) (i64.wrap ((i64.wrap (a0.P - 1)).tdiv a0.Q)) a0.P).bind fun z12 =>
  if (z12 != 1) = true then (
  some (.out (.inr (z12, true)))) else (
  some (.go (i64.wrap (s4 + 1)))))) else (
  some (.out (.inl ())))) 0 : Option (Unit ⊕ (Int × Bool))).bind (Sum.elim (fun x3 =>
  some (0, false)) some))
theorem c_impl_Group_derive : ∀ {a0} {a1} {a2} {r}, F_impl_Group_derive a0 a1 a2 = some r → PCalls Tryz.prog 426 [(.sh, .agg [.int .i64 a0.P, .int .i64 a0.Q, .int .i64 a0.G]), (.sh, .str a1), (.sh, .int .i64 a2)] (Eo (.tup [.int .i64 r.1, .bool r.2]) [.junk, .junk, .junk]) := by
  intro a0 a1 a2 r hr
  apply pF 50 [] [] [] [.tmp 6, .tmp 7] hr cl426 Tryz.func426
  intro Φ hΦ hF g
  unfold F_impl_Group_derive at hF
  iterate 2 (try simp [go_sem, g]; refine pw_wk ?_)
  repeat rw [sq]
  refine pJs hF (fun x3 => []) (fun x3 hF => ?_) fun _ hj1 hr2 hF => ?_
  ·cases hΦ _ (Rn_some hF)
   try simp [go_sem, g]
   refine pw_wk ?_
   try simp [go_sem, g]
  ·repeat rw [sq]
   rw [pw_block]
   obtain ⟨b14, hb15, hψ8⟩ := hF
   refine pL hb15 (fun s4 => [(1, .v (.str a1)), (2, .v (.int .i64 a2)), (3, .bl [.int .i64 a0.P, .int .i64 a0.Q, .int .i64 a0.G]), (12, .v (.int .i64 s4))]) (fun s4 _ _ ho6 hg7 hF => ?_)
   try simp [go_sem, g]
   refine pw_wk ?_
   repeat rw [sq]
   refine pI hF (fun h9 hF => ?_) (fun h9 hF => ?_)
   ·try simp [go_sem, g]
    refine pw_wk ?_
    repeat rw [sq]
    rw [pw_block]
    try simp [go_sem, g]
    refine pw_wk ?_
    try simp [go_sem, g]
    refine pC hF [.sh, .sh] c_impl_HashLabelled (fun z10 hF => ?_)
    try simp [go_sem, g]
    refine pw_wkK [1, 2, 3, 9, 10, 12] (by simp [go_sem, g]; rfl) ?_
    try simp [go_sem, g]
    refine pw_wk ?_
    repeat rw [sq]
    refine pI hF (fun h11 hF => ?_) (fun h11 hF => ?_)
    ·cases ho6 _ (Rn_some hF)
     cases hΦ _ (hr2 _ hψ8)
     try simp [go_sem, g]
     refine pw_wk ?_
     try simp [go_sem, g]
    ·try simp [go_sem, g]
     refine pw_wk ?_
     repeat rw [sq]
     refine pw_draw D426_7 follows (by kernel_rfl) rfl ?_
     try simp only [go_sem, D426_7]
     obtain ⟨g, hF⟩ := Rz g hF
     obtain ⟨g, hF⟩ := Rz g hF
     try simp [go_sem, g]
     refine pC hF [.sh, .sh, .sh] c_impl_power (fun z12 hF => ?_)
     try simp [go_sem, g]
     refine pw_wkK [1, 2, 3, 11, 12] (by simp [go_sem, g]; rfl) ?_
     try simp [go_sem, g]
     refine pw_wk ?_
     repeat rw [sq]
     refine pI hF (fun h13 hF => ?_) (fun h13 hF => ?_)
     ·cases ho6 _ (Rn_some hF)
      cases hΦ _ (hr2 _ hψ8)
      try simp [go_sem, g]
      refine pw_wk ?_
      try simp [go_sem, g]
     ·try simp [go_sem, g]
      refine pw_wk ?_
      try simp [go_sem, g]
      exact pT (hg7 (i64.wrap (s4 + 1))) (Rn_some hF)
   ·try simp [go_sem, g]
    cases ho6 _ (Rn_some hF)
    exact pT (hj1 ()) hψ8
noncomputable def F_impl_Group_basesOf (a0 : Group) (a1 : Int) : Option (Bases × Bool) :=
  (F_impl_Group_derive a0 (⟨#[104]⟩ : ByteArray) 0).bind fun z1 =>
  ((wloop (σ := Int × (List Int) × Bool × Int) (fun s16 =>
  if decide (s16.2.2.2 < a1) = true then (
  (F_impl_Group_derive a0 (⟨#[104, 115]⟩ : ByteArray) s16.2.2.2).bind fun z22 =>
  ((if s16.2.2.1 = true then (
  some z22.2) else (
  some false) : Option (Bool)).bind fun x25 =>
  gd ((s16.2.1.length + 1) * 8 ≤ 140737488355328 ∧ s16.2.1.length + 1 ≤ 4611686018427387904) <|
  some (.go (s16.1, s16.2.1 ++ [z22.1], x25, i64.wrap (s16.2.2.2 + 1))))) else (
  some (.out (s16.1, s16.2.1, s16.2.2.1)))) (z1.1, [], true, 0) : Option ((Int × (List Int) × Bool))).bind fun x4 =>
  ((if (!z1.2) = true then (
  some true) else (
  some (!x4.2.2)) : Option (Bool)).bind fun x31 =>
  if x31 = true then (
  some ((Bases.mk 0 []), false)) else (
  some ((Bases.mk x4.1 x4.2.1), true))))
theorem c_impl_Group_basesOf : ∀ {a0} {a1} {r}, F_impl_Group_basesOf a0 a1 = some r → PCalls Tryz.prog 337 [(.sh, .agg [.int .i64 a0.P, .int .i64 a0.Q, .int .i64 a0.G]), (.sh, .int .i64 a1)] (Eo (.tup [.agg [.int .i64 r.1.H, .sl true 1 (r.1.Hs.map row_i64)], .bool r.2]) [.junk, .junk]) := by
  intro a0 a1 r hr
  apply pF 49 [] [] [] [.cell 4 342, .tmp 5] hr cl337 Tryz.func337
  intro Φ hΦ hF g
  unfold F_impl_Group_basesOf at hF
  try simp [go_sem, g]
  refine pw_wk ?_
  try simp [go_sem, g]
  refine pC hF [.sh, .sh, .sh] c_impl_Group_derive (fun z1 hF => ?_)
  try simp [go_sem, g]
  refine pw_wkK [1, 2, 4, 6, 7] (by simp [go_sem, g]; rfl) ?_
  iterate 2 (try simp [go_sem, g]; refine pw_wk ?_)
  repeat rw [sq]
  refine pJ hF (fun x4 => [(4, .bl [.int .i64 0, .sl true 1 []]), (7, .v (.bool z1.2)), (8, .bl [.int .i64 x4.1, .sl true 1 (x4.2.1.map row_i64)]), (9, .v (.bool x4.2.2))]) (fun x4 hF => ?_) fun _ hj2 hF => ?_
  ·repeat rw [sq]
   refine pJ hF (fun x31 => [(4, .bl [.int .i64 0, .sl true 1 []]), (8, .bl [.int .i64 x4.1, .sl true 1 (x4.2.1.map row_i64)]), (46, .v (.bool x31))]) (fun x31 hF => ?_) fun _ hj29 hF => ?_
   ·repeat rw [sq]
    refine pI hF (fun h33 hF => ?_) (fun h33 hF => ?_)
    ·try simp [go_sem, g]
     refine pw_wkK [4, 5] (by simp [go_sem, g]; rfl) ?_
     cases hΦ _ (Rn_some hF)
     try simp [go_sem, g]
    ·try simp [go_sem, g]
     refine pw_wk ?_
     try simp [go_sem, g]
     refine pw_wkK [4, 5] (by simp [go_sem, g]; rfl) ?_
     cases hΦ _ (Rn_some hF)
     try simp [go_sem, g]
   ·try simp [go_sem, g]
    refine pwg_F hF (fun h32 hF => ?_) fun h32 hF => ?_
    ·try simp [go_sem, g, h32]
     exact pT (hj29 true) (Rn_some hF)
    ·try simp [go_sem, g, h32]
     exact pT (hj29 (!x4.2.2)) (Rn_some hF)
  ·repeat rw [sq]
   rw [pw_block]
   obtain ⟨b27, hb28, hψ20⟩ := hF
   refine pL hb28 (fun s16 => [(2, .bl [.int .i64 a0.P, .int .i64 a0.Q, .int .i64 a0.G]), (4, .bl [.int .i64 0, .sl true 1 []]), (7, .v (.bool z1.2)), (8, .bl [.int .i64 s16.1, .sl true 1 (s16.2.1.map row_i64)]), (9, .v (.bool s16.2.2.1)), (20, .v (.int .i64 a1)), (21, .v (.int .i64 s16.2.2.2))]) (fun s16 _ _ ho18 hg19 hF => ?_)
   try simp [go_sem, g]
   refine pw_wk ?_
   repeat rw [sq]
   refine pI hF (fun h21 hF => ?_) (fun h21 hF => ?_)
   ·try simp [go_sem, g]
    refine pw_wk ?_
    repeat rw [sq]
    rw [pw_block]
    try simp [go_sem, g]
    refine pw_wkK [2, 4, 7, 8, 9, 10, 20, 21] (by simp [go_sem, g]; rfl) ?_
    try simp [go_sem, g]
    refine pC hF [.sh, .sh, .sh] c_impl_Group_derive (fun z22 hF => ?_)
    try simp [go_sem, g]
    refine pw_wk ?_
    repeat rw [sq]
    refine pJ hF (fun x25 => [(2, .bl [.int .i64 a0.P, .int .i64 a0.Q, .int .i64 a0.G]), (4, .bl [.int .i64 0, .sl true 1 []]), (7, .v (.bool z1.2)), (8, .bl [.int .i64 s16.1, .sl true 1 (s16.2.1.map row_i64)]), (9, .v (.bool x25)), (11, .v (.int .i64 z22.1)), (20, .v (.int .i64 a1)), (21, .v (.int .i64 s16.2.2.2))]) (fun x25 hF => ?_) fun _ hj23 hF => ?_
    ·obtain ⟨g, hF⟩ := Rg g hF
     try simp [go_sem, g]
     refine pw_wkK [2, 4, 7, 8, 9, 20, 21] (by simp [go_sem, g]; rfl) ?_
     try simp [go_sem, g]
     exact pT (hg19 (s16.1, s16.2.1 ++ [z22.1], x25, i64.wrap (s16.2.2.2 + 1))) (Rn_some hF)
    ·try simp [go_sem, g]
     refine pwg_F hF (fun h26 hF => ?_) fun h26 hF => ?_
     ·try simp [go_sem, g, h26]
      exact pT (hj23 z22.2) (Rn_some hF)
     ·try simp [go_sem, g, h26]
      exact pT (hj23 false) (Rn_some hF)
   ·try simp [go_sem, g]
    cases ho18 _ (Rn_some hF)
    exact pT (hj2 (s16.1, s16.2.1, s16.2.2.1)) hψ20
def D173_3 : List DE := [d1 0 [1] 1, d2 1 [49] 1 49, d3 2 [50], d0 3 [51], d1 4 [1, 52] 1, d2 5 [53, 52] 1 53, d1 6 [1, 52] 1, d2 7 [55, 52] 1 55, d1 10 [1, 52] 1, d1 11 [59, 52] 1, d2 12 [60, 52] 1 60, d3 8 [56, 52], d0 9 [54, 57, 52], d0 13 [58, 61, 52], d0 14 [52, 62]]
noncomputable def F_impl_IsValidPlan (a0 : Plan) : Option (Bool) :=
  (((F_impl_IsSealable a0.Gr a0.Ct).bind fun z4 =>
  if (!z4) = true then (
  some true) else (
  if decide (a0.Gr.Q ≤ 7) = true then (
  some true) else (
  (F_impl_within a0.Trustees 1 4).bind fun z7 =>
  if (!z7) = true then (
  some true) else (
  (F_impl_within a0.Threshold 1 a0.Trustees).bind fun z9 =>
  if (!z9) = true then (
  some true) else (
  (F_impl_within a0.Mixers 0 3).bind fun z11 =>
  if (!z11) = true then (
  some true) else (
  (F_impl_within a0.Voters 1 12).bind fun z13 =>
  if (!z13) = true then (
  some true) else (
  (F_impl_isDigest a0.Seed).bind fun z15 =>
  some (!z15))))))) : Option (Bool)).bind fun x3 =>
  if x3 = true then (
  some false) else (
  (((F_impl_Contest_isForm a0.Ct).bind fun z20 =>
  if z20 = true then (
  (F_impl_Contest_most a0.Ct).bind fun z22 =>
  some (decide (a0.Gr.Q ≤ (i64.wrap (a0.Voters * z22))))) else (
  some false) : Option (Bool)).bind fun x19 =>
  if x19 = true then (
  some false) else (
  (F_impl_Group_basesOf a0.Gr 12).bind fun z24 =>
  some z24.2))))
theorem c_impl_IsValidPlan : ∀ {a0} {r}, F_impl_IsValidPlan a0 = some r → PCalls Tryz.prog 173 [(.sh, .agg [.int .i64 a0.Gr.P, .int .i64 a0.Gr.Q, .int .i64 a0.Gr.G, .int .i64 a0.Ct.Kind, .int .i64 a0.Ct.Options, .int .i64 a0.Ct.Least, .int .i64 a0.Ct.Most, .int .i64 a0.Ct.Points, .int .i64 a0.Threshold, .int .i64 a0.Trustees, .int .i64 a0.Mixers, .int .i64 a0.Voters, .int .i64 a0.Seed])] (Eo (.bool r) [.junk]) := by
  intro a0 r hr
  apply pF 71 [] [] [] [.tmp 2] hr cl173 Tryz.func173
  intro Φ hΦ hF g
  unfold F_impl_IsValidPlan at hF
  try simp [go_sem, g]
  refine pw_wk ?_
  repeat rw [sq]
  refine pJ hF (fun x3 => [(1, .bl [.int .i64 a0.Gr.P, .int .i64 a0.Gr.Q, .int .i64 a0.Gr.G, .int .i64 a0.Ct.Kind, .int .i64 a0.Ct.Options, .int .i64 a0.Ct.Least, .int .i64 a0.Ct.Most, .int .i64 a0.Ct.Points, .int .i64 a0.Threshold, .int .i64 a0.Trustees, .int .i64 a0.Mixers, .int .i64 a0.Voters, .int .i64 a0.Seed]), (48, .v (.bool x3))]) (fun x3 hF => ?_) fun _ hj1 hF => ?_
  ·repeat rw [sq]
   refine pI hF (fun h16 hF => ?_) (fun h16 hF => ?_)
   ·cases hΦ _ (Rn_some hF)
    try simp [go_sem, g]
    refine pw_wk ?_
    try simp [go_sem, g]
   ·try simp [go_sem, g]
    refine pw_wk ?_
    repeat rw [sq]
    refine pJ hF (fun x19 => [(1, .bl [.int .i64 a0.Gr.P, .int .i64 a0.Gr.Q, .int .i64 a0.Gr.G, .int .i64 a0.Ct.Kind, .int .i64 a0.Ct.Options, .int .i64 a0.Ct.Least, .int .i64 a0.Ct.Most, .int .i64 a0.Ct.Points, .int .i64 a0.Threshold, .int .i64 a0.Trustees, .int .i64 a0.Mixers, .int .i64 a0.Voters, .int .i64 a0.Seed]), (63, .v (.bool x19))]) (fun x19 hF => ?_) fun _ hj17 hF => ?_
    ·repeat rw [sq]
     refine pI hF (fun h23 hF => ?_) (fun h23 hF => ?_)
     ·cases hΦ _ (Rn_some hF)
      try simp [go_sem, g]
      refine pw_wk ?_
      try simp [go_sem, g]
     ·try simp [go_sem, g]
      refine pw_wk ?_
      try simp [go_sem, g]
      refine pC hF [.sh, .sh] c_impl_Group_basesOf (fun z24 hF => ?_)
      try simp [go_sem, g]
      refine pw_wkK [4] (by simp [go_sem, g]; rfl) ?_
      cases hΦ _ (Rn_some hF)
      try simp [go_sem, g]
      refine pw_wk ?_
      try simp [go_sem, g]
    ·repeat rw [sq]
     refine pw_draw D173_3 follows (by kernel_rfl) rfl ?_
     try simp only [go_sem, D173_3]
     try simp [go_sem, g]
     refine pC hF [.sh] c_impl_Contest_isForm (fun z20 hF => ?_)
     try simp [go_sem, g]
     refine pwgD_F hF (fun h21 hF => ?_) fun h21 hF => ?_
     ·try simp [go_sem, g, h21]
      refine pC hF [.sh] c_impl_Contest_most (fun z22 hF => ?_)
      try simp [go_sem, g, h21]
      exact pT (hj17 (decide (a0.Gr.Q ≤ (i64.wrap (a0.Voters * z22))))) (Rn_some hF)
     ·try simp [go_sem, g, h21]
      exact pT (hj17 false) (Rn_some hF)
  ·try simp [go_sem, g]
   refine pC hF [.sh, .sh] c_impl_IsSealable (fun z4 hF => ?_)
   try simp [go_sem, g]
   refine pwg_F hF (fun h5 hF => ?_) fun h5 hF => ?_
   ·try simp [go_sem, g, h5]
    exact pT (hj1 true) (Rn_some hF)
   ·try simp [go_sem, g, h5]
    refine pwg_F hF (fun h6 hF => ?_) fun h6 hF => ?_
    ·try simp [go_sem, g, h6]
     exact pT (hj1 true) (Rn_some hF)
    ·try simp [go_sem, g, h6]
     refine pC hF [.sh, .sh, .sh] c_impl_within (fun z7 hF => ?_)
     try simp [go_sem, g, h6]
     refine pwg_F hF (fun h8 hF => ?_) fun h8 hF => ?_
     ·try simp [go_sem, g, h8]
      exact pT (hj1 true) (Rn_some hF)
     ·try simp [go_sem, g, h8]
      refine pC hF [.sh, .sh, .sh] c_impl_within (fun z9 hF => ?_)
      try simp [go_sem, g, h8]
      refine pwg_F hF (fun h10 hF => ?_) fun h10 hF => ?_
      ·try simp [go_sem, g, h10]
       exact pT (hj1 true) (Rn_some hF)
      ·try simp [go_sem, g, h10]
       refine pC hF [.sh, .sh, .sh] c_impl_within (fun z11 hF => ?_)
       try simp [go_sem, g, h10]
       refine pwg_F hF (fun h12 hF => ?_) fun h12 hF => ?_
       ·try simp [go_sem, g, h12]
        exact pT (hj1 true) (Rn_some hF)
       ·try simp [go_sem, g, h12]
        refine pC hF [.sh, .sh, .sh] c_impl_within (fun z13 hF => ?_)
        try simp [go_sem, g, h12]
        refine pwg_F hF (fun h14 hF => ?_) fun h14 hF => ?_
        ·try simp [go_sem, g, h14]
         exact pT (hj1 true) (Rn_some hF)
        ·try simp [go_sem, g, h14]
         refine pC hF [.sh] c_impl_isDigest (fun z15 hF => ?_)
         try simp [go_sem, g, h14]
         exact pT (hj1 (!z15)) (Rn_some hF)
noncomputable def F_impl_Plan_authors (a0 : Plan) : Option (Int) :=
  some (i64.wrap ((i64.wrap ((i64.wrap (1 + a0.Trustees)) + a0.Mixers)) + a0.Voters))
theorem c_impl_Plan_authors : ∀ {a0} {r}, F_impl_Plan_authors a0 = some r → PCalls Tryz.prog 379 [(.sh, .agg [.int .i64 a0.Gr.P, .int .i64 a0.Gr.Q, .int .i64 a0.Gr.G, .int .i64 a0.Ct.Kind, .int .i64 a0.Ct.Options, .int .i64 a0.Ct.Least, .int .i64 a0.Ct.Most, .int .i64 a0.Ct.Points, .int .i64 a0.Threshold, .int .i64 a0.Trustees, .int .i64 a0.Mixers, .int .i64 a0.Voters, .int .i64 a0.Seed])] (Eo (.int .i64 r) [.junk]) := by
  intro a0 r hr
  apply pF 12 [] [] [] [.tmp 2] hr cl379 Tryz.func379
  intro Φ hΦ hF g
  unfold F_impl_Plan_authors at hF
  try simp [go_sem, g]
  refine pw_wk ?_
  try simp [go_sem, g]
  refine pw_wkK [2] (by simp [go_sem, g]; rfl) ?_
  cases hΦ _ (Rn_some hF)
  try simp [go_sem, g]
def D234_5 : List DE := [d2 0 [7] 7 7, d0 1 [6], d0 2 [53], d0 3 [54], d0 4 [6], d0 5 [56], d0 6 [57], d0 7 [6], d0 8 [59], d0 9 [60], d0 10 [6], d0 11 [62], d0 12 [63], d0 13 [52, 55, 58, 61, 64], d0 14 [], d2 15 [9, 65] 9 9]
def D234_7 : List DE := [d0 0 [8], d0 1 [69], d0 2 [70], d2 3 [10, 71] 10 10, d3 4 [72, 71], d0 5 [73, 71], d0 6 [71, 74], d0 7 [75], d1 8 [3, 76] 3, d2 9 [77, 76] 3 77, d0 10 [78, 76], d2 11 [10, 76] 10 10, d3 12 [80, 76], d0 13 [79, 81, 76], d0 14 [76, 82]]
noncomputable def F_impl_Group_opening (a0 : Group) (a1 : Board) : Option (Opening × Bool) :=
  ((if ((a1.Entries.length : Int) == 0) = true then (
  some true) else (
  (ix a1.Entries 0).bind fun x5 =>
  if (x5.Kind != 1) = true then (
  some true) else (
  if (x5.Author != 0) = true then (
  some true) else (
  some ((x5.Data.length : Int) != 9)))) : Option (Bool)).bind fun x3 =>
  if x3 = true then (
  some ((Opening.mk (Contest.mk 0 0 0 0 0) 0 0 0 0), false)) else (
  (ix a1.Entries 0).bind fun x9 =>
  gd (0 ≤ 5 ∧ 5 ≤ x9.Data.length) <|
  (F_impl_DecodeContest ((x9.Data.take 5).drop 0)).bind fun z10 =>
  (ix x9.Data 5).bind fun x11 =>
  (ix x9.Data 6).bind fun x12 =>
  (ix x9.Data 7).bind fun x13 =>
  (ix x9.Data 8).bind fun x14 =>
  (F_impl_planOf a0 (Opening.mk z10.1 x11 x12 x13 x14)).bind fun z15 =>
  ((if (!z10.2) = true then (
  some true) else (
  (F_impl_IsValidPlan z15).bind fun z20 =>
  if (!z20) = true then (
  some true) else (
  (F_impl_Plan_authors z15).bind fun z22 =>
  some ((a1.Keys.length : Int) != z22))) : Option (Bool)).bind fun x18 =>
  if x18 = true then (
  some ((Opening.mk (Contest.mk 0 0 0 0 0) 0 0 0 0), false)) else (
  some ((Opening.mk z10.1 x11 x12 x13 x14), true)))))
theorem c_impl_Group_opening : ∀ {a0} {a1} {r}, F_impl_Group_opening a0 a1 = some r → PCalls Tryz.prog 234 [(.sh, .agg [.int .i64 a0.P, .int .i64 a0.Q, .int .i64 a0.G]), (.sh, .agg [.sl false 1 (a1.Keys.map row_i64), .sl false 6 (a1.Entries.map row_Entry_z)])] (Eo (.tup [.agg [.int .i64 r.1.Ct.Kind, .int .i64 r.1.Ct.Options, .int .i64 r.1.Ct.Least, .int .i64 r.1.Ct.Most, .int .i64 r.1.Ct.Points, .int .i64 r.1.Threshold, .int .i64 r.1.Trustees, .int .i64 r.1.Mixers, .int .i64 r.1.Voters], .bool r.2]) [.junk, .junk]) := by
  intro a0 a1 r hr
  apply pF 86 [] [] [] [.cell 4 133, .tmp 5] hr cl234 Tryz.func234
  intro Φ hΦ hF g
  unfold F_impl_Group_opening at hF
  try simp [go_sem, g]
  refine pw_wk ?_
  repeat rw [sq]
  refine pJ hF (fun x3 => [(2, .bl [.int .i64 a0.P, .int .i64 a0.Q, .int .i64 a0.G]), (3, .bl [.sl false 1 (a1.Keys.map row_i64), .sl false 6 (a1.Entries.map row_Entry_z)]), (4, .bl [.int .i64 0, .int .i64 0, .int .i64 0, .int .i64 0, .int .i64 0, .int .i64 0, .int .i64 0, .int .i64 0, .int .i64 0]), (39, .v (.bool x3))]) (fun x3 hF => ?_) fun _ hj1 hF => ?_
  ·repeat rw [sq]
   refine pI hF (fun h8 hF => ?_) (fun h8 hF => ?_)
   ·cases hΦ _ (Rn_some hF)
    try simp [go_sem, g]
    refine pw_wk ?_
    try simp [go_sem, g]
   ·obtain ⟨x9, g, hF⟩ := Rxn g 0 hF
    try simp [go_sem, g]
    refine pw_wk ?_
    try simp [go_sem, g]
    refine pw_wkK [2, 3, 4, 6] (by simp [go_sem, g]; rfl) ?_
    obtain ⟨g, hF⟩ := Rg g hF
    try simp [go_sem, g]
    refine pC hF [.sh] c_impl_DecodeContest (fun z10 hF => ?_)
    try simp [go_sem, g]
    refine pw_wk ?_
    repeat rw [sq]
    refine pw_draw D234_5 follows (by kernel_rfl) rfl ?_
    try simp only [go_sem, D234_5]
    obtain ⟨x11, g, hF⟩ := Rxn g 5 hF
    obtain ⟨x12, g, hF⟩ := Rxn g 6 hF
    obtain ⟨x13, g, hF⟩ := Rxn g 7 hF
    obtain ⟨x14, g, hF⟩ := Rxn g 8 hF
    try simp [go_sem, g]
    refine pw_wkK [2, 3, 4, 8, 9] (by simp [go_sem, g]; rfl) ?_
    try simp [go_sem, g]
    refine pC hF [.sh, .sh] c_impl_planOf (fun z15 hF => ?_)
    try simp [go_sem, g]
    refine pw_wk ?_
    repeat rw [sq]
    refine pJ hF (fun x18 => [(4, .bl [.int .i64 0, .int .i64 0, .int .i64 0, .int .i64 0, .int .i64 0, .int .i64 0, .int .i64 0, .int .i64 0, .int .i64 0]), (9, .bl [.int .i64 z10.1.Kind, .int .i64 z10.1.Options, .int .i64 z10.1.Least, .int .i64 z10.1.Most, .int .i64 z10.1.Points, .int .i64 x11, .int .i64 x12, .int .i64 x13, .int .i64 x14]), (83, .v (.bool x18))]) (fun x18 hF => ?_) fun _ hj16 hF => ?_
    ·repeat rw [sq]
     refine pI hF (fun h23 hF => ?_) (fun h23 hF => ?_)
     ·cases hΦ _ (Rn_some hF)
      try simp [go_sem, g]
      refine pw_wk ?_
      try simp [go_sem, g]
     ·cases hΦ _ (Rn_some hF)
      iterate 2 (try simp [go_sem, g]; refine pw_wk ?_)
      try simp [go_sem, g]
    ·repeat rw [sq]
     refine pw_draw D234_7 follows (by kernel_rfl) rfl ?_
     try simp only [go_sem, D234_7]
     try simp [go_sem, g]
     refine pwgD_F hF (fun h19 hF => ?_) fun h19 hF => ?_
     ·try simp [go_sem, g, h19]
      exact pT (hj16 true) (Rn_some hF)
     ·try simp [go_sem, g, h19]
      refine pC hF [.sh] c_impl_IsValidPlan (fun z20 hF => ?_)
      try simp [go_sem, g, h19]
      refine pwgD_F hF (fun h21 hF => ?_) fun h21 hF => ?_
      ·try simp [go_sem, g, h21]
       exact pT (hj16 true) (Rn_some hF)
      ·try simp [go_sem, g, h21]
       try intros
       refine pC hF [.sh] c_impl_Plan_authors (fun z22 hF => ?_)
       try simp [go_sem, g, h21]
       exact pT (hj16 ((a1.Keys.length : Int) != z22)) (Rn_some hF)
  ·try simp [go_sem, g]
   try intros
   refine pwg_F hF (fun h4 hF => ?_) fun h4 hF => ?_
   ·try simp [go_sem, g, h4]
    exact pT (hj1 true) (Rn_some hF)
   ·obtain ⟨x5, g, hF⟩ := Rxn g 0 hF
    try simp [go_sem, g, h4]
    refine pwg_F hF (fun h6 hF => ?_) fun h6 hF => ?_
    ·try simp [go_sem, g, h6]
     exact pT (hj1 true) (Rn_some hF)
    ·try simp [go_sem, g, h6]
     refine pwg_F hF (fun h7 hF => ?_) fun h7 hF => ?_
     ·try simp [go_sem, g, h7]
      exact pT (hj1 true) (Rn_some hF)
     ·try simp [go_sem, g, h7]
      try intros
      exact pT (hj1 ((x5.Data.length : Int) != 9)) (Rn_some hF)
noncomputable def F_impl_OpeningOf (a0 : Group) (a1 : Board) : Option (Opening × Bool) :=
  (F_impl_areBoard a0 a1).bind fun z1 =>
  if (!z1) = true then (
  some ((Opening.mk (Contest.mk 0 0 0 0 0) 0 0 0 0), false)) else (
  (F_impl_Group_opening a0 a1).bind fun z3 =>
  some (z3.1, z3.2))
theorem c_impl_OpeningOf : ∀ {a0} {a1} {r}, F_impl_OpeningOf a0 a1 = some r → PCalls Tryz.prog 78 [(.sh, .agg [.int .i64 a0.P, .int .i64 a0.Q, .int .i64 a0.G]), (.sh, .agg [.sl false 1 (a1.Keys.map row_i64), .sl false 6 (a1.Entries.map row_Entry_z)])] (Eo (.tup [.agg [.int .i64 r.1.Ct.Kind, .int .i64 r.1.Ct.Options, .int .i64 r.1.Ct.Least, .int .i64 r.1.Ct.Most, .int .i64 r.1.Ct.Points, .int .i64 r.1.Threshold, .int .i64 r.1.Trustees, .int .i64 r.1.Mixers, .int .i64 r.1.Voters], .bool r.2]) [.junk, .junk]) := by
  intro a0 a1 r hr
  apply pF 16 [] [] [] [.cell 4 133, .tmp 5] hr cl78 Tryz.func78
  intro Φ hΦ hF g
  unfold F_impl_OpeningOf at hF
  try simp [go_sem, g]
  refine pw_wk ?_
  try simp [go_sem, g]
  refine pC hF [.sh, .sh] c_impl_areBoard (fun z1 hF => ?_)
  try simp [go_sem, g]
  refine pw_wk ?_
  repeat rw [sq]
  refine pI hF (fun h2 hF => ?_) (fun h2 hF => ?_)
  ·try simp [go_sem, g]
   refine pw_wkK [4, 5] (by simp [go_sem, g]; rfl) ?_
   cases hΦ _ (Rn_some hF)
   try simp [go_sem, g]
  ·try simp [go_sem, g]
   refine pw_wk ?_
   try simp [go_sem, g]
   refine pC hF [.sh, .sh] c_impl_Group_opening (fun z3 hF => ?_)
   try simp [go_sem, g]
   refine pw_wkK [4, 5] (by simp [go_sem, g]; rfl) ?_
   cases hΦ _ (Rn_some hF)
   try simp [go_sem, g]
noncomputable def F_laws_eqContest (a0 : Contest) (a1 : Contest) : Option (Bool) :=
  if (a0.Kind != a1.Kind) = true then (
  some false) else (
  if (a0.Options != a1.Options) = true then (
  some false) else (
  if (a0.Least != a1.Least) = true then (
  some false) else (
  if (a0.Most != a1.Most) = true then (
  some false) else (
  if (a0.Points != a1.Points) = true then (
  some false) else (
  some true)))))
theorem c_laws_eqContest : ∀ {a0} {a1} {r}, F_laws_eqContest a0 a1 = some r → PCalls Tryz.prog 235 [(.sh, .agg [.int .i64 a0.Kind, .int .i64 a0.Options, .int .i64 a0.Least, .int .i64 a0.Most, .int .i64 a0.Points]), (.sh, .agg [.int .i64 a1.Kind, .int .i64 a1.Options, .int .i64 a1.Least, .int .i64 a1.Most, .int .i64 a1.Points])] (Eo (.bool r) [.junk, .junk]) := by
  intro a0 a1 r hr
  apply pF 30 [] [] [] [.tmp 4] hr cl235 Tryz.func235
  intro Φ hΦ hF g
  unfold F_laws_eqContest at hF
  iterate 2 (try simp [go_sem, g]; refine pw_wk ?_)
  repeat rw [sq]
  refine pI hF (fun h1 hF => ?_) (fun h1 hF => ?_)
  ·cases hΦ _ (Rn_some hF)
   try simp [go_sem, g]
   refine pw_wk ?_
   try simp [go_sem, g]
  ·try simp [go_sem, g]
   refine pw_wk ?_
   try simp [go_sem, g]
   refine pw_wkK [2, 3, 14] (by simp [go_sem, g]; rfl) ?_
   repeat rw [sq]
   refine pI hF (fun h2 hF => ?_) (fun h2 hF => ?_)
   ·cases hΦ _ (Rn_some hF)
    try simp [go_sem, g]
    refine pw_wk ?_
    try simp [go_sem, g]
   ·iterate 2 (try simp [go_sem, g]; refine pw_wk ?_)
    repeat rw [sq]
    refine pI hF (fun h3 hF => ?_) (fun h3 hF => ?_)
    ·cases hΦ _ (Rn_some hF)
     try simp [go_sem, g]
     refine pw_wk ?_
     try simp [go_sem, g]
    ·try simp [go_sem, g]
     refine pw_wk ?_
     try simp [go_sem, g]
     refine pw_wkK [2, 3, 24] (by simp [go_sem, g]; rfl) ?_
     repeat rw [sq]
     refine pI hF (fun h4 hF => ?_) (fun h4 hF => ?_)
     ·cases hΦ _ (Rn_some hF)
      try simp [go_sem, g]
      refine pw_wk ?_
      try simp [go_sem, g]
     ·iterate 2 (try simp [go_sem, g]; refine pw_wk ?_)
      repeat rw [sq]
      refine pI hF (fun h5 hF => ?_) (fun h5 hF => ?_)
      ·cases hΦ _ (Rn_some hF)
       try simp [go_sem, g]
       refine pw_wk ?_
       try simp [go_sem, g]
      ·cases hΦ _ (Rn_some hF)
       iterate 2 (try simp [go_sem, g]; refine pw_wk ?_)
       try simp [go_sem, g]
noncomputable def F_laws_eqOpening (a0 : Opening) (a1 : Opening) : Option (Bool) :=
  (F_laws_eqContest a0.Ct a1.Ct).bind fun z1 =>
  if (!z1) = true then (
  some false) else (
  if (a0.Threshold != a1.Threshold) = true then (
  some false) else (
  if (a0.Trustees != a1.Trustees) = true then (
  some false) else (
  if (a0.Mixers != a1.Mixers) = true then (
  some false) else (
  if (a0.Voters != a1.Voters) = true then (
  some false) else (
  some true)))))
theorem c_laws_eqOpening : ∀ {a0} {a1} {r}, F_laws_eqOpening a0 a1 = some r → PCalls Tryz.prog 79 [(.sh, .agg [.int .i64 a0.Ct.Kind, .int .i64 a0.Ct.Options, .int .i64 a0.Ct.Least, .int .i64 a0.Ct.Most, .int .i64 a0.Ct.Points, .int .i64 a0.Threshold, .int .i64 a0.Trustees, .int .i64 a0.Mixers, .int .i64 a0.Voters]), (.sh, .agg [.int .i64 a1.Ct.Kind, .int .i64 a1.Ct.Options, .int .i64 a1.Ct.Least, .int .i64 a1.Ct.Most, .int .i64 a1.Ct.Points, .int .i64 a1.Threshold, .int .i64 a1.Trustees, .int .i64 a1.Mixers, .int .i64 a1.Voters])] (Eo (.bool r) [.junk, .junk]) := by
  intro a0 a1 r hr
  apply pF 31 [] [] [] [.tmp 4] hr cl79 Tryz.func79
  intro Φ hΦ hF g
  unfold F_laws_eqOpening at hF
  try simp [go_sem, g]
  refine pw_wk ?_
  try simp [go_sem, g]
  refine pC hF [.sh, .sh] c_laws_eqContest (fun z1 hF => ?_)
  try simp [go_sem, g]
  refine pw_wk ?_
  repeat rw [sq]
  refine pI hF (fun h2 hF => ?_) (fun h2 hF => ?_)
  ·try simp [go_sem, g]
   refine pw_wkK [4] (by simp [go_sem, g]; rfl) ?_
   cases hΦ _ (Rn_some hF)
   try simp [go_sem, g]
  ·try simp [go_sem, g]
   refine pw_wk ?_
   try simp [go_sem, g]
   refine pw_wkK [2, 3, 15] (by simp [go_sem, g]; rfl) ?_
   repeat rw [sq]
   refine pI hF (fun h3 hF => ?_) (fun h3 hF => ?_)
   ·cases hΦ _ (Rn_some hF)
    try simp [go_sem, g]
    refine pw_wk ?_
    try simp [go_sem, g]
   ·iterate 2 (try simp [go_sem, g]; refine pw_wk ?_)
    repeat rw [sq]
    refine pI hF (fun h4 hF => ?_) (fun h4 hF => ?_)
    ·cases hΦ _ (Rn_some hF)
     try simp [go_sem, g]
     refine pw_wk ?_
     try simp [go_sem, g]
    ·try simp [go_sem, g]
     refine pw_wk ?_
     try simp [go_sem, g]
     refine pw_wkK [2, 3, 25] (by simp [go_sem, g]; rfl) ?_
     repeat rw [sq]
     refine pI hF (fun h5 hF => ?_) (fun h5 hF => ?_)
     ·cases hΦ _ (Rn_some hF)
      try simp [go_sem, g]
      refine pw_wk ?_
      try simp [go_sem, g]
     ·iterate 2 (try simp [go_sem, g]; refine pw_wk ?_)
      repeat rw [sq]
      refine pI hF (fun h6 hF => ?_) (fun h6 hF => ?_)
      ·cases hΦ _ (Rn_some hF)
       try simp [go_sem, g]
       refine pw_wk ?_
       try simp [go_sem, g]
      ·cases hΦ _ (Rn_some hF)
       iterate 2 (try simp [go_sem, g]; refine pw_wk ?_)
       try simp [go_sem, g]
def D21_6 : List DE := [d0 0 [0], d0 1 [5], d0 2 [17, 18], d0 3 [19], d0 4 [1], d0 5 [5], d0 6 [21, 22], d0 7 [23], d0 8 [20, 24]]
noncomputable def F_laws_eqIntS (a0 : (List Int)) (a1 : (List Int)) : Option (Bool) :=
  if ((a0.length : Int) != (a1.length : Int)) = true then (
  some false) else (
  ((wloop (σ := Int) (fun s5 =>
  if decide (s5 < (a0.length : Int)) = true then (
  (ix a0 s5).bind fun x11 =>
  (ix a1 s5).bind fun x12 =>
  if (x11 != x12) = true then (
  some (.out (.inr false))) else (
  some (.go (i64.wrap (s5 + 1))))) else (
  some (.out (.inl ())))) 0 : Option (Unit ⊕ Bool)).bind (Sum.elim (fun x4 =>
  some true) some)))
theorem c_laws_eqIntS : ∀ {a0} {a1} {r}, F_laws_eqIntS a0 a1 = some r → PCalls Tryz.prog 21 [(.sh, .sl false 1 (a0.map row_i64)), (.sh, .sl false 1 (a1.map row_i64))] (Eo (.bool r) [.junk, .junk]) := by
  intro a0 a1 r hr
  apply pF 26 [] [] [] [.tmp 4] hr cl21 Tryz.func21
  intro Φ hΦ hF g
  unfold F_laws_eqIntS at hF
  iterate 2 (try simp [go_sem, g]; try intros; refine pw_wk ?_)
  repeat rw [sq]
  refine pI hF (fun h1 hF => ?_) (fun h1 hF => ?_)
  ·cases hΦ _ (Rn_some hF)
   try simp [go_sem, g]
   refine pw_wk ?_
   try simp [go_sem, g]
  ·iterate 2 (try simp [go_sem, g]; refine pw_wk ?_)
   repeat rw [sq]
   refine pJs hF (fun x4 => []) (fun x4 hF => ?_) fun _ hj2 hr3 hF => ?_
   ·cases hΦ _ (Rn_some hF)
    try simp [go_sem, g]
    refine pw_wk ?_
    try simp [go_sem, g]
   ·repeat rw [sq]
    rw [pw_block]
    obtain ⟨b14, hb15, hψ9⟩ := hF
    refine pL hb15 (fun s5 => [(0, .v (.sl false 1 (a0.map row_i64))), (1, .v (.sl false 1 (a1.map row_i64))), (5, .v (.int .i64 s5))]) (fun s5 _ _ ho7 hg8 hF => ?_)
    try simp [go_sem, g]
    try intros
    refine pw_wkK [0, 1, 5, 14] (by simp [go_sem, g]; rfl) ?_
    repeat rw [sq]
    refine pI hF (fun h10 hF => ?_) (fun h10 hF => ?_)
    ·try simp [go_sem, g]
     refine pw_wk ?_
     repeat rw [sq]
     rw [pw_block]
     repeat rw [sq]
     refine pw_draw D21_6 follows (by kernel_rfl) rfl ?_
     try simp only [go_sem, D21_6]
     obtain ⟨x11, g, hF⟩ := Rx g hF
     obtain ⟨x12, g, hF⟩ := Rx g hF
     try simp [go_sem, g]
     refine pw_wk ?_
     repeat rw [sq]
     refine pI hF (fun h13 hF => ?_) (fun h13 hF => ?_)
     ·try simp [go_sem, g]
      refine pw_wkK [4] (by simp [go_sem, g]; rfl) ?_
      cases ho7 _ (Rn_some hF)
      cases hΦ _ (hr3 _ hψ9)
      try simp [go_sem, g]
     ·try simp [go_sem, g]
      refine pw_wk ?_
      try simp [go_sem, g]
      exact pT (hg8 (i64.wrap (s5 + 1))) (Rn_some hF)
    ·try simp [go_sem, g]
     cases ho7 _ (Rn_some hF)
     exact pT (hj2 ()) hψ9
noncomputable def F_laws_eqProof (a0 : Proof) (a1 : Proof) : Option (Bool) :=
  (F_laws_eqIntS a0.Commits a1.Commits).bind fun z1 =>
  if (!z1) = true then (
  some false) else (
  (F_laws_eqIntS a0.Challenges a1.Challenges).bind fun z3 =>
  if (!z3) = true then (
  some false) else (
  (F_laws_eqIntS a0.Responses a1.Responses).bind fun z5 =>
  if (!z5) = true then (
  some false) else (
  some true)))
theorem c_laws_eqProof : ∀ {a0} {a1} {r}, F_laws_eqProof a0 a1 = some r → PCalls Tryz.prog 129 [(.sh, .agg [.sl false 1 (a0.Commits.map row_i64), .sl false 1 (a0.Challenges.map row_i64), .sl false 1 (a0.Responses.map row_i64)]), (.sh, .agg [.sl false 1 (a1.Commits.map row_i64), .sl false 1 (a1.Challenges.map row_i64), .sl false 1 (a1.Responses.map row_i64)])] (Eo (.bool r) [.junk, .junk]) := by
  intro a0 a1 r hr
  apply pF 23 [] [] [] [.tmp 4] hr cl129 Tryz.func129
  intro Φ hΦ hF g
  unfold F_laws_eqProof at hF
  try simp [go_sem, g]
  refine pw_wk ?_
  try simp [go_sem, g]
  refine pC hF [.sh, .sh] c_laws_eqIntS (fun z1 hF => ?_)
  try simp [go_sem, g]
  refine pw_wk ?_
  repeat rw [sq]
  refine pI hF (fun h2 hF => ?_) (fun h2 hF => ?_)
  ·try simp [go_sem, g]
   refine pw_wkK [4] (by simp [go_sem, g]; rfl) ?_
   cases hΦ _ (Rn_some hF)
   try simp [go_sem, g]
  ·try simp [go_sem, g]
   refine pw_wk ?_
   try simp [go_sem, g]
   refine pC hF [.sh, .sh] c_laws_eqIntS (fun z3 hF => ?_)
   try simp [go_sem, g]
   refine pw_wkK [2, 3, 16] (by simp [go_sem, g]; rfl) ?_
   repeat rw [sq]
   refine pI hF (fun h4 hF => ?_) (fun h4 hF => ?_)
   ·cases hΦ _ (Rn_some hF)
    try simp [go_sem, g]
    refine pw_wk ?_
    try simp [go_sem, g]
   ·try simp [go_sem, g]
    refine pw_wk ?_
    try simp [go_sem, g]
    refine pC hF [.sh, .sh] c_laws_eqIntS (fun z5 hF => ?_)
    try simp [go_sem, g]
    refine pw_wk ?_
    repeat rw [sq]
    refine pI hF (fun h6 hF => ?_) (fun h6 hF => ?_)
    ·cases hΦ _ (Rn_some hF)
     try simp [go_sem, g]
     refine pw_wk ?_
     try simp [go_sem, g]
    ·cases hΦ _ (Rn_some hF)
     iterate 2 (try simp [go_sem, g]; refine pw_wk ?_)
     try simp [go_sem, g]
noncomputable def F_laws_eqEntry (a0 : Entry) (a1 : Entry) : Option (Bool) :=
  if (a0.Kind != a1.Kind) = true then (
  some false) else (
  if (a0.Author != a1.Author) = true then (
  some false) else (
  (F_laws_eqIntS a0.Data a1.Data).bind fun z3 =>
  if (!z3) = true then (
  some false) else (
  (F_laws_eqProof a0.Sign a1.Sign).bind fun z5 =>
  if (!z5) = true then (
  some false) else (
  some true))))
theorem c_laws_eqEntry : ∀ {a0} {a1} {r}, F_laws_eqEntry a0 a1 = some r → PCalls Tryz.prog 285 [(.sh, .agg [.int .i64 a0.Kind, .int .i64 a0.Author, .sl false 1 (a0.Data.map row_i64), .sl false 1 (a0.Sign.Commits.map row_i64), .sl false 1 (a0.Sign.Challenges.map row_i64), .sl false 1 (a0.Sign.Responses.map row_i64)]), (.sh, .agg [.int .i64 a1.Kind, .int .i64 a1.Author, .sl false 1 (a1.Data.map row_i64), .sl false 1 (a1.Sign.Commits.map row_i64), .sl false 1 (a1.Sign.Challenges.map row_i64), .sl false 1 (a1.Sign.Responses.map row_i64)])] (Eo (.bool r) [.junk, .junk]) := by
  intro a0 a1 r hr
  apply pF 27 [] [] [] [.tmp 4] hr cl285 Tryz.func285
  intro Φ hΦ hF g
  unfold F_laws_eqEntry at hF
  iterate 2 (try simp [go_sem, g]; refine pw_wk ?_)
  repeat rw [sq]
  refine pI hF (fun h1 hF => ?_) (fun h1 hF => ?_)
  ·cases hΦ _ (Rn_some hF)
   try simp [go_sem, g]
   refine pw_wk ?_
   try simp [go_sem, g]
  ·try simp [go_sem, g]
   refine pw_wk ?_
   try simp [go_sem, g]
   refine pw_wkK [2, 3, 14] (by simp [go_sem, g]; rfl) ?_
   repeat rw [sq]
   refine pI hF (fun h2 hF => ?_) (fun h2 hF => ?_)
   ·cases hΦ _ (Rn_some hF)
    try simp [go_sem, g]
    refine pw_wk ?_
    try simp [go_sem, g]
   ·try simp [go_sem, g]
    refine pw_wk ?_
    try simp [go_sem, g]
    refine pC hF [.sh, .sh] c_laws_eqIntS (fun z3 hF => ?_)
    try simp [go_sem, g]
    refine pw_wk ?_
    repeat rw [sq]
    refine pI hF (fun h4 hF => ?_) (fun h4 hF => ?_)
    ·cases hΦ _ (Rn_some hF)
     try simp [go_sem, g]
     refine pw_wk ?_
     try simp [go_sem, g]
    ·try simp [go_sem, g]
     refine pw_wk ?_
     try simp [go_sem, g]
     refine pC hF [.sh, .sh] c_laws_eqProof (fun z5 hF => ?_)
     try simp [go_sem, g]
     refine pw_wkK [26] (by simp [go_sem, g]; rfl) ?_
     repeat rw [sq]
     refine pI hF (fun h6 hF => ?_) (fun h6 hF => ?_)
     ·cases hΦ _ (Rn_some hF)
      try simp [go_sem, g]
      refine pw_wk ?_
      try simp [go_sem, g]
     ·cases hΦ _ (Rn_some hF)
      iterate 2 (try simp [go_sem, g]; refine pw_wk ?_)
      try simp [go_sem, g]
def D128_6 : List DE := [d0 0 [0], d0 1 [5], d0 2 [17, 18], d0 3 [19], d0 4 [1], d0 5 [5], d0 6 [21, 22], d0 7 [23], d3 8 [20, 24], d0 9 [25]]
noncomputable def F_laws_eqEntryS (a0 : (List Entry)) (a1 : (List Entry)) : Option (Bool) :=
  if ((a0.length : Int) != (a1.length : Int)) = true then (
  some false) else (
  ((wloop (σ := Int) (fun s5 =>
  if decide (s5 < (a0.length : Int)) = true then (
  (ix a0 s5).bind fun x11 =>
  (ix a1 s5).bind fun x12 =>
  (F_laws_eqEntry x11 x12).bind fun z13 =>
  if (!z13) = true then (
  some (.out (.inr false))) else (
  some (.go (i64.wrap (s5 + 1))))) else (
  some (.out (.inl ())))) 0 : Option (Unit ⊕ Bool)).bind (Sum.elim (fun x4 =>
  some true) some)))
theorem c_laws_eqEntryS : ∀ {a0} {a1} {r}, F_laws_eqEntryS a0 a1 = some r → PCalls Tryz.prog 128 [(.sh, .sl false 6 (a0.map row_Entry_z)), (.sh, .sl false 6 (a1.map row_Entry_z))] (Eo (.bool r) [.junk, .junk]) := by
  intro a0 a1 r hr
  apply pF 27 [] [] [] [.tmp 4] hr cl128 Tryz.func128
  intro Φ hΦ hF g
  unfold F_laws_eqEntryS at hF
  iterate 2 (try simp [go_sem, g]; try intros; refine pw_wk ?_)
  repeat rw [sq]
  refine pI hF (fun h1 hF => ?_) (fun h1 hF => ?_)
  ·cases hΦ _ (Rn_some hF)
   try simp [go_sem, g]
   refine pw_wk ?_
   try simp [go_sem, g]
  ·iterate 2 (try simp [go_sem, g]; refine pw_wk ?_)
   repeat rw [sq]
   refine pJs hF (fun x4 => []) (fun x4 hF => ?_) fun _ hj2 hr3 hF => ?_
   ·cases hΦ _ (Rn_some hF)
    try simp [go_sem, g]
    refine pw_wk ?_
    try simp [go_sem, g]
   ·repeat rw [sq]
    rw [pw_block]
    obtain ⟨b15, hb16, hψ9⟩ := hF
    refine pL hb16 (fun s5 => [(0, .v (.sl false 6 (a0.map row_Entry_z))), (1, .v (.sl false 6 (a1.map row_Entry_z))), (5, .v (.int .i64 s5))]) (fun s5 _ _ ho7 hg8 hF => ?_)
    try simp [go_sem, g]
    try intros
    refine pw_wkK [0, 1, 5, 14] (by simp [go_sem, g]; rfl) ?_
    repeat rw [sq]
    refine pI hF (fun h10 hF => ?_) (fun h10 hF => ?_)
    ·try simp [go_sem, g]
     refine pw_wk ?_
     repeat rw [sq]
     rw [pw_block]
     repeat rw [sq]
     refine pw_draw D128_6 follows (by kernel_rfl) rfl ?_
     try simp only [go_sem, D128_6]
     obtain ⟨x11, g, hF⟩ := Rx g hF
     obtain ⟨x12, g, hF⟩ := Rx g hF
     try simp [go_sem, g]
     refine pC hF [.sh, .sh] c_laws_eqEntry (fun z13 hF => ?_)
     try simp [go_sem, g]
     refine pw_wkK [0, 1, 5, 26] (by simp [go_sem, g]; rfl) ?_
     repeat rw [sq]
     refine pI hF (fun h14 hF => ?_) (fun h14 hF => ?_)
     ·cases ho7 _ (Rn_some hF)
      cases hΦ _ (hr3 _ hψ9)
      try simp [go_sem, g]
      refine pw_wk ?_
      try simp [go_sem, g]
     ·try simp [go_sem, g]
      refine pw_wk ?_
      try simp [go_sem, g]
      exact pT (hg8 (i64.wrap (s5 + 1))) (Rn_some hF)
    ·try simp [go_sem, g]
     cases ho7 _ (Rn_some hF)
     exact pT (hj2 ()) hψ9
noncomputable def F_laws_eqBoard (a0 : Board) (a1 : Board) : Option (Bool) :=
  (F_laws_eqIntS a0.Keys a1.Keys).bind fun z1 =>
  if (!z1) = true then (
  some false) else (
  (F_laws_eqEntryS a0.Entries a1.Entries).bind fun z3 =>
  if (!z3) = true then (
  some false) else (
  some true))
theorem c_laws_eqBoard : ∀ {a0} {a1} {r}, F_laws_eqBoard a0 a1 = some r → PCalls Tryz.prog 22 [(.sh, .agg [.sl false 1 (a0.Keys.map row_i64), .sl false 6 (a0.Entries.map row_Entry_z)]), (.sh, .agg [.sl false 1 (a1.Keys.map row_i64), .sl false 6 (a1.Entries.map row_Entry_z)])] (Eo (.bool r) [.junk, .junk]) := by
  intro a0 a1 r hr
  apply pF 17 [] [] [] [.tmp 4] hr cl22 Tryz.func22
  intro Φ hΦ hF g
  unfold F_laws_eqBoard at hF
  try simp [go_sem, g]
  refine pw_wk ?_
  try simp [go_sem, g]
  refine pC hF [.sh, .sh] c_laws_eqIntS (fun z1 hF => ?_)
  try simp [go_sem, g]
  refine pw_wk ?_
  repeat rw [sq]
  refine pI hF (fun h2 hF => ?_) (fun h2 hF => ?_)
  ·try simp [go_sem, g]
   refine pw_wkK [4] (by simp [go_sem, g]; rfl) ?_
   cases hΦ _ (Rn_some hF)
   try simp [go_sem, g]
  ·try simp [go_sem, g]
   refine pw_wk ?_
   try simp [go_sem, g]
   refine pC hF [.sh, .sh] c_laws_eqEntryS (fun z3 hF => ?_)
   try simp [go_sem, g]
   refine pw_wkK [16] (by simp [go_sem, g]; rfl) ?_
   repeat rw [sq]
   refine pI hF (fun h4 hF => ?_) (fun h4 hF => ?_)
   ·cases hΦ _ (Rn_some hF)
    try simp [go_sem, g]
    refine pw_wk ?_
    try simp [go_sem, g]
   ·cases hΦ _ (Rn_some hF)
    iterate 2 (try simp [go_sem, g]; refine pw_wk ?_)
    try simp [go_sem, g]
def D9_10 : List DE := [d2 0 [8] 8 8, d2 1 [3] 3 3, d3 2 [43], d3 3 [42, 44], d0 4 [45]]
def D9_5 : List DE := [d2 0 [2] 2 2, d2 2 [3] 3 3, d0 8 [], d3 1 [17], d3 3 [19], d3 4 [18, 20], d0 5 [21], d0 6 [16], d0 7 [16], d2 9 [6, 22] 6 6, d0 10 [23]]
def D9_7 : List DE := [d2 0 [2] 2 2, d2 2 [8] 8 8, d0 7 [], d3 1 [27], d3 3 [28, 29], d0 4 [30], d0 5 [26], d0 6 [26], d2 8 [9, 31] 9 9, d0 9 [32]]
noncomputable def F_laws_FnExactOpeningOf (a0 : Group) (a1 : Board) : Option (Bool) :=
  (F_laws_szBoard a1 1048576).bind fun z1 =>
  if decide (z1 < 0) = true then (
  some true) else (
  (F_laws_toGroup a0).bind fun z3 =>
  (F_laws_toBoard a1).bind fun z4 =>
  (F_spec_OpeningOf z3 z4).bind fun z5 =>
  (F_laws_toBoard a1).bind fun z6 =>
  (F_laws_toGroup a0).bind fun z7 =>
  (F_impl_OpeningOf z7 z6).bind fun z8 =>
  (((F_laws_eqOpening z8.1 z5.1).bind fun z12 =>
  if (!z12) = true then (
  some true) else (
  some (z8.2 != z5.2)) : Option (Bool)).bind fun x11 =>
  if x11 = true then (
  some false) else (
  (F_laws_toBoard a1).bind fun z15 =>
  (F_laws_eqBoard z6 z15).bind fun z16 =>
  if (!z16) = true then (
  some false) else (
  some true))))
theorem c_laws_FnExactOpeningOf : ∀ {a0} {a1} {r}, F_laws_FnExactOpeningOf a0 a1 = some r → PCalls Tryz.prog 9 [(.sh, .agg [.int .i64 a0.P, .int .i64 a0.Q, .int .i64 a0.G]), (.sh, .agg [.sl false 1 (a1.Keys.map row_i64), .sl false 6 (a1.Entries.map row_Entry_z)])] (Eo (.bool r) [.junk, .junk]) := by
  intro a0 a1 r hr
  apply pF 47 [] [] [] [.tmp 4] hr cl9 Tryz.func9
  intro Φ hΦ hF g
  unfold F_laws_FnExactOpeningOf at hF
  iterate 2 (try simp [go_sem, g]; refine pw_wk ?_)
  try simp [go_sem, g]
  refine pC hF [.sh, .sh] c_laws_szBoard (fun z1 hF => ?_)
  try simp [go_sem, g]
  refine pw_wk ?_
  try simp [go_sem, g]
  refine pw_wkK [2, 3, 15] (by simp [go_sem, g]; rfl) ?_
  repeat rw [sq]
  refine pI hF (fun h2 hF => ?_) (fun h2 hF => ?_)
  ·cases hΦ _ (Rn_some hF)
   try simp [go_sem, g]
   refine pw_wk ?_
   try simp [go_sem, g]
  ·try simp [go_sem, g]
   refine pw_wk ?_
   repeat rw [sq]
   refine pw_draw D9_5 follows (by kernel_rfl) rfl ?_
   try simp only [go_sem, D9_5]
   try simp [go_sem, g]
   refine pC hF [.sh] c_laws_toGroup (fun z3 hF => ?_)
   try simp [go_sem, g]
   refine pC hF [.sh] c_laws_toBoard (fun z4 hF => ?_)
   try simp [go_sem, g]
   refine pC hF [.sh, .sh] c_spec_OpeningOf (fun z5 hF => ?_)
   try simp [go_sem, g]
   refine pw_wkK [2, 3, 6, 7] (by simp [go_sem, g]; rfl) ?_
   try simp [go_sem, g]
   refine pC hF [.sh] c_laws_toBoard (fun z6 hF => ?_)
   try simp [go_sem, g]
   refine pw_wk ?_
   repeat rw [sq]
   refine pw_draw D9_7 follows (by kernel_rfl) rfl ?_
   try simp only [go_sem, D9_7]
   try simp [go_sem, g]
   refine pC hF [.sh] c_laws_toGroup (fun z7 hF => ?_)
   try simp [go_sem, g]
   refine pC hF [.sh, .sh] c_impl_OpeningOf (fun z8 hF => ?_)
   try simp [go_sem, g]
   refine pw_wkK [3, 6, 7, 8, 9, 10] (by simp [go_sem, g]; rfl) ?_
   repeat rw [sq]
   refine pJ hF (fun x11 => [(3, .bl [.sl false 1 (a1.Keys.map row_i64), .sl false 6 (a1.Entries.map row_Entry_z)]), (8, .bl [.sl true 1 (z6.Keys.map row_i64), .sl true 6 (z6.Entries.map row_Entry_o)]), (41, .v (.bool x11))]) (fun x11 hF => ?_) fun _ hj9 hF => ?_
   ·repeat rw [sq]
    refine pI hF (fun h14 hF => ?_) (fun h14 hF => ?_)
    ·cases hΦ _ (Rn_some hF)
     try simp [go_sem, g]
     refine pw_wk ?_
     try simp [go_sem, g]
    ·try simp [go_sem, g]
     refine pw_wk ?_
     repeat rw [sq]
     refine pw_draw D9_10 follows (by kernel_rfl) rfl ?_
     try simp only [go_sem, D9_10]
     try simp [go_sem, g]
     refine pC hF [.sh] c_laws_toBoard (fun z15 hF => ?_)
     try simp [go_sem, g]
     refine pC hF [.sh, .sh] c_laws_eqBoard (fun z16 hF => ?_)
     try simp [go_sem, g]
     refine pw_wk ?_
     repeat rw [sq]
     refine pI hF (fun h17 hF => ?_) (fun h17 hF => ?_)
     ·cases hΦ _ (Rn_some hF)
      try simp [go_sem, g]
      refine pw_wk ?_
      try simp [go_sem, g]
     ·cases hΦ _ (Rn_some hF)
      iterate 2 (try simp [go_sem, g]; refine pw_wk ?_)
      try simp [go_sem, g]
   ·try simp [go_sem, g]
    refine pC hF [.sh, .sh] c_laws_eqOpening (fun z12 hF => ?_)
    try simp [go_sem, g]
    refine pwg_F hF (fun h13 hF => ?_) fun h13 hF => ?_
    ·try simp [go_sem, g, h13]
     exact pT (hj9 true) (Rn_some hF)
    ·try simp [go_sem, g, h13]
     exact pT (hj9 (z8.2 != z5.2)) (Rn_some hF)
end Go.Pm
