/-
  Plain functions and their walks. Written by wip/tools/lift.py.
-/
import Derived.Test.YtoljmkdfamffmaaGreatM16
namespace Go.Pm
open Go.Am IntKind
open Go.Proofs
set_option maxRecDepth 100000
attribute [local irreducible] pw pwx pw1 pwg qv qz qf
attribute [-simp] List.map_set
set_option linter.unusedSimpArgs false
set_option linter.unusedVariables false
theorem c_impl_prefixPath_r : ∀ {n_ : Nat} {a0 : Int} {a1 : (List Int)} {a2 : Bool} {r : (List Int)} (hr : F_impl_prefixPath_r n_ a0 a1 a2 = some r), PCalls Tryz.prog 126 [(.sh, .int .i64 a0), (.sh, .sl false 1 (a1.map row_i64)), (.sh, .bool a2)] (Eo (.sl true 1 (r.map row_i64)) [.junk, .junk, .junk]) := by
  intro n_
  induction n_ with
  | zero => intro a0 a1 a2 r hr; cases hr
  | succ n_ ih =>
    intro a0 a1 a2 r hr
    apply pF 48 [] [] [] [.tmp 6] hr cl126 Tryz.func126
    intro Φ hΦ hF g
    simp only [F_impl_prefixPath_r] at hF
    iterate 3 (try simp [go_sem, g]; try intros; refine pw_wk ?_)
    repeat rw [sq]
    refine pI hF (fun h1 hF => ?_) (fun h1 hF => ?_)
    ·try simp [go_sem, g]
     refine pw_wk ?_
     repeat rw [sq]
     refine pI hF (fun h2 hF => ?_) (fun h2 hF => ?_)
     ·cases hΦ _ (Rn_some hF)
      try simp [go_sem, g]
      refine pw_wk ?_
      try simp [go_sem, g]
     ·try simp [go_sem, g]
      refine pw_wk ?_
      try simp [go_sem, g]
      refine pC hF [.sh] c_impl_rootOf (fun z3 hF => ?_)
      try simp [go_sem, g]
      refine pw_wkK [6] (by simp [go_sem, g]; rfl) ?_
      cases hΦ _ (Rn_some hF)
      try simp [go_sem, g]
    ·try simp [go_sem, g]
     refine pw_wk ?_
     try simp [go_sem, g]
     refine pC hF [.sh] c_impl_half (fun z4 hF => ?_)
     try simp [go_sem, g]
     refine pw_wkK [0, 1, 2, 8] (by simp [go_sem, g]; rfl) ?_
     try simp [go_sem, g]
     refine pw_wk ?_
     repeat rw [sq]
     refine pI hF (fun h5 hF => ?_) (fun h5 hF => ?_)
     ·repeat rw [sq]
      refine pw_draw D126_8 follows (by kernel_rfl) rfl ?_
      try simp only [go_sem, D126_8]
      obtain ⟨g, hF⟩ := Rg g hF
      obtain ⟨g, hF⟩ := Rg g hF
      obtain ⟨g, hF⟩ := Rg g hF
      obtain ⟨g, hF⟩ := Rg g hF
      try simp [go_sem, g]
      refine pC hF [.sh, .sh, .sh] ih (fun z6 hF => ?_)
      try simp [go_sem, g]
      refine pC hF [.sh] c_impl_rootOf (fun z7 hF => ?_)
      obtain ⟨g, hF⟩ := Rg g hF
      try simp [go_sem, g]
      refine pw_wkK [6] (by simp [go_sem, g]; rfl) ?_
      cases hΦ _ (Rn_some hF)
      try simp [go_sem, g]
     ·try simp [go_sem, g]
      refine pw_wk ?_
      repeat rw [sq]
      refine pw_draw D126_9 follows (by kernel_rfl) rfl ?_
      try simp only [go_sem, D126_9]
      obtain ⟨g, hF⟩ := Rg g hF
      obtain ⟨g, hF⟩ := Rg g hF
      obtain ⟨g, hF⟩ := Rg g hF
      obtain ⟨g, hF⟩ := Rg g hF
      try simp [go_sem, g]
      refine pC hF [.sh, .sh, .sh] ih (fun z8 hF => ?_)
      try simp [go_sem, g]
      refine pC hF [.sh] c_impl_rootOf (fun z9 hF => ?_)
      obtain ⟨g, hF⟩ := Rg g hF
      try simp [go_sem, g]
      refine pw_wkK [6] (by simp [go_sem, g]; rfl) ?_
      cases hΦ _ (Rn_some hF)
      try simp [go_sem, g]
theorem c_impl_prefixPath {a0 : Int} {a1 : (List Int)} {a2 : Bool} {r : (List Int)} (hr : F_impl_prefixPath a0 a1 a2 = some r) : PCalls Tryz.prog 126 [(.sh, .int .i64 a0), (.sh, .sl false 1 (a1.map row_i64)), (.sh, .bool a2)] (Eo (.sl true 1 (r.map row_i64)) [.junk, .junk, .junk]) := by
  obtain ⟨n_, hn⟩ := frec_some hr
  exact c_impl_prefixPath_r hn
def D20_3 : List DE := [⟨0, [6], [6], none, false, false, false⟩, ⟨1, [36], [6], some 36, false, false, false⟩, ⟨2, [5], [5], some 5, false, false, false⟩, ⟨4, [7], [7], none, false, false, false⟩, ⟨5, [40], [7], some 40, false, false, false⟩, ⟨3, [38], [], none, false, true, true⟩, ⟨6, [39, 41], [], none, false, false, false⟩, ⟨7, [37, 42], [], none, false, true, true⟩, ⟨8, [43], [], none, false, false, false⟩, ⟨9, [], [], none, false, false, false⟩]
noncomputable def F_impl_ProvenPrefix (a0 : Group) (a1 : Board) (a2 : Head) (a3 : Head) : Option ((List Int) × Bool) :=
  (((F_impl_areBoard a0 a1).bind fun z4 =>
  if (!z4) = true then (
  some true) else (
  (F_impl_Group_fits a0 a1 a2).bind fun z6 =>
  if (!z6) = true then (
  some true) else (
  (F_impl_Group_fits a0 a1 a3).bind fun z8 =>
  if (!z8) = true then (
  some true) else (
  (F_impl_within a2.Size 1 a3.Size).bind fun z10 =>
  some (!z10)))) : Option (Bool)).bind fun x3 =>
  if x3 = true then (
  some ([], false)) else (
  (F_impl_boardLeaves a1).bind fun z12 =>
  gd (0 ≤ a3.Size) <|
  gd (0 ≤ a3.Size.toNat ∧ a3.Size.toNat ≤ z12.length) <|
  (F_impl_prefixPath a2.Size ((z12.take a3.Size.toNat).drop 0) true).bind fun z13 =>
  some (z13, true)))
theorem c_impl_ProvenPrefix : ∀ {a0} {a1} {a2} {a3} {r}, F_impl_ProvenPrefix a0 a1 a2 a3 = some r → PCalls Tryz.prog 20 [(.sh, .agg [.int .i64 a0.P, .int .i64 a0.Q, .int .i64 a0.G]), (.sh, .agg [.sl false 1 (a1.Keys.map row_i64), .sl false 6 (a1.Entries.map row_Entry_z)]), (.sh, .agg [.int .i64 a2.Author, .int .i64 a2.Size, .int .i64 a2.Root, .sl false 1 (a2.Sign.Commits.map row_i64), .sl false 1 (a2.Sign.Challenges.map row_i64), .sl false 1 (a2.Sign.Responses.map row_i64)]), (.sh, .agg [.int .i64 a3.Author, .int .i64 a3.Size, .int .i64 a3.Root, .sl false 1 (a3.Sign.Commits.map row_i64), .sl false 1 (a3.Sign.Challenges.map row_i64), .sl false 1 (a3.Sign.Responses.map row_i64)])] (Eo (.tup [.sl true 1 (r.1.map row_i64), .bool r.2]) [.junk, .junk, .junk, .junk]) := by
  intro a0 a1 a2 a3 r hr
  apply pF 44 [] [] [] [.tmp 8, .tmp 9] hr cl20 Tryz.func20
  intro Φ hΦ hF g
  unfold F_impl_ProvenPrefix at hF
  try simp [go_sem, g]
  refine pw_wk ?_
  repeat rw [sq]
  refine pJ hF (fun x3 => [(5, .bl [.sl false 1 (a1.Keys.map row_i64), .sl false 6 (a1.Entries.map row_Entry_z)]), (6, .bl [.int .i64 a2.Author, .int .i64 a2.Size, .int .i64 a2.Root, .sl false 1 (a2.Sign.Commits.map row_i64), .sl false 1 (a2.Sign.Challenges.map row_i64), .sl false 1 (a2.Sign.Responses.map row_i64)]), (7, .bl [.int .i64 a3.Author, .int .i64 a3.Size, .int .i64 a3.Root, .sl false 1 (a3.Sign.Commits.map row_i64), .sl false 1 (a3.Sign.Challenges.map row_i64), .sl false 1 (a3.Sign.Responses.map row_i64)]), (35, .v (.bool x3))]) (fun x3 hF => ?_) fun _ hj1 hF => ?_
  ·repeat rw [sq]
   refine pI hF (fun h11 hF => ?_) (fun h11 hF => ?_)
   ·cases hΦ _ (Rn_some hF)
    try simp [go_sem, g]
    refine pw_wk ?_
    try simp [go_sem, g]
   ·try simp [go_sem, g]
    refine pw_wk ?_
    repeat rw [sq]
    refine pw_draw D20_3 follows (by kernel_rfl) rfl ?_
    try simp only [go_sem, D20_3]
    try simp [go_sem, g]
    refine pC hF [.sh] c_impl_boardLeaves (fun z12 hF => ?_)
    obtain ⟨g, hF⟩ := Rg g hF
    obtain ⟨g, hF⟩ := Rg g hF
    try simp [go_sem, g]
    refine pC hF [.sh, .sh, .sh] c_impl_prefixPath (fun z13 hF => ?_)
    try simp [go_sem, g]
    refine pw_wkK [8, 9] (by simp [go_sem, g]; rfl) ?_
    cases hΦ _ (Rn_some hF)
    try simp [go_sem, g]
  ·try simp [go_sem, g]
   refine pC hF [.sh, .sh] c_impl_areBoard (fun z4 hF => ?_)
   try simp [go_sem, g]
   refine pwg_F hF (fun h5 hF => ?_) fun h5 hF => ?_
   ·try simp [go_sem, g, h5]
    exact pT (hj1 true) (Rn_some hF)
   ·try simp [go_sem, g, h5]
    refine pC hF [.sh, .sh, .sh] c_impl_Group_fits (fun z6 hF => ?_)
    try simp [go_sem, g, h5]
    refine pwg_F hF (fun h7 hF => ?_) fun h7 hF => ?_
    ·try simp [go_sem, g, h7]
     exact pT (hj1 true) (Rn_some hF)
    ·try simp [go_sem, g, h7]
     refine pC hF [.sh, .sh, .sh] c_impl_Group_fits (fun z8 hF => ?_)
     try simp [go_sem, g, h7]
     refine pwg_F hF (fun h9 hF => ?_) fun h9 hF => ?_
     ·try simp [go_sem, g, h9]
      exact pT (hj1 true) (Rn_some hF)
     ·try simp [go_sem, g, h9]
      refine pC hF [.sh, .sh, .sh] c_impl_within (fun z10 hF => ?_)
      try simp [go_sem, g, h9]
      exact pT (hj1 (!z10)) (Rn_some hF)
def D21_6 : List DE := [⟨0, [0], [], none, false, false, false⟩, ⟨1, [5], [], none, false, false, false⟩, ⟨2, [17, 18], [], none, false, false, false⟩, ⟨3, [19], [], none, false, false, false⟩, ⟨4, [1], [], none, false, false, false⟩, ⟨5, [5], [], none, false, false, false⟩, ⟨6, [21, 22], [], none, false, false, false⟩, ⟨7, [23], [], none, false, false, false⟩, ⟨8, [20, 24], [], none, false, false, false⟩]
noncomputable def F_laws_eqIntS (a0 : (List Int)) (a1 : (List Int)) : Option (Bool) :=
  if ((a0.length : Int) != (a1.length : Int)) = true then (
  some false) else (
  ((wloop (σ := Int) (fun s5 =>
  if decide (s5 < (a0.length : Int)) = true then (
  (ix a0 s5).bind fun x11 =>
  (ix a1 s5).bind fun x12 =>
  if (x11 != x12) = true then (
  some (.out (.inr false))) else (
  some (.go (i64.wrap (s5 + 1))))) else (
  some (.out (.inl ())))) 0 : Option (Unit ⊕ Bool)).bind (Sum.elim (fun x4 =>
  some true) some)))
theorem c_laws_eqIntS : ∀ {a0} {a1} {r}, F_laws_eqIntS a0 a1 = some r → PCalls Tryz.prog 21 [(.sh, .sl false 1 (a0.map row_i64)), (.sh, .sl false 1 (a1.map row_i64))] (Eo (.bool r) [.junk, .junk]) := by
  intro a0 a1 r hr
  apply pF 26 [] [] [] [.tmp 4] hr cl21 Tryz.func21
  intro Φ hΦ hF g
  unfold F_laws_eqIntS at hF
  iterate 2 (try simp [go_sem, g]; try intros; refine pw_wk ?_)
  repeat rw [sq]
  refine pI hF (fun h1 hF => ?_) (fun h1 hF => ?_)
  ·cases hΦ _ (Rn_some hF)
   try simp [go_sem, g]
   refine pw_wk ?_
   try simp [go_sem, g]
  ·iterate 2 (try simp [go_sem, g]; refine pw_wk ?_)
   repeat rw [sq]
   refine pJs hF (fun x4 => []) (fun x4 hF => ?_) fun _ hj2 hr3 hF => ?_
   ·cases hΦ _ (Rn_some hF)
    try simp [go_sem, g]
    refine pw_wk ?_
    try simp [go_sem, g]
   ·repeat rw [sq]
    rw [pw_block]
    obtain ⟨b14, hb15, hψ9⟩ := hF
    refine pL hb15 (fun s5 => [(0, .v (.sl false 1 (a0.map row_i64))), (1, .v (.sl false 1 (a1.map row_i64))), (5, .v (.int .i64 s5))]) (fun s5 _ _ ho7 hg8 hF => ?_)
    try simp [go_sem, g]
    try intros
    refine pw_wkK [0, 1, 5, 14] (by simp [go_sem, g]; rfl) ?_
    repeat rw [sq]
    refine pI hF (fun h10 hF => ?_) (fun h10 hF => ?_)
    ·try simp [go_sem, g]
     refine pw_wk ?_
     repeat rw [sq]
     rw [pw_block]
     repeat rw [sq]
     refine pw_draw D21_6 follows (by kernel_rfl) rfl ?_
     try simp only [go_sem, D21_6]
     obtain ⟨x11, g, hF⟩ := Rx g hF
     obtain ⟨x12, g, hF⟩ := Rx g hF
     try simp [go_sem, g]
     refine pw_wk ?_
     repeat rw [sq]
     refine pI hF (fun h13 hF => ?_) (fun h13 hF => ?_)
     ·try simp [go_sem, g]
      refine pw_wkK [4] (by simp [go_sem, g]; rfl) ?_
      cases ho7 _ (Rn_some hF)
      cases hΦ _ (hr3 _ hψ9)
      try simp [go_sem, g]
     ·try simp [go_sem, g]
      refine pw_wk ?_
      try simp [go_sem, g]
      exact pT (hg8 (i64.wrap (s5 + 1))) (Rn_some hF)
    ·try simp [go_sem, g]
     cases ho7 _ (Rn_some hF)
     exact pT (hj2 ()) hψ9
noncomputable def F_laws_eqProof (a0 : Proof) (a1 : Proof) : Option (Bool) :=
  (F_laws_eqIntS a0.Commits a1.Commits).bind fun z1 =>
  if (!z1) = true then (
  some false) else (
  (F_laws_eqIntS a0.Challenges a1.Challenges).bind fun z3 =>
  if (!z3) = true then (
  some false) else (
  (F_laws_eqIntS a0.Responses a1.Responses).bind fun z5 =>
  if (!z5) = true then (
  some false) else (
  some true)))
theorem c_laws_eqProof : ∀ {a0} {a1} {r}, F_laws_eqProof a0 a1 = some r → PCalls Tryz.prog 129 [(.sh, .agg [.sl false 1 (a0.Commits.map row_i64), .sl false 1 (a0.Challenges.map row_i64), .sl false 1 (a0.Responses.map row_i64)]), (.sh, .agg [.sl false 1 (a1.Commits.map row_i64), .sl false 1 (a1.Challenges.map row_i64), .sl false 1 (a1.Responses.map row_i64)])] (Eo (.bool r) [.junk, .junk]) := by
  intro a0 a1 r hr
  apply pF 23 [] [] [] [.tmp 4] hr cl129 Tryz.func129
  intro Φ hΦ hF g
  unfold F_laws_eqProof at hF
  try simp [go_sem, g]
  refine pw_wk ?_
  try simp [go_sem, g]
  refine pC hF [.sh, .sh] c_laws_eqIntS (fun z1 hF => ?_)
  try simp [go_sem, g]
  refine pw_wk ?_
  repeat rw [sq]
  refine pI hF (fun h2 hF => ?_) (fun h2 hF => ?_)
  ·try simp [go_sem, g]
   refine pw_wkK [4] (by simp [go_sem, g]; rfl) ?_
   cases hΦ _ (Rn_some hF)
   try simp [go_sem, g]
  ·try simp [go_sem, g]
   refine pw_wk ?_
   try simp [go_sem, g]
   refine pC hF [.sh, .sh] c_laws_eqIntS (fun z3 hF => ?_)
   try simp [go_sem, g]
   refine pw_wkK [2, 3, 16] (by simp [go_sem, g]; rfl) ?_
   repeat rw [sq]
   refine pI hF (fun h4 hF => ?_) (fun h4 hF => ?_)
   ·cases hΦ _ (Rn_some hF)
    try simp [go_sem, g]
    refine pw_wk ?_
    try simp [go_sem, g]
   ·try simp [go_sem, g]
    refine pw_wk ?_
    try simp [go_sem, g]
    refine pC hF [.sh, .sh] c_laws_eqIntS (fun z5 hF => ?_)
    try simp [go_sem, g]
    refine pw_wk ?_
    repeat rw [sq]
    refine pI hF (fun h6 hF => ?_) (fun h6 hF => ?_)
    ·cases hΦ _ (Rn_some hF)
     try simp [go_sem, g]
     refine pw_wk ?_
     try simp [go_sem, g]
    ·cases hΦ _ (Rn_some hF)
     iterate 2 (try simp [go_sem, g]; refine pw_wk ?_)
     try simp [go_sem, g]
noncomputable def F_laws_eqEntry (a0 : Entry) (a1 : Entry) : Option (Bool) :=
  if (a0.Kind != a1.Kind) = true then (
  some false) else (
  if (a0.Author != a1.Author) = true then (
  some false) else (
  (F_laws_eqIntS a0.Data a1.Data).bind fun z3 =>
  if (!z3) = true then (
  some false) else (
  (F_laws_eqProof a0.Sign a1.Sign).bind fun z5 =>
  if (!z5) = true then (
  some false) else (
  some true))))
theorem c_laws_eqEntry : ∀ {a0} {a1} {r}, F_laws_eqEntry a0 a1 = some r → PCalls Tryz.prog 285 [(.sh, .agg [.int .i64 a0.Kind, .int .i64 a0.Author, .sl false 1 (a0.Data.map row_i64), .sl false 1 (a0.Sign.Commits.map row_i64), .sl false 1 (a0.Sign.Challenges.map row_i64), .sl false 1 (a0.Sign.Responses.map row_i64)]), (.sh, .agg [.int .i64 a1.Kind, .int .i64 a1.Author, .sl false 1 (a1.Data.map row_i64), .sl false 1 (a1.Sign.Commits.map row_i64), .sl false 1 (a1.Sign.Challenges.map row_i64), .sl false 1 (a1.Sign.Responses.map row_i64)])] (Eo (.bool r) [.junk, .junk]) := by
  intro a0 a1 r hr
  apply pF 27 [] [] [] [.tmp 4] hr cl285 Tryz.func285
  intro Φ hΦ hF g
  unfold F_laws_eqEntry at hF
  iterate 2 (try simp [go_sem, g]; refine pw_wk ?_)
  repeat rw [sq]
  refine pI hF (fun h1 hF => ?_) (fun h1 hF => ?_)
  ·cases hΦ _ (Rn_some hF)
   try simp [go_sem, g]
   refine pw_wk ?_
   try simp [go_sem, g]
  ·try simp [go_sem, g]
   refine pw_wk ?_
   try simp [go_sem, g]
   refine pw_wkK [2, 3, 14] (by simp [go_sem, g]; rfl) ?_
   repeat rw [sq]
   refine pI hF (fun h2 hF => ?_) (fun h2 hF => ?_)
   ·cases hΦ _ (Rn_some hF)
    try simp [go_sem, g]
    refine pw_wk ?_
    try simp [go_sem, g]
   ·try simp [go_sem, g]
    refine pw_wk ?_
    try simp [go_sem, g]
    refine pC hF [.sh, .sh] c_laws_eqIntS (fun z3 hF => ?_)
    try simp [go_sem, g]
    refine pw_wk ?_
    repeat rw [sq]
    refine pI hF (fun h4 hF => ?_) (fun h4 hF => ?_)
    ·cases hΦ _ (Rn_some hF)
     try simp [go_sem, g]
     refine pw_wk ?_
     try simp [go_sem, g]
    ·try simp [go_sem, g]
     refine pw_wk ?_
     try simp [go_sem, g]
     refine pC hF [.sh, .sh] c_laws_eqProof (fun z5 hF => ?_)
     try simp [go_sem, g]
     refine pw_wkK [26] (by simp [go_sem, g]; rfl) ?_
     repeat rw [sq]
     refine pI hF (fun h6 hF => ?_) (fun h6 hF => ?_)
     ·cases hΦ _ (Rn_some hF)
      try simp [go_sem, g]
      refine pw_wk ?_
      try simp [go_sem, g]
     ·cases hΦ _ (Rn_some hF)
      iterate 2 (try simp [go_sem, g]; refine pw_wk ?_)
      try simp [go_sem, g]
def D128_6 : List DE := [⟨0, [0], [], none, false, false, false⟩, ⟨1, [5], [], none, false, false, false⟩, ⟨2, [17, 18], [], none, false, false, false⟩, ⟨3, [19], [], none, false, false, false⟩, ⟨4, [1], [], none, false, false, false⟩, ⟨5, [5], [], none, false, false, false⟩, ⟨6, [21, 22], [], none, false, false, false⟩, ⟨7, [23], [], none, false, false, false⟩, ⟨8, [20, 24], [], none, false, true, true⟩, ⟨9, [25], [], none, false, false, false⟩]
noncomputable def F_laws_eqEntryS (a0 : (List Entry)) (a1 : (List Entry)) : Option (Bool) :=
  if ((a0.length : Int) != (a1.length : Int)) = true then (
  some false) else (
  ((wloop (σ := Int) (fun s5 =>
  if decide (s5 < (a0.length : Int)) = true then (
  (ix a0 s5).bind fun x11 =>
  (ix a1 s5).bind fun x12 =>
  (F_laws_eqEntry x11 x12).bind fun z13 =>
  if (!z13) = true then (
  some (.out (.inr false))) else (
  some (.go (i64.wrap (s5 + 1))))) else (
  some (.out (.inl ())))) 0 : Option (Unit ⊕ Bool)).bind (Sum.elim (fun x4 =>
  some true) some)))
theorem c_laws_eqEntryS : ∀ {a0} {a1} {r}, F_laws_eqEntryS a0 a1 = some r → PCalls Tryz.prog 128 [(.sh, .sl false 6 (a0.map row_Entry_z)), (.sh, .sl false 6 (a1.map row_Entry_z))] (Eo (.bool r) [.junk, .junk]) := by
  intro a0 a1 r hr
  apply pF 27 [] [] [] [.tmp 4] hr cl128 Tryz.func128
  intro Φ hΦ hF g
  unfold F_laws_eqEntryS at hF
  iterate 2 (try simp [go_sem, g]; try intros; refine pw_wk ?_)
  repeat rw [sq]
  refine pI hF (fun h1 hF => ?_) (fun h1 hF => ?_)
  ·cases hΦ _ (Rn_some hF)
   try simp [go_sem, g]
   refine pw_wk ?_
   try simp [go_sem, g]
  ·iterate 2 (try simp [go_sem, g]; refine pw_wk ?_)
   repeat rw [sq]
   refine pJs hF (fun x4 => []) (fun x4 hF => ?_) fun _ hj2 hr3 hF => ?_
   ·cases hΦ _ (Rn_some hF)
    try simp [go_sem, g]
    refine pw_wk ?_
    try simp [go_sem, g]
   ·repeat rw [sq]
    rw [pw_block]
    obtain ⟨b15, hb16, hψ9⟩ := hF
    refine pL hb16 (fun s5 => [(0, .v (.sl false 6 (a0.map row_Entry_z))), (1, .v (.sl false 6 (a1.map row_Entry_z))), (5, .v (.int .i64 s5))]) (fun s5 _ _ ho7 hg8 hF => ?_)
    try simp [go_sem, g]
    try intros
    refine pw_wkK [0, 1, 5, 14] (by simp [go_sem, g]; rfl) ?_
    repeat rw [sq]
    refine pI hF (fun h10 hF => ?_) (fun h10 hF => ?_)
    ·try simp [go_sem, g]
     refine pw_wk ?_
     repeat rw [sq]
     rw [pw_block]
     repeat rw [sq]
     refine pw_draw D128_6 follows (by kernel_rfl) rfl ?_
     try simp only [go_sem, D128_6]
     obtain ⟨x11, g, hF⟩ := Rx g hF
     obtain ⟨x12, g, hF⟩ := Rx g hF
     try simp [go_sem, g]
     refine pC hF [.sh, .sh] c_laws_eqEntry (fun z13 hF => ?_)
     try simp [go_sem, g]
     refine pw_wkK [0, 1, 5, 26] (by simp [go_sem, g]; rfl) ?_
     repeat rw [sq]
     refine pI hF (fun h14 hF => ?_) (fun h14 hF => ?_)
     ·cases ho7 _ (Rn_some hF)
      cases hΦ _ (hr3 _ hψ9)
      try simp [go_sem, g]
      refine pw_wk ?_
      try simp [go_sem, g]
     ·try simp [go_sem, g]
      refine pw_wk ?_
      try simp [go_sem, g]
      exact pT (hg8 (i64.wrap (s5 + 1))) (Rn_some hF)
    ·try simp [go_sem, g]
     cases ho7 _ (Rn_some hF)
     exact pT (hj2 ()) hψ9
noncomputable def F_laws_eqBoard (a0 : Board) (a1 : Board) : Option (Bool) :=
  (F_laws_eqIntS a0.Keys a1.Keys).bind fun z1 =>
  if (!z1) = true then (
  some false) else (
  (F_laws_eqEntryS a0.Entries a1.Entries).bind fun z3 =>
  if (!z3) = true then (
  some false) else (
  some true))
theorem c_laws_eqBoard : ∀ {a0} {a1} {r}, F_laws_eqBoard a0 a1 = some r → PCalls Tryz.prog 22 [(.sh, .agg [.sl false 1 (a0.Keys.map row_i64), .sl false 6 (a0.Entries.map row_Entry_z)]), (.sh, .agg [.sl false 1 (a1.Keys.map row_i64), .sl false 6 (a1.Entries.map row_Entry_z)])] (Eo (.bool r) [.junk, .junk]) := by
  intro a0 a1 r hr
  apply pF 17 [] [] [] [.tmp 4] hr cl22 Tryz.func22
  intro Φ hΦ hF g
  unfold F_laws_eqBoard at hF
  try simp [go_sem, g]
  refine pw_wk ?_
  try simp [go_sem, g]
  refine pC hF [.sh, .sh] c_laws_eqIntS (fun z1 hF => ?_)
  try simp [go_sem, g]
  refine pw_wk ?_
  repeat rw [sq]
  refine pI hF (fun h2 hF => ?_) (fun h2 hF => ?_)
  ·try simp [go_sem, g]
   refine pw_wkK [4] (by simp [go_sem, g]; rfl) ?_
   cases hΦ _ (Rn_some hF)
   try simp [go_sem, g]
  ·try simp [go_sem, g]
   refine pw_wk ?_
   try simp [go_sem, g]
   refine pC hF [.sh, .sh] c_laws_eqEntryS (fun z3 hF => ?_)
   try simp [go_sem, g]
   refine pw_wkK [16] (by simp [go_sem, g]; rfl) ?_
   repeat rw [sq]
   refine pI hF (fun h4 hF => ?_) (fun h4 hF => ?_)
   ·cases hΦ _ (Rn_some hF)
    try simp [go_sem, g]
    refine pw_wk ?_
    try simp [go_sem, g]
   ·cases hΦ _ (Rn_some hF)
    iterate 2 (try simp [go_sem, g]; refine pw_wk ?_)
    try simp [go_sem, g]
noncomputable def F_laws_eqHead (a0 : Head) (a1 : Head) : Option (Bool) :=
  if (a0.Author != a1.Author) = true then (
  some false) else (
  if (a0.Size != a1.Size) = true then (
  some false) else (
  if (a0.Root != a1.Root) = true then (
  some false) else (
  (F_laws_eqProof a0.Sign a1.Sign).bind fun z4 =>
  if (!z4) = true then (
  some false) else (
  some true))))
theorem c_laws_eqHead : ∀ {a0} {a1} {r}, F_laws_eqHead a0 a1 = some r → PCalls Tryz.prog 23 [(.sh, .agg [.int .i64 a0.Author, .int .i64 a0.Size, .int .i64 a0.Root, .sl false 1 (a0.Sign.Commits.map row_i64), .sl false 1 (a0.Sign.Challenges.map row_i64), .sl false 1 (a0.Sign.Responses.map row_i64)]), (.sh, .agg [.int .i64 a1.Author, .int .i64 a1.Size, .int .i64 a1.Root, .sl false 1 (a1.Sign.Commits.map row_i64), .sl false 1 (a1.Sign.Challenges.map row_i64), .sl false 1 (a1.Sign.Responses.map row_i64)])] (Eo (.bool r) [.junk, .junk]) := by
  intro a0 a1 r hr
  apply pF 26 [] [] [] [.tmp 4] hr cl23 Tryz.func23
  intro Φ hΦ hF g
  unfold F_laws_eqHead at hF
  iterate 2 (try simp [go_sem, g]; refine pw_wk ?_)
  repeat rw [sq]
  refine pI hF (fun h1 hF => ?_) (fun h1 hF => ?_)
  ·cases hΦ _ (Rn_some hF)
   try simp [go_sem, g]
   refine pw_wk ?_
   try simp [go_sem, g]
  ·try simp [go_sem, g]
   refine pw_wk ?_
   try simp [go_sem, g]
   refine pw_wkK [2, 3, 14] (by simp [go_sem, g]; rfl) ?_
   repeat rw [sq]
   refine pI hF (fun h2 hF => ?_) (fun h2 hF => ?_)
   ·cases hΦ _ (Rn_some hF)
    try simp [go_sem, g]
    refine pw_wk ?_
    try simp [go_sem, g]
   ·iterate 2 (try simp [go_sem, g]; refine pw_wk ?_)
    repeat rw [sq]
    refine pI hF (fun h3 hF => ?_) (fun h3 hF => ?_)
    ·cases hΦ _ (Rn_some hF)
     try simp [go_sem, g]
     refine pw_wk ?_
     try simp [go_sem, g]
    ·try simp [go_sem, g]
     refine pw_wk ?_
     try simp [go_sem, g]
     refine pC hF [.sh, .sh] c_laws_eqProof (fun z4 hF => ?_)
     try simp [go_sem, g]
     refine pw_wkK [25] (by simp [go_sem, g]; rfl) ?_
     repeat rw [sq]
     refine pI hF (fun h5 hF => ?_) (fun h5 hF => ?_)
     ·cases hΦ _ (Rn_some hF)
      try simp [go_sem, g]
      refine pw_wk ?_
      try simp [go_sem, g]
     ·cases hΦ _ (Rn_some hF)
      iterate 2 (try simp [go_sem, g]; refine pw_wk ?_)
      try simp [go_sem, g]
noncomputable def F_laws_markIntS__io0 (a0 : (List Int)) (a1 : Int) : Option (Int × (List Int)) :=
  ((wloop (σ := (List Int) × Int × Int) (fun s11 =>
  if decide (s11.2.2 < (s11.1.length : Int)) = true then (
  (ix s11.1 s11.2.2).bind fun x17 =>
  some (.go (s11.1.set s11.2.2.toNat s11.2.1, i64.wrap (s11.2.1 + 1), i64.wrap (s11.2.2 + 1)))) else (
  some (.out (s11.1, s11.2.1)))) (a0, a1, 0) : Option (((List Int) × Int))).bind fun x3 =>
  some (x3.2, x3.1))
theorem c_laws_markIntS__io0 : ∀ {a0} {a1} {r}, F_laws_markIntS__io0 a0 a1 = some r → PCalls Tryz.prog 26 [(.io, .sl true 1 (a0.map row_i64)), (.sh, .int .i64 a1)] (Eo (.int .i64 r.1) [.sl true 1 (r.2.map row_i64), .junk]) := by
  intro a0 a1 r hr
  apply pF 19 [0] [] [] [.tmp 4] hr cl26 Tryz.func26
  intro Φ hΦ hF g
  unfold F_laws_markIntS__io0 at hF
  iterate 2 (try simp [go_sem, g]; refine pw_wk ?_)
  repeat rw [sq]
  refine pJ hF (fun x3 => [(0, .v (.sl true 1 (x3.1.map row_i64))), (1, .v (.int .i64 x3.2))]) (fun x3 hF => ?_) fun _ hj1 hF => ?_
  ·cases hΦ _ (Rn_some hF)
   try simp [go_sem, g]
   refine pw_wk ?_
   try simp [go_sem, g]
  ·repeat rw [sq]
   rw [pw_block]
   obtain ⟨b18, hb19, hψ15⟩ := hF
   refine pL hb19 (fun s11 => [(0, .v (.sl true 1 (s11.1.map row_i64))), (1, .v (.int .i64 s11.2.1)), (5, .v (.int .i64 s11.2.2))]) (fun s11 _ _ ho13 hg14 hF => ?_)
   try simp [go_sem, g]
   try intros
   refine pw_wk ?_
   repeat rw [sq]
   refine pI hF (fun h16 hF => ?_) (fun h16 hF => ?_)
   ·try simp [go_sem, g]
    refine pw_wk ?_
    repeat rw [sq]
    rw [pw_block]
    obtain ⟨x17, g, hF⟩ := Rx g hF
    try simp [go_sem, g]
    refine pw_wkK [0, 1, 5] (by simp [go_sem, g]; rfl) ?_
    try simp [go_sem, g]
    refine pw_wk ?_
    try simp [go_sem, g]
    exact pT (hg14 (s11.1.set s11.2.2.toNat s11.2.1, i64.wrap (s11.2.1 + 1), i64.wrap (s11.2.2 + 1))) (Rn_some hF)
   ·try simp [go_sem, g]
    cases ho13 _ (Rn_some hF)
    exact pT (hj1 (s11.1, s11.2.1)) hψ15
noncomputable def F_laws_markEntryS__io0 (a0 : (List Entry)) (a1 : Int) : Option (Int × (List Entry)) :=
  ((wloop (σ := (List Entry) × Int × Int) (fun s15 =>
  if decide (s15.2.2 < (s15.1.length : Int)) = true then (
  (ix s15.1 s15.2.2).bind fun x21 =>
  (F_laws_markIntS__io0 x21.Data (i64.wrap ((i64.wrap (s15.2.1 + 1)) + 1))).bind fun z22 =>
  (F_laws_markIntS__io0 x21.Sign.Commits z22.1).bind fun z23 =>
  (F_laws_markIntS__io0 x21.Sign.Challenges z23.1).bind fun z24 =>
  (F_laws_markIntS__io0 x21.Sign.Responses z24.1).bind fun z25 =>
  some (.go ((((((s15.1.set s15.2.2.toNat (Entry.mk s15.2.1 x21.Author x21.Data x21.Sign)).set s15.2.2.toNat (Entry.mk s15.2.1 (i64.wrap (s15.2.1 + 1)) x21.Data x21.Sign)).set s15.2.2.toNat (Entry.mk s15.2.1 (i64.wrap (s15.2.1 + 1)) z22.2 x21.Sign)).set s15.2.2.toNat (Entry.mk s15.2.1 (i64.wrap (s15.2.1 + 1)) z22.2 (Proof.mk z23.2 x21.Sign.Challenges x21.Sign.Responses))).set s15.2.2.toNat (Entry.mk s15.2.1 (i64.wrap (s15.2.1 + 1)) z22.2 (Proof.mk z23.2 z24.2 x21.Sign.Responses))).set s15.2.2.toNat (Entry.mk s15.2.1 (i64.wrap (s15.2.1 + 1)) z22.2 (Proof.mk z23.2 z24.2 z25.2)), z25.1, i64.wrap (s15.2.2 + 1)))) else (
  some (.out (s15.1, s15.2.1)))) (a0, a1, 0) : Option (((List Entry) × Int))).bind fun x3 =>
  some (x3.2, x3.1))
theorem c_laws_markEntryS__io0 : ∀ {a0} {a1} {r}, F_laws_markEntryS__io0 a0 a1 = some r → PCalls Tryz.prog 130 [(.io, .sl true 6 (a0.map row_Entry_o)), (.sh, .int .i64 a1)] (Eo (.int .i64 r.1) [.sl true 6 (r.2.map row_Entry_o), .junk]) := by
  intro a0 a1 r hr
  apply pF 58 [0] [] [] [.tmp 4] hr cl130 Tryz.func130
  intro Φ hΦ hF g
  unfold F_laws_markEntryS__io0 at hF
  iterate 2 (try simp [go_sem, g]; refine pw_wk ?_)
  repeat rw [sq]
  refine pJ hF (fun x3 => [(0, .v (.sl true 6 (x3.1.map row_Entry_o))), (1, .v (.int .i64 x3.2))]) (fun x3 hF => ?_) fun _ hj1 hF => ?_
  ·cases hΦ _ (Rn_some hF)
   try simp [go_sem, g]
   refine pw_wk ?_
   try simp [go_sem, g]
  ·repeat rw [sq]
   rw [pw_block]
   obtain ⟨b26, hb27, hψ19⟩ := hF
   refine pL hb27 (fun s15 => [(0, .v (.sl true 6 (s15.1.map row_Entry_o))), (1, .v (.int .i64 s15.2.1)), (5, .v (.int .i64 s15.2.2))]) (fun s15 _ _ ho17 hg18 hF => ?_)
   try simp [go_sem, g]
   try intros
   refine pw_wk ?_
   repeat rw [sq]
   refine pI hF (fun h20 hF => ?_) (fun h20 hF => ?_)
   ·try simp [go_sem, g]
    refine pw_wk ?_
    repeat rw [sq]
    rw [pw_block]
    obtain ⟨x21, g, hF⟩ := Rx g hF
    try simp [go_sem, g]
    refine pw_wkK [0, 1, 5] (by simp [go_sem, g]; rfl) ?_
    iterate 2 (try simp [go_sem, g]; refine pw_wk ?_)
    try simp [go_sem, g]
    refine pw_wkK [0, 1, 5] (by simp [go_sem, g]; rfl) ?_
    try simp [go_sem, g]
    refine pC hF [.io, .sh] c_laws_markIntS__io0 (fun z22 hF => ?_)
    try simp [go_sem, g]
    refine pw_wk ?_
    try simp [go_sem, g]
    refine pC hF [.io, .sh] c_laws_markIntS__io0 (fun z23 hF => ?_)
    try simp [go_sem, g]
    refine pw_wkK [0, 1, 5] (by simp [go_sem, g]; rfl) ?_
    try simp [go_sem, g]
    refine pC hF [.io, .sh] c_laws_markIntS__io0 (fun z24 hF => ?_)
    try simp [go_sem, g]
    refine pw_wk ?_
    try simp [go_sem, g]
    refine pC hF [.io, .sh] c_laws_markIntS__io0 (fun z25 hF => ?_)
    try simp [go_sem, g]
    refine pw_wkK [0, 1, 5] (by simp [go_sem, g]; rfl) ?_
    try simp [go_sem, g]
    exact pT (hg18 ((((((s15.1.set s15.2.2.toNat (Entry.mk s15.2.1 x21.Author x21.Data x21.Sign)).set s15.2.2.toNat (Entry.mk s15.2.1 (i64.wrap (s15.2.1 + 1)) x21.Data x21.Sign)).set s15.2.2.toNat (Entry.mk s15.2.1 (i64.wrap (s15.2.1 + 1)) z22.2 x21.Sign)).set s15.2.2.toNat (Entry.mk s15.2.1 (i64.wrap (s15.2.1 + 1)) z22.2 (Proof.mk z23.2 x21.Sign.Challenges x21.Sign.Responses))).set s15.2.2.toNat (Entry.mk s15.2.1 (i64.wrap (s15.2.1 + 1)) z22.2 (Proof.mk z23.2 z24.2 x21.Sign.Responses))).set s15.2.2.toNat (Entry.mk s15.2.1 (i64.wrap (s15.2.1 + 1)) z22.2 (Proof.mk z23.2 z24.2 z25.2)), z25.1, i64.wrap (s15.2.2 + 1))) (Rn_some hF)
   ·try simp [go_sem, g]
    cases ho17 _ (Rn_some hF)
    exact pT (hj1 (s15.1, s15.2.1)) hψ19
noncomputable def F_laws_markBoard__mv0 (a0 : Board) (a1 : Int) : Option (Int) :=
  (F_laws_markIntS__io0 a0.Keys a1).bind fun z1 =>
  (F_laws_markEntryS__io0 a0.Entries z1.1).bind fun z2 =>
  some z2.1
theorem c_laws_markBoard__mv0 : ∀ {a0} {a1} {r}, F_laws_markBoard__mv0 a0 a1 = some r → PCalls Tryz.prog 24 [(.mv, .agg [.sl true 1 (a0.Keys.map row_i64), .sl true 6 (a0.Entries.map row_Entry_o)]), (.sh, .int .i64 a1)] (Eo (.int .i64 r) [.junk, .junk]) := by
  intro a0 a1 r hr
  apply pF 14 [] [] [] [.tmp 4] hr cl24 Tryz.func24
  intro Φ hΦ hF g
  unfold F_laws_markBoard__mv0 at hF
  try simp [go_sem, g]
  refine pw_wk ?_
  try simp [go_sem, g]
  refine pC hF [.io, .sh] c_laws_markIntS__io0 (fun z1 hF => ?_)
  try simp [go_sem, g]
  refine pw_wk ?_
  try simp [go_sem, g]
  refine pC hF [.io, .sh] c_laws_markEntryS__io0 (fun z2 hF => ?_)
  try simp [go_sem, g]
  refine pw_wkK [1] (by simp [go_sem, g]; rfl) ?_
  cases hΦ _ (Rn_some hF)
  try simp [go_sem, g]
  refine pw_wk ?_
  try simp [go_sem, g]
noncomputable def F_laws_markProof__mv0 (a0 : Proof) (a1 : Int) : Option (Int) :=
  (F_laws_markIntS__io0 a0.Commits a1).bind fun z1 =>
  (F_laws_markIntS__io0 a0.Challenges z1.1).bind fun z2 =>
  (F_laws_markIntS__io0 a0.Responses z2.1).bind fun z3 =>
  some z3.1
theorem c_laws_markProof__mv0 : ∀ {a0} {a1} {r}, F_laws_markProof__mv0 a0 a1 = some r → PCalls Tryz.prog 131 [(.mv, .agg [.sl true 1 (a0.Commits.map row_i64), .sl true 1 (a0.Challenges.map row_i64), .sl true 1 (a0.Responses.map row_i64)]), (.sh, .int .i64 a1)] (Eo (.int .i64 r) [.junk, .junk]) := by
  intro a0 a1 r hr
  apply pF 18 [] [] [] [.tmp 4] hr cl131 Tryz.func131
  intro Φ hΦ hF g
  unfold F_laws_markProof__mv0 at hF
  try simp [go_sem, g]
  refine pw_wk ?_
  try simp [go_sem, g]
  refine pC hF [.io, .sh] c_laws_markIntS__io0 (fun z1 hF => ?_)
  try simp [go_sem, g]
  refine pw_wk ?_
  try simp [go_sem, g]
  refine pC hF [.io, .sh] c_laws_markIntS__io0 (fun z2 hF => ?_)
  try simp [go_sem, g]
  refine pw_wkK [1, 2] (by simp [go_sem, g]; rfl) ?_
  try simp [go_sem, g]
  refine pC hF [.io, .sh] c_laws_markIntS__io0 (fun z3 hF => ?_)
  cases hΦ _ (Rn_some hF)
  iterate 2 (try simp [go_sem, g]; refine pw_wk ?_)
  try simp [go_sem, g]
noncomputable def F_laws_markHead__mv0 (a0 : Head) (a1 : Int) : Option (Int) :=
  (F_laws_markProof__mv0 a0.Sign a1).bind fun z1 =>
  some z1
theorem c_laws_markHead__mv0 : ∀ {a0} {a1} {r}, F_laws_markHead__mv0 a0 a1 = some r → PCalls Tryz.prog 25 [(.mv, .agg [.int .i64 a0.Author, .int .i64 a0.Size, .int .i64 a0.Root, .sl true 1 (a0.Sign.Commits.map row_i64), .sl true 1 (a0.Sign.Challenges.map row_i64), .sl true 1 (a0.Sign.Responses.map row_i64)]), (.sh, .int .i64 a1)] (Eo (.int .i64 r) [.junk, .junk]) := by
  intro a0 a1 r hr
  apply pF 10 [] [] [] [.tmp 4] hr cl25 Tryz.func25
  intro Φ hΦ hF g
  unfold F_laws_markHead__mv0 at hF
  try simp [go_sem, g]
  refine pw_wk ?_
  try simp [go_sem, g]
  refine pC hF [.mv, .sh] c_laws_markProof__mv0 (fun z1 hF => ?_)
  cases hΦ _ (Rn_some hF)
  iterate 2 (try simp [go_sem, g]; refine pw_wk ?_)
  try simp [go_sem, g]
noncomputable def F_laws_heldIntS (a0 : (List Int)) (a1 : Int) : Option (Int) :=
  ((wloop (σ := Int × Int) (fun s4 =>
  if decide (s4.2 < (a0.length : Int)) = true then (
  (ix a0 s4.2).bind fun x10 =>
  if (x10 != s4.1) = true then (
  some (.out (.inr (-1)))) else (
  some (.go (i64.wrap (s4.1 + 1), i64.wrap (s4.2 + 1))))) else (
  some (.out (.inl s4.1)))) (a1, 0) : Option (Int ⊕ Int)).bind (Sum.elim (fun x3 =>
  some x3) some))
theorem c_laws_heldIntS : ∀ {a0} {a1} {r}, F_laws_heldIntS a0 a1 = some r → PCalls Tryz.prog 27 [(.sh, .sl false 1 (a0.map row_i64)), (.sh, .int .i64 a1)] (Eo (.int .i64 r) [.junk, .junk]) := by
  intro a0 a1 r hr
  apply pF 21 [] [] [] [.tmp 4] hr cl27 Tryz.func27
  intro Φ hΦ hF g
  unfold F_laws_heldIntS at hF
  iterate 2 (try simp [go_sem, g]; refine pw_wk ?_)
  repeat rw [sq]
  refine pJs hF (fun x3 => [(1, .v (.int .i64 x3))]) (fun x3 hF => ?_) fun _ hj1 hr2 hF => ?_
  ·cases hΦ _ (Rn_some hF)
   try simp [go_sem, g]
   refine pw_wk ?_
   try simp [go_sem, g]
  ·repeat rw [sq]
   rw [pw_block]
   obtain ⟨b12, hb13, hψ8⟩ := hF
   refine pL hb13 (fun s4 => [(0, .v (.sl false 1 (a0.map row_i64))), (1, .v (.int .i64 s4.1)), (5, .v (.int .i64 s4.2))]) (fun s4 _ _ ho6 hg7 hF => ?_)
   try simp [go_sem, g]
   try intros
   refine pw_wk ?_
   repeat rw [sq]
   refine pI hF (fun h9 hF => ?_) (fun h9 hF => ?_)
   ·try simp [go_sem, g]
    refine pw_wk ?_
    repeat rw [sq]
    rw [pw_block]
    obtain ⟨x10, g, hF⟩ := Rx g hF
    try simp [go_sem, g]
    refine pw_wkK [0, 1, 5, 17] (by simp [go_sem, g]; rfl) ?_
    repeat rw [sq]
    refine pI hF (fun h11 hF => ?_) (fun h11 hF => ?_)
    ·cases ho6 _ (Rn_some hF)
     cases hΦ _ (hr2 _ hψ8)
     try simp [go_sem, g]
     refine pw_wk ?_
     try simp [go_sem, g]
    ·iterate 2 (try simp [go_sem, g]; refine pw_wk ?_)
     try simp [go_sem, g]
     exact pT (hg7 (i64.wrap (s4.1 + 1), i64.wrap (s4.2 + 1))) (Rn_some hF)
   ·try simp [go_sem, g]
    cases ho6 _ (Rn_some hF)
    exact pT (hj1 s4.1) hψ8
def D3_11 : List DE := [⟨0, [4], [4], some 4, false, false, false⟩, ⟨2, [5], [5], some 5, false, false, false⟩, ⟨4, [6], [6], some 6, false, false, false⟩, ⟨6, [7], [7], some 7, false, false, false⟩, ⟨1, [38], [], none, false, true, true⟩, ⟨3, [40], [], none, false, true, true⟩, ⟨5, [42], [], none, false, true, true⟩, ⟨7, [44], [], none, false, true, true⟩, ⟨8, [39, 41, 43, 45], [], none, false, true, true⟩, ⟨9, [46], [], none, false, false, false⟩, ⟨10, [37], [], none, false, false, false⟩, ⟨11, [37], [], none, false, false, false⟩, ⟨12, [47], [], none, false, false, false⟩, ⟨13, [48], [], none, false, false, false⟩]
def D3_15 : List DE := [⟨0, [4], [4], some 4, false, false, false⟩, ⟨2, [12], [12], some 12, false, false, false⟩, ⟨3, [13], [13], some 13, false, false, false⟩, ⟨4, [14], [14], some 14, false, false, false⟩, ⟨1, [56], [], none, false, true, true⟩, ⟨5, [57, 58, 59, 60], [], none, false, true, true⟩, ⟨6, [61], [], none, false, false, false⟩, ⟨7, [55], [], none, false, false, false⟩, ⟨8, [55], [], none, false, false, false⟩, ⟨9, [62], [], none, false, false, false⟩, ⟨10, [63], [], none, false, false, false⟩]
def D3_18 : List DE := [⟨0, [12], [12], some 12, false, false, false⟩, ⟨1, [5], [5], some 5, false, false, false⟩, ⟨2, [74], [], none, false, true, true⟩, ⟨3, [73, 75], [], none, false, true, true⟩, ⟨4, [76], [], none, false, false, false⟩]
def D3_20 : List DE := [⟨0, [13], [13], some 13, false, false, false⟩, ⟨1, [6], [6], some 6, false, false, false⟩, ⟨2, [79], [], none, false, true, true⟩, ⟨3, [78, 80], [], none, false, true, true⟩, ⟨4, [81], [], none, false, false, false⟩]
def D3_22 : List DE := [⟨0, [14], [14], some 14, false, false, false⟩, ⟨1, [7], [7], some 7, false, false, false⟩, ⟨2, [84], [], none, false, true, true⟩, ⟨3, [83, 85], [], none, false, true, true⟩, ⟨4, [86], [], none, false, false, false⟩]
def D3_38 : List DE := [⟨0, [4], [4], some 4, false, false, false⟩, ⟨2, [5], [5], some 5, false, false, false⟩, ⟨4, [6], [6], some 6, false, false, false⟩, ⟨6, [7], [7], some 7, false, false, false⟩, ⟨1, [122], [], none, false, true, true⟩, ⟨3, [124], [], none, false, true, true⟩, ⟨5, [126], [], none, false, true, true⟩, ⟨7, [128], [], none, false, true, true⟩, ⟨8, [123, 125, 127, 129], [], none, false, true, true⟩, ⟨9, [130], [], none, false, false, false⟩, ⟨10, [121], [], none, false, false, false⟩, ⟨11, [121], [], none, false, false, false⟩, ⟨12, [131], [], none, false, false, false⟩, ⟨13, [132], [], none, false, false, false⟩]
noncomputable def F_laws_FnExactProvenPrefix (a0 : Group) (a1 : Board) (a2 : Head) (a3 : Head) : Option (Bool) :=
  (F_laws_szBoard a1 1048576).bind fun z1 =>
  if decide (z1 < 0) = true then (
  some true) else (
  (F_laws_szHead a2 z1).bind fun z3 =>
  if decide (z3 < 0) = true then (
  some true) else (
  (F_laws_szHead a3 z3).bind fun z5 =>
  if decide (z5 < 0) = true then (
  some true) else (
  (F_laws_toGroup a0).bind fun z7 =>
  (F_laws_toBoard a1).bind fun z8 =>
  (F_laws_toHead a2).bind fun z9 =>
  (F_laws_toHead a3).bind fun z10 =>
  (F_spec_ProvenPrefix z7 z8 z9 z10).bind fun z11 =>
  (F_laws_toBoard a1).bind fun z12 =>
  (F_laws_toHead a2).bind fun z13 =>
  (F_laws_toHead a3).bind fun z14 =>
  (F_laws_toGroup a0).bind fun z15 =>
  (F_impl_ProvenPrefix z15 z12 z13 z14).bind fun z16 =>
  (((F_laws_eqIntS z16.1 z11.1).bind fun z20 =>
  if (!z20) = true then (
  some true) else (
  some (z16.2 != z11.2)) : Option (Bool)).bind fun x19 =>
  if x19 = true then (
  some false) else (
  (F_laws_toBoard a1).bind fun z23 =>
  (F_laws_eqBoard z12 z23).bind fun z24 =>
  if (!z24) = true then (
  some false) else (
  (F_laws_toHead a2).bind fun z26 =>
  (F_laws_eqHead z13 z26).bind fun z27 =>
  if (!z27) = true then (
  some false) else (
  (F_laws_toHead a3).bind fun z29 =>
  (F_laws_eqHead z14 z29).bind fun z30 =>
  if (!z30) = true then (
  some false) else (
  (F_laws_markBoard__mv0 z12 1).bind fun z32 =>
  (F_laws_markHead__mv0 z13 z32).bind fun z33 =>
  (F_laws_markHead__mv0 z14 z33).bind fun z34 =>
  ((if decide (z34 < 0) = true then (
  some true) else (
  (F_laws_eqIntS z16.1 z11.1).bind fun z39 =>
  if (!z39) = true then (
  some true) else (
  some (z16.2 != z11.2))) : Option (Bool)).bind fun x37 =>
  if x37 = true then (
  some false) else (
  (F_laws_markIntS__io0 z16.1 1).bind fun z42 =>
  (F_laws_heldIntS z42.2 1).bind fun z43 =>
  if decide (z43 < 0) = true then (
  some false) else (
  if (z43 != z42.1) = true then (
  some false) else (
  (F_laws_toGroup a0).bind fun z46 =>
  (F_laws_toBoard a1).bind fun z47 =>
  (F_laws_toHead a2).bind fun z48 =>
  (F_laws_toHead a3).bind fun z49 =>
  (F_impl_ProvenPrefix z46 z47 z48 z49).bind fun z50 =>
  (((F_laws_eqIntS z50.1 z11.1).bind fun z54 =>
  if (!z54) = true then (
  some true) else (
  some (z50.2 != z11.2)) : Option (Bool)).bind fun x53 =>
  if x53 = true then (
  some false) else (
  (F_laws_heldIntS z42.2 1).bind fun z57 =>
  if decide (z57 < 0) = true then (
  some false) else (
  if (z57 != z42.1) = true then (
  some false) else (
  some true))))))))))))))))
theorem c_laws_FnExactProvenPrefix : ∀ {a0} {a1} {a2} {a3} {r}, F_laws_FnExactProvenPrefix a0 a1 a2 a3 = some r → PCalls Tryz.prog 3 [(.sh, .agg [.int .i64 a0.P, .int .i64 a0.Q, .int .i64 a0.G]), (.sh, .agg [.sl false 1 (a1.Keys.map row_i64), .sl false 6 (a1.Entries.map row_Entry_z)]), (.sh, .agg [.int .i64 a2.Author, .int .i64 a2.Size, .int .i64 a2.Root, .sl false 1 (a2.Sign.Commits.map row_i64), .sl false 1 (a2.Sign.Challenges.map row_i64), .sl false 1 (a2.Sign.Responses.map row_i64)]), (.sh, .agg [.int .i64 a3.Author, .int .i64 a3.Size, .int .i64 a3.Root, .sl false 1 (a3.Sign.Commits.map row_i64), .sl false 1 (a3.Sign.Challenges.map row_i64), .sl false 1 (a3.Sign.Responses.map row_i64)])] (Eo (.bool r) [.junk, .junk, .junk, .junk]) := by
  intro a0 a1 a2 a3 r hr
  apply pF 150 [] [] [] [.tmp 8] hr cl3 Tryz.func3
  intro Φ hΦ hF g
  unfold F_laws_FnExactProvenPrefix at hF
  iterate 2 (try simp [go_sem, g]; refine pw_wk ?_)
  try simp [go_sem, g]
  refine pC hF [.sh, .sh] c_laws_szBoard (fun z1 hF => ?_)
  try simp [go_sem, g]
  refine pw_wkK [4, 5, 6, 7, 9] (by simp [go_sem, g]; rfl) ?_
  try simp [go_sem, g]
  refine pw_wk ?_
  repeat rw [sq]
  refine pI hF (fun h2 hF => ?_) (fun h2 hF => ?_)
  ·cases hΦ _ (Rn_some hF)
   try simp [go_sem, g]
   refine pw_wk ?_
   try simp [go_sem, g]
  ·try simp [go_sem, g]
   refine pw_wk ?_
   try simp [go_sem, g]
   refine pC hF [.sh, .sh] c_laws_szHead (fun z3 hF => ?_)
   iterate 2 (try simp [go_sem, g]; refine pw_wk ?_)
   repeat rw [sq]
   refine pI hF (fun h4 hF => ?_) (fun h4 hF => ?_)
   ·cases hΦ _ (Rn_some hF)
    try simp [go_sem, g]
    refine pw_wk ?_
    try simp [go_sem, g]
   ·try simp [go_sem, g]
    refine pw_wk ?_
    try simp [go_sem, g]
    refine pC hF [.sh, .sh] c_laws_szHead (fun z5 hF => ?_)
    try simp [go_sem, g]
    refine pw_wkK [4, 5, 6, 7, 9] (by simp [go_sem, g]; rfl) ?_
    try simp [go_sem, g]
    refine pw_wk ?_
    repeat rw [sq]
    refine pI hF (fun h6 hF => ?_) (fun h6 hF => ?_)
    ·cases hΦ _ (Rn_some hF)
     try simp [go_sem, g]
     refine pw_wk ?_
     try simp [go_sem, g]
    ·try simp [go_sem, g]
     refine pw_wk ?_
     repeat rw [sq]
     refine pw_draw D3_11 follows (by kernel_rfl) rfl ?_
     try simp only [go_sem, D3_11]
     try simp [go_sem, g]
     refine pC hF [.sh] c_laws_toGroup (fun z7 hF => ?_)
     try simp [go_sem, g]
     refine pC hF [.sh] c_laws_toBoard (fun z8 hF => ?_)
     try simp [go_sem, g]
     refine pC hF [.sh] c_laws_toHead (fun z9 hF => ?_)
     try simp [go_sem, g]
     refine pC hF [.sh] c_laws_toHead (fun z10 hF => ?_)
     try simp [go_sem, g]
     refine pC hF [.sh, .sh, .sh, .sh] c_spec_ProvenPrefix (fun z11 hF => ?_)
     try simp [go_sem, g]
     refine pw_wkK [4, 5, 6, 7, 10, 11] (by simp [go_sem, g]; rfl) ?_
     try simp [go_sem, g]
     refine pC hF [.sh] c_laws_toBoard (fun z12 hF => ?_)
     try simp [go_sem, g]
     refine pw_wk ?_
     try simp [go_sem, g]
     refine pC hF [.sh] c_laws_toHead (fun z13 hF => ?_)
     try simp [go_sem, g]
     refine pw_wk ?_
     try simp [go_sem, g]
     refine pC hF [.sh] c_laws_toHead (fun z14 hF => ?_)
     try simp [go_sem, g]
     refine pw_wkK [4, 5, 6, 7, 10, 11, 12, 13, 14] (by simp [go_sem, g]; rfl) ?_
     repeat rw [sq]
     refine pw_draw D3_15 follows (by kernel_rfl) rfl ?_
     try simp only [go_sem, D3_15]
     try simp [go_sem, g]
     refine pC hF [.sh] c_laws_toGroup (fun z15 hF => ?_)
     try simp [go_sem, g]
     refine pC hF [.sh, .sh, .sh, .sh] c_impl_ProvenPrefix (fun z16 hF => ?_)
     try simp [go_sem, g]
     refine pw_wkK [4, 5, 6, 7, 10, 11, 12, 13, 14, 15, 16] (by simp [go_sem, g]; rfl) ?_
     repeat rw [sq]
     refine pJ hF (fun x19 => [(4, .bl [.int .i64 a0.P, .int .i64 a0.Q, .int .i64 a0.G]), (5, .bl [.sl false 1 (a1.Keys.map row_i64), .sl false 6 (a1.Entries.map row_Entry_z)]), (6, .bl [.int .i64 a2.Author, .int .i64 a2.Size, .int .i64 a2.Root, .sl false 1 (a2.Sign.Commits.map row_i64), .sl false 1 (a2.Sign.Challenges.map row_i64), .sl false 1 (a2.Sign.Responses.map row_i64)]), (7, .bl [.int .i64 a3.Author, .int .i64 a3.Size, .int .i64 a3.Root, .sl false 1 (a3.Sign.Commits.map row_i64), .sl false 1 (a3.Sign.Challenges.map row_i64), .sl false 1 (a3.Sign.Responses.map row_i64)]), (10, .v (.sl true 1 (z11.1.map row_i64))), (11, .v (.bool z11.2)), (12, .bl [.sl true 1 (z12.Keys.map row_i64), .sl true 6 (z12.Entries.map row_Entry_o)]), (13, .bl [.int .i64 z13.Author, .int .i64 z13.Size, .int .i64 z13.Root, .sl true 1 (z13.Sign.Commits.map row_i64), .sl true 1 (z13.Sign.Challenges.map row_i64), .sl true 1 (z13.Sign.Responses.map row_i64)]), (14, .bl [.int .i64 z14.Author, .int .i64 z14.Size, .int .i64 z14.Root, .sl true 1 (z14.Sign.Commits.map row_i64), .sl true 1 (z14.Sign.Challenges.map row_i64), .sl true 1 (z14.Sign.Responses.map row_i64)]), (15, .v (.sl true 1 (z16.1.map row_i64))), (16, .v (.bool z16.2)), (72, .v (.bool x19))]) (fun x19 hF => ?_) fun _ hj17 hF => ?_
     ·repeat rw [sq]
      refine pI hF (fun h22 hF => ?_) (fun h22 hF => ?_)
      ·cases hΦ _ (Rn_some hF)
       try simp [go_sem, g]
       refine pw_wk ?_
       try simp [go_sem, g]
      ·try simp [go_sem, g]
       refine pw_wk ?_
       repeat rw [sq]
       refine pw_draw D3_18 follows (by kernel_rfl) rfl ?_
       try simp only [go_sem, D3_18]
       try simp [go_sem, g]
       refine pC hF [.sh] c_laws_toBoard (fun z23 hF => ?_)
       try simp [go_sem, g]
       refine pC hF [.sh, .sh] c_laws_eqBoard (fun z24 hF => ?_)
       try simp [go_sem, g]
       refine pw_wk ?_
       repeat rw [sq]
       refine pI hF (fun h25 hF => ?_) (fun h25 hF => ?_)
       ·cases hΦ _ (Rn_some hF)
        try simp [go_sem, g]
        refine pw_wk ?_
        try simp [go_sem, g]
       ·try simp [go_sem, g]
        refine pw_wk ?_
        repeat rw [sq]
        refine pw_draw D3_20 follows (by kernel_rfl) rfl ?_
        try simp only [go_sem, D3_20]
        try simp [go_sem, g]
        refine pC hF [.sh] c_laws_toHead (fun z26 hF => ?_)
        try simp [go_sem, g]
        refine pC hF [.sh, .sh] c_laws_eqHead (fun z27 hF => ?_)
        try simp [go_sem, g]
        refine pw_wkK [4, 5, 6, 7, 10, 11, 12, 13, 14, 15, 16, 82] (by simp [go_sem, g]; rfl) ?_
        repeat rw [sq]
        refine pI hF (fun h28 hF => ?_) (fun h28 hF => ?_)
        ·cases hΦ _ (Rn_some hF)
         try simp [go_sem, g]
         refine pw_wk ?_
         try simp [go_sem, g]
        ·try simp [go_sem, g]
         refine pw_wk ?_
         repeat rw [sq]
         refine pw_draw D3_22 follows (by kernel_rfl) rfl ?_
         try simp only [go_sem, D3_22]
         try simp [go_sem, g]
         refine pC hF [.sh] c_laws_toHead (fun z29 hF => ?_)
         try simp [go_sem, g]
         refine pC hF [.sh, .sh] c_laws_eqHead (fun z30 hF => ?_)
         try simp [go_sem, g]
         refine pw_wk ?_
         repeat rw [sq]
         refine pI hF (fun h31 hF => ?_) (fun h31 hF => ?_)
         ·cases hΦ _ (Rn_some hF)
          try simp [go_sem, g]
          refine pw_wk ?_
          try simp [go_sem, g]
         ·iterate 2 (try simp [go_sem, g]; refine pw_wk ?_)
          try simp [go_sem, g]
          refine pC hF [.mv, .sh] c_laws_markBoard__mv0 (fun z32 hF => ?_)
          try simp [go_sem, g]
          refine pw_wkK [4, 5, 6, 7, 10, 11, 13, 14, 15, 16, 17] (by simp [go_sem, g]; rfl) ?_
          try simp [go_sem, g]
          refine pC hF [.mv, .sh] c_laws_markHead__mv0 (fun z33 hF => ?_)
          try simp [go_sem, g]
          refine pw_wk ?_
          try simp [go_sem, g]
          refine pC hF [.mv, .sh] c_laws_markHead__mv0 (fun z34 hF => ?_)
          try simp [go_sem, g]
          refine pw_wk ?_
          repeat rw [sq]
          refine pJ hF (fun x37 => [(4, .bl [.int .i64 a0.P, .int .i64 a0.Q, .int .i64 a0.G]), (5, .bl [.sl false 1 (a1.Keys.map row_i64), .sl false 6 (a1.Entries.map row_Entry_z)]), (6, .bl [.int .i64 a2.Author, .int .i64 a2.Size, .int .i64 a2.Root, .sl false 1 (a2.Sign.Commits.map row_i64), .sl false 1 (a2.Sign.Challenges.map row_i64), .sl false 1 (a2.Sign.Responses.map row_i64)]), (7, .bl [.int .i64 a3.Author, .int .i64 a3.Size, .int .i64 a3.Root, .sl false 1 (a3.Sign.Commits.map row_i64), .sl false 1 (a3.Sign.Challenges.map row_i64), .sl false 1 (a3.Sign.Responses.map row_i64)]), (10, .v (.sl true 1 (z11.1.map row_i64))), (11, .v (.bool z11.2)), (15, .v (.sl true 1 (z16.1.map row_i64))), (109, .v (.bool x37))]) (fun x37 hF => ?_) fun _ hj35 hF => ?_
          ·repeat rw [sq]
           refine pI hF (fun h41 hF => ?_) (fun h41 hF => ?_)
           ·cases hΦ _ (Rn_some hF)
            try simp [go_sem, g]
            refine pw_wk ?_
            try simp [go_sem, g]
           ·iterate 2 (try simp [go_sem, g]; refine pw_wk ?_)
            try simp [go_sem, g]
            refine pC hF [.io, .sh] c_laws_markIntS__io0 (fun z42 hF => ?_)
            try simp [go_sem, g]
            refine pw_wkK [4, 5, 6, 7, 10, 11, 15, 18] (by simp [go_sem, g]; rfl) ?_
            try simp [go_sem, g]
            refine pw_wk ?_
            try simp [go_sem, g]
            refine pC hF [.sh, .sh] c_laws_heldIntS (fun z43 hF => ?_)
            iterate 2 (try simp [go_sem, g]; refine pw_wk ?_)
            repeat rw [sq]
            refine pI hF (fun h44 hF => ?_) (fun h44 hF => ?_)
            ·cases hΦ _ (Rn_some hF)
             try simp [go_sem, g]
             refine pw_wk ?_
             try simp [go_sem, g]
            ·try simp [go_sem, g]
             refine pw_wk ?_
             try simp [go_sem, g]
             refine pw_wkK [4, 5, 6, 7, 10, 11, 15, 18, 120] (by simp [go_sem, g]; rfl) ?_
             repeat rw [sq]
             refine pI hF (fun h45 hF => ?_) (fun h45 hF => ?_)
             ·cases hΦ _ (Rn_some hF)
              try simp [go_sem, g]
              refine pw_wk ?_
              try simp [go_sem, g]
             ·try simp [go_sem, g]
              refine pw_wk ?_
              repeat rw [sq]
              refine pw_draw D3_38 follows (by kernel_rfl) rfl ?_
              try simp only [go_sem, D3_38]
              try simp [go_sem, g]
              refine pC hF [.sh] c_laws_toGroup (fun z46 hF => ?_)
              try simp [go_sem, g]
              refine pC hF [.sh] c_laws_toBoard (fun z47 hF => ?_)
              try simp [go_sem, g]
              refine pC hF [.sh] c_laws_toHead (fun z48 hF => ?_)
              try simp [go_sem, g]
              refine pC hF [.sh] c_laws_toHead (fun z49 hF => ?_)
              try simp [go_sem, g]
              refine pC hF [.sh, .sh, .sh, .sh] c_impl_ProvenPrefix (fun z50 hF => ?_)
              try simp [go_sem, g]
              refine pw_wkK [10, 11, 15, 18, 20, 21] (by simp [go_sem, g]; rfl) ?_
              repeat rw [sq]
              refine pJ hF (fun x53 => [(15, .v (.sl true 1 (z42.2.map row_i64))), (18, .v (.int .i64 z42.1)), (141, .v (.bool x53))]) (fun x53 hF => ?_) fun _ hj51 hF => ?_
              ·repeat rw [sq]
               refine pI hF (fun h56 hF => ?_) (fun h56 hF => ?_)
               ·cases hΦ _ (Rn_some hF)
                try simp [go_sem, g]
                refine pw_wk ?_
                try simp [go_sem, g]
               ·iterate 2 (try simp [go_sem, g]; refine pw_wk ?_)
                try simp [go_sem, g]
                refine pC hF [.sh, .sh] c_laws_heldIntS (fun z57 hF => ?_)
                iterate 2 (try simp [go_sem, g]; refine pw_wk ?_)
                repeat rw [sq]
                refine pI hF (fun h58 hF => ?_) (fun h58 hF => ?_)
                ·cases hΦ _ (Rn_some hF)
                 try simp [go_sem, g]
                 refine pw_wk ?_
                 try simp [go_sem, g]
                ·try simp [go_sem, g]
                 refine pw_wk ?_
                 try simp [go_sem, g]
                 refine pw_wkK [149] (by simp [go_sem, g]; rfl) ?_
                 repeat rw [sq]
                 refine pI hF (fun h59 hF => ?_) (fun h59 hF => ?_)
                 ·cases hΦ _ (Rn_some hF)
                  try simp [go_sem, g]
                  refine pw_wk ?_
                  try simp [go_sem, g]
                 ·cases hΦ _ (Rn_some hF)
                  iterate 2 (try simp [go_sem, g]; refine pw_wk ?_)
                  try simp [go_sem, g]
              ·try simp [go_sem, g]
               refine pC hF [.sh, .sh] c_laws_eqIntS (fun z54 hF => ?_)
               try simp [go_sem, g]
               refine pwg_F hF (fun h55 hF => ?_) fun h55 hF => ?_
               ·try simp [go_sem, g, h55]
                exact pT (hj51 true) (Rn_some hF)
               ·try simp [go_sem, g, h55]
                exact pT (hj51 (z50.2 != z11.2)) (Rn_some hF)
          ·try simp [go_sem, g]
           refine pwg_F hF (fun h38 hF => ?_) fun h38 hF => ?_
           ·try simp [go_sem, g, h38]
            exact pT (hj35 true) (Rn_some hF)
           ·try simp [go_sem, g, h38]
            refine pC hF [.sh, .sh] c_laws_eqIntS (fun z39 hF => ?_)
            try simp [go_sem, g, h38]
            refine pwg_F hF (fun h40 hF => ?_) fun h40 hF => ?_
            ·try simp [go_sem, g, h40]
             exact pT (hj35 true) (Rn_some hF)
            ·try simp [go_sem, g, h40]
             exact pT (hj35 (z16.2 != z11.2)) (Rn_some hF)
     ·try simp [go_sem, g]
      refine pC hF [.sh, .sh] c_laws_eqIntS (fun z20 hF => ?_)
      try simp [go_sem, g]
      refine pwg_F hF (fun h21 hF => ?_) fun h21 hF => ?_
      ·try simp [go_sem, g, h21]
       exact pT (hj17 true) (Rn_some hF)
      ·try simp [go_sem, g, h21]
       exact pT (hj17 (z16.2 != z11.2)) (Rn_some hF)
end Go.Pm
