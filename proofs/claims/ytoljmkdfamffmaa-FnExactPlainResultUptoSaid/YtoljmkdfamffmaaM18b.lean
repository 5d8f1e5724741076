/-
  Plain functions and their walks. Written by wip/tools/lift.py.
-/
import Derived.Test.YtoljmkdfamffmaaM18
namespace Go.Pm
open Go.Am IntKind
open Go.Proofs
set_option maxRecDepth 100000
attribute [local irreducible] pw pwx pw1 pwg qv qz qf
attribute [-simp] List.map_set
set_option linter.unusedSimpArgs false
set_option linter.unusedVariables false
theorem c_impl_TallyVotes : ∀ {a0} {a1} {r}, F_impl_TallyVotes a0 a1 = some r → PCalls Try.prog 30 [(.sh, .agg [.int .i64 a0.Kind, .int .i64 a0.Options, .int .i64 a0.Least, .int .i64 a0.Most, .int .i64 a0.Points]), (.sh, .sl false 1 (a1.map row_zi64))] (Eo (.tup [.sl true 1 (r.1.map row_i64), .bool r.2]) [.junk, .junk]) := by
  intro a0 a1 r hr
  apply pF 56 [] [] [] [.tmp 4, .tmp 5] hr cl30 Try.func30
  intro Φ hΦ hF g
  unfold F_impl_TallyVotes at hF
  try simp [go_sem, g]
  refine pw_wk ?_
  repeat rw [sq]
  refine pJ hF (fun x3 => [(1, .v (.sl false 1 (a1.map row_zi64))), (2, .bl [.int .i64 a0.Kind, .int .i64 a0.Options, .int .i64 a0.Least, .int .i64 a0.Most, .int .i64 a0.Points]), (23, .v (.bool x3))]) (fun x3 hF => ?_) fun _ hj1 hF => ?_
  ·repeat rw [sq]
   refine pI hF (fun h8 hF => ?_) (fun h8 hF => ?_)
   ·cases hΦ _ (Rn_some hF)
    try simp [go_sem, g]
    refine pw_wk ?_
    try simp [go_sem, g]
   ·obtain ⟨g, hF⟩ := Rg g hF
    obtain ⟨x9, e10, hF⟩ := Rn_bind hF
    have g11 : List.replicate a0.Options.toNat ([.int .i64 0] : List PV) = x9.map row_i64 := by injection e10 with e10; rw [← e10]; simp [go_sem]
    iterate 2 (try simp [go_sem, g, g11]; try intros; refine pw_wk ?_)
    try simp [go_sem, g, g11]
    try intros
    refine pw_wkK [2, 6, 27, 28, 29] (by simp [go_sem, g]; rfl) ?_
    repeat rw [sq]
    refine pJs hF (fun x14 => [(6, .v (.sl true 1 (x14.map row_i64)))]) (fun x14 hF => ?_) fun _ hj12 hr13 hF => ?_
    ·cases hΦ _ (Rn_some hF)
     try simp [go_sem, g]
     refine pw_wk ?_
     try simp [go_sem, g]
    ·repeat rw [sq]
     rw [pw_block]
     obtain ⟨b87, hb88, hψ55⟩ := hF
     refine pR hb88 (fun i52 s51 => [(2, .bl [.int .i64 a0.Kind, .int .i64 a0.Options, .int .i64 a0.Least, .int .i64 a0.Most, .int .i64 a0.Points]), (6, .v (.sl true 1 (s51.map row_i64))), (27, .v (.sl false 1 (a1.map row_zi64))), (28, .v (.int .i64 (a1.length : Int))), (29, .v (.int .i64 i52))]) (fun s51 _ hN89 => ?_) (fun i52 s51 _ _ hi56 hi57 ho53 hg54 hF => ?_)
     ·subst hN89
      try simp [go_sem]
      refine pw_wk ?_
      repeat rw [sq]
      refine pw_cond_f (by simp [go_sem]) ?_
      try simp [go_sem]
      exact pT (hj12 s51) hψ55 (by simp [go_sem])
     ·try simp [go_sem, g]
      refine pw_wk ?_
      repeat rw [sq]
      refine pw_cond_t (by simp [go_sem, g, hi56, hi57]) ?_
      try simp [go_sem, g]
      refine pw_wk ?_
      repeat rw [sq]
      refine pJs hF (fun x60 => [(2, .bl [.int .i64 a0.Kind, .int .i64 a0.Options, .int .i64 a0.Least, .int .i64 a0.Most, .int .i64 a0.Points]), (6, .v (.sl true 1 (x60.map row_i64))), (27, .v (.sl false 1 (a1.map row_zi64))), (28, .v (.int .i64 (a1.length : Int))), (29, .v (.int .i64 i52))]) (fun x60 hF => ?_) fun _ hj58 hr59 hF => ?_
      ·try simp [go_sem, g]
       exact pT (hg54 x60) (Rn_some hF) (by simp [go_sem, g, wr_i hi56 hi57 (by assumption)])
      ·repeat rw [sq]
       rw [pw_block]
       obtain ⟨x61, g, hF⟩ := Rx g hF
       try simp [go_sem, g]
       refine pw_wk ?_
       try simp [go_sem, g]
       refine pC hF [.sh, .sh] c_impl_Contest_isVote (fun z62 hF => ?_)
       try simp [go_sem, g]
       refine pw_wk ?_
       repeat rw [sq]
       refine pI hF (fun h63 hF => ?_) (fun h63 hF => ?_)
       ·try simp [go_sem, g]
        refine pw_wkK [4, 5] (by simp [go_sem, g]; rfl) ?_
        cases ho53 _ (hr59 _ (Rn_some hF))
        cases hΦ _ (hr13 _ hψ55)
        try simp [go_sem, g]
       ·try simp [go_sem, g]
        refine pw_wk ?_
        try simp [go_sem, g]
        refine pC hF [.sh, .sh] c_impl_Contest_exponents (fun z64 hF => ?_)
        try simp [go_sem, g]
        try intros
        refine pw_wkK [2, 6, 27, 28, 29, 39, 40, 41] (by simp [go_sem, g]; rfl) ?_
        repeat rw [sq]
        rw [pw_block]
        obtain ⟨b83, hb84, hψ78⟩ := hF
        refine pR hb84 (fun i75 s74 => [(2, .bl [.int .i64 a0.Kind, .int .i64 a0.Options, .int .i64 a0.Least, .int .i64 a0.Most, .int .i64 a0.Points]), (6, .v (.sl true 1 (s74.map row_i64))), (27, .v (.sl false 1 (a1.map row_zi64))), (28, .v (.int .i64 (a1.length : Int))), (29, .v (.int .i64 i52)), (39, .v (.sl true 1 (z64.map row_i64))), (40, .v (.int .i64 (z64.length : Int))), (41, .v (.int .i64 i75))]) (fun s74 _ hN85 => ?_) (fun i75 s74 _ _ hi79 hi80 ho76 hg77 hF => ?_)
        ·subst hN85
         try simp [go_sem]
         refine pw_wk ?_
         repeat rw [sq]
         refine pw_cond_f (by simp [go_sem]) ?_
         try simp [go_sem]
         exact pT (hj58 s74) hψ78 (by simp [go_sem])
        ·try simp [go_sem, g]
         refine pw_wk ?_
         repeat rw [sq]
         refine pw_cond_t (by simp [go_sem, g, hi79, hi80]) ?_
         try simp [go_sem, g]
         refine pw_wk ?_
         repeat rw [sq]
         rw [pw_block]
         obtain ⟨x81, g, hF⟩ := Rx g hF
         obtain ⟨x82, g, hF⟩ := Rx g hF
         try simp [go_sem, g]
         refine pw_wk ?_
         try simp [go_sem, g]
         refine pw_wkK [2, 6, 27, 28, 29, 39, 40, 41] (by simp [go_sem, g]; rfl) ?_
         try simp [go_sem, g]
         exact pT (hg77 (s74.set i75.toNat (i64.wrap (x82 + x81)))) (Rn_some hF) (by simp [go_sem, g, wr_i hi79 hi80 (by assumption)])
  ·try simp [go_sem, g]
   refine pC hF [.sh] c_impl_IsValidContest (fun z4 hF => ?_)
   try simp [go_sem, g]
   refine pwg_F hF (fun h5 hF => ?_) fun h5 hF => ?_
   ·try simp [go_sem, g, h5]
    exact pT (hj1 true) (Rn_some hF)
   ·try simp [go_sem, g, h5]
    refine pC hF [.sh] c_impl_Contest_isForm (fun z6 hF => ?_)
    try simp [go_sem, g, h5]
    refine pwg_F hF (fun h7 hF => ?_) fun h7 hF => ?_
    ·try simp [go_sem, g, h7]
     exact pT (hj1 true) (Rn_some hF)
    ·try simp [go_sem, g, h7]
     try intros
     exact pT (hj1 (decide (24 < (a1.length : Int)))) (Rn_some hF)
noncomputable def F_impl_PlainResult (a0 : Plan) (a1 : (List Casting)) : Option ((List (List Int)) × (List Int) × Bool) :=
  (((F_impl_IsValidPlan a0).bind fun z4 =>
  if (!z4) = true then (
  some true) else (
  (F_impl_Plan_areCastings a0 a1).bind fun z6 =>
  some (!z6)) : Option (Bool)).bind fun x3 =>
  if x3 = true then (
  some ([], [], false)) else (
  ((wloop (σ := (List (List Int)) × Int) (fun s29 =>
  if decide (s29.2 < a0.Voters) = true then (
  ((wloop (σ := (List (List Int)) × Int) (fun s38 =>
  if decide (0 ≤ s38.2) = true then (
  (ix a1 s38.2).bind fun x44 =>
  if (x44.Voter == s29.2) = true then (
  (F_slices_Clone_int_int x44.Vote).bind fun z46 =>
  gd ((s38.1.length + 1) * 24 ≤ 140737488355328 ∧ s38.1.length + 1 ≤ 4611686018427387904) <|
  some (.out (s38.1 ++ [z46]))) else (
  some (.go (s38.1, i64.wrap (s38.2 - 1))))) else (
  some (.out s38.1))) (s29.1, i64.wrap ((a1.length : Int) - 1)) : Option ((List (List Int)))).bind fun x37 =>
  some (.go (x37, i64.wrap (s29.2 + 1))))) else (
  some (.out s29.1))) ([], 0) : Option ((List (List Int)))).bind fun x10 =>
  (F_impl_Contest_isForm a0.Ct).bind fun z51 =>
  ((if z51 = true then (
  (F_impl_TallyVotes a0.Ct x10).bind fun z56 =>
  some z56.1) else (
  some []) : Option ((List Int))).bind fun x54 =>
  some (x10, x54, true)))))
theorem c_impl_PlainResult : ∀ {a0} {a1} {r}, F_impl_PlainResult a0 a1 = some r → PCalls Try.prog 8 [(.sh, .agg [.int .i64 a0.Gr.P, .int .i64 a0.Gr.Q, .int .i64 a0.Gr.G, .int .i64 a0.Ct.Kind, .int .i64 a0.Ct.Options, .int .i64 a0.Ct.Least, .int .i64 a0.Ct.Most, .int .i64 a0.Ct.Points, .int .i64 a0.Threshold, .int .i64 a0.Trustees, .int .i64 a0.Mixers, .int .i64 a0.Voters, .int .i64 a0.Seed]), (.sh, .sl false 2 (a1.map row_Casting_z))] (Eo (.tup [.sl true 1 (r.1.map row_oi64), .sl true 1 (r.2.1.map row_i64), .bool r.2.2]) [.junk, .junk]) := by
  intro a0 a1 r hr
  apply pF 63 [] [] [] [.tmp 4, .tmp 5, .tmp 6] hr cl8 Try.func8
  intro Φ hΦ hF g
  unfold F_impl_PlainResult at hF
  try simp [go_sem, g]
  refine pw_wk ?_
  repeat rw [sq]
  refine pJ hF (fun x3 => [(1, .v (.sl false 2 (a1.map row_Casting_z))), (2, .bl [.int .i64 a0.Gr.P, .int .i64 a0.Gr.Q, .int .i64 a0.Gr.G, .int .i64 a0.Ct.Kind, .int .i64 a0.Ct.Options, .int .i64 a0.Ct.Least, .int .i64 a0.Ct.Most, .int .i64 a0.Ct.Points, .int .i64 a0.Threshold, .int .i64 a0.Trustees, .int .i64 a0.Mixers, .int .i64 a0.Voters, .int .i64 a0.Seed]), (19, .v (.bool x3))]) (fun x3 hF => ?_) fun _ hj1 hF => ?_
  ·repeat rw [sq]
   refine pI hF (fun h7 hF => ?_) (fun h7 hF => ?_)
   ·cases hΦ _ (Rn_some hF)
    try simp [go_sem, g]
    refine pw_wk ?_
    try simp [go_sem, g]
   ·iterate 3 (try simp [go_sem, g]; refine pw_wk ?_)
    repeat rw [sq]
    refine pJ hF (fun x10 => [(2, .bl [.int .i64 a0.Gr.P, .int .i64 a0.Gr.Q, .int .i64 a0.Gr.G, .int .i64 a0.Ct.Kind, .int .i64 a0.Ct.Options, .int .i64 a0.Ct.Least, .int .i64 a0.Ct.Most, .int .i64 a0.Ct.Points, .int .i64 a0.Threshold, .int .i64 a0.Trustees, .int .i64 a0.Mixers, .int .i64 a0.Voters, .int .i64 a0.Seed]), (7, .v (.sl true 1 (x10.map row_oi64)))]) (fun x10 hF => ?_) fun _ hj8 hF => ?_
    ·try simp [go_sem, g]
     refine pw_wkK [2, 7, 10] (by simp [go_sem, g]; rfl) ?_
     try simp [go_sem, g]
     refine pC hF [.sh] c_impl_Contest_isForm (fun z51 hF => ?_)
     try simp [go_sem, g]
     refine pw_wk ?_
     repeat rw [sq]
     refine pJ hF (fun x54 => [(7, .v (.sl true 1 (x10.map row_oi64))), (10, .v (.sl true 1 (x54.map row_i64)))]) (fun x54 hF => ?_) fun _ hj52 hF => ?_
     ·cases hΦ _ (Rn_some hF)
      try simp [go_sem, g]
      refine pw_wk ?_
      try simp [go_sem, g]
     ·repeat rw [sq]
      refine pI hF (fun h55 hF => ?_) (fun h55 hF => ?_)
      ·try simp [go_sem, g]
       refine pC hF [.sh, .sh] c_impl_TallyVotes (fun z56 hF => ?_)
       try simp [go_sem, g]
       exact pT (hj52 z56.1) (Rn_some hF)
      ·try simp [go_sem, g]
       exact pT (hj52 []) (Rn_some hF)
    ·repeat rw [sq]
     rw [pw_block]
     obtain ⟨b49, hb50, hψ33⟩ := hF
     refine pL hb50 (fun s29 => [(1, .v (.sl false 2 (a1.map row_Casting_z))), (2, .bl [.int .i64 a0.Gr.P, .int .i64 a0.Gr.Q, .int .i64 a0.Gr.G, .int .i64 a0.Ct.Kind, .int .i64 a0.Ct.Options, .int .i64 a0.Ct.Least, .int .i64 a0.Ct.Most, .int .i64 a0.Ct.Points, .int .i64 a0.Threshold, .int .i64 a0.Trustees, .int .i64 a0.Mixers, .int .i64 a0.Voters, .int .i64 a0.Seed]), (7, .v (.sl true 1 (s29.1.map row_oi64))), (22, .v (.int .i64 a0.Voters)), (23, .v (.int .i64 s29.2))]) (fun s29 _ _ ho31 hg32 hF => ?_)
     try simp [go_sem, g]
     refine pw_wkK [1, 2, 7, 22, 23, 24] (by simp [go_sem, g]; rfl) ?_
     repeat rw [sq]
     refine pI hF (fun h34 hF => ?_) (fun h34 hF => ?_)
     ·try simp [go_sem, g]
      refine pw_wk ?_
      repeat rw [sq]
      refine pJ hF (fun x37 => [(1, .v (.sl false 2 (a1.map row_Casting_z))), (2, .bl [.int .i64 a0.Gr.P, .int .i64 a0.Gr.Q, .int .i64 a0.Gr.G, .int .i64 a0.Ct.Kind, .int .i64 a0.Ct.Options, .int .i64 a0.Ct.Least, .int .i64 a0.Ct.Most, .int .i64 a0.Ct.Points, .int .i64 a0.Threshold, .int .i64 a0.Trustees, .int .i64 a0.Mixers, .int .i64 a0.Voters, .int .i64 a0.Seed]), (7, .v (.sl true 1 (x37.map row_oi64))), (22, .v (.int .i64 a0.Voters)), (23, .v (.int .i64 s29.2))]) (fun x37 hF => ?_) fun _ hj35 hF => ?_
      ·try simp [go_sem, g]
       exact pT (hg32 (x37, i64.wrap (s29.2 + 1))) (Rn_some hF)
      ·repeat rw [sq]
       rw [pw_block]
       iterate 2 (try simp [go_sem, g]; try intros; refine pw_wk ?_)
       repeat rw [sq]
       rw [pw_block]
       obtain ⟨b47, hb48, hψ42⟩ := hF
       refine pL hb48 (fun s38 => [(1, .v (.sl false 2 (a1.map row_Casting_z))), (2, .bl [.int .i64 a0.Gr.P, .int .i64 a0.Gr.Q, .int .i64 a0.Gr.G, .int .i64 a0.Ct.Kind, .int .i64 a0.Ct.Options, .int .i64 a0.Ct.Least, .int .i64 a0.Ct.Most, .int .i64 a0.Ct.Points, .int .i64 a0.Threshold, .int .i64 a0.Trustees, .int .i64 a0.Mixers, .int .i64 a0.Voters, .int .i64 a0.Seed]), (7, .v (.sl true 1 (s38.1.map row_oi64))), (8, .v (.int .i64 s29.2)), (9, .v (.int .i64 s38.2)), (22, .v (.int .i64 a0.Voters)), (23, .v (.int .i64 s29.2))]) (fun s38 _ _ ho40 hg41 hF => ?_)
       try simp [go_sem, g]
       refine pw_wk ?_
       repeat rw [sq]
       refine pI hF (fun h43 hF => ?_) (fun h43 hF => ?_)
       ·try simp [go_sem, g]
        refine pw_wk ?_
        repeat rw [sq]
        rw [pw_block]
        obtain ⟨x44, g, hF⟩ := Rx g hF
        try simp [go_sem, g]
        refine pw_wkK [1, 2, 7, 8, 9, 22, 23, 39] (by simp [go_sem, g]; rfl) ?_
        repeat rw [sq]
        refine pI hF (fun h45 hF => ?_) (fun h45 hF => ?_)
        ·try simp [go_sem, g]
         refine pC hF [.sh] c_slices_Clone_int_int (fun z46 hF => ?_)
         obtain ⟨g, hF⟩ := Rg g hF
         try simp [go_sem, g]
         refine pw_wkK [1, 2, 7, 22, 23] (by simp [go_sem, g]; rfl) ?_
         try simp [go_sem, g]
         cases ho40 _ (Rn_some hF)
         exact pT (hj35 (s38.1 ++ [z46])) hψ42
        ·try simp [go_sem, g]
         refine pw_wk ?_
         try simp [go_sem, g]
         exact pT (hg41 (s38.1, i64.wrap (s38.2 - 1))) (Rn_some hF)
       ·try simp [go_sem, g]
        cases ho40 _ (Rn_some hF)
        exact pT (hj35 s38.1) hψ42
     ·try simp [go_sem, g]
      cases ho31 _ (Rn_some hF)
      exact pT (hj8 s29.1) hψ33
  ·try simp [go_sem, g]
   refine pC hF [.sh] c_impl_IsValidPlan (fun z4 hF => ?_)
   try simp [go_sem, g]
   refine pwg_F hF (fun h5 hF => ?_) fun h5 hF => ?_
   ·try simp [go_sem, g, h5]
    exact pT (hj1 true) (Rn_some hF)
   ·try simp [go_sem, g, h5]
    refine pC hF [.sh, .sh] c_impl_Plan_areCastings (fun z6 hF => ?_)
    try simp [go_sem, g, h5]
    exact pT (hj1 (!z6)) (Rn_some hF)
def D10_6 : List DE := [⟨0, [0], [], none, false, false, false⟩, ⟨1, [5], [], none, false, false, false⟩, ⟨2, [17, 18], [], none, false, false, false⟩, ⟨3, [19], [], none, false, false, false⟩, ⟨4, [1], [], none, false, false, false⟩, ⟨5, [5], [], none, false, false, false⟩, ⟨6, [21, 22], [], none, false, false, false⟩, ⟨7, [23], [], none, false, false, false⟩, ⟨8, [20, 24], [], none, false, false, false⟩]
noncomputable def F_laws_eqIntS (a0 : (List Int)) (a1 : (List Int)) : Option (Bool) :=
  if ((a0.length : Int) != (a1.length : Int)) = true then (
  some false) else (
  ((wloop (σ := Int) (fun s5 =>
  if decide (s5 < (a0.length : Int)) = true then (
  (ix a0 s5).bind fun x11 =>
  (ix a1 s5).bind fun x12 =>
  if (x11 != x12) = true then (
  some (.out (.inr false))) else (
  some (.go (i64.wrap (s5 + 1))))) else (
  some (.out (.inl ())))) 0 : Option (Unit ⊕ Bool)).bind (Sum.elim (fun x4 =>
  some true) some)))
theorem c_laws_eqIntS : ∀ {a0} {a1} {r}, F_laws_eqIntS a0 a1 = some r → PCalls Try.prog 10 [(.sh, .sl false 1 (a0.map row_i64)), (.sh, .sl false 1 (a1.map row_i64))] (Eo (.bool r) [.junk, .junk]) := by
  intro a0 a1 r hr
  apply pF 26 [] [] [] [.tmp 4] hr cl10 Try.func10
  intro Φ hΦ hF g
  unfold F_laws_eqIntS at hF
  iterate 2 (try simp [go_sem, g]; try intros; refine pw_wk ?_)
  repeat rw [sq]
  refine pI hF (fun h1 hF => ?_) (fun h1 hF => ?_)
  ·cases hΦ _ (Rn_some hF)
   try simp [go_sem, g]
   refine pw_wk ?_
   try simp [go_sem, g]
  ·iterate 2 (try simp [go_sem, g]; refine pw_wk ?_)
   repeat rw [sq]
   refine pJs hF (fun x4 => []) (fun x4 hF => ?_) fun _ hj2 hr3 hF => ?_
   ·cases hΦ _ (Rn_some hF)
    try simp [go_sem, g]
    refine pw_wk ?_
    try simp [go_sem, g]
   ·repeat rw [sq]
    rw [pw_block]
    obtain ⟨b14, hb15, hψ9⟩ := hF
    refine pL hb15 (fun s5 => [(0, .v (.sl false 1 (a0.map row_i64))), (1, .v (.sl false 1 (a1.map row_i64))), (5, .v (.int .i64 s5))]) (fun s5 _ _ ho7 hg8 hF => ?_)
    try simp [go_sem, g]
    try intros
    refine pw_wkK [0, 1, 5, 14] (by simp [go_sem, g]; rfl) ?_
    repeat rw [sq]
    refine pI hF (fun h10 hF => ?_) (fun h10 hF => ?_)
    ·try simp [go_sem, g]
     refine pw_wk ?_
     repeat rw [sq]
     rw [pw_block]
     repeat rw [sq]
     refine pw_draw D10_6 follows (by kernel_rfl) rfl ?_
     try simp only [go_sem, D10_6]
     obtain ⟨x11, g, hF⟩ := Rx g hF
     obtain ⟨x12, g, hF⟩ := Rx g hF
     try simp [go_sem, g]
     refine pw_wk ?_
     repeat rw [sq]
     refine pI hF (fun h13 hF => ?_) (fun h13 hF => ?_)
     ·try simp [go_sem, g]
      refine pw_wkK [4] (by simp [go_sem, g]; rfl) ?_
      cases ho7 _ (Rn_some hF)
      cases hΦ _ (hr3 _ hψ9)
      try simp [go_sem, g]
     ·try simp [go_sem, g]
      refine pw_wk ?_
      try simp [go_sem, g]
      exact pT (hg8 (i64.wrap (s5 + 1))) (Rn_some hF)
    ·try simp [go_sem, g]
     cases ho7 _ (Rn_some hF)
     exact pT (hj2 ()) hψ9
def D9_6 : List DE := [⟨0, [0], [], none, false, false, false⟩, ⟨1, [5], [], none, false, false, false⟩, ⟨2, [17, 18], [], none, false, false, false⟩, ⟨3, [19], [], none, false, false, false⟩, ⟨4, [1], [], none, false, false, false⟩, ⟨5, [5], [], none, false, false, false⟩, ⟨6, [21, 22], [], none, false, false, false⟩, ⟨7, [23], [], none, false, false, false⟩, ⟨8, [20, 24], [], none, false, true, true⟩, ⟨9, [25], [], none, false, false, false⟩]
noncomputable def F_laws_eqIntSS (a0 : (List (List Int))) (a1 : (List (List Int))) : Option (Bool) :=
  if ((a0.length : Int) != (a1.length : Int)) = true then (
  some false) else (
  ((wloop (σ := Int) (fun s5 =>
  if decide (s5 < (a0.length : Int)) = true then (
  (ix a0 s5).bind fun x11 =>
  (ix a1 s5).bind fun x12 =>
  (F_laws_eqIntS x11 x12).bind fun z13 =>
  if (!z13) = true then (
  some (.out (.inr false))) else (
  some (.go (i64.wrap (s5 + 1))))) else (
  some (.out (.inl ())))) 0 : Option (Unit ⊕ Bool)).bind (Sum.elim (fun x4 =>
  some true) some)))
theorem c_laws_eqIntSS : ∀ {a0} {a1} {r}, F_laws_eqIntSS a0 a1 = some r → PCalls Try.prog 9 [(.sh, .sl false 1 (a0.map row_zi64)), (.sh, .sl false 1 (a1.map row_zi64))] (Eo (.bool r) [.junk, .junk]) := by
  intro a0 a1 r hr
  apply pF 27 [] [] [] [.tmp 4] hr cl9 Try.func9
  intro Φ hΦ hF g
  unfold F_laws_eqIntSS at hF
  iterate 2 (try simp [go_sem, g]; try intros; refine pw_wk ?_)
  repeat rw [sq]
  refine pI hF (fun h1 hF => ?_) (fun h1 hF => ?_)
  ·cases hΦ _ (Rn_some hF)
   try simp [go_sem, g]
   refine pw_wk ?_
   try simp [go_sem, g]
  ·iterate 2 (try simp [go_sem, g]; refine pw_wk ?_)
   repeat rw [sq]
   refine pJs hF (fun x4 => []) (fun x4 hF => ?_) fun _ hj2 hr3 hF => ?_
   ·cases hΦ _ (Rn_some hF)
    try simp [go_sem, g]
    refine pw_wk ?_
    try simp [go_sem, g]
   ·repeat rw [sq]
    rw [pw_block]
    obtain ⟨b15, hb16, hψ9⟩ := hF
    refine pL hb16 (fun s5 => [(0, .v (.sl false 1 (a0.map row_zi64))), (1, .v (.sl false 1 (a1.map row_zi64))), (5, .v (.int .i64 s5))]) (fun s5 _ _ ho7 hg8 hF => ?_)
    try simp [go_sem, g]
    try intros
    refine pw_wkK [0, 1, 5, 14] (by simp [go_sem, g]; rfl) ?_
    repeat rw [sq]
    refine pI hF (fun h10 hF => ?_) (fun h10 hF => ?_)
    ·try simp [go_sem, g]
     refine pw_wk ?_
     repeat rw [sq]
     rw [pw_block]
     repeat rw [sq]
     refine pw_draw D9_6 follows (by kernel_rfl) rfl ?_
     try simp only [go_sem, D9_6]
     obtain ⟨x11, g, hF⟩ := Rx g hF
     obtain ⟨x12, g, hF⟩ := Rx g hF
     try simp [go_sem, g]
     refine pC hF [.sh, .sh] c_laws_eqIntS (fun z13 hF => ?_)
     try simp [go_sem, g]
     refine pw_wkK [0, 1, 5, 26] (by simp [go_sem, g]; rfl) ?_
     repeat rw [sq]
     refine pI hF (fun h14 hF => ?_) (fun h14 hF => ?_)
     ·cases ho7 _ (Rn_some hF)
      cases hΦ _ (hr3 _ hψ9)
      try simp [go_sem, g]
      refine pw_wk ?_
      try simp [go_sem, g]
     ·try simp [go_sem, g]
      refine pw_wk ?_
      try simp [go_sem, g]
      exact pT (hg8 (i64.wrap (s5 + 1))) (Rn_some hF)
    ·try simp [go_sem, g]
     cases ho7 _ (Rn_some hF)
     exact pT (hj2 ()) hψ9
noncomputable def F_laws_eqCasting (a0 : Casting) (a1 : Casting) : Option (Bool) :=
  if (a0.Voter != a1.Voter) = true then (
  some false) else (
  (F_laws_eqIntS a0.Vote a1.Vote).bind fun z2 =>
  if (!z2) = true then (
  some false) else (
  some true))
theorem c_laws_eqCasting : ∀ {a0} {a1} {r}, F_laws_eqCasting a0 a1 = some r → PCalls Try.prog 31 [(.sh, .agg [.int .i64 a0.Voter, .sl false 1 (a0.Vote.map row_i64)]), (.sh, .agg [.int .i64 a1.Voter, .sl false 1 (a1.Vote.map row_i64)])] (Eo (.bool r) [.junk, .junk]) := by
  intro a0 a1 r hr
  apply pF 16 [] [] [] [.tmp 4] hr cl31 Try.func31
  intro Φ hΦ hF g
  unfold F_laws_eqCasting at hF
  iterate 2 (try simp [go_sem, g]; refine pw_wk ?_)
  repeat rw [sq]
  refine pI hF (fun h1 hF => ?_) (fun h1 hF => ?_)
  ·cases hΦ _ (Rn_some hF)
   try simp [go_sem, g]
   refine pw_wk ?_
   try simp [go_sem, g]
  ·try simp [go_sem, g]
   refine pw_wk ?_
   try simp [go_sem, g]
   refine pC hF [.sh, .sh] c_laws_eqIntS (fun z2 hF => ?_)
   try simp [go_sem, g]
   refine pw_wkK [15] (by simp [go_sem, g]; rfl) ?_
   repeat rw [sq]
   refine pI hF (fun h3 hF => ?_) (fun h3 hF => ?_)
   ·cases hΦ _ (Rn_some hF)
    try simp [go_sem, g]
    refine pw_wk ?_
    try simp [go_sem, g]
   ·cases hΦ _ (Rn_some hF)
    iterate 2 (try simp [go_sem, g]; refine pw_wk ?_)
    try simp [go_sem, g]
def D11_6 : List DE := [⟨0, [0], [], none, false, false, false⟩, ⟨1, [5], [], none, false, false, false⟩, ⟨2, [17, 18], [], none, false, false, false⟩, ⟨3, [19], [], none, false, false, false⟩, ⟨4, [1], [], none, false, false, false⟩, ⟨5, [5], [], none, false, false, false⟩, ⟨6, [21, 22], [], none, false, false, false⟩, ⟨7, [23], [], none, false, false, false⟩, ⟨8, [20, 24], [], none, false, true, true⟩, ⟨9, [25], [], none, false, false, false⟩]
noncomputable def F_laws_eqCastingS (a0 : (List Casting)) (a1 : (List Casting)) : Option (Bool) :=
  if ((a0.length : Int) != (a1.length : Int)) = true then (
  some false) else (
  ((wloop (σ := Int) (fun s5 =>
  if decide (s5 < (a0.length : Int)) = true then (
  (ix a0 s5).bind fun x11 =>
  (ix a1 s5).bind fun x12 =>
  (F_laws_eqCasting x11 x12).bind fun z13 =>
  if (!z13) = true then (
  some (.out (.inr false))) else (
  some (.go (i64.wrap (s5 + 1))))) else (
  some (.out (.inl ())))) 0 : Option (Unit ⊕ Bool)).bind (Sum.elim (fun x4 =>
  some true) some)))
theorem c_laws_eqCastingS : ∀ {a0} {a1} {r}, F_laws_eqCastingS a0 a1 = some r → PCalls Try.prog 11 [(.sh, .sl false 2 (a0.map row_Casting_z)), (.sh, .sl false 2 (a1.map row_Casting_z))] (Eo (.bool r) [.junk, .junk]) := by
  intro a0 a1 r hr
  apply pF 27 [] [] [] [.tmp 4] hr cl11 Try.func11
  intro Φ hΦ hF g
  unfold F_laws_eqCastingS at hF
  iterate 2 (try simp [go_sem, g]; try intros; refine pw_wk ?_)
  repeat rw [sq]
  refine pI hF (fun h1 hF => ?_) (fun h1 hF => ?_)
  ·cases hΦ _ (Rn_some hF)
   try simp [go_sem, g]
   refine pw_wk ?_
   try simp [go_sem, g]
  ·iterate 2 (try simp [go_sem, g]; refine pw_wk ?_)
   repeat rw [sq]
   refine pJs hF (fun x4 => []) (fun x4 hF => ?_) fun _ hj2 hr3 hF => ?_
   ·cases hΦ _ (Rn_some hF)
    try simp [go_sem, g]
    refine pw_wk ?_
    try simp [go_sem, g]
   ·repeat rw [sq]
    rw [pw_block]
    obtain ⟨b15, hb16, hψ9⟩ := hF
    refine pL hb16 (fun s5 => [(0, .v (.sl false 2 (a0.map row_Casting_z))), (1, .v (.sl false 2 (a1.map row_Casting_z))), (5, .v (.int .i64 s5))]) (fun s5 _ _ ho7 hg8 hF => ?_)
    try simp [go_sem, g]
    try intros
    refine pw_wkK [0, 1, 5, 14] (by simp [go_sem, g]; rfl) ?_
    repeat rw [sq]
    refine pI hF (fun h10 hF => ?_) (fun h10 hF => ?_)
    ·try simp [go_sem, g]
     refine pw_wk ?_
     repeat rw [sq]
     rw [pw_block]
     repeat rw [sq]
     refine pw_draw D11_6 follows (by kernel_rfl) rfl ?_
     try simp only [go_sem, D11_6]
     obtain ⟨x11, g, hF⟩ := Rx g hF
     obtain ⟨x12, g, hF⟩ := Rx g hF
     try simp [go_sem, g]
     refine pC hF [.sh, .sh] c_laws_eqCasting (fun z13 hF => ?_)
     try simp [go_sem, g]
     refine pw_wkK [0, 1, 5, 26] (by simp [go_sem, g]; rfl) ?_
     repeat rw [sq]
     refine pI hF (fun h14 hF => ?_) (fun h14 hF => ?_)
     ·cases ho7 _ (Rn_some hF)
      cases hΦ _ (hr3 _ hψ9)
      try simp [go_sem, g]
      refine pw_wk ?_
      try simp [go_sem, g]
     ·try simp [go_sem, g]
      refine pw_wk ?_
      try simp [go_sem, g]
      exact pT (hg8 (i64.wrap (s5 + 1))) (Rn_some hF)
    ·try simp [go_sem, g]
     cases ho7 _ (Rn_some hF)
     exact pT (hj2 ()) hψ9
noncomputable def F_laws_markIntS__io0 (a0 : (List Int)) (a1 : Int) : Option (Int × (List Int)) :=
  ((wloop (σ := (List Int) × Int × Int) (fun s11 =>
  if decide (s11.2.2 < (s11.1.length : Int)) = true then (
  (ix s11.1 s11.2.2).bind fun x17 =>
  some (.go (s11.1.set s11.2.2.toNat s11.2.1, i64.wrap (s11.2.1 + 1), i64.wrap (s11.2.2 + 1)))) else (
  some (.out (s11.1, s11.2.1)))) (a0, a1, 0) : Option (((List Int) × Int))).bind fun x3 =>
  some (x3.2, x3.1))
theorem c_laws_markIntS__io0 : ∀ {a0} {a1} {r}, F_laws_markIntS__io0 a0 a1 = some r → PCalls Try.prog 14 [(.io, .sl true 1 (a0.map row_i64)), (.sh, .int .i64 a1)] (Eo (.int .i64 r.1) [.sl true 1 (r.2.map row_i64), .junk]) := by
  intro a0 a1 r hr
  apply pF 19 [0] [] [] [.tmp 4] hr cl14 Try.func14
  intro Φ hΦ hF g
  unfold F_laws_markIntS__io0 at hF
  iterate 2 (try simp [go_sem, g]; refine pw_wk ?_)
  repeat rw [sq]
  refine pJ hF (fun x3 => [(0, .v (.sl true 1 (x3.1.map row_i64))), (1, .v (.int .i64 x3.2))]) (fun x3 hF => ?_) fun _ hj1 hF => ?_
  ·cases hΦ _ (Rn_some hF)
   try simp [go_sem, g]
   refine pw_wk ?_
   try simp [go_sem, g]
  ·repeat rw [sq]
   rw [pw_block]
   obtain ⟨b18, hb19, hψ15⟩ := hF
   refine pL hb19 (fun s11 => [(0, .v (.sl true 1 (s11.1.map row_i64))), (1, .v (.int .i64 s11.2.1)), (5, .v (.int .i64 s11.2.2))]) (fun s11 _ _ ho13 hg14 hF => ?_)
   try simp [go_sem, g]
   try intros
   refine pw_wk ?_
   repeat rw [sq]
   refine pI hF (fun h16 hF => ?_) (fun h16 hF => ?_)
   ·try simp [go_sem, g]
    refine pw_wk ?_
    repeat rw [sq]
    rw [pw_block]
    obtain ⟨x17, g, hF⟩ := Rx g hF
    try simp [go_sem, g]
    refine pw_wkK [0, 1, 5] (by simp [go_sem, g]; rfl) ?_
    try simp [go_sem, g]
    refine pw_wk ?_
    try simp [go_sem, g]
    exact pT (hg14 (s11.1.set s11.2.2.toNat s11.2.1, i64.wrap (s11.2.1 + 1), i64.wrap (s11.2.2 + 1))) (Rn_some hF)
   ·try simp [go_sem, g]
    cases ho13 _ (Rn_some hF)
    exact pT (hj1 (s11.1, s11.2.1)) hψ15
noncomputable def F_laws_markCastingS__io0 (a0 : (List Casting)) (a1 : Int) : Option (Int × (List Casting)) :=
  ((wloop (σ := (List Casting) × Int × Int) (fun s12 =>
  if decide (s12.2.2 < (s12.1.length : Int)) = true then (
  (ix s12.1 s12.2.2).bind fun x18 =>
  (F_laws_markIntS__io0 x18.Vote (i64.wrap (s12.2.1 + 1))).bind fun z19 =>
  some (.go ((s12.1.set s12.2.2.toNat (Casting.mk s12.2.1 x18.Vote)).set s12.2.2.toNat (Casting.mk s12.2.1 z19.2), z19.1, i64.wrap (s12.2.2 + 1)))) else (
  some (.out (s12.1, s12.2.1)))) (a0, a1, 0) : Option (((List Casting) × Int))).bind fun x3 =>
  some (x3.2, x3.1))
theorem c_laws_markCastingS__io0 : ∀ {a0} {a1} {r}, F_laws_markCastingS__io0 a0 a1 = some r → PCalls Try.prog 12 [(.io, .sl true 2 (a0.map row_Casting_o)), (.sh, .int .i64 a1)] (Eo (.int .i64 r.1) [.sl true 2 (r.2.map row_Casting_o), .junk]) := by
  intro a0 a1 r hr
  apply pF 27 [0] [] [] [.tmp 4] hr cl12 Try.func12
  intro Φ hΦ hF g
  unfold F_laws_markCastingS__io0 at hF
  iterate 2 (try simp [go_sem, g]; refine pw_wk ?_)
  repeat rw [sq]
  refine pJ hF (fun x3 => [(0, .v (.sl true 2 (x3.1.map row_Casting_o))), (1, .v (.int .i64 x3.2))]) (fun x3 hF => ?_) fun _ hj1 hF => ?_
  ·cases hΦ _ (Rn_some hF)
   try simp [go_sem, g]
   refine pw_wk ?_
   try simp [go_sem, g]
  ·repeat rw [sq]
   rw [pw_block]
   obtain ⟨b20, hb21, hψ16⟩ := hF
   refine pL hb21 (fun s12 => [(0, .v (.sl true 2 (s12.1.map row_Casting_o))), (1, .v (.int .i64 s12.2.1)), (5, .v (.int .i64 s12.2.2))]) (fun s12 _ _ ho14 hg15 hF => ?_)
   try simp [go_sem, g]
   try intros
   refine pw_wk ?_
   repeat rw [sq]
   refine pI hF (fun h17 hF => ?_) (fun h17 hF => ?_)
   ·try simp [go_sem, g]
    refine pw_wk ?_
    repeat rw [sq]
    rw [pw_block]
    obtain ⟨x18, g, hF⟩ := Rx g hF
    try simp [go_sem, g]
    refine pw_wkK [0, 1, 5] (by simp [go_sem, g]; rfl) ?_
    try simp [go_sem, g]
    refine pw_wk ?_
    try simp [go_sem, g]
    refine pC hF [.io, .sh] c_laws_markIntS__io0 (fun z19 hF => ?_)
    try simp [go_sem, g]
    refine pw_wkK [0, 1, 5] (by simp [go_sem, g]; rfl) ?_
    try simp [go_sem, g]
    exact pT (hg15 ((s12.1.set s12.2.2.toNat (Casting.mk s12.2.1 x18.Vote)).set s12.2.2.toNat (Casting.mk s12.2.1 z19.2), z19.1, i64.wrap (s12.2.2 + 1))) (Rn_some hF)
   ·try simp [go_sem, g]
    cases ho14 _ (Rn_some hF)
    exact pT (hj1 (s12.1, s12.2.1)) hψ16
noncomputable def F_laws_markIntSS__io0 (a0 : (List (List Int))) (a1 : Int) : Option (Int × (List (List Int))) :=
  ((wloop (σ := (List (List Int)) × Int × Int) (fun s12 =>
  if decide (s12.2.2 < (s12.1.length : Int)) = true then (
  (ix s12.1 s12.2.2).bind fun x18 =>
  (F_laws_markIntS__io0 x18 s12.2.1).bind fun z19 =>
  some (.go (s12.1.set s12.2.2.toNat z19.2, z19.1, i64.wrap (s12.2.2 + 1)))) else (
  some (.out (s12.1, s12.2.1)))) (a0, a1, 0) : Option (((List (List Int)) × Int))).bind fun x3 =>
  some (x3.2, x3.1))
theorem c_laws_markIntSS__io0 : ∀ {a0} {a1} {r}, F_laws_markIntSS__io0 a0 a1 = some r → PCalls Try.prog 13 [(.io, .sl true 1 (a0.map row_oi64)), (.sh, .int .i64 a1)] (Eo (.int .i64 r.1) [.sl true 1 (r.2.map row_oi64), .junk]) := by
  intro a0 a1 r hr
  apply pF 19 [0] [] [] [.tmp 4] hr cl13 Try.func13
  intro Φ hΦ hF g
  unfold F_laws_markIntSS__io0 at hF
  iterate 2 (try simp [go_sem, g]; refine pw_wk ?_)
  repeat rw [sq]
  refine pJ hF (fun x3 => [(0, .v (.sl true 1 (x3.1.map row_oi64))), (1, .v (.int .i64 x3.2))]) (fun x3 hF => ?_) fun _ hj1 hF => ?_
  ·cases hΦ _ (Rn_some hF)
   try simp [go_sem, g]
   refine pw_wk ?_
   try simp [go_sem, g]
  ·repeat rw [sq]
   rw [pw_block]
   obtain ⟨b20, hb21, hψ16⟩ := hF
   refine pL hb21 (fun s12 => [(0, .v (.sl true 1 (s12.1.map row_oi64))), (1, .v (.int .i64 s12.2.1)), (5, .v (.int .i64 s12.2.2))]) (fun s12 _ _ ho14 hg15 hF => ?_)
   try simp [go_sem, g]
   try intros
   refine pw_wk ?_
   repeat rw [sq]
   refine pI hF (fun h17 hF => ?_) (fun h17 hF => ?_)
   ·try simp [go_sem, g]
    refine pw_wk ?_
    repeat rw [sq]
    rw [pw_block]
    obtain ⟨x18, g, hF⟩ := Rx g hF
    try simp [go_sem, g]
    refine pC hF [.io, .sh] c_laws_markIntS__io0 (fun z19 hF => ?_)
    try simp [go_sem, g]
    refine pw_wkK [0, 1, 5] (by simp [go_sem, g]; rfl) ?_
    try simp [go_sem, g]
    exact pT (hg15 (s12.1.set s12.2.2.toNat z19.2, z19.1, i64.wrap (s12.2.2 + 1))) (Rn_some hF)
   ·try simp [go_sem, g]
    cases ho14 _ (Rn_some hF)
    exact pT (hj1 (s12.1, s12.2.1)) hψ16
noncomputable def F_laws_heldIntS (a0 : (List Int)) (a1 : Int) : Option (Int) :=
  ((wloop (σ := Int × Int) (fun s4 =>
  if decide (s4.2 < (a0.length : Int)) = true then (
  (ix a0 s4.2).bind fun x10 =>
  if (x10 != s4.1) = true then (
  some (.out (.inr (-1)))) else (
  some (.go (i64.wrap (s4.1 + 1), i64.wrap (s4.2 + 1))))) else (
  some (.out (.inl s4.1)))) (a1, 0) : Option (Int ⊕ Int)).bind (Sum.elim (fun x3 =>
  some x3) some))
theorem c_laws_heldIntS : ∀ {a0} {a1} {r}, F_laws_heldIntS a0 a1 = some r → PCalls Try.prog 16 [(.sh, .sl false 1 (a0.map row_i64)), (.sh, .int .i64 a1)] (Eo (.int .i64 r) [.junk, .junk]) := by
  intro a0 a1 r hr
  apply pF 21 [] [] [] [.tmp 4] hr cl16 Try.func16
  intro Φ hΦ hF g
  unfold F_laws_heldIntS at hF
  iterate 2 (try simp [go_sem, g]; refine pw_wk ?_)
  repeat rw [sq]
  refine pJs hF (fun x3 => [(1, .v (.int .i64 x3))]) (fun x3 hF => ?_) fun _ hj1 hr2 hF => ?_
  ·cases hΦ _ (Rn_some hF)
   try simp [go_sem, g]
   refine pw_wk ?_
   try simp [go_sem, g]
  ·repeat rw [sq]
   rw [pw_block]
   obtain ⟨b12, hb13, hψ8⟩ := hF
   refine pL hb13 (fun s4 => [(0, .v (.sl false 1 (a0.map row_i64))), (1, .v (.int .i64 s4.1)), (5, .v (.int .i64 s4.2))]) (fun s4 _ _ ho6 hg7 hF => ?_)
   try simp [go_sem, g]
   try intros
   refine pw_wk ?_
   repeat rw [sq]
   refine pI hF (fun h9 hF => ?_) (fun h9 hF => ?_)
   ·try simp [go_sem, g]
    refine pw_wk ?_
    repeat rw [sq]
    rw [pw_block]
    obtain ⟨x10, g, hF⟩ := Rx g hF
    try simp [go_sem, g]
    refine pw_wkK [0, 1, 5, 17] (by simp [go_sem, g]; rfl) ?_
    repeat rw [sq]
    refine pI hF (fun h11 hF => ?_) (fun h11 hF => ?_)
    ·cases ho6 _ (Rn_some hF)
     cases hΦ _ (hr2 _ hψ8)
     try simp [go_sem, g]
     refine pw_wk ?_
     try simp [go_sem, g]
    ·iterate 2 (try simp [go_sem, g]; refine pw_wk ?_)
     try simp [go_sem, g]
     exact pT (hg7 (i64.wrap (s4.1 + 1), i64.wrap (s4.2 + 1))) (Rn_some hF)
   ·try simp [go_sem, g]
    cases ho6 _ (Rn_some hF)
    exact pT (hj1 s4.1) hψ8
noncomputable def F_laws_heldIntSS (a0 : (List (List Int))) (a1 : Int) : Option (Int) :=
  ((wloop (σ := Int × Int) (fun s4 =>
  if decide (s4.2 < (a0.length : Int)) = true then (
  (ix a0 s4.2).bind fun x10 =>
  (F_laws_heldIntS x10 s4.1).bind fun z11 =>
  if decide (z11 < 0) = true then (
  some (.out (.inr (-1)))) else (
  some (.go (z11, i64.wrap (s4.2 + 1))))) else (
  some (.out (.inl s4.1)))) (a1, 0) : Option (Int ⊕ Int)).bind (Sum.elim (fun x3 =>
  some x3) some))
theorem c_laws_heldIntSS : ∀ {a0} {a1} {r}, F_laws_heldIntSS a0 a1 = some r → PCalls Try.prog 15 [(.sh, .sl false 1 (a0.map row_zi64)), (.sh, .int .i64 a1)] (Eo (.int .i64 r) [.junk, .junk]) := by
  intro a0 a1 r hr
  apply pF 21 [] [] [] [.tmp 4] hr cl15 Try.func15
  intro Φ hΦ hF g
  unfold F_laws_heldIntSS at hF
  iterate 2 (try simp [go_sem, g]; refine pw_wk ?_)
  repeat rw [sq]
  refine pJs hF (fun x3 => [(1, .v (.int .i64 x3))]) (fun x3 hF => ?_) fun _ hj1 hr2 hF => ?_
  ·cases hΦ _ (Rn_some hF)
   try simp [go_sem, g]
   refine pw_wk ?_
   try simp [go_sem, g]
  ·repeat rw [sq]
   rw [pw_block]
   obtain ⟨b13, hb14, hψ8⟩ := hF
   refine pL hb14 (fun s4 => [(0, .v (.sl false 1 (a0.map row_zi64))), (1, .v (.int .i64 s4.1)), (5, .v (.int .i64 s4.2))]) (fun s4 _ _ ho6 hg7 hF => ?_)
   try simp [go_sem, g]
   try intros
   refine pw_wk ?_
   repeat rw [sq]
   refine pI hF (fun h9 hF => ?_) (fun h9 hF => ?_)
   ·try simp [go_sem, g]
    refine pw_wk ?_
    repeat rw [sq]
    rw [pw_block]
    obtain ⟨x10, g, hF⟩ := Rx g hF
    try simp [go_sem, g]
    refine pC hF [.sh, .sh] c_laws_heldIntS (fun z11 hF => ?_)
    try simp [go_sem, g]
    refine pw_wkK [0, 1, 5] (by simp [go_sem, g]; rfl) ?_
    try simp [go_sem, g]
    refine pw_wk ?_
    repeat rw [sq]
    refine pI hF (fun h12 hF => ?_) (fun h12 hF => ?_)
    ·cases ho6 _ (Rn_some hF)
     cases hΦ _ (hr2 _ hψ8)
     try simp [go_sem, g]
     refine pw_wk ?_
     try simp [go_sem, g]
    ·try simp [go_sem, g]
     refine pw_wk ?_
     try simp [go_sem, g]
     exact pT (hg7 (z11, i64.wrap (s4.2 + 1))) (Rn_some hF)
   ·try simp [go_sem, g]
    cases ho6 _ (Rn_some hF)
    exact pT (hj1 s4.1) hψ8
noncomputable def F_laws_FnExactPlainResult (a0 : Plan) (a1 : (List Casting)) : Option (Bool) :=
  (F_laws_szCastingS a1 1048576).bind fun z1 =>
  if decide (z1 < 0) = true then (
  some true) else (
  (F_laws_toPlan a0).bind fun z3 =>
  (F_laws_toCastingS a1).bind fun z4 =>
  (F_spec_PlainResult z3 z4).bind fun z5 =>
  (F_laws_toCastingS a1).bind fun z6 =>
  (F_laws_toPlan a0).bind fun z7 =>
  (F_impl_PlainResult z7 z6).bind fun z8 =>
  (((F_laws_eqIntSS z8.1 z5.1).bind fun z12 =>
  if (!z12) = true then (
  some true) else (
  (F_laws_eqIntS z8.2.1 z5.2.1).bind fun z14 =>
  if (!z14) = true then (
  some true) else (
  some (z8.2.2 != z5.2.2))) : Option (Bool)).bind fun x11 =>
  if x11 = true then (
  some false) else (
  (F_laws_toCastingS a1).bind fun z17 =>
  (F_laws_eqCastingS z6 z17).bind fun z18 =>
  if (!z18) = true then (
  some false) else (
  (F_laws_markCastingS__io0 z6 1).bind fun z20 =>
  ((if decide (z20.1 < 0) = true then (
  some true) else (
  (F_laws_eqIntSS z8.1 z5.1).bind fun z25 =>
  if (!z25) = true then (
  some true) else (
  (F_laws_eqIntS z8.2.1 z5.2.1).bind fun z27 =>
  if (!z27) = true then (
  some true) else (
  some (z8.2.2 != z5.2.2)))) : Option (Bool)).bind fun x23 =>
  if x23 = true then (
  some false) else (
  (F_laws_markIntSS__io0 z8.1 1).bind fun z30 =>
  (F_laws_markIntS__io0 z8.2.1 z30.1).bind fun z31 =>
  (F_laws_heldIntSS z30.2 1).bind fun z32 =>
  if decide (z32 < 0) = true then (
  some false) else (
  (F_laws_heldIntS z31.2 z32).bind fun z34 =>
  if decide (z34 < 0) = true then (
  some false) else (
  if (z34 != z31.1) = true then (
  some false) else (
  (F_laws_toPlan a0).bind fun z37 =>
  (F_laws_toCastingS a1).bind fun z38 =>
  (F_impl_PlainResult z37 z38).bind fun z39 =>
  (((F_laws_eqIntSS z39.1 z5.1).bind fun z43 =>
  if (!z43) = true then (
  some true) else (
  (F_laws_eqIntS z39.2.1 z5.2.1).bind fun z45 =>
  if (!z45) = true then (
  some true) else (
  some (z39.2.2 != z5.2.2))) : Option (Bool)).bind fun x42 =>
  if x42 = true then (
  some false) else (
  (F_laws_heldIntSS z30.2 1).bind fun z48 =>
  if decide (z48 < 0) = true then (
  some false) else (
  (F_laws_heldIntS z31.2 z48).bind fun z50 =>
  if decide (z50 < 0) = true then (
  some false) else (
  if (z50 != z31.1) = true then (
  some false) else (
  some true))))))))))))))
theorem c_laws_FnExactPlainResult : ∀ {a0} {a1} {r}, F_laws_FnExactPlainResult a0 a1 = some r → PCalls Try.prog 3 [(.sh, .agg [.int .i64 a0.Gr.P, .int .i64 a0.Gr.Q, .int .i64 a0.Gr.G, .int .i64 a0.Ct.Kind, .int .i64 a0.Ct.Options, .int .i64 a0.Ct.Least, .int .i64 a0.Ct.Most, .int .i64 a0.Ct.Points, .int .i64 a0.Threshold, .int .i64 a0.Trustees, .int .i64 a0.Mixers, .int .i64 a0.Voters, .int .i64 a0.Seed]), (.sh, .sl false 2 (a1.map row_Casting_z))] (Eo (.bool r) [.junk, .junk]) := by
  intro a0 a1 r hr
  apply pF 141 [] [] [] [.tmp 4] hr cl3 Try.func3
  intro Φ hΦ hF g
  unfold F_laws_FnExactPlainResult at hF
  iterate 2 (try simp [go_sem, g]; refine pw_wk ?_)
  try simp [go_sem, g]
  refine pC hF [.sh, .sh] c_laws_szCastingS (fun z1 hF => ?_)
  iterate 2 (try simp [go_sem, g]; refine pw_wk ?_)
  repeat rw [sq]
  refine pI hF (fun h2 hF => ?_) (fun h2 hF => ?_)
  ·try simp [go_sem, g]
   refine pw_wkK [4] (by simp [go_sem, g]; rfl) ?_
   cases hΦ _ (Rn_some hF)
   try simp [go_sem, g]
  ·try simp [go_sem, g]
   refine pw_wk ?_
   try simp [go_sem, g]
   refine pC hF [.sh] c_laws_toPlan (fun z3 hF => ?_)
   try simp [go_sem, g]
   refine pC hF [.sh] c_laws_toCastingS (fun z4 hF => ?_)
   try simp [go_sem, g]
   refine pC hF [.sh, .sh] c_spec_PlainResult (fun z5 hF => ?_)
   try simp [go_sem, g]
   refine pw_wkK [1, 2, 6, 7, 8] (by simp [go_sem, g]; rfl) ?_
   try simp [go_sem, g]
   refine pC hF [.sh] c_laws_toCastingS (fun z6 hF => ?_)
   try simp [go_sem, g]
   refine pw_wk ?_
   try simp [go_sem, g]
   refine pC hF [.sh] c_laws_toPlan (fun z7 hF => ?_)
   try simp [go_sem, g]
   refine pC hF [.sh, .sh] c_impl_PlainResult (fun z8 hF => ?_)
   try simp [go_sem, g]
   refine pw_wkK [1, 2, 6, 7, 8, 9, 10, 11, 12] (by simp [go_sem, g]; rfl) ?_
   repeat rw [sq]
   refine pJ hF (fun x11 => [(1, .v (.sl false 2 (a1.map row_Casting_z))), (2, .bl [.int .i64 a0.Gr.P, .int .i64 a0.Gr.Q, .int .i64 a0.Gr.G, .int .i64 a0.Ct.Kind, .int .i64 a0.Ct.Options, .int .i64 a0.Ct.Least, .int .i64 a0.Ct.Most, .int .i64 a0.Ct.Points, .int .i64 a0.Threshold, .int .i64 a0.Trustees, .int .i64 a0.Mixers, .int .i64 a0.Voters, .int .i64 a0.Seed]), (6, .v (.sl true 1 (z5.1.map row_oi64))), (7, .v (.sl true 1 (z5.2.1.map row_i64))), (8, .v (.bool z5.2.2)), (9, .v (.sl true 2 (z6.map row_Casting_o))), (10, .v (.sl true 1 (z8.1.map row_oi64))), (11, .v (.sl true 1 (z8.2.1.map row_i64))), (12, .v (.bool z8.2.2)), (57, .v (.bool x11))]) (fun x11 hF => ?_) fun _ hj9 hF => ?_
   ·repeat rw [sq]
    refine pI hF (fun h16 hF => ?_) (fun h16 hF => ?_)
    ·cases hΦ _ (Rn_some hF)
     try simp [go_sem, g]
     refine pw_wk ?_
     try simp [go_sem, g]
    ·try simp [go_sem, g]
     refine pw_wk ?_
     try simp [go_sem, g]
     refine pC hF [.sh] c_laws_toCastingS (fun z17 hF => ?_)
     try simp [go_sem, g]
     refine pC hF [.sh, .sh] c_laws_eqCastingS (fun z18 hF => ?_)
     try simp [go_sem, g]
     refine pw_wk ?_
     repeat rw [sq]
     refine pI hF (fun h19 hF => ?_) (fun h19 hF => ?_)
     ·cases hΦ _ (Rn_some hF)
      try simp [go_sem, g]
      refine pw_wk ?_
      try simp [go_sem, g]
     ·iterate 2 (try simp [go_sem, g]; refine pw_wk ?_)
      try simp [go_sem, g]
      refine pC hF [.io, .sh] c_laws_markCastingS__io0 (fun z20 hF => ?_)
      try simp [go_sem, g]
      refine pw_wkK [1, 2, 6, 7, 8, 10, 11, 12, 13] (by simp [go_sem, g]; rfl) ?_
      repeat rw [sq]
      refine pJ hF (fun x23 => [(1, .v (.sl false 2 (a1.map row_Casting_z))), (2, .bl [.int .i64 a0.Gr.P, .int .i64 a0.Gr.Q, .int .i64 a0.Gr.G, .int .i64 a0.Ct.Kind, .int .i64 a0.Ct.Options, .int .i64 a0.Ct.Least, .int .i64 a0.Ct.Most, .int .i64 a0.Ct.Points, .int .i64 a0.Threshold, .int .i64 a0.Trustees, .int .i64 a0.Mixers, .int .i64 a0.Voters, .int .i64 a0.Seed]), (6, .v (.sl true 1 (z5.1.map row_oi64))), (7, .v (.sl true 1 (z5.2.1.map row_i64))), (8, .v (.bool z5.2.2)), (10, .v (.sl true 1 (z8.1.map row_oi64))), (11, .v (.sl true 1 (z8.2.1.map row_i64))), (84, .v (.bool x23))]) (fun x23 hF => ?_) fun _ hj21 hF => ?_
      ·repeat rw [sq]
       refine pI hF (fun h29 hF => ?_) (fun h29 hF => ?_)
       ·cases hΦ _ (Rn_some hF)
        try simp [go_sem, g]
        refine pw_wk ?_
        try simp [go_sem, g]
       ·iterate 2 (try simp [go_sem, g]; refine pw_wk ?_)
        try simp [go_sem, g]
        refine pC hF [.io, .sh] c_laws_markIntSS__io0 (fun z30 hF => ?_)
        try simp [go_sem, g]
        refine pw_wk ?_
        try simp [go_sem, g]
        refine pC hF [.io, .sh] c_laws_markIntS__io0 (fun z31 hF => ?_)
        try simp [go_sem, g]
        refine pw_wk ?_
        try simp [go_sem, g]
        refine pw_wkK [1, 2, 6, 7, 8, 10, 11, 14, 15] (by simp [go_sem, g]; rfl) ?_
        try simp [go_sem, g]
        refine pC hF [.sh, .sh] c_laws_heldIntSS (fun z32 hF => ?_)
        iterate 2 (try simp [go_sem, g]; refine pw_wk ?_)
        repeat rw [sq]
        refine pI hF (fun h33 hF => ?_) (fun h33 hF => ?_)
        ·cases hΦ _ (Rn_some hF)
         try simp [go_sem, g]
         refine pw_wk ?_
         try simp [go_sem, g]
        ·try simp [go_sem, g]
         refine pw_wk ?_
         try simp [go_sem, g]
         refine pC hF [.sh, .sh] c_laws_heldIntS (fun z34 hF => ?_)
         try simp [go_sem, g]
         refine pw_wkK [1, 2, 6, 7, 8, 10, 11, 14, 15] (by simp [go_sem, g]; rfl) ?_
         try simp [go_sem, g]
         refine pw_wk ?_
         repeat rw [sq]
         refine pI hF (fun h35 hF => ?_) (fun h35 hF => ?_)
         ·cases hΦ _ (Rn_some hF)
          try simp [go_sem, g]
          refine pw_wk ?_
          try simp [go_sem, g]
         ·iterate 2 (try simp [go_sem, g]; refine pw_wk ?_)
          repeat rw [sq]
          refine pI hF (fun h36 hF => ?_) (fun h36 hF => ?_)
          ·cases hΦ _ (Rn_some hF)
           try simp [go_sem, g]
           refine pw_wk ?_
           try simp [go_sem, g]
          ·try simp [go_sem, g]
           refine pw_wk ?_
           try simp [go_sem, g]
           refine pC hF [.sh] c_laws_toPlan (fun z37 hF => ?_)
           try simp [go_sem, g]
           refine pC hF [.sh] c_laws_toCastingS (fun z38 hF => ?_)
           try simp [go_sem, g]
           refine pC hF [.sh, .sh] c_impl_PlainResult (fun z39 hF => ?_)
           try simp [go_sem, g]
           refine pw_wkK [6, 7, 8, 10, 11, 14, 16, 17, 18] (by simp [go_sem, g]; rfl) ?_
           repeat rw [sq]
           refine pJ hF (fun x42 => [(10, .v (.sl true 1 (z30.2.map row_oi64))), (11, .v (.sl true 1 (z31.2.map row_i64))), (14, .v (.int .i64 z31.1)), (127, .v (.bool x42))]) (fun x42 hF => ?_) fun _ hj40 hF => ?_
           ·repeat rw [sq]
            refine pI hF (fun h47 hF => ?_) (fun h47 hF => ?_)
            ·cases hΦ _ (Rn_some hF)
             try simp [go_sem, g]
             refine pw_wk ?_
             try simp [go_sem, g]
            ·iterate 2 (try simp [go_sem, g]; refine pw_wk ?_)
             try simp [go_sem, g]
             refine pC hF [.sh, .sh] c_laws_heldIntSS (fun z48 hF => ?_)
             iterate 2 (try simp [go_sem, g]; refine pw_wk ?_)
             repeat rw [sq]
             refine pI hF (fun h49 hF => ?_) (fun h49 hF => ?_)
             ·cases hΦ _ (Rn_some hF)
              try simp [go_sem, g]
              refine pw_wk ?_
              try simp [go_sem, g]
             ·try simp [go_sem, g]
              refine pw_wk ?_
              try simp [go_sem, g]
              refine pC hF [.sh, .sh] c_laws_heldIntS (fun z50 hF => ?_)
              try simp [go_sem, g]
              refine pw_wkK [14, 15] (by simp [go_sem, g]; rfl) ?_
              try simp [go_sem, g]
              refine pw_wk ?_
              repeat rw [sq]
              refine pI hF (fun h51 hF => ?_) (fun h51 hF => ?_)
              ·cases hΦ _ (Rn_some hF)
               try simp [go_sem, g]
               refine pw_wk ?_
               try simp [go_sem, g]
              ·iterate 2 (try simp [go_sem, g]; refine pw_wk ?_)
               repeat rw [sq]
               refine pI hF (fun h52 hF => ?_) (fun h52 hF => ?_)
               ·cases hΦ _ (Rn_some hF)
                try simp [go_sem, g]
                refine pw_wk ?_
                try simp [go_sem, g]
               ·cases hΦ _ (Rn_some hF)
                iterate 2 (try simp [go_sem, g]; refine pw_wk ?_)
                try simp [go_sem, g]
           ·try simp [go_sem, g]
            refine pC hF [.sh, .sh] c_laws_eqIntSS (fun z43 hF => ?_)
            try simp [go_sem, g]
            refine pwg_F hF (fun h44 hF => ?_) fun h44 hF => ?_
            ·try simp [go_sem, g, h44]
             exact pT (hj40 true) (Rn_some hF)
            ·try simp [go_sem, g, h44]
             refine pC hF [.sh, .sh] c_laws_eqIntS (fun z45 hF => ?_)
             try simp [go_sem, g, h44]
             refine pwg_F hF (fun h46 hF => ?_) fun h46 hF => ?_
             ·try simp [go_sem, g, h46]
              exact pT (hj40 true) (Rn_some hF)
             ·try simp [go_sem, g, h46]
              exact pT (hj40 (z39.2.2 != z5.2.2)) (Rn_some hF)
      ·try simp [go_sem, g]
       refine pwg_F hF (fun h24 hF => ?_) fun h24 hF => ?_
       ·try simp [go_sem, g, h24]
        exact pT (hj21 true) (Rn_some hF)
       ·try simp [go_sem, g, h24]
        refine pC hF [.sh, .sh] c_laws_eqIntSS (fun z25 hF => ?_)
        try simp [go_sem, g, h24]
        refine pwg_F hF (fun h26 hF => ?_) fun h26 hF => ?_
        ·try simp [go_sem, g, h26]
         exact pT (hj21 true) (Rn_some hF)
        ·try simp [go_sem, g, h26]
         refine pC hF [.sh, .sh] c_laws_eqIntS (fun z27 hF => ?_)
         try simp [go_sem, g, h26]
         refine pwg_F hF (fun h28 hF => ?_) fun h28 hF => ?_
         ·try simp [go_sem, g, h28]
          exact pT (hj21 true) (Rn_some hF)
         ·try simp [go_sem, g, h28]
          exact pT (hj21 (z8.2.2 != z5.2.2)) (Rn_some hF)
   ·try simp [go_sem, g]
    refine pC hF [.sh, .sh] c_laws_eqIntSS (fun z12 hF => ?_)
    try simp [go_sem, g]
    refine pwg_F hF (fun h13 hF => ?_) fun h13 hF => ?_
    ·try simp [go_sem, g, h13]
     exact pT (hj9 true) (Rn_some hF)
    ·try simp [go_sem, g, h13]
     refine pC hF [.sh, .sh] c_laws_eqIntS (fun z14 hF => ?_)
     try simp [go_sem, g, h13]
     refine pwg_F hF (fun h15 hF => ?_) fun h15 hF => ?_
     ·try simp [go_sem, g, h15]
      exact pT (hj9 true) (Rn_some hF)
     ·try simp [go_sem, g, h15]
      exact pT (hj9 (z8.2.2 != z5.2.2)) (Rn_some hF)
end Go.Pm
