/-
  Plain functions and their walks. Written by wip/tools/lift.py.
-/
import Derived.Test.YtpbhnggmbnfemaaM15
namespace Go.Pm
open Go.Am
open Go.Proofs
set_option maxRecDepth 100000
attribute [local irreducible] pw pwx pw1 pwg qv qz qf
attribute [-simp] List.map_set
set_option linter.unusedSimpArgs false
set_option linter.unusedVariables false
theorem c_spec_l1Has {a0 : (List Int)} {a1 : Int} {r : Bool} (hr : F_spec_l1Has a0 a1 = some r) : PCalls Try.prog 152 [(.sh, .sl false 1 (a0.map row_i64)), (.sh, .int .i64 a1)] (Eo (.bool r) [.junk, .junk]) := by
  apply pcalls_lf 17 [] [] [] [.tmp 4] hr cl152 Try.func152 rfl rfl rfl
  · exact ⟨by simp, rfl⟩
  intro Φ hΦ hF
  unfold F_spec_l1Has at hF
  iterate 2 (try simp [go_sem]; try intros; refine pw_wk ?_)
  repeat rw [sq]
  refine pw_joinS (fun (x5 : Unit) => []) hF ?_ ?_
  ·intro x5 hF6
   cases hΦ _ (Rn_some hF6)
   try simp [go_sem]
   refine pw_wk ?_
   try simp [go_sem]
  ·intro ψ3 hj1 hr2 hF4
   repeat rw [sq]
   rw [pw_block]
   obtain ⟨b22, hb23, hψ11⟩ := hF4
   refine pw_rloop (fun (i8 : Int) (s7 : Unit) => [(1, .v (.int .i64 a1)), (7, .v (.sl false 1 (a0.map row_i64))), (8, .v (.int .i64 (a0.length : Int))), (9, .v (.int .i64 i8))]) hb23 (by simp [go_sem]) ?_ ?_
   ·intro s7 N25 hN24
    subst hN24
    try simp [go_sem]
    refine pw_wk ?_
    repeat rw [sq]
    refine pw_cond_f (by simp [go_sem]) ?_
    try simp [go_sem]
    exact hj1 () _ (by simp [go_sem]) hψ11
   ·intro i8 s7 φ12 N13 hi15 hi16 ho9 hg10 hF14
    rw [Int.zero_add] at hi16
    try simp [go_sem]
    refine pw_wk ?_
    repeat rw [sq]
    refine pw_cond_t (by simp [go_sem, hi15, hi16]) ?_
    try simp [go_sem]
    refine pw_wk ?_
    repeat rw [sq]
    rw [pw_block]
    obtain ⟨x17, g18, hF19⟩ := Rn_ix hF14
    try simp [go_sem, g18]
    refine pw_wk ?_
    try simp [go_sem, g18]
    refine pw_wkK [1, 7, 8, 9, 15] (by simp [go_sem, g18]; rfl) ?_
    repeat rw [sq]
    refine pw_cF hF19 (by simp [go_sem, g18]) (fun h20 hF21 => ?_) fun h20 hF21 => ?_
    ·cases ho9 _ (Rn_some hF21)
     cases hΦ _ (hr2 _ hψ11)
     try simp [go_sem, g18]
     refine pw_wk ?_
     try simp [go_sem, g18]
    ·try simp [go_sem, g18]
     refine pw_wk ?_
     try simp [go_sem, g18]
     exact hg10 () _ (by simp [go_sem, g18, wr_i hi15 hi16 (by assumption)]) (Rn_some hF21)
noncomputable def F_spec_yPoints (a0 : (List Int)) : Option (Bool) :=
  ((rloop (σ := Unit) (β := Unit ⊕ Bool) (fun i8 s7 =>
  (ix a0 i8).bind fun x17 =>
  gd (0 ≤ i8) <|
  gd (0 ≤ i8.toNat ∧ i8.toNat ≤ a0.length) <|
  (F_spec_l1Has ((a0.take i8.toNat).drop 0) x17).bind fun z26 =>
  if z26 = true then (
  some (.out (.inr false))) else (
  some (.go ()))) (fun s7 => .inl ()) (a0.length) 0 () : Option (Unit ⊕ Bool)).bind (Sum.elim (fun (x5 : Unit) =>
  some true) some))
theorem c_spec_yPoints {a0 : (List Int)} {r : Bool} (hr : F_spec_yPoints a0 = some r) : PCalls Try.prog 129 [(.sh, .sl false 1 (a0.map row_i64))] (Eo (.bool r) [.junk]) := by
  apply pcalls_lf 18 [] [] [] [.tmp 2] hr cl129 Try.func129 rfl rfl rfl
  · exact ⟨by simp, rfl⟩
  intro Φ hΦ hF
  unfold F_spec_yPoints at hF
  iterate 2 (try simp [go_sem]; try intros; refine pw_wk ?_)
  repeat rw [sq]
  refine pw_joinS (fun (x5 : Unit) => []) hF ?_ ?_
  ·intro x5 hF6
   cases hΦ _ (Rn_some hF6)
   try simp [go_sem]
   refine pw_wk ?_
   try simp [go_sem]
  ·intro ψ3 hj1 hr2 hF4
   repeat rw [sq]
   rw [pw_block]
   obtain ⟨b30, hb31, hψ11⟩ := hF4
   refine pw_rloop (fun (i8 : Int) (s7 : Unit) => [(0, .v (.sl false 1 (a0.map row_i64))), (5, .v (.sl false 1 (a0.map row_i64))), (6, .v (.int .i64 (a0.length : Int))), (7, .v (.int .i64 i8))]) hb31 (by simp [go_sem]) ?_ ?_
   ·intro s7 N33 hN32
    subst hN32
    try simp [go_sem]
    refine pw_wk ?_
    repeat rw [sq]
    refine pw_cond_f (by simp [go_sem]) ?_
    try simp [go_sem]
    exact hj1 () _ (by simp [go_sem]) hψ11
   ·intro i8 s7 φ12 N13 hi15 hi16 ho9 hg10 hF14
    rw [Int.zero_add] at hi16
    try simp [go_sem]
    refine pw_wk ?_
    repeat rw [sq]
    refine pw_cond_t (by simp [go_sem, hi15, hi16]) ?_
    try simp [go_sem]
    refine pw_wk ?_
    repeat rw [sq]
    rw [pw_block]
    obtain ⟨x17, g18, hF19⟩ := Rn_ix hF14
    try simp [go_sem, g18]
    refine pw_wkK [0, 3, 4, 5, 6, 7] (by simp [go_sem, g18]; rfl) ?_
    obtain ⟨g20, hF21⟩ := Rn_gd hF19
    have g22 := g20
    try simp at g22
    obtain ⟨g23, hF24⟩ := Rn_gd hF21
    have g25 := g23
    try simp at g25
    try simp [go_sem, g18, g20, g22, g23, g25]
    refine pw_cl hF24 [.sh, .sh] c_spec_l1Has rfl rfl (by (try simp [go_sem, clE, g18, g20, g22, g23, g25]); first | rfl | done) (by rfl) (by (try simp [go_sem, g18, g20, g22, g23, g25]); first | rfl | done) fun z26 hF27 => ⟨by simp [go_sem], ?_⟩
    try simp [go_sem, g18, g20, g22, g23, g25]
    refine pw_wk ?_
    repeat rw [sq]
    refine pw_cF hF27 (by simp [go_sem, g18, g20, g22, g23, g25]) (fun h28 hF29 => ?_) fun h28 hF29 => ?_
    ·cases ho9 _ (Rn_some hF29)
     cases hΦ _ (hr2 _ hψ11)
     try simp [go_sem, g18, g20, g22, g23, g25]
     refine pw_wk ?_
     try simp [go_sem, g18, g20, g22, g23, g25]
    ·try simp [go_sem, g18, g20, g22, g23, g25]
     refine pw_wk ?_
     try simp [go_sem, g18, g20, g22, g23, g25]
     exact hg10 () _ (by simp [go_sem, g18, g20, g22, g23, g25, wr_i hi15 hi16 (by assumption)]) (Rn_some hF29)
noncomputable def F_spec_wTrustees (a0 : (List Int)) : Option (Bool) :=
  (((F_spec_l1All a0 1 7).bind fun z7 =>
  if z7 = true then (
  (F_spec_yPoints a0).bind fun z11 =>
  some z11) else (
  some false) : Option (Bool)).bind fun (x5 : Bool) =>
  some x5)
theorem c_spec_wTrustees {a0 : (List Int)} {r : Bool} (hr : F_spec_wTrustees a0 = some r) : PCalls Try.prog 81 [(.sh, .sl false 1 (a0.map row_i64))] (Eo (.bool r) [.junk]) := by
  apply pcalls_lf 9 [] [] [] [.tmp 2] hr cl81 Try.func81 rfl rfl rfl
  · exact ⟨by simp, rfl⟩
  intro Φ hΦ hF
  unfold F_spec_wTrustees at hF
  try simp [go_sem]
  refine pw_wk ?_
  repeat rw [sq]
  refine pw_joinF (fun (x5 : Bool) => [(2, .v (.bool x5))]) hF ?_ ?_
  ·intro x5 hF6
   cases hΦ _ (Rn_some hF6)
   try simp [go_sem]
  ·intro ψ3 hj1 hF4
   try simp [go_sem]
   refine pw_cl hF4 [.sh, .sh, .sh] c_spec_l1All rfl rfl (by (try simp [go_sem, clE]); first | rfl | done) (by rfl) (by (try simp [go_sem]); first | rfl | done) fun z7 hF8 => ⟨by simp [go_sem], ?_⟩
   try simp [go_sem]
   refine pwg_F hF8 (fun h9 hF10 => ?_) fun h9 hF10 => ?_
   ·try simp [go_sem, h9]
    refine pw_cl hF10 [.sh] c_spec_yPoints rfl rfl (by (try simp [go_sem, clE]); first | rfl | done) (by rfl) (by (try simp [go_sem]); first | rfl | done) fun z11 hF12 => ⟨by simp [go_sem], ?_⟩
    try simp [go_sem, h9]
    exact hj1 z11 _ (by simp [go_sem]) (Rn_some hF12)
   ·try simp [go_sem, h9]
    exact hj1 false _ (by simp [go_sem]) (Rn_some hF10)
noncomputable def F_spec_yAll (a0 : Int) (a1 : (List Int)) (a2 : (List Int)) : Option ((List Int)) :=
  ((rloop (σ := (List Int)) (β := (List Int)) (fun i8 s7 =>
  (ix a2 i8).bind fun x17 =>
  (F_spec_yEval a0 a1 x17).bind fun z20 =>
  gd ((s7.length + 1) * 8 ≤ 140737488355328 ∧ s7.length + 1 ≤ 4611686018427387904) <|
  some (.go (s7 ++ [z20]))) (fun s7 => s7) (a2.length) 0 [] : Option ((List Int))).bind fun (x5 : (List Int)) =>
  some x5)
theorem c_spec_yAll {a0 : Int} {a1 : (List Int)} {a2 : (List Int)} {r : (List Int)} (hr : F_spec_yAll a0 a1 a2 = some r) : PCalls Try.prog 83 [(.sh, .int .i64 a0), (.sh, .sl false 1 (a1.map row_i64)), (.sh, .sl false 1 (a2.map row_i64))] (Eo (.sl true 1 (r.map row_i64)) [.junk, .junk, .junk]) := by
  apply pcalls_lf 25 [] [] [] [.tmp 6] hr cl83 Try.func83 rfl rfl rfl
  · exact ⟨by simp, rfl⟩
  intro Φ hΦ hF
  unfold F_spec_yAll at hF
  iterate 3 (try simp [go_sem]; try intros; refine pw_wk ?_)
  repeat rw [sq]
  refine pw_joinF (fun (x5 : (List Int)) => [(7, .v (.sl true 1 (x5.map row_i64)))]) hF ?_ ?_
  ·intro x5 hF6
   cases hΦ _ (Rn_some hF6)
   try simp [go_sem]
   refine pw_wk ?_
   try simp [go_sem]
  ·intro ψ3 hj1 hF4
   repeat rw [sq]
   rw [pw_block]
   obtain ⟨b25, hb26, hψ11⟩ := hF4
   refine pw_rloop (fun (i8 : Int) (s7 : (List Int)) => [(0, .v (.int .i64 a0)), (1, .v (.sl false 1 (a1.map row_i64))), (7, .v (.sl true 1 (s7.map row_i64))), (10, .v (.sl false 1 (a2.map row_i64))), (11, .v (.int .i64 (a2.length : Int))), (12, .v (.int .i64 i8))]) hb26 (by simp [go_sem]) ?_ ?_
   ·intro s7 N28 hN27
    subst hN27
    try simp [go_sem]
    refine pw_wk ?_
    repeat rw [sq]
    refine pw_cond_f (by simp [go_sem]) ?_
    try simp [go_sem]
    exact hj1 s7 _ (by simp [go_sem]) hψ11
   ·intro i8 s7 φ12 N13 hi15 hi16 ho9 hg10 hF14
    rw [Int.zero_add] at hi16
    try simp [go_sem]
    refine pw_wk ?_
    repeat rw [sq]
    refine pw_cond_t (by simp [go_sem, hi15, hi16]) ?_
    try simp [go_sem]
    refine pw_wk ?_
    repeat rw [sq]
    rw [pw_block]
    obtain ⟨x17, g18, hF19⟩ := Rn_ix hF14
    try simp [go_sem, g18]
    refine pw_wk ?_
    try simp [go_sem, g18]
    refine pw_cl hF19 [.sh, .sh, .sh] c_spec_yEval rfl rfl (by (try simp [go_sem, clE, g18]); first | rfl | done) (by rfl) (by (try simp [go_sem, g18]); first | rfl | done) fun z20 hF21 => ⟨by simp [go_sem], ?_⟩
    obtain ⟨g22, hF23⟩ := Rn_gd hF21
    have g24 := g22
    try simp at g24
    try simp [go_sem, g18, g22, g24]
    refine pw_wkK [0, 1, 7, 10, 11, 12] (by simp [go_sem, g18, g22, g24]; rfl) ?_
    try simp [go_sem, g18, g22, g24]
    exact hg10 (s7 ++ [z20]) _ (by simp [go_sem, g18, g22, g24, wr_i hi15 hi16 (by assumption)]) (Rn_some hF23)
noncomputable def F_spec_wLess (a0 : (List Int)) (a1 : (List Int)) : Option (Bool) :=
  ((rloop (σ := Unit) (β := Unit ⊕ Bool) (fun i8 s7 =>
  if (i8 == (a1.length : Int)) = true then (
  some (.out (.inr false))) else (
  (ix a0 i8).bind fun x19 =>
  (ix a1 i8).bind fun x22 =>
  if (x19 != x22) = true then (
  some (.out (.inr (decide (x19 < x22))))) else (
  some (.go ())))) (fun s7 => .inl ()) (a0.length) 0 () : Option (Unit ⊕ Bool)).bind (Sum.elim (fun (x5 : Unit) =>
  some (decide ((a0.length : Int) < (a1.length : Int)))) some))
theorem c_spec_wLess {a0 : (List Int)} {a1 : (List Int)} {r : Bool} (hr : F_spec_wLess a0 a1 = some r) : PCalls Try.prog 112 [(.sh, .sl false 1 (a0.map row_i64)), (.sh, .sl false 1 (a1.map row_i64))] (Eo (.bool r) [.junk, .junk]) := by
  apply pcalls_lf 39 [] [] [] [.tmp 4] hr cl112 Try.func112 rfl rfl rfl
  · exact ⟨by simp, rfl⟩
  intro Φ hΦ hF
  unfold F_spec_wLess at hF
  iterate 2 (try simp [go_sem]; try intros; refine pw_wk ?_)
  repeat rw [sq]
  refine pw_joinS (fun (x5 : Unit) => [(0, .v (.sl false 1 (a0.map row_i64))), (1, .v (.sl false 1 (a1.map row_i64)))]) hF ?_ ?_
  ·intro x5 hF6
   try simp [go_sem]
   try intros
   refine pw_wkK [4] (by simp [go_sem]; rfl) ?_
   cases hΦ _ (Rn_some hF6)
   try simp [go_sem]
  ·intro ψ3 hj1 hr2 hF4
   repeat rw [sq]
   rw [pw_block]
   obtain ⟨b27, hb28, hψ11⟩ := hF4
   refine pw_rloop (fun (i8 : Int) (s7 : Unit) => [(0, .v (.sl false 1 (a0.map row_i64))), (1, .v (.sl false 1 (a1.map row_i64))), (7, .v (.int .i64 (a0.length : Int))), (8, .v (.int .i64 i8))]) hb28 (by simp [go_sem]) ?_ ?_
   ·intro s7 N30 hN29
    subst hN29
    try simp [go_sem]
    refine pw_wk ?_
    repeat rw [sq]
    refine pw_cond_f (by simp [go_sem]) ?_
    try simp [go_sem]
    exact hj1 () _ (by simp [go_sem]) hψ11
   ·intro i8 s7 φ12 N13 hi15 hi16 ho9 hg10 hF14
    rw [Int.zero_add] at hi16
    try simp [go_sem]
    refine pw_wk ?_
    repeat rw [sq]
    refine pw_cond_t (by simp [go_sem, hi15, hi16]) ?_
    try simp [go_sem]
    refine pw_wk ?_
    repeat rw [sq]
    rw [pw_block]
    try simp [go_sem]
    try intros
    refine pw_wk ?_
    try simp [go_sem]
    try intros
    refine pw_wkK [0, 1, 5, 7, 8, 14] (by simp [go_sem]; rfl) ?_
    repeat rw [sq]
    refine pw_cF hF14 (by simp [go_sem]) (fun h17 hF18 => ?_) fun h17 hF18 => ?_
    ·cases ho9 _ (Rn_some hF18)
     cases hΦ _ (hr2 _ hψ11)
     try simp [go_sem]
     refine pw_wk ?_
     try simp [go_sem]
    ·try simp [go_sem]
     refine pw_wk ?_
     repeat rw [sq]
     refine pw_draw D112_6 follows (by kernel_rfl) rfl ?_
     try simp only [go_sem, D112_6]
     obtain ⟨x19, g20, hF21⟩ := Rn_ix hF18
     obtain ⟨x22, g23, hF24⟩ := Rn_ix hF21
     try simp [go_sem, g20, g23]
     refine pw_wk ?_
     repeat rw [sq]
     refine pw_cF hF24 (by simp [go_sem, g20, g23]) (fun h25 hF26 => ?_) fun h25 hF26 => ?_
     ·repeat rw [sq]
      refine pw_draw D112_7 follows (by kernel_rfl) rfl ?_
      try simp only [go_sem, D112_7]
      try simp [go_sem, g20, g23]
      refine pw_wkK [4] (by simp [go_sem, g20, g23]; rfl) ?_
      cases ho9 _ (Rn_some hF26)
      cases hΦ _ (hr2 _ hψ11)
      try simp [go_sem, g20, g23]
     ·try simp [go_sem, g20, g23]
      refine pw_wk ?_
      try simp [go_sem, g20, g23]
      exact hg10 () _ (by simp [go_sem, g20, g23, wr_i hi15 hi16 (by assumption)]) (Rn_some hF26)
noncomputable def F_spec_l1Same (a0 : (List Int)) (a1 : (List Int)) : Option (Bool) :=
  if ((a0.length : Int) != (a1.length : Int)) = true then (
  some false) else (
  ((rloop (σ := Unit) (β := Unit ⊕ Bool) (fun i10 s9 =>
  (ix a0 i10).bind fun x19 =>
  (ix a1 i10).bind fun x22 =>
  if (x19 != x22) = true then (
  some (.out (.inr false))) else (
  some (.go ()))) (fun s9 => .inl ()) (a0.length) 0 () : Option (Unit ⊕ Bool)).bind (Sum.elim (fun (x7 : Unit) =>
  some true) some)))
theorem c_spec_l1Same {a0 : (List Int)} {a1 : (List Int)} {r : Bool} (hr : F_spec_l1Same a0 a1 = some r) : PCalls Try.prog 113 [(.sh, .sl false 1 (a0.map row_i64)), (.sh, .sl false 1 (a1.map row_i64))] (Eo (.bool r) [.junk, .junk]) := by
  apply pcalls_lf 26 [] [] [] [.tmp 4] hr cl113 Try.func113 rfl rfl rfl
  · exact ⟨by simp, rfl⟩
  intro Φ hΦ hF
  unfold F_spec_l1Same at hF
  iterate 2 (try simp [go_sem]; try intros; refine pw_wk ?_)
  repeat rw [sq]
  refine pw_cF hF (by simp [go_sem]) (fun h1 hF2 => ?_) fun h1 hF2 => ?_
  ·cases hΦ _ (Rn_some hF2)
   try simp [go_sem]
   refine pw_wk ?_
   try simp [go_sem]
  ·iterate 2 (try simp [go_sem]; try intros; refine pw_wk ?_)
   repeat rw [sq]
   refine pw_joinS (fun (x7 : Unit) => []) hF2 ?_ ?_
   ·intro x7 hF8
    try simp [go_sem]
    refine pw_wkK [4] (by simp [go_sem]; rfl) ?_
    cases hΦ _ (Rn_some hF8)
    try simp [go_sem]
   ·intro ψ5 hj3 hr4 hF6
    repeat rw [sq]
    rw [pw_block]
    obtain ⟨b27, hb28, hψ13⟩ := hF6
    refine pw_rloop (fun (i10 : Int) (s9 : Unit) => [(0, .v (.sl false 1 (a0.map row_i64))), (1, .v (.sl false 1 (a1.map row_i64))), (12, .v (.int .i64 (a0.length : Int))), (13, .v (.int .i64 i10))]) hb28 (by simp [go_sem]) ?_ ?_
    ·intro s9 N30 hN29
     subst hN29
     try simp [go_sem]
     refine pw_wk ?_
     repeat rw [sq]
     refine pw_cond_f (by simp [go_sem]) ?_
     try simp [go_sem]
     exact hj3 () _ (by simp [go_sem]) hψ13
    ·intro i10 s9 φ14 N15 hi17 hi18 ho11 hg12 hF16
     rw [Int.zero_add] at hi18
     try simp [go_sem]
     refine pw_wkK [0, 1, 12, 13, 14] (by simp [go_sem]; rfl) ?_
     repeat rw [sq]
     refine pw_cond_t (by simp [go_sem, hi17, hi18]) ?_
     try simp [go_sem]
     refine pw_wk ?_
     repeat rw [sq]
     rw [pw_block]
     try simp [go_sem]
     refine pw_wk ?_
     repeat rw [sq]
     refine pw_draw D113_6 follows (by kernel_rfl) rfl ?_
     try simp only [go_sem, D113_6]
     obtain ⟨x19, g20, hF21⟩ := Rn_ix hF16
     obtain ⟨x22, g23, hF24⟩ := Rn_ix hF21
     try simp [go_sem, g20, g23]
     refine pw_wkK [0, 1, 12, 13, 24] (by simp [go_sem, g20, g23]; rfl) ?_
     repeat rw [sq]
     refine pw_cF hF24 (by simp [go_sem, g20, g23]) (fun h25 hF26 => ?_) fun h25 hF26 => ?_
     ·cases ho11 _ (Rn_some hF26)
      cases hΦ _ (hr4 _ hψ13)
      try simp [go_sem, g20, g23]
      refine pw_wk ?_
      try simp [go_sem, g20, g23]
     ·try simp [go_sem, g20, g23]
      refine pw_wk ?_
      try simp [go_sem, g20, g23]
      exact hg12 () _ (by simp [go_sem, g20, g23, wr_i hi17 hi18 (by assumption)]) (Rn_some hF26)
noncomputable def F_spec_l1Own (a0 : (List Int)) : Option ((List Int)) :=
  gd (a0.length * 8 ≤ 140737488355328 ∧ a0.length ≤ 4611686018427387904) <|
  some a0
theorem c_spec_l1Own {a0 : (List Int)} {r : (List Int)} (hr : F_spec_l1Own a0 = some r) : PCalls Try.prog 114 [(.sh, .sl false 1 (a0.map row_i64))] (Eo (.sl true 1 (r.map row_i64)) [.junk]) := by
  apply pcalls_lf 6 [] [] [] [.tmp 2] hr cl114 Try.func114 rfl rfl rfl
  · exact ⟨by simp, rfl⟩
  intro Φ hΦ hF
  unfold F_spec_l1Own at hF
  obtain ⟨g1, hF2⟩ := Rn_gd hF
  have g3 := g1
  try simp at g3
  cases hΦ _ (Rn_some hF2)
  iterate 2 (try simp [go_sem, g1, g3]; refine pw_wk ?_)
  try simp [go_sem, g1, g3]
noncomputable def F_spec_wAdd__mv0 (a0 : (List ViewCount)) (a1 : (List Int)) (a2 : Int) : Option ((List ViewCount)) :=
  ((wloop (σ := Int × Int) (β := Int) (fun s7 =>
  if decide (s7.1 < s7.2) = true then (
  (ix a0 (IntKind.i64.wrap ((IntKind.i64.wrap (s7.1 + s7.2)).tdiv 2))).bind fun x18 =>
  (F_spec_wLess x18.View a1).bind fun z21 =>
  if z21 = true then (
  some (.go (IntKind.i64.wrap ((IntKind.i64.wrap ((IntKind.i64.wrap (s7.1 + s7.2)).tdiv 2)) + 1), s7.2))) else (
  some (.go (s7.1, IntKind.i64.wrap ((IntKind.i64.wrap (s7.1 + s7.2)).tdiv 2))))) else (
  some (.out s7.1))) (0, (a0.length : Int)) : Option (Int)).bind fun (x5 : Int) =>
  ((if decide (x5 < (a0.length : Int)) = true then (
  (ix a0 x5).bind fun x35 =>
  (F_spec_l1Same x35.View a1).bind fun z38 =>
  some z38) else (
  some false) : Option (Bool)).bind fun (x31 : Bool) =>
  if x31 = true then (
  (ix a0 x5).bind fun x42 =>
  some (a0.set x5.toNat (ViewCount.mk x42.View (IntKind.i64.wrap (x42.Times + a2))))) else (
  gd ((a0.length + 1) * 32 ≤ 140737488355328 ∧ a0.length + 1 ≤ 4611686018427387904) <|
  ((wloop (σ := (List ViewCount) × Int) (β := (List ViewCount)) (fun s70 =>
  if decide (x5 < s70.2) = true then (
  (ix s70.1 (IntKind.i64.wrap (s70.2 - 1))).bind fun x80 =>
  (ix s70.1 s70.2).bind fun x83 =>
  some (.go (s70.1.set s70.2.toNat x80, IntKind.i64.wrap (s70.2 - 1)))) else (
  some (.out s70.1))) (a0 ++ [(ViewCount.mk [] 0)], IntKind.i64.wrap (((a0 ++ [(ViewCount.mk [] 0)]).length : Int) - 1)) : Option ((List ViewCount))).bind fun (x52 : (List ViewCount)) =>
  (F_spec_l1Own a1).bind fun z88 =>
  (ix x52 x5).bind fun x90 =>
  some (x52.set x5.toNat (ViewCount.mk z88 a2))))))
theorem c_spec_wAdd__mv0 {a0 : (List ViewCount)} {a1 : (List Int)} {a2 : Int} {r : (List ViewCount)} (hr : F_spec_wAdd__mv0 a0 a1 a2 = some r) : PCalls Try.prog 51 [(.mv, .sl true 2 (a0.map row_ViewCount_z)), (.sh, .sl false 1 (a1.map row_i64)), (.sh, .int .i64 a2)] (Eo (.sl true 2 (r.map row_ViewCount_z)) [.junk, .junk, .junk]) := by
  apply pcalls_lf 88 [] [61, 85] [] [.tmp 6] hr cl51 Try.func51 rfl rfl rfl
  · exact ⟨by simp, rfl⟩
  intro Φ hΦ hF
  unfold F_spec_wAdd__mv0 at hF
  iterate 2 (try simp [go_sem]; try intros; refine pw_wk ?_)
  repeat rw [sq]
  refine pw_joinF (fun (x5 : Int) => [(0, .v (.sl true 2 (a0.map row_ViewCount_z))), (1, .v (.sl false 1 (a1.map row_i64))), (2, .v (.int .i64 a2)), (7, .v (.int .i64 x5))]) hF ?_ ?_
  ·intro x5 hF6
   repeat rw [sq]
   refine pw_joinF (fun (x31 : Bool) => [(0, .v (.sl true 2 (a0.map row_ViewCount_z))), (1, .v (.sl false 1 (a1.map row_i64))), (2, .v (.int .i64 a2)), (7, .v (.int .i64 x5)), (42, .v (.bool x31))]) hF6 ?_ ?_
   ·intro x31 hF32
    repeat rw [sq]
    refine pw_cF hF32 (by simp [go_sem]) (fun h40 hF41 => ?_) fun h40 hF41 => ?_
    ·repeat rw [sq]
     refine pw_draw D51_8 follows (by kernel_rfl) rfl ?_
     try simp only [go_sem, D51_8]
     obtain ⟨x42, g43, hF44⟩ := Rn_ix hF41
     try simp [go_sem, g43]
     refine pw_wkK [0] (by simp [go_sem, g43]; rfl) ?_
     cases hΦ _ (Rn_some hF44)
     try simp [go_sem, g43]
     refine pw_wk ?_
     try simp [go_sem, g43]
    ·obtain ⟨g45, hF46⟩ := Rn_gd hF41
     have g47 := g45
     try simp at g47
     try simp [go_sem, g45, g47]
     refine pw_wk ?_
     try simp [go_sem, g45, g47]
     refine pw_wkK [0, 1, 2, 7] (by simp [go_sem, g45, g47]; rfl) ?_
     try simp [go_sem, g45, g47]
     try intros
     refine pw_wk ?_
     repeat rw [sq]
     refine pw_joinF (fun (x52 : (List ViewCount)) => [(0, .v (.sl true 2 (x52.map row_ViewCount_z))), (1, .v (.sl false 1 (a1.map row_i64))), (2, .v (.int .i64 a2)), (7, .v (.int .i64 x5))]) hF46 ?_ ?_
     ·intro x52 hF53
      try simp [go_sem, g45, g47]
      refine pw_cl hF53 [.sh] c_spec_l1Own rfl rfl (by (try simp [go_sem, clE, g45, g47]); first | rfl | done) (by rfl) (by (try simp [go_sem, g45, g47]); first | rfl | done) fun z88 hF89 => ⟨by simp [go_sem], ?_⟩
      obtain ⟨x90, g91, hF92⟩ := Rn_ix hF89
      try simp [go_sem, g45, g47, g91]
      refine pw_wkK [0] (by simp [go_sem, g45, g47, g91]; rfl) ?_
      cases hΦ _ (Rn_some hF92)
      try simp [go_sem, g45, g47, g91]
      refine pw_wk ?_
      try simp [go_sem, g45, g47, g91]
     ·intro ψ50 hj48 hF51
      repeat rw [sq]
      rw [pw_block]
      obtain ⟨b86, hb87, hψ74⟩ := hF51
      refine pw_wloop (fun (s70 : (List ViewCount) × Int) => [(0, .v (.sl true 2 (s70.1.map row_ViewCount_z))), (1, .v (.sl false 1 (a1.map row_i64))), (2, .v (.int .i64 a2)), (7, .v (.int .i64 x5)), (10, .v (.int .i64 s70.2))]) hb87 (by simp [go_sem, g45, g47]) ?_
      intro s70 φ75 N76 ho72 hg73 hF77
      try simp [go_sem, g45, g47]
      refine pw_wk ?_
      repeat rw [sq]
      refine pw_cF hF77 (by simp [go_sem, g45, g47]) (fun h78 hF79 => ?_) fun h78 hF79 => ?_
      ·try simp [go_sem, g45, g47]
       refine pw_wk ?_
       repeat rw [sq]
       rw [pw_block]
       obtain ⟨x80, g81, hF82⟩ := Rn_ix hF79
       obtain ⟨x83, g84, hF85⟩ := Rn_ix hF82
       try simp [go_sem, g45, g47, g81, g84]
       refine pw_wkK [0, 1, 2, 7, 10] (by simp [go_sem, g45, g47, g81, g84]; rfl) ?_
       try simp [go_sem, g45, g47, g81, g84]
       exact hg73 (s70.1.set s70.2.toNat x80, IntKind.i64.wrap (s70.2 - 1)) _ (by simp [go_sem, g45, g47, g81, g84]) (Rn_some hF85)
      ·try simp [go_sem, g45, g47]
       cases ho72 _ (Rn_some hF79)
       exact hj48 s70.1 _ (by simp [go_sem, g45, g47]) hψ74
   ·intro ψ29 hj27 hF30
    try simp [go_sem]
    try intros
    refine pwg_F hF30 (fun h33 hF34 => ?_) fun h33 hF34 => ?_
    ·obtain ⟨x35, g36, hF37⟩ := Rn_ix hF34
     try simp [go_sem, g36, h33]
     refine pw_cl hF37 [.sh, .sh] c_spec_l1Same rfl rfl (by (try simp [go_sem, clE, g36]); first | rfl | done) (by rfl) (by (try simp [go_sem, g36]); first | rfl | done) fun z38 hF39 => ⟨by simp [go_sem], ?_⟩
     try simp [go_sem, g36, h33]
     exact hj27 z38 _ (by simp [go_sem, g36]) (Rn_some hF39)
    ·try simp [go_sem, h33]
     exact hj27 false _ (by simp [go_sem]) (Rn_some hF34)
  ·intro ψ3 hj1 hF4
   repeat rw [sq]
   rw [pw_block]
   obtain ⟨b25, hb26, hψ11⟩ := hF4
   refine pw_wloop (fun (s7 : Int × Int) => [(0, .v (.sl true 2 (a0.map row_ViewCount_z))), (1, .v (.sl false 1 (a1.map row_i64))), (2, .v (.int .i64 a2)), (7, .v (.int .i64 s7.1)), (8, .v (.int .i64 s7.2))]) hb26 (by simp [go_sem]) ?_
   intro s7 φ12 N13 ho9 hg10 hF14
   try simp [go_sem]
   refine pw_wk ?_
   repeat rw [sq]
   refine pw_cF hF14 (by simp [go_sem]) (fun h15 hF16 => ?_) fun h15 hF16 => ?_
   ·try simp [go_sem]
    refine pw_wk ?_
    repeat rw [sq]
    rw [pw_block]
    have g17 := fun x => divV_ne (b := 2) (x := x) (by decide)
    try simp [go_sem, g17]
    refine pw_wkK [0, 1, 2, 7, 8, 9] (by simp [go_sem, g17]; rfl) ?_
    obtain ⟨x18, g19, hF20⟩ := Rn_ix hF16
    try simp [go_sem, g17, g19]
    refine pw_cl hF20 [.sh, .sh] c_spec_wLess rfl rfl (by (try simp [go_sem, clE, g17, g19]); first | rfl | done) (by rfl) (by (try simp [go_sem, g17, g19]); first | rfl | done) fun z21 hF22 => ⟨by simp [go_sem], ?_⟩
    try simp [go_sem, g17, g19]
    refine pw_wk ?_
    repeat rw [sq]
    refine pw_cF hF22 (by simp [go_sem, g17, g19]) (fun h23 hF24 => ?_) fun h23 hF24 => ?_
    ·try simp [go_sem, g17, g19]
     exact hg10 (IntKind.i64.wrap ((IntKind.i64.wrap ((IntKind.i64.wrap (s7.1 + s7.2)).tdiv 2)) + 1), s7.2) _ (by simp [go_sem, g17, g19]) (Rn_some hF24)
    ·try simp [go_sem, g17, g19]
     exact hg10 (s7.1, IntKind.i64.wrap ((IntKind.i64.wrap (s7.1 + s7.2)).tdiv 2)) _ (by simp [go_sem, g17, g19]) (Rn_some hF24)
   ·try simp [go_sem]
    cases ho9 _ (Rn_some hF16)
    exact hj1 s7.1 _ (by simp [go_sem]) hψ11
noncomputable def F_spec_wSum (a0 : (List ViewCount)) : Option (Int) :=
  ((rloop (σ := Int) (β := Int) (fun i8 s7 =>
  (ix a0 i8).bind fun x17 =>
  some (.go (IntKind.i64.wrap (s7 + x17.Times)))) (fun s7 => s7) (a0.length) 0 0 : Option (Int)).bind fun (x5 : Int) =>
  some x5)
theorem c_spec_wSum {a0 : (List ViewCount)} {r : Int} (hr : F_spec_wSum a0 = some r) : PCalls Try.prog 71 [(.sh, .sl false 2 (a0.map row_ViewCount_z))] (Eo (.int .i64 r) [.junk]) := by
  apply pcalls_lf 18 [] [] [] [.tmp 2] hr cl71 Try.func71 rfl rfl rfl
  · exact ⟨by simp, rfl⟩
  intro Φ hΦ hF
  unfold F_spec_wSum at hF
  iterate 3 (try simp [go_sem]; try intros; refine pw_wk ?_)
  repeat rw [sq]
  refine pw_joinF (fun (x5 : Int) => [(3, .v (.int .i64 x5))]) hF ?_ ?_
  ·intro x5 hF6
   cases hΦ _ (Rn_some hF6)
   try simp [go_sem]
   refine pw_wk ?_
   try simp [go_sem]
  ·intro ψ3 hj1 hF4
   repeat rw [sq]
   rw [pw_block]
   obtain ⟨b20, hb21, hψ11⟩ := hF4
   refine pw_rloop (fun (i8 : Int) (s7 : Int) => [(3, .v (.int .i64 s7)), (6, .v (.sl false 2 (a0.map row_ViewCount_z))), (7, .v (.int .i64 (a0.length : Int))), (8, .v (.int .i64 i8))]) hb21 (by simp [go_sem]) ?_ ?_
   ·intro s7 N23 hN22
    subst hN22
    try simp [go_sem]
    refine pw_wk ?_
    repeat rw [sq]
    refine pw_cond_f (by simp [go_sem]) ?_
    try simp [go_sem]
    exact hj1 s7 _ (by simp [go_sem]) hψ11
   ·intro i8 s7 φ12 N13 hi15 hi16 ho9 hg10 hF14
    rw [Int.zero_add] at hi16
    try simp [go_sem]
    refine pw_wk ?_
    repeat rw [sq]
    refine pw_cond_t (by simp [go_sem, hi15, hi16]) ?_
    try simp [go_sem]
    refine pw_wk ?_
    repeat rw [sq]
    rw [pw_block]
    obtain ⟨x17, g18, hF19⟩ := Rn_ix hF14
    try simp [go_sem, g18]
    refine pw_wkK [3, 5, 6, 7, 8] (by simp [go_sem, g18]; rfl) ?_
    try simp [go_sem, g18]
    refine pw_wk ?_
    try simp [go_sem, g18]
    exact hg10 (IntKind.i64.wrap (s7 + x17.Times)) _ (by simp [go_sem, g18, wr_i hi15 hi16 (by assumption)]) (Rn_some hF19)
noncomputable def F_spec_wGood (a0 : (List ViewCount)) : Option (Bool) :=
  if decide (3000 < (a0.length : Int)) = true then (
  some false) else (
  ((rloop (σ := Unit) (β := Unit ⊕ Bool) (fun i10 s9 =>
  (ix a0 i10).bind fun x19 =>
  (((F_spec_l1In x19.Times 1 1000000).bind fun z28 =>
  if (!z28) = true then (
  some true) else (
  if decide (24 < (x19.View.length : Int)) = true then (
  some true) else (
  if decide (0 < i10) = true then (
  (ix a0 (IntKind.i64.wrap (i10 - 1))).bind fun x36 =>
  (F_spec_wLess x36.View x19.View).bind fun z39 =>
  some (!z39)) else (
  some false))) : Option (Bool)).bind fun (x26 : Bool) =>
  if x26 = true then (
  some (.out (.inr false))) else (
  some (.go ())))) (fun s9 => .inl ()) (a0.length) 0 () : Option (Unit ⊕ Bool)).bind (Sum.elim (fun (x7 : Unit) =>
  (F_spec_wSum a0).bind fun z47 =>
  some (decide (z47 ≤ 1000000))) some)))
theorem c_spec_wGood {a0 : (List ViewCount)} {r : Bool} (hr : F_spec_wGood a0 = some r) : PCalls Try.prog 70 [(.sh, .sl false 2 (a0.map row_ViewCount_z))] (Eo (.bool r) [.junk]) := by
  apply pcalls_lf 45 [] [] [] [.tmp 2] hr cl70 Try.func70 rfl rfl rfl
  · exact ⟨by simp, rfl⟩
  intro Φ hΦ hF
  unfold F_spec_wGood at hF
  iterate 2 (try simp [go_sem]; try intros; refine pw_wk ?_)
  repeat rw [sq]
  refine pw_cF hF (by simp [go_sem]) (fun h1 hF2 => ?_) fun h1 hF2 => ?_
  ·cases hΦ _ (Rn_some hF2)
   try simp [go_sem]
   refine pw_wk ?_
   try simp [go_sem]
  ·iterate 2 (try simp [go_sem]; try intros; refine pw_wk ?_)
   repeat rw [sq]
   refine pw_joinS (fun (x7 : Unit) => [(0, .v (.sl false 2 (a0.map row_ViewCount_z)))]) hF2 ?_ ?_
   ·intro x7 hF8
    try simp [go_sem]
    refine pw_cl hF8 [.sh] c_spec_wSum rfl rfl (by (try simp [go_sem, clE]); first | rfl | done) (by rfl) (by (try simp [go_sem]); first | rfl | done) fun z47 hF48 => ⟨by simp [go_sem], ?_⟩
    try simp [go_sem]
    refine pw_wkK [2] (by simp [go_sem]; rfl) ?_
    cases hΦ _ (Rn_some hF48)
    try simp [go_sem]
   ·intro ψ5 hj3 hr4 hF6
    repeat rw [sq]
    rw [pw_block]
    obtain ⟨b43, hb44, hψ13⟩ := hF6
    refine pw_rloop (fun (i10 : Int) (s9 : Unit) => [(0, .v (.sl false 2 (a0.map row_ViewCount_z))), (8, .v (.sl false 2 (a0.map row_ViewCount_z))), (9, .v (.int .i64 (a0.length : Int))), (10, .v (.int .i64 i10))]) hb44 (by simp [go_sem]) ?_ ?_
    ·intro s9 N46 hN45
     subst hN45
     try simp [go_sem]
     refine pw_wk ?_
     repeat rw [sq]
     refine pw_cond_f (by simp [go_sem]) ?_
     try simp [go_sem]
     exact hj3 () _ (by simp [go_sem]) hψ13
    ·intro i10 s9 φ14 N15 hi17 hi18 ho11 hg12 hF16
     rw [Int.zero_add] at hi18
     try simp [go_sem]
     refine pw_wk ?_
     repeat rw [sq]
     refine pw_cond_t (by simp [go_sem, hi17, hi18]) ?_
     try simp [go_sem]
     refine pw_wk ?_
     repeat rw [sq]
     rw [pw_block]
     obtain ⟨x19, g20, hF21⟩ := Rn_ix hF16
     try simp [go_sem, g20]
     refine pw_wkK [0, 3, 4, 8, 9, 10] (by simp [go_sem, g20]; rfl) ?_
     repeat rw [sq]
     refine pw_joinF (fun (x26 : Bool) => [(0, .v (.sl false 2 (a0.map row_ViewCount_z))), (8, .v (.sl false 2 (a0.map row_ViewCount_z))), (9, .v (.int .i64 (a0.length : Int))), (10, .v (.int .i64 i10)), (40, .v (.bool x26))]) hF21 ?_ ?_
     ·intro x26 hF27
      repeat rw [sq]
      refine pw_cF hF27 (by simp [go_sem, g20]) (fun h41 hF42 => ?_) fun h41 hF42 => ?_
      ·cases ho11 _ (Rn_some hF42)
       cases hΦ _ (hr4 _ hψ13)
       try simp [go_sem, g20]
       refine pw_wk ?_
       try simp [go_sem, g20]
      ·try simp [go_sem, g20]
       refine pw_wk ?_
       try simp [go_sem, g20]
       exact hg12 () _ (by simp [go_sem, g20, wr_i hi17 hi18 (by assumption)]) (Rn_some hF42)
     ·intro ψ24 hj22 hF25
      repeat rw [sq]
      refine pw_draw D70_6 follows (by kernel_rfl) rfl ?_
      try simp only [go_sem, D70_6]
      try simp [go_sem, g20]
      refine pw_cl hF25 [.sh, .sh, .sh] c_spec_l1In rfl rfl (by (try simp [go_sem, clE, g20]); first | rfl | done) (by rfl) (by (try simp [go_sem, g20]); first | rfl | done) fun z28 hF29 => ⟨by simp [go_sem], ?_⟩
      try simp [go_sem, g20]
      refine pwgD_F hF29 (fun h30 hF31 => ?_) fun h30 hF31 => ?_
      ·try simp [go_sem, g20, h30]
       exact hj22 true _ (by simp [go_sem, g20]) (Rn_some hF31)
      ·try simp [go_sem, g20, h30]
       try intros
       refine pwgD_F hF31 (fun h32 hF33 => ?_) fun h32 hF33 => ?_
       ·try simp [go_sem, g20, h32]
        exact hj22 true _ (by simp [go_sem, g20]) (Rn_some hF33)
       ·try simp [go_sem, g20, h32]
        refine pwgD_F hF33 (fun h34 hF35 => ?_) fun h34 hF35 => ?_
        ·obtain ⟨x36, g37, hF38⟩ := Rn_ix hF35
         try simp [go_sem, g20, g37, h34]
         refine pw_cl hF38 [.sh, .sh] c_spec_wLess rfl rfl (by (try simp [go_sem, clE, g20, g37]); first | rfl | done) (by rfl) (by (try simp [go_sem, g20, g37]); first | rfl | done) fun z39 hF40 => ⟨by simp [go_sem], ?_⟩
         try simp [go_sem, g20, g37, h34, h32]
         exact hj22 (!z39) _ (by simp [go_sem, g20, g37]) (Rn_some hF40)
        ·try simp [go_sem, g20, h34, h32]
         exact hj22 false _ (by simp [go_sem, g20]) (Rn_some hF35)
noncomputable def F_spec_wIf (a0 : (List ViewCount)) : Option ((List ViewCount) × Bool) :=
  (F_spec_wGood a0).bind fun z1 =>
  if (!z1) = true then (
  some ([], false)) else (
  some (a0, true))
theorem c_spec_wIf {a0 : (List ViewCount)} {r : (List ViewCount) × Bool} (hr : F_spec_wIf a0 = some r) : PCalls Try.prog 77 [(.sh, .sl false 2 (a0.map row_ViewCount_z))] (Eo (.tup [.sl false 2 (r.1.map row_ViewCount_z), .bool r.2]) [.junk]) := by
  apply pcalls_lf 8 [] [2] [] [.tmp 2, .tmp 3] hr cl77 Try.func77 rfl rfl rfl
  · exact ⟨by simp, rfl⟩
  intro Φ hΦ hF
  unfold F_spec_wIf at hF
  try simp [go_sem]
  refine pw_wk ?_
  try simp [go_sem]
  refine pw_cl hF [.sh] c_spec_wGood rfl rfl (by (try simp [go_sem, clE]); first | rfl | done) (by rfl) (by (try simp [go_sem]); first | rfl | done) fun z1 hF2 => ⟨by simp [go_sem], ?_⟩
  try simp [go_sem]
  refine pw_wk ?_
  repeat rw [sq]
  refine pw_cF hF2 (by simp [go_sem]) (fun h3 hF4 => ?_) fun h3 hF4 => ?_
  ·cases hΦ _ (Rn_some hF4)
   try simp [go_sem]
   refine pw_wk ?_
   try simp [go_sem]
  ·cases hΦ _ (Rn_some hF4)
   iterate 2 (try simp [go_sem]; refine pw_wk ?_)
   try simp [go_sem]
noncomputable def F_spec_ShareViews (a0 : Group) (a1 : Int) (a2 : Int) (a3 : (List Int)) : Option ((List ViewCount) × Bool) :=
  (((F_spec_wGroup a0).bind fun z7 =>
  if (!z7) = true then (
  some true) else (
  (F_spec_sGroup a0).bind fun z11 =>
  if (!z11) = true then (
  some true) else (
  (F_spec_l1In a1 1 3).bind fun z15 =>
  if (!z15) = true then (
  some true) else (
  (F_spec_gExps a0 [a2]).bind fun z19 =>
  if (!z19) = true then (
  some true) else (
  if decide (3 < (a3.length : Int)) = true then (
  some true) else (
  (F_spec_wTrustees a3).bind fun z25 =>
  some (!z25)))))) : Option (Bool)).bind fun (x5 : Bool) =>
  if x5 = true then (
  some ([], false)) else (
  gd (0 ≤ (IntKind.i64.wrap (a1 - 1)) ∧ (IntKind.i64.wrap (a1 - 1)) ≤ (IntKind.i64.wrap (a1 - 1)) ∧ 8 * (IntKind.i64.wrap (a1 - 1)) ≤ 140737488355328 ∧ (IntKind.i64.wrap (a1 - 1)) ≤ 4611686018427387904) <|
  (some (List.replicate ((IntKind.i64.wrap (a1 - 1)).toNat) 0)).bind fun x32 =>
  ((wloop (σ := (List ViewCount) × (List Int) × Bool) (β := (List ViewCount)) (fun s61 =>
  if s61.2.2 = true then (
  gd (([a2].length + s61.2.1.length) * 8 ≤ 140737488355328 ∧ [a2].length + s61.2.1.length ≤ 4611686018427387904) <|
  (F_spec_yAll a0.Q ([a2] ++ s61.2.1) a3).bind fun z74 =>
  (F_spec_wAdd__mv0 s61.1 z74 1).bind fun z76 =>
  (F_spec_sNext__io0 s61.2.1 a0.Q).bind fun z78 =>
  some (.go (z76, z78.2, z78.1))) else (
  some (.out s61.1))) ([], x32, true) : Option ((List ViewCount))).bind fun (x40 : (List ViewCount)) =>
  (F_spec_wIf x40).bind fun z82 =>
  some (z82.1, z82.2))))
theorem c_spec_ShareViews {a0 : Group} {a1 : Int} {a2 : Int} {a3 : (List Int)} {r : (List ViewCount) × Bool} (hr : F_spec_ShareViews a0 a1 a2 a3 = some r) : PCalls Try.prog 25 [(.sh, .agg [.int .i64 a0.P, .int .i64 a0.Q, .int .i64 a0.G]), (.sh, .int .i64 a1), (.sh, .int .i64 a2), (.sh, .sl false 1 (a3.map row_i64))] (Eo (.tup [.sl false 2 (r.1.map row_ViewCount_z), .bool r.2]) [.junk, .junk, .junk, .junk]) := by
  apply pcalls_lf 65 [] [8, 59, 61] [] [.tmp 8, .tmp 9] hr cl25 Try.func25 rfl rfl rfl
  · exact ⟨by simp, rfl⟩
  intro Φ hΦ hF
  unfold F_spec_ShareViews at hF
  try simp [go_sem]
  refine pw_wk ?_
  repeat rw [sq]
  refine pw_joinF (fun (x5 : Bool) => [(1, .v (.int .i64 a1)), (2, .v (.int .i64 a2)), (3, .v (.sl false 1 (a3.map row_i64))), (4, .bl [.int .i64 a0.P, .int .i64 a0.Q, .int .i64 a0.G]), (42, .v (.bool x5))]) hF ?_ ?_
  ·intro x5 hF6
   repeat rw [sq]
   refine pw_cF hF6 (by simp [go_sem]) (fun h27 hF28 => ?_) fun h27 hF28 => ?_
   ·cases hΦ _ (Rn_some hF28)
    try simp [go_sem]
    refine pw_wk ?_
    try simp [go_sem]
   ·obtain ⟨g29, hF30⟩ := Rn_gd hF28
    have g31 := g29
    try simp at g31
    obtain ⟨x32, e33, hF34⟩ := Rn_bind hF30
    have g35 : List.replicate ((IntKind.i64.wrap (a1 - 1)).toNat) ([.int .i64 0] : List PV) = x32.map row_i64 := by injection e33 with e33; rw [← e33]; simp [go_sem]
    iterate 4 (try simp [go_sem, g29, g31, g35]; refine pw_wk ?_)
    repeat rw [sq]
    refine pw_joinF (fun (x40 : (List ViewCount)) => [(10, .v (.sl true 2 (x40.map row_ViewCount_z)))]) hF34 ?_ ?_
    ·intro x40 hF41
     try simp [go_sem, g29, g31]
     refine pw_cl hF41 [.sh] c_spec_wIf rfl rfl (by (try simp [go_sem, clE, g29, g31]); first | rfl | done) (by rfl) (by (try simp [go_sem, g29, g31]); first | rfl | done) fun z82 hF83 => ⟨by simp [go_sem], ?_⟩
     try simp [go_sem, g29, g31]
     refine pw_wkK [8, 9] (by simp [go_sem, g29, g31]; rfl) ?_
     cases hΦ _ (Rn_some hF83)
     try simp [go_sem, g29, g31]
    ·intro ψ38 hj36 hF39
     repeat rw [sq]
     rw [pw_block]
     obtain ⟨b80, hb81, hψ65⟩ := hF39
     refine pw_wloop (fun (s61 : (List ViewCount) × (List Int) × Bool) => [(2, .v (.int .i64 a2)), (3, .v (.sl false 1 (a3.map row_i64))), (4, .bl [.int .i64 a0.P, .int .i64 a0.Q, .int .i64 a0.G]), (10, .v (.sl true 2 (s61.1.map row_ViewCount_z))), (11, .v (.sl true 1 (s61.2.1.map row_i64))), (12, .v (.bool s61.2.2))]) hb81 (by simp [go_sem, g29, g31]) ?_
     intro s61 φ66 N67 ho63 hg64 hF68
     try simp [go_sem, g29, g31]
     refine pw_wkK [2, 3, 4, 10, 11, 46] (by simp [go_sem, g29, g31]; rfl) ?_
     repeat rw [sq]
     refine pw_cF hF68 (by simp [go_sem, g29, g31]) (fun h69 hF70 => ?_) fun h69 hF70 => ?_
     ·try simp [go_sem, g29, g31]
      refine pw_wk ?_
      repeat rw [sq]
      rw [pw_block]
      repeat rw [sq]
      refine pw_draw D25_8 follows (by kernel_rfl) rfl ?_
      try simp only [go_sem, D25_8]
      obtain ⟨g71, hF72⟩ := Rn_gd hF70
      have g73 := g71
      try simp at g73
      try simp [go_sem, g29, g31, g71, g73]
      refine pw_cl hF72 [.sh, .sh, .sh] c_spec_yAll rfl rfl (by (try simp [go_sem, clE, g29, g31, g71, g73]); first | rfl | done) (by rfl) (by (try simp [go_sem, g29, g31, g71, g73]); first | rfl | done) fun z74 hF75 => ⟨by simp [go_sem], ?_⟩
      try simp [go_sem, g29, g31, g71, g73]
      refine pw_cl hF75 [.mv, .sh, .sh] c_spec_wAdd__mv0 rfl rfl (by (try simp [go_sem, clE, g29, g31, g71, g73]); first | rfl | done) (by rfl) (by (try simp [go_sem, g29, g31, g71, g73]); first | rfl | done) fun z76 hF77 => ⟨by simp [go_sem], ?_⟩
      try simp [go_sem, g29, g31, g71, g73]
      refine pw_wkK [2, 3, 4, 10, 11] (by simp [go_sem, g29, g31, g71, g73]; rfl) ?_
      try simp [go_sem, g29, g31, g71, g73]
      refine pw_cl hF77 [.io, .sh] c_spec_sNext__io0 rfl rfl (by (try simp [go_sem, clE, g29, g31, g71, g73]); first | rfl | done) (by rfl) (by (try simp [go_sem, g29, g31, g71, g73]); first | rfl | done) fun z78 hF79 => ⟨by simp [go_sem], ?_⟩
      try simp [go_sem, g29, g31, g71, g73]
      exact hg64 (z76, z78.2, z78.1) _ (by simp [go_sem, g29, g31, g71, g73]) (Rn_some hF79)
     ·try simp [go_sem, g29, g31]
      cases ho63 _ (Rn_some hF70)
      exact hj36 s61.1 _ (by simp [go_sem, g29, g31]) hψ65
  ·intro ψ3 hj1 hF4
   try simp [go_sem]
   refine pw_cl hF4 [.sh] c_spec_wGroup rfl rfl (by (try simp [go_sem, clE]); first | rfl | done) (by rfl) (by (try simp [go_sem]); first | rfl | done) fun z7 hF8 => ⟨by simp [go_sem], ?_⟩
   try simp [go_sem]
   refine pwg_F hF8 (fun h9 hF10 => ?_) fun h9 hF10 => ?_
   ·try simp [go_sem, h9]
    exact hj1 true _ (by simp [go_sem]) (Rn_some hF10)
   ·try simp [go_sem, h9]
    refine pw_cl hF10 [.sh] c_spec_sGroup rfl rfl (by (try simp [go_sem, clE]); first | rfl | done) (by rfl) (by (try simp [go_sem]); first | rfl | done) fun z11 hF12 => ⟨by simp [go_sem], ?_⟩
    try simp [go_sem, h9]
    refine pwg_F hF12 (fun h13 hF14 => ?_) fun h13 hF14 => ?_
    ·try simp [go_sem, h13]
     exact hj1 true _ (by simp [go_sem]) (Rn_some hF14)
    ·try simp [go_sem, h13]
     refine pw_cl hF14 [.sh, .sh, .sh] c_spec_l1In rfl rfl (by (try simp [go_sem, clE]); first | rfl | done) (by rfl) (by (try simp [go_sem]); first | rfl | done) fun z15 hF16 => ⟨by simp [go_sem], ?_⟩
     try simp [go_sem, h13]
     refine pwg_F hF16 (fun h17 hF18 => ?_) fun h17 hF18 => ?_
     ·try simp [go_sem, h17]
      exact hj1 true _ (by simp [go_sem]) (Rn_some hF18)
     ·try simp [go_sem, h17]
      refine pw_cl hF18 [.sh, .sh] c_spec_gExps rfl rfl (by (try simp [go_sem, clE]); first | rfl | done) (by rfl) (by (try simp [go_sem]); first | rfl | done) fun z19 hF20 => ⟨by simp [go_sem], ?_⟩
      try simp [go_sem, h17]
      refine pwg_F hF20 (fun h21 hF22 => ?_) fun h21 hF22 => ?_
      ·try simp [go_sem, h21]
       exact hj1 true _ (by simp [go_sem]) (Rn_some hF22)
      ·try simp [go_sem, h21]
       try intros
       refine pwg_F hF22 (fun h23 hF24 => ?_) fun h23 hF24 => ?_
       ·try simp [go_sem, h23]
        exact hj1 true _ (by simp [go_sem]) (Rn_some hF24)
       ·try simp [go_sem, h23]
        refine pw_cl hF24 [.sh] c_spec_wTrustees rfl rfl (by (try simp [go_sem, clE]); first | rfl | done) (by rfl) (by (try simp [go_sem]); first | rfl | done) fun z25 hF26 => ⟨by simp [go_sem], ?_⟩
        try simp [go_sem, h23]
        exact hj1 (!z25) _ (by simp [go_sem]) (Rn_some hF26)
noncomputable def F_laws_qInts (a0 : (List Int)) (a1 : (List Int)) : Option (Bool) :=
  if ((a0.length : Int) != (a1.length : Int)) = true then (
  some false) else (
  ((rloop (σ := Unit) (β := Unit ⊕ Bool) (fun i10 s9 =>
  (ix a0 i10).bind fun x19 =>
  (ix a1 i10).bind fun x22 =>
  if (x19 != x22) = true then (
  some (.out (.inr false))) else (
  some (.go ()))) (fun s9 => .inl ()) (a0.length) 0 () : Option (Unit ⊕ Bool)).bind (Sum.elim (fun (x7 : Unit) =>
  some true) some)))
theorem c_laws_qInts {a0 : (List Int)} {a1 : (List Int)} {r : Bool} (hr : F_laws_qInts a0 a1 = some r) : PCalls Try.prog 24 [(.sh, .sl false 1 (a0.map row_i64)), (.sh, .sl false 1 (a1.map row_i64))] (Eo (.bool r) [.junk, .junk]) := by
  apply pcalls_lf 26 [] [] [] [.tmp 4] hr cl24 Try.func24 rfl rfl rfl
  · exact ⟨by simp, rfl⟩
  intro Φ hΦ hF
  unfold F_laws_qInts at hF
  iterate 2 (try simp [go_sem]; try intros; refine pw_wk ?_)
  repeat rw [sq]
  refine pw_cF hF (by simp [go_sem]) (fun h1 hF2 => ?_) fun h1 hF2 => ?_
  ·cases hΦ _ (Rn_some hF2)
   try simp [go_sem]
   refine pw_wk ?_
   try simp [go_sem]
  ·iterate 2 (try simp [go_sem]; try intros; refine pw_wk ?_)
   repeat rw [sq]
   refine pw_joinS (fun (x7 : Unit) => []) hF2 ?_ ?_
   ·intro x7 hF8
    try simp [go_sem]
    refine pw_wkK [4] (by simp [go_sem]; rfl) ?_
    cases hΦ _ (Rn_some hF8)
    try simp [go_sem]
   ·intro ψ5 hj3 hr4 hF6
    repeat rw [sq]
    rw [pw_block]
    obtain ⟨b27, hb28, hψ13⟩ := hF6
    refine pw_rloop (fun (i10 : Int) (s9 : Unit) => [(0, .v (.sl false 1 (a0.map row_i64))), (1, .v (.sl false 1 (a1.map row_i64))), (12, .v (.int .i64 (a0.length : Int))), (13, .v (.int .i64 i10))]) hb28 (by simp [go_sem]) ?_ ?_
    ·intro s9 N30 hN29
     subst hN29
     try simp [go_sem]
     refine pw_wk ?_
     repeat rw [sq]
     refine pw_cond_f (by simp [go_sem]) ?_
     try simp [go_sem]
     exact hj3 () _ (by simp [go_sem]) hψ13
    ·intro i10 s9 φ14 N15 hi17 hi18 ho11 hg12 hF16
     rw [Int.zero_add] at hi18
     try simp [go_sem]
     refine pw_wkK [0, 1, 12, 13, 14] (by simp [go_sem]; rfl) ?_
     repeat rw [sq]
     refine pw_cond_t (by simp [go_sem, hi17, hi18]) ?_
     try simp [go_sem]
     refine pw_wk ?_
     repeat rw [sq]
     rw [pw_block]
     try simp [go_sem]
     refine pw_wk ?_
     repeat rw [sq]
     refine pw_draw D24_6 follows (by kernel_rfl) rfl ?_
     try simp only [go_sem, D24_6]
     obtain ⟨x19, g20, hF21⟩ := Rn_ix hF16
     obtain ⟨x22, g23, hF24⟩ := Rn_ix hF21
     try simp [go_sem, g20, g23]
     refine pw_wkK [0, 1, 12, 13, 24] (by simp [go_sem, g20, g23]; rfl) ?_
     repeat rw [sq]
     refine pw_cF hF24 (by simp [go_sem, g20, g23]) (fun h25 hF26 => ?_) fun h25 hF26 => ?_
     ·cases ho11 _ (Rn_some hF26)
      cases hΦ _ (hr4 _ hψ13)
      try simp [go_sem, g20, g23]
      refine pw_wk ?_
      try simp [go_sem, g20, g23]
     ·try simp [go_sem, g20, g23]
      refine pw_wk ?_
      try simp [go_sem, g20, g23]
      exact hg12 () _ (by simp [go_sem, g20, g23, wr_i hi17 hi18 (by assumption)]) (Rn_some hF26)
noncomputable def F_impl_total (a0 : (List ViewCount)) : Option (Int) :=
  ((rloop (σ := Int) (β := Int) (fun i8 s7 =>
  (ix a0 i8).bind fun x17 =>
  some (.go (IntKind.i64.wrap (s7 + x17.Times)))) (fun s7 => s7) (a0.length) 0 0 : Option (Int)).bind fun (x5 : Int) =>
  some x5)
theorem c_impl_total {a0 : (List ViewCount)} {r : Int} (hr : F_impl_total a0 = some r) : PCalls Try.prog 67 [(.sh, .sl false 2 (a0.map row_ViewCount_z))] (Eo (.int .i64 r) [.junk]) := by
  apply pcalls_lf 18 [] [] [] [.tmp 2] hr cl67 Try.func67 rfl rfl rfl
  · exact ⟨by simp, rfl⟩
  intro Φ hΦ hF
  unfold F_impl_total at hF
  iterate 3 (try simp [go_sem]; try intros; refine pw_wk ?_)
  repeat rw [sq]
  refine pw_joinF (fun (x5 : Int) => [(3, .v (.int .i64 x5))]) hF ?_ ?_
  ·intro x5 hF6
   cases hΦ _ (Rn_some hF6)
   try simp [go_sem]
   refine pw_wk ?_
   try simp [go_sem]
  ·intro ψ3 hj1 hF4
   repeat rw [sq]
   rw [pw_block]
   obtain ⟨b20, hb21, hψ11⟩ := hF4
   refine pw_rloop (fun (i8 : Int) (s7 : Int) => [(3, .v (.int .i64 s7)), (6, .v (.sl false 2 (a0.map row_ViewCount_z))), (7, .v (.int .i64 (a0.length : Int))), (8, .v (.int .i64 i8))]) hb21 (by simp [go_sem]) ?_ ?_
   ·intro s7 N23 hN22
    subst hN22
    try simp [go_sem]
    refine pw_wk ?_
    repeat rw [sq]
    refine pw_cond_f (by simp [go_sem]) ?_
    try simp [go_sem]
    exact hj1 s7 _ (by simp [go_sem]) hψ11
   ·intro i8 s7 φ12 N13 hi15 hi16 ho9 hg10 hF14
    rw [Int.zero_add] at hi16
    try simp [go_sem]
    refine pw_wk ?_
    repeat rw [sq]
    refine pw_cond_t (by simp [go_sem, hi15, hi16]) ?_
    try simp [go_sem]
    refine pw_wk ?_
    repeat rw [sq]
    rw [pw_block]
    obtain ⟨x17, g18, hF19⟩ := Rn_ix hF14
    try simp [go_sem, g18]
    refine pw_wkK [3, 5, 6, 7, 8] (by simp [go_sem, g18]; rfl) ?_
    try simp [go_sem, g18]
    refine pw_wk ?_
    try simp [go_sem, g18]
    exact hg10 (IntKind.i64.wrap (s7 + x17.Times)) _ (by simp [go_sem, g18, wr_i hi15 hi16 (by assumption)]) (Rn_some hF19)
noncomputable def F_impl_timesOf_1 (a0 : ViewCount) (a1 : (List Int)) : Option (Int) :=
  (F_slices_Compare_int_int a0.View a1).bind fun z1 =>
  some z1
theorem c_impl_timesOf_1 {a0 : ViewCount} {a1 : (List Int)} {r : Int} (hr : F_impl_timesOf_1 a0 a1 = some r) : PCalls Try.prog 122 [(.sh, .agg [.sl false 1 (a0.View.map row_i64), .int .i64 a0.Times]), (.sh, .sl false 1 (a1.map row_i64))] (Eo (.int .i64 r) [.junk, .junk]) := by
  apply pcalls_lf 9 [] [] [] [.tmp 4] hr cl122 Try.func122 rfl rfl rfl
  · exact ⟨by simp, rfl⟩
  intro Φ hΦ hF
  unfold F_impl_timesOf_1 at hF
  try simp [go_sem]
  refine pw_wk ?_
  try simp [go_sem]
  refine pw_cl hF [.sh, .sh] c_slices_Compare_int_int rfl rfl (by (try simp [go_sem, clE]); first | rfl | done) (by rfl) (by (try simp [go_sem]); first | rfl | done) fun z1 hF2 => ⟨by simp [go_sem], ?_⟩
  cases hΦ _ (Rn_some hF2)
  try simp [go_sem]
  refine pw_wk ?_
  try simp [go_sem]
noncomputable def F_slices_BinarySearchFunc_impl_ViewCount_impl_ViewCount_int__impl_timesOf_1 (a0 : (List ViewCount)) (a1 : (List Int)) : Option (Int × Bool) :=
  ((wloop (σ := Int × Int) (β := Int) (fun s7 =>
  if decide (s7.1 < s7.2) = true then (
  (ix a0 (IntKind.i64.wrap ((IntKind.u64.wrap (IntKind.i64.wrap (s7.1 + s7.2))).fdiv 2))).bind fun x18 =>
  (F_impl_timesOf_1 x18 a1).bind fun z21 =>
  if decide (z21 < 0) = true then (
  some (.go (IntKind.i64.wrap ((IntKind.i64.wrap ((IntKind.u64.wrap (IntKind.i64.wrap (s7.1 + s7.2))).fdiv 2)) + 1), s7.2))) else (
  some (.go (s7.1, IntKind.i64.wrap ((IntKind.u64.wrap (IntKind.i64.wrap (s7.1 + s7.2))).fdiv 2))))) else (
  some (.out s7.1))) (0, (a0.length : Int)) : Option (Int)).bind fun (x5 : Int) =>
  ((if decide (x5 < (a0.length : Int)) = true then (
  (ix a0 x5).bind fun x35 =>
  (F_impl_timesOf_1 x35 a1).bind fun z38 =>
  some (z38 == 0)) else (
  some false) : Option (Bool)).bind fun (x31 : Bool) =>
  some (x5, x31)))
theorem c_slices_BinarySearchFunc_impl_ViewCount_impl_ViewCount_int__impl_timesOf_1 {a0 : (List ViewCount)} {a1 : (List Int)} {r : Int × Bool} (hr : F_slices_BinarySearchFunc_impl_ViewCount_impl_ViewCount_int__impl_timesOf_1 a0 a1 = some r) : PCalls Try.prog 121 [(.sh, .sl false 2 (a0.map row_ViewCount_z)), (.sh, .sl false 1 (a1.map row_i64)), (.sh, .func (.func 122) [] [])] (Eo (.tup [.int .i64 r.1, .bool r.2]) [.junk, .junk, .junk]) := by
  apply pcalls_lf 49 [] [] [] [.tmp 6, .tmp 7] hr cl121 Try.func121 rfl rfl rfl
  · exact ⟨by simp, rfl⟩
  intro Φ hΦ hF
  unfold F_slices_BinarySearchFunc_impl_ViewCount_impl_ViewCount_int__impl_timesOf_1 at hF
  iterate 3 (try simp [go_sem]; try intros; refine pw_wk ?_)
  repeat rw [sq]
  refine pw_joinF (fun (x5 : Int) => [(0, .v (.sl false 2 (a0.map row_ViewCount_z))), (1, .v (.sl false 1 (a1.map row_i64))), (2, .v (.func (.func 122) [] [])), (8, .v (.int .i64 (a0.length : Int))), (9, .v (.int .i64 x5))]) hF ?_ ?_
  ·intro x5 hF6
   repeat rw [sq]
   refine pw_joinF (fun (x31 : Bool) => [(6, .v (.int .i64 x5)), (7, .v (.bool x31))]) hF6 ?_ ?_
   ·intro x31 hF32
    cases hΦ _ (Rn_some hF32)
    try simp [go_sem]
   ·intro ψ29 hj27 hF30
    try simp [go_sem]
    refine pwg_F hF30 (fun h33 hF34 => ?_) fun h33 hF34 => ?_
    ·obtain ⟨x35, g36, hF37⟩ := Rn_ix hF34
     try simp [go_sem, g36, h33]
     refine pw_cl hF37 [.sh, .sh] c_impl_timesOf_1 rfl rfl (by (try simp [go_sem, clE, g36]); first | rfl | done) (by rfl) (by (try simp [go_sem, g36]); first | rfl | done) fun z38 hF39 => ⟨by simp [go_sem], ?_⟩
     try simp [go_sem, g36, h33]
     exact hj27 (z38 == 0) _ (by simp [go_sem, g36]) (Rn_some hF39)
    ·try simp [go_sem, h33]
     exact hj27 false _ (by simp [go_sem]) (Rn_some hF34)
  ·intro ψ3 hj1 hF4
   repeat rw [sq]
   rw [pw_block]
   obtain ⟨b25, hb26, hψ11⟩ := hF4
   refine pw_wloop (fun (s7 : Int × Int) => [(0, .v (.sl false 2 (a0.map row_ViewCount_z))), (1, .v (.sl false 1 (a1.map row_i64))), (2, .v (.func (.func 122) [] [])), (8, .v (.int .i64 (a0.length : Int))), (9, .v (.int .i64 s7.1)), (10, .v (.int .i64 s7.2))]) hb26 (by simp [go_sem]) ?_
   intro s7 φ12 N13 ho9 hg10 hF14
   try simp [go_sem]
   refine pw_wkK [0, 1, 2, 8, 9, 10, 17] (by simp [go_sem]; rfl) ?_
   repeat rw [sq]
   refine pw_cF hF14 (by simp [go_sem]) (fun h15 hF16 => ?_) fun h15 hF16 => ?_
   ·try simp [go_sem]
    refine pw_wk ?_
    repeat rw [sq]
    rw [pw_block]
    have g17 := fun x => shV0_ge (b := 1) (x := x) (by decide)
    obtain ⟨x18, g19, hF20⟩ := Rn_ix hF16
    try simp [go_sem, g17, g19]
    refine pw_wk ?_
    try simp [go_sem, g17, g19]
    refine pw_cl hF20 [.sh, .sh] c_impl_timesOf_1 rfl rfl (by (try simp [go_sem, clE, g17, g19]); first | rfl | done) (by rfl) (by (try simp [go_sem, g17, g19]); first | rfl | done) fun z21 hF22 => ⟨by simp [go_sem], ?_⟩
    try simp [go_sem, g17, g19]
    refine pw_wkK [0, 1, 2, 8, 9, 10, 11, 31] (by simp [go_sem, g17, g19]; rfl) ?_
    repeat rw [sq]
    refine pw_cF hF22 (by simp [go_sem, g17, g19]) (fun h23 hF24 => ?_) fun h23 hF24 => ?_
    ·try simp [go_sem, g17, g19]
     exact hg10 (IntKind.i64.wrap ((IntKind.i64.wrap ((IntKind.u64.wrap (IntKind.i64.wrap (s7.1 + s7.2))).fdiv 2)) + 1), s7.2) _ (by simp [go_sem, g17, g19]) (Rn_some hF24)
    ·try simp [go_sem, g17, g19]
     exact hg10 (s7.1, IntKind.i64.wrap ((IntKind.u64.wrap (IntKind.i64.wrap (s7.1 + s7.2))).fdiv 2)) _ (by simp [go_sem, g17, g19]) (Rn_some hF24)
   ·try simp [go_sem]
    cases ho9 _ (Rn_some hF16)
    exact hj1 s7.1 _ (by simp [go_sem]) hψ11
noncomputable def F_impl_timesOf (a0 : (List ViewCount)) (a1 : (List Int)) : Option (Int) :=
  (F_slices_BinarySearchFunc_impl_ViewCount_impl_ViewCount_int__impl_timesOf_1 a0 a1).bind fun z1 =>
  if (!z1.2) = true then (
  some 0) else (
  (ix a0 z1.1).bind fun x5 =>
  some x5.Times)
theorem c_impl_timesOf {a0 : (List ViewCount)} {a1 : (List Int)} {r : Int} (hr : F_impl_timesOf a0 a1 = some r) : PCalls Try.prog 68 [(.sh, .sl false 2 (a0.map row_ViewCount_z)), (.sh, .sl false 1 (a1.map row_i64))] (Eo (.int .i64 r) [.junk, .junk]) := by
  apply pcalls_lf 20 [] [] [] [.tmp 4] hr cl68 Try.func68 rfl rfl rfl
  · exact ⟨by simp, rfl⟩
  intro Φ hΦ hF
  unfold F_impl_timesOf at hF
  try simp [go_sem]
  refine pw_wk ?_
  try simp [go_sem]
  refine pw_cl hF [.sh, .sh, .sh] c_slices_BinarySearchFunc_impl_ViewCount_impl_ViewCount_int__impl_timesOf_1 rfl rfl (by (try simp [go_sem, clE]); first | rfl | done) (by rfl) (by (try simp [go_sem]); first | rfl | done) fun z1 hF2 => ⟨by simp [go_sem], ?_⟩
  try simp [go_sem]
  refine pw_wk ?_
  try simp [go_sem]
  refine pw_wkK [0, 5, 14] (by simp [go_sem]; rfl) ?_
  repeat rw [sq]
  refine pw_cF hF2 (by simp [go_sem]) (fun h3 hF4 => ?_) fun h3 hF4 => ?_
  ·cases hΦ _ (Rn_some hF4)
   try simp [go_sem]
   refine pw_wk ?_
   try simp [go_sem]
  ·obtain ⟨x5, g6, hF7⟩ := Rn_ix hF4
   cases hΦ _ (Rn_some hF7)
   iterate 2 (try simp [go_sem, g6]; refine pw_wk ?_)
   try simp [go_sem, g6]
noncomputable def F_impl_reduced (a0 : Int) (a1 : Int) : Option (Int × Int) :=
  ((wloop (σ := Int × Int) (β := Int) (fun s7 =>
  if (s7.2 != 0) = true then (
  gd (s7.2 ≠ 0) <|
  some (.go (s7.2, s7.1.tmod s7.2))) else (
  some (.out s7.1))) (a0, a1) : Option (Int)).bind fun (x5 : Int) =>
  gd (x5 ≠ 0) <|
  gd (x5 ≠ 0) <|
  some (IntKind.i64.wrap (a0.tdiv x5), IntKind.i64.wrap (a1.tdiv x5)))
theorem c_impl_reduced {a0 : Int} {a1 : Int} {r : Int × Int} (hr : F_impl_reduced a0 a1 = some r) : PCalls Try.prog 69 [(.sh, .int .i64 a0), (.sh, .int .i64 a1)] (Eo (.tup [.int .i64 r.1, .int .i64 r.2]) [.junk, .junk]) := by
  apply pcalls_lf 22 [] [] [] [.tmp 4, .tmp 5] hr cl69 Try.func69 rfl rfl rfl
  · exact ⟨by simp, rfl⟩
  intro Φ hΦ hF
  unfold F_impl_reduced at hF
  iterate 2 (try simp [go_sem]; refine pw_wk ?_)
  repeat rw [sq]
  refine pw_joinF (fun (x5 : Int) => [(0, .v (.int .i64 a0)), (1, .v (.int .i64 a1)), (6, .v (.int .i64 x5))]) hF ?_ ?_
  ·intro x5 hF6
   repeat rw [sq]
   refine pw_draw D69_4 follows (by kernel_rfl) rfl ?_
   try simp only [go_sem, D69_4]
   obtain ⟨g21, hF22⟩ := Rn_nz hF6
   obtain ⟨g23, hF24⟩ := Rn_nz hF22
   try simp [go_sem, g21, g23]
   refine pw_wkK [4, 5] (by simp [go_sem, g21, g23]; rfl) ?_
   cases hΦ _ (Rn_some hF24)
   try simp [go_sem, g21, g23]
  ·intro ψ3 hj1 hF4
   repeat rw [sq]
   rw [pw_block]
   obtain ⟨b19, hb20, hψ11⟩ := hF4
   refine pw_wloop (fun (s7 : Int × Int) => [(0, .v (.int .i64 a0)), (1, .v (.int .i64 a1)), (6, .v (.int .i64 s7.1)), (7, .v (.int .i64 s7.2))]) hb20 (by simp [go_sem]) ?_
   intro s7 φ12 N13 ho9 hg10 hF14
   try simp [go_sem]
   refine pw_wk ?_
   repeat rw [sq]
   refine pw_cF hF14 (by simp [go_sem]) (fun h15 hF16 => ?_) fun h15 hF16 => ?_
   ·try simp [go_sem]
    refine pw_wk ?_
    repeat rw [sq]
    rw [pw_block]
    repeat rw [sq]
    refine pw_draw D69_3 follows (by kernel_rfl) rfl ?_
    try simp only [go_sem, D69_3]
    obtain ⟨g17, hF18⟩ := Rn_nz hF16
    try simp [go_sem, g17]
    exact hg10 (s7.2, s7.1.tmod s7.2) _ (by simp [go_sem, g17]) (Rn_some hF18)
   ·try simp [go_sem]
    cases ho9 _ (Rn_some hF16)
    exact hj1 s7.1 _ (by simp [go_sem]) hψ11
noncomputable def F_impl_DistanceOf (a0 : (List ViewCount)) (a1 : (List ViewCount)) : Option (Int × Int × Bool) :=
  (((F_impl_isCount a0).bind fun z7 =>
  if (!z7) = true then (
  some true) else (
  (F_impl_isCount a1).bind fun z11 =>
  if (!z11) = true then (
  some true) else (
  if ((a0.length : Int) == 0) = true then (
  some true) else (
  some ((a1.length : Int) == 0)))) : Option (Bool)).bind fun (x5 : Bool) =>
  if x5 = true then (
  some (0, 0, false)) else (
  (F_impl_total a0).bind fun z19 =>
  (F_impl_total a1).bind fun z21 =>
  ((rloop (σ := Int) (β := Int) (fun i30 s29 =>
  (ix a0 i30).bind fun x39 =>
  (F_impl_timesOf a1 x39.View).bind fun z42 =>
  some (.go (IntKind.i64.wrap (s29 + (if (IntKind.i64.wrap ((IntKind.i64.wrap (x39.Times * z21)) - (IntKind.i64.wrap (z42 * z19)))) < (IntKind.i64.wrap (0 - (IntKind.i64.wrap ((IntKind.i64.wrap (x39.Times * z21)) - (IntKind.i64.wrap (z42 * z19)))))) then (IntKind.i64.wrap (0 - (IntKind.i64.wrap ((IntKind.i64.wrap (x39.Times * z21)) - (IntKind.i64.wrap (z42 * z19)))))) else (IntKind.i64.wrap ((IntKind.i64.wrap (x39.Times * z21)) - (IntKind.i64.wrap (z42 * z19))))))))) (fun s29 => s29) (a0.length) 0 0 : Option (Int)).bind fun (x27 : Int) =>
  ((rloop (σ := Int) (β := Int) (fun i55 s54 =>
  (((ix a1 i55).bind fun x70 =>
  (F_impl_timesOf a0 x70.View).bind fun z73 =>
  if (z73 == 0) = true then (
  some (IntKind.i64.wrap (s54 + (IntKind.i64.wrap (x70.Times * z19))))) else (
  some s54) : Option (Int)).bind fun (x68 : Int) =>
  some (.go x68))) (fun s54 => s54) (a1.length) 0 x27 : Option (Int)).bind fun (x52 : Int) =>
  (F_impl_reduced x52 (IntKind.i64.wrap ((IntKind.i64.wrap (2 * z19)) * z21))).bind fun z81 =>
  some (z81.1, z81.2, true)))))
theorem c_impl_DistanceOf {a0 : (List ViewCount)} {a1 : (List ViewCount)} {r : Int × Int × Bool} (hr : F_impl_DistanceOf a0 a1 = some r) : PCalls Try.prog 19 [(.sh, .sl false 2 (a0.map row_ViewCount_z)), (.sh, .sl false 2 (a1.map row_ViewCount_z))] (Eo (.tup [.int .i64 r.1, .int .i64 r.2.1, .bool r.2.2]) [.junk, .junk]) := by
  apply pcalls_lf 92 [] [] [] [.tmp 4, .tmp 5, .tmp 6] hr cl19 Try.func19 rfl rfl rfl
  · exact ⟨by simp, rfl⟩
  intro Φ hΦ hF
  unfold F_impl_DistanceOf at hF
  try simp [go_sem]
  refine pw_wk ?_
  repeat rw [sq]
  refine pw_joinF (fun (x5 : Bool) => [(0, .v (.sl false 2 (a0.map row_ViewCount_z))), (1, .v (.sl false 2 (a1.map row_ViewCount_z))), (34, .v (.bool x5))]) hF ?_ ?_
  ·intro x5 hF6
   repeat rw [sq]
   refine pw_cF hF6 (by simp [go_sem]) (fun h17 hF18 => ?_) fun h17 hF18 => ?_
   ·cases hΦ _ (Rn_some hF18)
    try simp [go_sem]
    refine pw_wk ?_
    try simp [go_sem]
   ·try simp [go_sem]
    refine pw_wk ?_
    try simp [go_sem]
    refine pw_cl hF18 [.sh] c_impl_total rfl rfl (by (try simp [go_sem, clE]); first | rfl | done) (by rfl) (by (try simp [go_sem]); first | rfl | done) fun z19 hF20 => ⟨by simp [go_sem], ?_⟩
    try simp [go_sem]
    refine pw_cl hF20 [.sh] c_impl_total rfl rfl (by (try simp [go_sem, clE]); first | rfl | done) (by rfl) (by (try simp [go_sem]); first | rfl | done) fun z21 hF22 => ⟨by simp [go_sem], ?_⟩
    try simp [go_sem]
    refine pw_wkK [0, 1, 7, 8, 9] (by simp [go_sem]; rfl) ?_
    try simp [go_sem]
    try intros
    refine pw_wk ?_
    repeat rw [sq]
    refine pw_joinF (fun (x27 : Int) => [(0, .v (.sl false 2 (a0.map row_ViewCount_z))), (1, .v (.sl false 2 (a1.map row_ViewCount_z))), (7, .v (.int .i64 z19)), (8, .v (.int .i64 z21)), (9, .v (.int .i64 x27))]) hF22 ?_ ?_
    ·intro x27 hF28
     try simp [go_sem]
     try intros
     refine pw_wk ?_
     repeat rw [sq]
     refine pw_joinF (fun (x52 : Int) => [(7, .v (.int .i64 z19)), (8, .v (.int .i64 z21)), (9, .v (.int .i64 x52))]) hF28 ?_ ?_
     ·intro x52 hF53
      try simp [go_sem]
      refine pw_cl hF53 [.sh, .sh] c_impl_reduced rfl rfl (by (try simp [go_sem, clE]); first | rfl | done) (by rfl) (by (try simp [go_sem]); first | rfl | done) fun z81 hF82 => ⟨by simp [go_sem], ?_⟩
      try simp [go_sem]
      refine pw_wkK [15, 16] (by simp [go_sem]; rfl) ?_
      cases hΦ _ (Rn_some hF82)
      try simp [go_sem]
      refine pw_wk ?_
      try simp [go_sem]
     ·intro ψ50 hj48 hF51
      repeat rw [sq]
      rw [pw_block]
      obtain ⟨b77, hb78, hψ58⟩ := hF51
      refine pw_rloop (fun (i55 : Int) (s54 : Int) => [(0, .v (.sl false 2 (a0.map row_ViewCount_z))), (7, .v (.int .i64 z19)), (8, .v (.int .i64 z21)), (9, .v (.int .i64 s54)), (63, .v (.sl false 2 (a1.map row_ViewCount_z))), (64, .v (.int .i64 (a1.length : Int))), (65, .v (.int .i64 i55))]) hb78 (by simp [go_sem]) ?_ ?_
      ·intro s54 N80 hN79
       subst hN79
       try simp [go_sem]
       refine pw_wk ?_
       repeat rw [sq]
       refine pw_cond_f (by simp [go_sem]) ?_
       try simp [go_sem]
       exact hj48 s54 _ (by simp [go_sem]) hψ58
      ·intro i55 s54 φ59 N60 hi62 hi63 ho56 hg57 hF61
       rw [Int.zero_add] at hi63
       try simp [go_sem]
       refine pw_wk ?_
       repeat rw [sq]
       refine pw_cond_t (by simp [go_sem, hi62, hi63]) ?_
       try simp [go_sem]
       refine pw_wk ?_
       repeat rw [sq]
       refine pw_joinF (fun (x68 : Int) => [(0, .v (.sl false 2 (a0.map row_ViewCount_z))), (7, .v (.int .i64 z19)), (8, .v (.int .i64 z21)), (9, .v (.int .i64 x68)), (63, .v (.sl false 2 (a1.map row_ViewCount_z))), (64, .v (.int .i64 (a1.length : Int))), (65, .v (.int .i64 i55))]) hF61 ?_ ?_
       ·intro x68 hF69
        try simp [go_sem]
        exact hg57 x68 _ (by simp [go_sem, wr_i hi62 hi63 (by assumption)]) (Rn_some hF69)
       ·intro ψ66 hj64 hF67
        repeat rw [sq]
        rw [pw_block]
        obtain ⟨x70, g71, hF72⟩ := Rn_ix hF67
        try simp [go_sem, g71]
        refine pw_wkK [0, 7, 8, 9, 14, 63, 64, 65] (by simp [go_sem, g71]; rfl) ?_
        try simp [go_sem, g71]
        refine pw_cl hF72 [.sh, .sh] c_impl_timesOf rfl rfl (by (try simp [go_sem, clE, g71]); first | rfl | done) (by rfl) (by (try simp [go_sem, g71]); first | rfl | done) fun z73 hF74 => ⟨by simp [go_sem], ?_⟩
        try simp [go_sem, g71]
        refine pw_wk ?_
        repeat rw [sq]
        refine pw_cF hF74 (by simp [go_sem, g71]) (fun h75 hF76 => ?_) fun h75 hF76 => ?_
        ·try simp [go_sem, g71]
         exact hj64 (IntKind.i64.wrap (s54 + (IntKind.i64.wrap (x70.Times * z19)))) _ (by simp [go_sem, g71]) (Rn_some hF76)
        ·try simp [go_sem, g71]
         first | exact hj64 s54 _ (by simp [go_sem, g71]) (Rn_some hF76) | exact hj64 _ _ (by simp [go_sem, g71]) (Rn_some hF76)
    ·intro ψ25 hj23 hF26
     repeat rw [sq]
     rw [pw_block]
     obtain ⟨b44, hb45, hψ33⟩ := hF26
     refine pw_rloop (fun (i30 : Int) (s29 : Int) => [(0, .v (.sl false 2 (a0.map row_ViewCount_z))), (1, .v (.sl false 2 (a1.map row_ViewCount_z))), (7, .v (.int .i64 z19)), (8, .v (.int .i64 z21)), (9, .v (.int .i64 s29)), (39, .v (.sl false 2 (a0.map row_ViewCount_z))), (40, .v (.int .i64 (a0.length : Int))), (41, .v (.int .i64 i30))]) hb45 (by simp [go_sem]) ?_ ?_
     ·intro s29 N47 hN46
      subst hN46
      try simp [go_sem]
      refine pw_wk ?_
      repeat rw [sq]
      refine pw_cond_f (by simp [go_sem]) ?_
      try simp [go_sem]
      exact hj23 s29 _ (by simp [go_sem]) hψ33
     ·intro i30 s29 φ34 N35 hi37 hi38 ho31 hg32 hF36
      rw [Int.zero_add] at hi38
      try simp [go_sem]
      refine pw_wk ?_
      repeat rw [sq]
      refine pw_cond_t (by simp [go_sem, hi37, hi38]) ?_
      try simp [go_sem]
      refine pw_wk ?_
      repeat rw [sq]
      rw [pw_block]
      obtain ⟨x39, g40, hF41⟩ := Rn_ix hF36
      try simp [go_sem, g40]
      refine pw_wk ?_
      repeat rw [sq]
      refine pw_draw D19_7 follows (by kernel_rfl) rfl ?_
      try simp only [go_sem, D19_7]
      try simp [go_sem, g40]
      refine pw_cl hF41 [.sh, .sh] c_impl_timesOf rfl rfl (by (try simp [go_sem, clE, g40]); first | rfl | done) (by rfl) (by (try simp [go_sem, g40]); first | rfl | done) fun z42 hF43 => ⟨by simp [go_sem], ?_⟩
      try simp [go_sem, g40]
      refine pw_wkK [0, 1, 7, 8, 9, 12, 39, 40, 41] (by simp [go_sem, g40]; rfl) ?_
      try simp [go_sem, g40]
      refine pw_wk ?_
      try simp [go_sem, g40]
      exact hg32 (IntKind.i64.wrap (s29 + (if (IntKind.i64.wrap ((IntKind.i64.wrap (x39.Times * z21)) - (IntKind.i64.wrap (z42 * z19)))) < (IntKind.i64.wrap (0 - (IntKind.i64.wrap ((IntKind.i64.wrap (x39.Times * z21)) - (IntKind.i64.wrap (z42 * z19)))))) then (IntKind.i64.wrap (0 - (IntKind.i64.wrap ((IntKind.i64.wrap (x39.Times * z21)) - (IntKind.i64.wrap (z42 * z19)))))) else (IntKind.i64.wrap ((IntKind.i64.wrap (x39.Times * z21)) - (IntKind.i64.wrap (z42 * z19))))))) _ (by simp [go_sem, g40, wr_i hi37 hi38 (by assumption)]) (Rn_some hF43)
  ·intro ψ3 hj1 hF4
   try simp [go_sem]
   refine pw_cl hF4 [.sh] c_impl_isCount rfl rfl (by (try simp [go_sem, clE]); first | rfl | done) (by rfl) (by (try simp [go_sem]); first | rfl | done) fun z7 hF8 => ⟨by simp [go_sem], ?_⟩
   try simp [go_sem]
   refine pwg_F hF8 (fun h9 hF10 => ?_) fun h9 hF10 => ?_
   ·try simp [go_sem, h9]
    exact hj1 true _ (by simp [go_sem]) (Rn_some hF10)
   ·try simp [go_sem, h9]
    refine pw_cl hF10 [.sh] c_impl_isCount rfl rfl (by (try simp [go_sem, clE]); first | rfl | done) (by rfl) (by (try simp [go_sem]); first | rfl | done) fun z11 hF12 => ⟨by simp [go_sem], ?_⟩
    try simp [go_sem, h9]
    refine pwg_F hF12 (fun h13 hF14 => ?_) fun h13 hF14 => ?_
    ·try simp [go_sem, h13]
     exact hj1 true _ (by simp [go_sem]) (Rn_some hF14)
    ·try simp [go_sem, h13]
     try intros
     refine pwg_F hF14 (fun h15 hF16 => ?_) fun h15 hF16 => ?_
     ·try simp [go_sem, h15]
      exact hj1 true _ (by simp [go_sem]) (Rn_some hF16)
     ·try simp [go_sem, h15]
      try intros
      exact hj1 ((a1.length : Int) == 0) _ (by simp [go_sem]) (Rn_some hF16)
noncomputable def F_laws_FnShareSecrecy (a0 : (List Int)) (a1 : (List Int)) : Option (Bool) :=
  if decide (1048576 < (IntKind.i64.wrap ((a0.length : Int) + (a1.length : Int)))) = true then (
  some true) else (
  (F_spec_DrawShareCounts a0).bind fun z3 =>
  (F_impl_ShareCounts z3.1 z3.2.1 z3.2.2).bind fun z5 =>
  (F_spec_ShareCounts z3.1 z3.2.1 z3.2.2).bind fun z7 =>
  (F_spec_DrawShareViews a1).bind fun z9 =>
  (F_impl_ShareViews z9.1 z9.2.1 z9.2.2.1 z9.2.2.2).bind fun z11 =>
  (F_spec_ShareViews z9.1 z9.2.1 z9.2.2.1 z9.2.2.2).bind fun z13 =>
  ((if (z5.2 != z7.2) = true then (
  some true) else (
  (F_laws_qInts z5.1 z7.1).bind fun z23 =>
  if (!z23) = true then (
  some true) else (
  if (z11.2 != z13.2) = true then (
  some true) else (
  some ((z11.1.length : Int) != (z13.1.length : Int))))) : Option (Bool)).bind fun (x19 : Bool) =>
  if x19 = true then (
  some false) else (
  ((rloop (σ := Unit) (β := Unit ⊕ Bool) (fun i38 s37 =>
  (((ix z11.1 i38).bind fun x53 =>
  (ix z13.1 i38).bind fun x56 =>
  (F_laws_qInts x53.View x56.View).bind fun z59 =>
  if (!z59) = true then (
  some true) else (
  some (x53.Times != x56.Times)) : Option (Bool)).bind fun (x51 : Bool) =>
  if x51 = true then (
  some (.out (.inr false))) else (
  some (.go ())))) (fun s37 => .inl ()) (z11.1.length) 0 () : Option (Unit ⊕ Bool)).bind (Sum.elim (fun (x35 : Unit) =>
  ((if z11.2 = true then (
  some (decide ((z9.2.2.2.length : Int) < z9.2.1))) else (
  some false) : Option (Bool)).bind fun (x73 : Bool) =>
  ((if x73 = true then (
  gd (z9.1.Q ≠ 0) <|
  (F_impl_ShareViews z9.1 z9.2.1 ((IntKind.i64.wrap (z9.2.2.1 + 1)).tmod z9.1.Q) z9.2.2.2).bind fun z87 =>
  (F_impl_DistanceOf z11.1 z87.1).bind fun z89 =>
  ((if (!z87.2) = true then (
  some true) else (
  if (!z89.2.2) = true then (
  some true) else (
  if (z89.1 != 0) = true then (
  some true) else (
  some (z89.2.1 != 1)))) : Option (Bool)).bind fun (x95 : Bool) =>
  if x95 = true then (
  some (.inr false)) else (
  some (.inl ())))) else (
  some (.inl ())) : Option (Unit ⊕ Bool)).bind (Sum.elim (fun (x81 : Unit) =>
  ((if (!z5.2) = true then (
  some true) else (
  some (decide (z3.2.1 ≤ (z3.2.2.length : Int)))) : Option (Bool)).bind fun (x109 : Bool) =>
  if x109 = true then (
  some true) else (
  ((rloop (σ := Unit) (β := Unit ⊕ Bool) (fun i122 s121 =>
  (ix z5.1 i122).bind fun x131 =>
  (((ix z5.1 0).bind fun x140 =>
  if (x131 != x140) = true then (
  some true) else (
  some (x131 == 0)) : Option (Bool)).bind fun (x138 : Bool) =>
  if x138 = true then (
  some (.out (.inr false))) else (
  some (.go ())))) (fun s121 => .inl ()) (z5.1.length) 0 () : Option (Unit ⊕ Bool)).bind (Sum.elim (fun (x119 : Unit) =>
  some true) some))))) some)))) some)))))
theorem c_laws_FnShareSecrecy {a0 : (List Int)} {a1 : (List Int)} {r : Bool} (hr : F_laws_FnShareSecrecy a0 a1 = some r) : PCalls Try.prog 9 [(.sh, .sl false 1 (a0.map row_u8)), (.sh, .sl false 1 (a1.map row_u8))] (Eo (.bool r) [.junk, .junk]) := by
  apply pcalls_lf 193 [] [73] [] [.tmp 4] hr cl9 Try.func9 rfl rfl rfl
  · exact ⟨by simp, rfl⟩
  intro Φ hΦ hF
  unfold F_laws_FnShareSecrecy at hF
  iterate 2 (try simp [go_sem]; try intros; refine pw_wk ?_)
  repeat rw [sq]
  refine pw_cF hF (by simp [go_sem]) (fun h1 hF2 => ?_) fun h1 hF2 => ?_
  ·cases hΦ _ (Rn_some hF2)
   try simp [go_sem]
   refine pw_wk ?_
   try simp [go_sem]
  ·try simp [go_sem]
   refine pw_wk ?_
   try simp [go_sem]
   refine pw_cl hF2 [.sh] c_spec_DrawShareCounts rfl rfl (by (try simp [go_sem, clE]); first | rfl | done) (by rfl) (by (try simp [go_sem]); first | rfl | done) fun z3 hF4 => ⟨by simp [go_sem], ?_⟩
   try simp [go_sem]
   refine pw_wkK [1, 5, 6, 7] (by simp [go_sem]; rfl) ?_
   try simp [go_sem]
   refine pw_cl hF4 [.sh, .sh, .sh] c_impl_ShareCounts rfl rfl (by (try simp [go_sem, clE]); first | rfl | done) (by rfl) (by (try simp [go_sem]); first | rfl | done) fun z5 hF6 => ⟨by simp [go_sem], ?_⟩
   try simp [go_sem]
   refine pw_wk ?_
   try simp [go_sem]
   refine pw_cl hF6 [.sh, .sh, .sh] c_spec_ShareCounts rfl rfl (by (try simp [go_sem, clE]); first | rfl | done) (by rfl) (by (try simp [go_sem]); first | rfl | done) fun z7 hF8 => ⟨by simp [go_sem], ?_⟩
   try simp [go_sem]
   refine pw_wkK [1, 6, 7, 8, 9, 10, 11] (by simp [go_sem]; rfl) ?_
   try simp [go_sem]
   refine pw_cl hF8 [.sh] c_spec_DrawShareViews rfl rfl (by (try simp [go_sem, clE]); first | rfl | done) (by rfl) (by (try simp [go_sem]); first | rfl | done) fun z9 hF10 => ⟨by simp [go_sem], ?_⟩
   try simp [go_sem]
   refine pw_wkK [6, 7, 8, 9, 10, 11, 12, 13, 14, 15] (by simp [go_sem]; rfl) ?_
   try simp [go_sem]
   refine pw_cl hF10 [.sh, .sh, .sh, .sh] c_impl_ShareViews rfl rfl (by (try simp [go_sem, clE]); first | rfl | done) (by rfl) (by (try simp [go_sem]); first | rfl | done) fun z11 hF12 => ⟨by simp [go_sem], ?_⟩
   try simp [go_sem]
   refine pw_wkK [6, 7, 8, 9, 10, 11, 12, 13, 14, 15, 16, 17] (by simp [go_sem]; rfl) ?_
   try simp [go_sem]
   refine pw_cl hF12 [.sh, .sh, .sh, .sh] c_spec_ShareViews rfl rfl (by (try simp [go_sem, clE]); first | rfl | done) (by rfl) (by (try simp [go_sem]); first | rfl | done) fun z13 hF14 => ⟨by simp [go_sem], ?_⟩
   try simp [go_sem]
   refine pw_wkK [6, 7, 8, 9, 10, 11, 12, 13, 14, 15, 16, 17, 18, 19] (by simp [go_sem]; rfl) ?_
   repeat rw [sq]
   refine pw_joinF (fun (x19 : Bool) => [(6, .v (.int .i64 z3.2.1)), (7, .v (.sl true 1 (z3.2.2.map row_i64))), (8, .v (.sl true 1 (z5.1.map row_i64))), (9, .v (.bool z5.2)), (12, .bl [.int .i64 z9.1.P, .int .i64 z9.1.Q, .int .i64 z9.1.G]), (13, .v (.int .i64 z9.2.1)), (14, .v (.int .i64 z9.2.2.1)), (15, .v (.sl false 1 (z9.2.2.2.map row_i64))), (16, .v (.sl true 2 (z11.1.map row_ViewCount_o))), (17, .v (.bool z11.2)), (18, .v (.sl false 2 (z13.1.map row_ViewCount_z))), (97, .v (.bool x19))]) hF14 ?_ ?_
   ·intro x19 hF20
    repeat rw [sq]
    refine pw_cF hF20 (by simp [go_sem]) (fun h29 hF30 => ?_) fun h29 hF30 => ?_
    ·cases hΦ _ (Rn_some hF30)
     try simp [go_sem]
     refine pw_wk ?_
     try simp [go_sem]
    ·iterate 2 (try simp [go_sem]; try intros; refine pw_wk ?_)
     repeat rw [sq]
     refine pw_joinS (fun (x35 : Unit) => [(6, .v (.int .i64 z3.2.1)), (7, .v (.sl true 1 (z3.2.2.map row_i64))), (8, .v (.sl true 1 (z5.1.map row_i64))), (9, .v (.bool z5.2)), (12, .bl [.int .i64 z9.1.P, .int .i64 z9.1.Q, .int .i64 z9.1.G]), (13, .v (.int .i64 z9.2.1)), (14, .v (.int .i64 z9.2.2.1)), (15, .v (.sl false 1 (z9.2.2.2.map row_i64))), (16, .v (.sl true 2 (z11.1.map row_ViewCount_o))), (17, .v (.bool z11.2))]) hF30 ?_ ?_
     ·intro x35 hF36
      repeat rw [sq]
      refine pw_joinF (fun (x73 : Bool) => [(6, .v (.int .i64 z3.2.1)), (7, .v (.sl true 1 (z3.2.2.map row_i64))), (8, .v (.sl true 1 (z5.1.map row_i64))), (9, .v (.bool z5.2)), (12, .bl [.int .i64 z9.1.P, .int .i64 z9.1.Q, .int .i64 z9.1.G]), (13, .v (.int .i64 z9.2.1)), (14, .v (.int .i64 z9.2.2.1)), (15, .v (.sl false 1 (z9.2.2.2.map row_i64))), (16, .v (.sl true 2 (z11.1.map row_ViewCount_o))), (135, .v (.bool x73))]) hF36 ?_ ?_
      ·intro x73 hF74
       repeat rw [sq]
       refine pw_joinS (fun (x81 : Unit) => [(6, .v (.int .i64 z3.2.1)), (7, .v (.sl true 1 (z3.2.2.map row_i64))), (8, .v (.sl true 1 (z5.1.map row_i64))), (9, .v (.bool z5.2))]) hF74 ?_ ?_
       ·intro x81 hF82
        repeat rw [sq]
        refine pw_joinF (fun (x109 : Bool) => [(8, .v (.sl true 1 (z5.1.map row_i64))), (176, .v (.bool x109))]) hF82 ?_ ?_
        ·intro x109 hF110
         repeat rw [sq]
         refine pw_cF hF110 (by simp [go_sem]) (fun h113 hF114 => ?_) fun h113 hF114 => ?_
         ·cases hΦ _ (Rn_some hF114)
          try simp [go_sem]
          refine pw_wk ?_
          try simp [go_sem]
         ·iterate 2 (try simp [go_sem]; try intros; refine pw_wk ?_)
          repeat rw [sq]
          refine pw_joinS (fun (x119 : Unit) => []) hF114 ?_ ?_
          ·intro x119 hF120
           cases hΦ _ (Rn_some hF120)
           try simp [go_sem]
           refine pw_wk ?_
           try simp [go_sem]
          ·intro ψ117 hj115 hr116 hF118
           repeat rw [sq]
           rw [pw_block]
           obtain ⟨b147, hb148, hψ125⟩ := hF118
           refine pw_rloop (fun (i122 : Int) (s121 : Unit) => [(8, .v (.sl true 1 (z5.1.map row_i64))), (177, .rf 8 []), (178, .v (.int .i64 (z5.1.length : Int))), (179, .v (.int .i64 i122))]) hb148 (by simp [go_sem]) ?_ ?_
           ·intro s121 N150 hN149
            subst hN149
            try simp [go_sem]
            refine pw_wk ?_
            repeat rw [sq]
            refine pw_cond_f (by simp [go_sem]) ?_
            try simp [go_sem]
            exact hj115 () _ (by simp [go_sem]) hψ125
           ·intro i122 s121 φ126 N127 hi129 hi130 ho123 hg124 hF128
            rw [Int.zero_add] at hi130
            try simp [go_sem]
            refine pw_wk ?_
            repeat rw [sq]
            refine pw_cond_t (by simp [go_sem, hi129, hi130]) ?_
            try simp [go_sem]
            refine pw_wk ?_
            repeat rw [sq]
            rw [pw_block]
            obtain ⟨x131, g132, hF133⟩ := Rn_ix hF128
            try simp [go_sem, g132]
            refine pw_wkK [8, 27, 177, 178, 179] (by simp [go_sem, g132]; rfl) ?_
            repeat rw [sq]
            refine pw_joinF (fun (x138 : Bool) => [(8, .v (.sl true 1 (z5.1.map row_i64))), (177, .rf 8 []), (178, .v (.int .i64 (z5.1.length : Int))), (179, .v (.int .i64 i122)), (191, .v (.bool x138))]) hF133 ?_ ?_
            ·intro x138 hF139
             repeat rw [sq]
             refine pw_cF hF139 (by simp [go_sem, g132]) (fun h145 hF146 => ?_) fun h145 hF146 => ?_
             ·cases ho123 _ (Rn_some hF146)
              cases hΦ _ (hr116 _ hψ125)
              try simp [go_sem, g132]
              refine pw_wk ?_
              try simp [go_sem, g132]
             ·try simp [go_sem, g132]
              refine pw_wk ?_
              try simp [go_sem, g132]
              exact hg124 () _ (by simp [go_sem, g132, wr_i hi129 hi130 (by assumption)]) (Rn_some hF146)
            ·intro ψ136 hj134 hF137
             obtain ⟨x140, g141, hF142⟩ := Rn_ixn 0 rfl hF137
             try simp [go_sem, g132, g141]
             refine pwg_F hF142 (fun h143 hF144 => ?_) fun h143 hF144 => ?_
             ·try simp [go_sem, g132, g141, h143]
              exact hj134 true _ (by simp [go_sem, g132, g141]) (Rn_some hF144)
             ·try simp [go_sem, g132, g141, h143]
              exact hj134 (x131 == 0) _ (by simp [go_sem, g132, g141]) (Rn_some hF144)
        ·intro ψ107 hj105 hF108
         try simp [go_sem]
         refine pwg_F hF108 (fun h111 hF112 => ?_) fun h111 hF112 => ?_
         ·try simp [go_sem, h111]
          exact hj105 true _ (by simp [go_sem]) (Rn_some hF112)
         ·try simp [go_sem, h111]
          try intros
          exact hj105 (decide (z3.2.1 ≤ (z3.2.2.length : Int))) _ (by simp [go_sem]) (Rn_some hF112)
       ·intro ψ79 hj77 hr78 hF80
        repeat rw [sq]
        refine pw_cF hF80 (by simp [go_sem]) (fun h83 hF84 => ?_) fun h83 hF84 => ?_
        ·repeat rw [sq]
         refine pw_draw D9_18 follows (by kernel_rfl) rfl ?_
         try simp only [go_sem, D9_18]
         obtain ⟨g85, hF86⟩ := Rn_nz hF84
         try simp [go_sem, g85]
         refine pw_cl hF86 [.sh, .sh, .sh, .sh] c_impl_ShareViews rfl rfl (by (try simp [go_sem, clE, g85]); first | rfl | done) (by rfl) (by (try simp [go_sem, g85]); first | rfl | done) fun z87 hF88 => ⟨by simp [go_sem], ?_⟩
         try simp [go_sem, g85]
         refine pw_wkK [6, 7, 8, 9, 16, 21, 22] (by simp [go_sem, g85]; rfl) ?_
         try simp [go_sem, g85]
         refine pw_cl hF88 [.sh, .sh] c_impl_DistanceOf rfl rfl (by (try simp [go_sem, clE, g85]); first | rfl | done) (by rfl) (by (try simp [go_sem, g85]); first | rfl | done) fun z89 hF90 => ⟨by simp [go_sem], ?_⟩
         try simp [go_sem, g85]
         refine pw_wkK [6, 7, 8, 9, 22, 23, 24, 25] (by simp [go_sem, g85]; rfl) ?_
         repeat rw [sq]
         refine pw_joinF (fun (x95 : Bool) => [(6, .v (.int .i64 z3.2.1)), (7, .v (.sl true 1 (z3.2.2.map row_i64))), (8, .v (.sl true 1 (z5.1.map row_i64))), (9, .v (.bool z5.2)), (168, .v (.bool x95))]) hF90 ?_ ?_
         ·intro x95 hF96
          repeat rw [sq]
          refine pw_cF hF96 (by simp [go_sem, g85]) (fun h103 hF104 => ?_) fun h103 hF104 => ?_
          ·cases hΦ _ (hr78 _ (Rn_some hF104))
           try simp [go_sem, g85]
           refine pw_wk ?_
           try simp [go_sem, g85]
          ·try simp [go_sem, g85]
           exact hj77 () _ (by simp [go_sem, g85]) (Rn_some hF104)
         ·intro ψ93 hj91 hF94
          try simp [go_sem, g85]
          refine pwg_F hF94 (fun h97 hF98 => ?_) fun h97 hF98 => ?_
          ·try simp [go_sem, g85, h97]
           exact hj91 true _ (by simp [go_sem, g85]) (Rn_some hF98)
          ·try simp [go_sem, g85, h97]
           refine pwg_F hF98 (fun h99 hF100 => ?_) fun h99 hF100 => ?_
           ·try simp [go_sem, g85, h99]
            exact hj91 true _ (by simp [go_sem, g85]) (Rn_some hF100)
           ·try simp [go_sem, g85, h99]
            refine pwg_F hF100 (fun h101 hF102 => ?_) fun h101 hF102 => ?_
            ·try simp [go_sem, g85, h101]
             exact hj91 true _ (by simp [go_sem, g85]) (Rn_some hF102)
            ·try simp [go_sem, g85, h101]
             exact hj91 (z89.2.1 != 1) _ (by simp [go_sem, g85]) (Rn_some hF102)
        ·try simp [go_sem]
         exact hj77 () _ (by simp [go_sem]) (Rn_some hF84)
      ·intro ψ71 hj69 hF72
       try simp [go_sem]
       refine pwg_F hF72 (fun h75 hF76 => ?_) fun h75 hF76 => ?_
       ·try simp [go_sem, h75]
        try intros
        exact hj69 (decide ((z9.2.2.2.length : Int) < z9.2.1)) _ (by simp [go_sem]) (Rn_some hF76)
       ·try simp [go_sem, h75]
        exact hj69 false _ (by simp [go_sem]) (Rn_some hF76)
     ·intro ψ33 hj31 hr32 hF34
      repeat rw [sq]
      rw [pw_block]
      obtain ⟨b65, hb66, hψ41⟩ := hF34
      refine pw_rloop (fun (i38 : Int) (s37 : Unit) => [(6, .v (.int .i64 z3.2.1)), (7, .v (.sl true 1 (z3.2.2.map row_i64))), (8, .v (.sl true 1 (z5.1.map row_i64))), (9, .v (.bool z5.2)), (12, .bl [.int .i64 z9.1.P, .int .i64 z9.1.Q, .int .i64 z9.1.G]), (13, .v (.int .i64 z9.2.1)), (14, .v (.int .i64 z9.2.2.1)), (15, .v (.sl false 1 (z9.2.2.2.map row_i64))), (16, .v (.sl true 2 (z11.1.map row_ViewCount_o))), (17, .v (.bool z11.2)), (18, .v (.sl false 2 (z13.1.map row_ViewCount_z))), (99, .v (.int .i64 (z11.1.length : Int))), (100, .v (.int .i64 i38))]) hb66 (by simp [go_sem]) ?_ ?_
      ·intro s37 N68 hN67
       subst hN67
       try simp [go_sem]
       refine pw_wk ?_
       repeat rw [sq]
       refine pw_cond_f (by simp [go_sem]) ?_
       try simp [go_sem]
       exact hj31 () _ (by simp [go_sem]) hψ41
      ·intro i38 s37 φ42 N43 hi45 hi46 ho39 hg40 hF44
       rw [Int.zero_add] at hi46
       try simp [go_sem]
       refine pw_wk ?_
       repeat rw [sq]
       refine pw_cond_t (by simp [go_sem, hi45, hi46]) ?_
       try simp [go_sem]
       refine pw_wk ?_
       repeat rw [sq]
       rw [pw_block]
       try simp [go_sem]
       refine pw_wk ?_
       repeat rw [sq]
       refine pw_joinF (fun (x51 : Bool) => [(6, .v (.int .i64 z3.2.1)), (7, .v (.sl true 1 (z3.2.2.map row_i64))), (8, .v (.sl true 1 (z5.1.map row_i64))), (9, .v (.bool z5.2)), (12, .bl [.int .i64 z9.1.P, .int .i64 z9.1.Q, .int .i64 z9.1.G]), (13, .v (.int .i64 z9.2.1)), (14, .v (.int .i64 z9.2.2.1)), (15, .v (.sl false 1 (z9.2.2.2.map row_i64))), (16, .v (.sl true 2 (z11.1.map row_ViewCount_o))), (17, .v (.bool z11.2)), (18, .v (.sl false 2 (z13.1.map row_ViewCount_z))), (99, .v (.int .i64 (z11.1.length : Int))), (100, .v (.int .i64 i38)), (127, .v (.bool x51))]) hF44 ?_ ?_
       ·intro x51 hF52
        repeat rw [sq]
        refine pw_cF hF52 (by simp [go_sem]) (fun h63 hF64 => ?_) fun h63 hF64 => ?_
        ·cases ho39 _ (Rn_some hF64)
         cases hΦ _ (hr32 _ hψ41)
         try simp [go_sem]
         refine pw_wk ?_
         try simp [go_sem]
        ·try simp [go_sem]
         refine pw_wk ?_
         try simp [go_sem]
         exact hg40 () _ (by simp [go_sem, wr_i hi45 hi46 (by assumption)]) (Rn_some hF64)
       ·intro ψ49 hj47 hF50
        repeat rw [sq]
        refine pw_draw D9_14 follows (by kernel_rfl) rfl ?_
        try simp only [go_sem, D9_14]
        obtain ⟨x53, g54, hF55⟩ := Rn_ix hF50
        obtain ⟨x56, g57, hF58⟩ := Rn_ix hF55
        try simp [go_sem, g54, g57]
        refine pw_cl hF58 [.sh, .sh] c_laws_qInts rfl rfl (by (try simp [go_sem, clE, g54, g57]); first | rfl | done) (by rfl) (by (try simp [go_sem, g54, g57]); first | rfl | done) fun z59 hF60 => ⟨by simp [go_sem], ?_⟩
        try simp [go_sem, g54, g57]
        refine pwgD_F hF60 (fun h61 hF62 => ?_) fun h61 hF62 => ?_
        ·try simp [go_sem, g54, g57, h61]
         exact hj47 true _ (by simp [go_sem, g54, g57]) (Rn_some hF62)
        ·try simp [go_sem, g54, g57, h61]
         exact hj47 (x53.Times != x56.Times) _ (by simp [go_sem, g54, g57]) (Rn_some hF62)
   ·intro ψ17 hj15 hF18
    try simp [go_sem]
    refine pwg_F hF18 (fun h21 hF22 => ?_) fun h21 hF22 => ?_
    ·try simp [go_sem, h21]
     exact hj15 true _ (by simp [go_sem]) (Rn_some hF22)
    ·try simp [go_sem, h21]
     refine pw_cl hF22 [.sh, .sh] c_laws_qInts rfl rfl (by (try simp [go_sem, clE]); first | rfl | done) (by rfl) (by (try simp [go_sem]); first | rfl | done) fun z23 hF24 => ⟨by simp [go_sem], ?_⟩
     try simp [go_sem, h21]
     refine pwg_F hF24 (fun h25 hF26 => ?_) fun h25 hF26 => ?_
     ·try simp [go_sem, h25]
      exact hj15 true _ (by simp [go_sem]) (Rn_some hF26)
     ·try simp [go_sem, h25]
      refine pwg_F hF26 (fun h27 hF28 => ?_) fun h27 hF28 => ?_
      ·try simp [go_sem, h27]
       exact hj15 true _ (by simp [go_sem]) (Rn_some hF28)
      ·try simp [go_sem, h27]
       try intros
       exact hj15 ((z11.1.length : Int) != (z13.1.length : Int)) _ (by simp [go_sem]) (Rn_some hF28)
end Go.Pm
