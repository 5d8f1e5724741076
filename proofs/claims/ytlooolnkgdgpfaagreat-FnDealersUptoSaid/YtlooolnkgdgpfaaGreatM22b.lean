/-
  Plain functions and their walks. Written by wip/tools/lift.py.
-/
import Derived.Test.YtlooolnkgdgpfaaGreatM22
namespace Go.Pm
open Go.Am IntKind
open Go.Proofs
set_option maxRecDepth 100000
attribute [local irreducible] pw pwx pw1 pwg qv qz qf
attribute [-simp] List.map_set
set_option linter.unusedSimpArgs false
set_option linter.unusedVariables false
theorem c_impl_Group_powers : ∀ {a0} {a1} {a2} {r}, F_impl_Group_powers a0 a1 a2 = some r → PCalls Tryz.prog 114 [(.sh, vE a0), (.sh, vC a1), (.sh, vC a2)] (Eo (.int .i64 r) [.junk, .junk, .junk]) := by
 intro a0 a1 a2 r hr
 apply pF 30 [] [] [] [.tmp 6] hr cl114 Tryz.func114
 intro Φ hΦ hF g
 unfold F_impl_Group_powers at hF
 iterate 3 (try simp [go_sem, g]; try intros; refine pw_wk ?_)
 refine wJ hF (fun x3 => [(7, .v (.int .i64 x3))]) (fun x3 hF => ?_) fun _ hj1 hF => ?_
 ·cases hΦ _ (Rn_some hF)
  refine wW ?_
  try simp [go_sem, g]
 ·refine wB ?_
  obtain ⟨b15, hb16, hψ8⟩ := hF
  refine pR hb16 (fun i5 s4 => [(2, .v (vC a2)), (3, .bl [.int .i64 a0.P, .int .i64 a0.Q, .int .i64 a0.G]), (7, .v (.int .i64 s4)), (10, .v (vC a1)), (11, .v (.int .i64 (a1.length : Int))), (12, .v (.int .i64 i5))]) (fun s4 _ hN17 => ?_) (fun i5 s4 _ _ hi9 hi10 ho6 hg7 hF => ?_)
  ·subst hN17
   refine wW ?_
   refine wf ?_
   exact wT (hj1 _) hψ8
  ·refine wW ?_
   refine wt ?_ (hb := by simp [go_sem, g, hi9, hi10])
   refine wW ?_
   refine wB ?_
   obtain ⟨x11, g, hF⟩ := Rx g hF
   refine wK [2, 3, 7, 8, 9, 10, 11, 12] ?_
   refine wX D114_5 follows ?_
   obtain ⟨x12, g, hF⟩ := Rx g hF
   refine wC hF [.sh, .sh, .sh] c_impl_Group_pow (fun z13 hF => ?_)
   refine wC hF [.sh, .sh] c_impl_Group_mul (fun z14 hF => ?_)
   refine wK [2, 3, 7, 10, 11, 12] ?_
   exact wT (hg7 z14) (Rn_some hF) (a := by simp [go_sem, g, wr_i hi9 hi10 (by assumption)])
noncomputable def F_impl_Group_images (a0 : Group) (a1 : (List (List Int))) (a2 : (List Int)) : Option ((List Int)) :=
 ((rloop (σ := (List Int)) (fun i5 s4 =>
 (ix a1 i5).bind fun x11 =>
 (F_impl_Group_powers a0 x11 a2).bind fun z12 =>
 gd ((s4.length + 1) * 8 ≤ 140737488355328 ∧ s4.length + 1 ≤ 4611686018427387904) <|
 some (.go (s4 ++ [z12]))) (fun s4 => s4) (a1.length) 0 [] : Option ((List Int))).bind fun x3 =>
 some x3)
theorem c_impl_Group_images : ∀ {a0} {a1} {a2} {r}, F_impl_Group_images a0 a1 a2 = some r → PCalls Tryz.prog 293 [(.sh, vE a0), (.sh, vI a1), (.sh, vC a2)] (Eo (vD r) [.junk, .junk, .junk]) := by
 intro a0 a1 a2 r hr
 apply pF 26 [] [] [] [.tmp 6] hr cl293 Tryz.func293
 intro Φ hΦ hF g
 unfold F_impl_Group_images at hF
 iterate 3 (try simp [go_sem, g]; try intros; refine pw_wk ?_)
 refine wJ hF (fun x3 => [(7, .v (vD x3))]) (fun x3 hF => ?_) fun _ hj1 hF => ?_
 ·cases hΦ _ (Rn_some hF)
  refine wW ?_
  try simp [go_sem, g]
 ·refine wB ?_
  obtain ⟨b13, hb14, hψ8⟩ := hF
  refine pR hb14 (fun i5 s4 => [(2, .v (vC a2)), (3, .bl [.int .i64 a0.P, .int .i64 a0.Q, .int .i64 a0.G]), (7, .v (vD s4)), (11, .v (vI a1)), (12, .v (.int .i64 (a1.length : Int))), (13, .v (.int .i64 i5))]) (fun s4 _ hN15 => ?_) (fun i5 s4 _ _ hi9 hi10 ho6 hg7 hF => ?_)
  ·subst hN15
   refine wW ?_
   refine wf ?_
   exact wT (hj1 _) hψ8
  ·refine wW ?_
   refine wt ?_ (hb := by simp [go_sem, g, hi9, hi10])
   refine wW ?_
   refine wB ?_
   obtain ⟨x11, g, hF⟩ := Rx g hF
   refine wK [2, 3, 7, 9, 11, 12, 13] ?_
   refine wC hF [.sh, .sh, .sh] c_impl_Group_powers (fun z12 hF => ?_)
   obtain ⟨g, hF⟩ := Rg g hF
   refine wW ?_
   exact wT (hg7 (s4 ++ [z12])) (Rn_some hF) (a := by simp [go_sem, g, wr_i hi9 hi10 (by assumption)])
@[go_sem] def D285_1 : List DE := [d1 0 [9] 9, d2 1 [15] 9 15, d0 2 [16], d0 3 [2], d0 4 [18], d0 5 [17, 19], d0 6 [20], d1 7 [9, 21] 9, d2 8 [22, 21] 9 22, d0 9 [23, 21], d0 10 [24, 21], d0 11 [21, 25], d0 12 [26], d1 13 [9, 27] 9, d2 14 [28, 27] 9 28, d0 15 [29, 27], d0 16 [2, 27], d0 17 [31, 27], d0 18 [32, 27], d0 19 [33, 27], d0 20 [30, 34, 27], d0 21 [27, 35], d0 22 [36], d2 23 [5, 37] 5 5, d1 24 [9, 37] 9, d2 25 [39, 37] 9 39, d3 26 [38, 40, 37], d0 27 [41, 37], d0 28 [37, 42], d0 29 [43], d2 30 [5, 44] 5 5, d1 31 [9, 44] 9, d2 32 [46, 44] 9 46, d3 33 [45, 47, 44], d0 34 [48, 44], d0 35 [44, 49]]
@[go_sem] def D285_3 : List DE := [d2 0 [5] 5 5, d0 1 [1], d0 2 [2], d0 4 [3], d1 5 [9] 9, d2 6 [57] 9 57, d3 3 [54], d0 7 [55, 56, 58], ⟨8, [59], [], none, true, true, true⟩, d3 9 [52, 53, 60], d0 10 [61], d0 11 [51], d0 12 [51], d0 13 [62], d0 14 [63]]
@[go_sem] def D285_9 : List DE := [d0 0 [14], d2 1 [5] 5 5, d1 2 [9] 9, d2 3 [87] 9 87, d0 4 [13], d0 5 [88, 89], d0 6 [90], d2 7 [5] 5 5, d0 8 [3], d0 9 [13], d0 10 [93, 94], d0 11 [95], d0 12 [11], ⟨13, [92, 96, 97], [], none, false, true, false⟩, d0 14 [91, 98], ⟨15, [86, 99], [], none, true, true, true⟩, d0 16 [85, 100]]
noncomputable def F_impl_Group_verifyLinear (a0 : Group) (a1 : ByteArray) (a2 : (List (List Int))) (a3 : (List Int)) (a4 : Proof) : Option (Bool) :=
 ((if ((a4.Commits.length : Int) != (a2.length : Int)) = true then (
 some true) else (
 if ((a4.Challenges.length : Int) != 1) = true then (
 some true) else (
 (ix a2 0).bind fun x6 =>
 if ((a4.Responses.length : Int) != (x6.length : Int)) = true then (
 some true) else (
 (F_impl_Group_hasAll a0 a4.Commits).bind fun z8 =>
 if (!z8) = true then (
 some true) else (
 (F_impl_Group_areExps a0 a4.Responses).bind fun z10 =>
 some (!z10))))) : Option (Bool)).bind fun x3 =>
 if x3 = true then (
 some false) else (
 (F_slices_Concat_int_int a2).bind fun z12 =>
 (F_slices_Concat_int_int [z12, a3, a4.Commits]).bind fun z13 =>
 (F_impl_Group_challenge a0 a1 z13).bind fun z14 =>
 ((if (!z14.2) = true then (
 some true) else (
 (ix a4.Challenges 0).bind fun x19 =>
 some (x19 != z14.1)) : Option (Bool)).bind fun x17 =>
 if x17 = true then (
 some false) else (
 (F_impl_Group_images a0 a2 a4.Responses).bind fun z21 =>
 ((rloop (σ := Unit) (fun i26 s25 =>
 (ix z21 i26).bind fun x32 =>
 (ix a4.Commits i26).bind fun x33 =>
 (ix a3 i26).bind fun x34 =>
 (F_impl_Group_pow a0 x34 z14.1).bind fun z35 =>
 (F_impl_Group_mul a0 [x33, z35]).bind fun z36 =>
 if (x32 != z36) = true then (
 some (.out (.inr false))) else (
 some (.go ()))) (fun s25 => .inl ()) (z21.length) 0 () : Option (Unit ⊕ Bool)).bind (Sum.elim (fun x24 =>
 some true) some))))))
theorem c_impl_Group_verifyLinear : ∀ {a0} {a1} {a2} {a3} {a4} {r}, F_impl_Group_verifyLinear a0 a1 a2 a3 a4 = some r → PCalls Tryz.prog 285 [(.sh, vE a0), (.sh, .str a1), (.sh, vI a2), (.sh, vC a3), (.sh, vS a4)] (Eo (.bool r) [.junk, .junk, .junk, .junk, .junk]) := by
 intro a0 a1 a2 a3 a4 r hr
 apply pF 103 [] [368] [] [.tmp 10] hr cl285 Tryz.func285
 intro Φ hΦ hF g
 unfold F_impl_Group_verifyLinear at hF
 refine wW ?_
 refine wJ hF (fun x3 => [(1, .v (.str a1)), (2, .v (vI a2)), (3, .v (vC a3)), (5, .bl [.int .i64 a0.P, .int .i64 a0.Q, .int .i64 a0.G]), (9, .bl [vC a4.Commits, vC a4.Challenges, vC a4.Responses]), (50, .v (.bool x3))]) (fun x3 hF => ?_) fun _ hj1 hF => ?_
 ·refine wI hF (fun h11 hF => ?_) (fun h11 hF => ?_)
  ·cases hΦ _ (Rn_some hF)
   refine wW ?_
   try simp [go_sem, g]
  ·refine wW ?_
   refine wX D285_3 follows ?_
   refine wC hF [.sh] c_slices_Concat_int_int (fun z12 hF => ?_)
   refine wC hF [.sh] c_slices_Concat_int_int (fun z13 hF => ?_)
   refine wC hF [.sh, .sh, .sh] c_impl_Group_challenge (fun z14 hF => ?_)
   refine wK [2, 3, 5, 9, 11, 12] ?_
   refine wJ hF (fun x17 => [(2, .v (vI a2)), (3, .v (vC a3)), (5, .bl [.int .i64 a0.P, .int .i64 a0.Q, .int .i64 a0.G]), (9, .bl [vC a4.Commits, vC a4.Challenges, vC a4.Responses]), (11, .v (.int .i64 z14.1)), (73, .v (.bool x17))]) (fun x17 hF => ?_) fun _ hj15 hF => ?_
   ·refine wI hF (fun h20 hF => ?_) (fun h20 hF => ?_)
    ·cases hΦ _ (Rn_some hF)
     refine wW ?_
     try simp [go_sem, g]
    ·refine wW ?_
     refine wC hF [.sh, .sh, .sh] c_impl_Group_images (fun z21 hF => ?_)
     try simp [go_sem, g]
     try intros
     refine pw_wk ?_
     refine wS hF (fun x24 => []) (fun x24 hF => ?_) fun _ hj22 hr23 hF => ?_
     ·cases hΦ _ (Rn_some hF)
      refine wW ?_
      try simp [go_sem, g]
     ·refine wB ?_
      obtain ⟨b38, hb39, hψ29⟩ := hF
      refine pR hb39 (fun i26 s25 => [(3, .v (vC a3)), (5, .bl [.int .i64 a0.P, .int .i64 a0.Q, .int .i64 a0.G]), (9, .bl [vC a4.Commits, vC a4.Challenges, vC a4.Responses]), (11, .v (.int .i64 z14.1)), (78, .v (vD z21)), (79, .v (.int .i64 (z21.length : Int))), (80, .v (.int .i64 i26))]) (fun s25 _ hN40 => ?_) (fun i26 s25 _ _ hi30 hi31 ho27 hg28 hF => ?_)
      ·subst hN40
       refine wW ?_
       refine wf ?_
       exact wT (hj22 _) hψ29
      ·refine wW ?_
       refine wt ?_ (hb := by simp [go_sem, g, hi30, hi31])
       refine wW ?_
       refine wB ?_
       obtain ⟨x32, g, hF⟩ := Rx g hF
       refine wK [3, 5, 9, 11, 13, 14, 78, 79, 80] ?_
       refine wX D285_9 follows ?_
       obtain ⟨x33, g, hF⟩ := Rx g hF
       obtain ⟨x34, g, hF⟩ := Rx g hF
       refine wD hF c_impl_Group_pow (fun z35 hF => ?_)
       refine wC hF [.sh, .sh] c_impl_Group_mul (fun z36 hF => ?_)
       refine wK [3, 5, 9, 11, 78, 79, 80, 101] ?_
       refine wI hF (fun h37 hF => ?_) (fun h37 hF => ?_)
       ·cases ho27 _ (Rn_some hF)
        cases hΦ _ (hr23 _ hψ29)
        refine wW ?_
        try simp [go_sem, g]
       ·refine wW ?_
        exact wT (hg28 ()) (Rn_some hF) (a := by simp [go_sem, g, wr_i hi30 hi31 (by assumption)])
   ·refine wG hF (fun h18 hF => ?_) fun h18 hF => ?_
    ·try simp [go_sem, g, h18]
     exact wT (hj15 _) (Rn_some hF)
    ·obtain ⟨x19, g, hF⟩ := Rxn g 0 hF
     try simp [go_sem, g, h18]
     exact wT (hj15 _) (Rn_some hF)
 ·refine wX D285_1 follows ?_
  try simp [go_sem, g]
  try intros
  refine wH hF (fun h4 hF => ?_) fun h4 hF => ?_
  ·try simp [go_sem, g, h4]
   exact wT (hj1 _) (Rn_some hF)
  ·try simp [go_sem, g, h4]
   try intros
   refine wH hF (fun h5 hF => ?_) fun h5 hF => ?_
   ·try simp [go_sem, g, h5]
    exact wT (hj1 _) (Rn_some hF)
   ·obtain ⟨x6, g, hF⟩ := Rxn g 0 hF
    try simp [go_sem, g, h5]
    try intros
    refine wH hF (fun h7 hF => ?_) fun h7 hF => ?_
    ·try simp [go_sem, g, h7]
     exact wT (hj1 _) (Rn_some hF)
    ·try simp [go_sem, g, h7]
     refine wC hF [.sh, .sh] c_impl_Group_hasAll (fun z8 hF => ?_)
     try simp [go_sem, g, h7]
     refine wH hF (fun h9 hF => ?_) fun h9 hF => ?_
     ·try simp [go_sem, g, h9]
      exact wT (hj1 _) (Rn_some hF)
     ·try simp [go_sem, g, h9]
      refine wC hF [.sh, .sh] c_impl_Group_areExps (fun z10 hF => ?_)
      try simp [go_sem, g, h9]
      exact wT (hj1 _) (Rn_some hF)
noncomputable def F_impl_VerifyLinear (a0 : Group) (a1 : ByteArray) (a2 : (List (List Int))) (a3 : (List Int)) (a4 : Proof) : Option (Bool × Bool) :=
 (((F_impl_IsValidGroup a0).bind fun z4 =>
 if (!z4) = true then (
 some true) else (
 (F_impl_isLabel a1).bind fun z6 =>
 if (!z6) = true then (
 some true) else (
 (F_impl_Group_areRows a0 a2).bind fun z8 =>
 if (!z8) = true then (
 some true) else (
 if ((a3.length : Int) != (a2.length : Int)) = true then (
 some true) else (
 (F_impl_Group_hasAll a0 a3).bind fun z11 =>
 some (!z11))))) : Option (Bool)).bind fun x3 =>
 if x3 = true then (
 some (false, false)) else (
 (F_impl_Group_verifyLinear a0 a1 a2 a3 a4).bind fun z13 =>
 some (z13, true)))
theorem c_impl_VerifyLinear : ∀ {a0} {a1} {a2} {a3} {a4} {r}, F_impl_VerifyLinear a0 a1 a2 a3 a4 = some r → PCalls Tryz.prog 196 [(.sh, vE a0), (.sh, .str a1), (.sh, vI a2), (.sh, vC a3), (.sh, vS a4)] (Eo (.tup [.bool r.1, .bool r.2]) [.junk, .junk, .junk, .junk, .junk]) := by
 intro a0 a1 a2 a3 a4 r hr
 apply pF 45 [] [] [] [.tmp 10, .tmp 11] hr cl196 Tryz.func196
 intro Φ hΦ hF g
 unfold F_impl_VerifyLinear at hF
 refine wW ?_
 refine wJ hF (fun x3 => [(1, .v (.str a1)), (2, .v (vI a2)), (3, .v (vC a3)), (5, .bl [.int .i64 a0.P, .int .i64 a0.Q, .int .i64 a0.G]), (9, .bl [vC a4.Commits, vC a4.Challenges, vC a4.Responses]), (38, .v (.bool x3))]) (fun x3 hF => ?_) fun _ hj1 hF => ?_
 ·refine wI hF (fun h12 hF => ?_) (fun h12 hF => ?_)
  ·cases hΦ _ (Rn_some hF)
   refine wW ?_
   try simp [go_sem, g]
  ·refine wW ?_
   refine wC hF [.sh, .sh, .sh, .sh, .sh] c_impl_Group_verifyLinear (fun z13 hF => ?_)
   refine wK [10, 11] ?_
   cases hΦ _ (Rn_some hF)
   try simp [go_sem, g]
 ·refine wC hF [.sh] c_impl_IsValidGroup (fun z4 hF => ?_)
  refine wG hF (fun h5 hF => ?_) fun h5 hF => ?_
  ·try simp [go_sem, g, h5]
   exact wT (hj1 _) (Rn_some hF)
  ·try simp [go_sem, g, h5]
   refine wC hF [.sh] c_impl_isLabel (fun z6 hF => ?_)
   try simp [go_sem, g, h5]
   refine wG hF (fun h7 hF => ?_) fun h7 hF => ?_
   ·try simp [go_sem, g, h7]
    exact wT (hj1 _) (Rn_some hF)
   ·try simp [go_sem, g, h7]
    refine wC hF [.sh, .sh] c_impl_Group_areRows (fun z8 hF => ?_)
    try simp [go_sem, g, h7]
    refine wG hF (fun h9 hF => ?_) fun h9 hF => ?_
    ·try simp [go_sem, g, h9]
     exact wT (hj1 _) (Rn_some hF)
    ·try simp [go_sem, g, h9]
     try intros
     refine wG hF (fun h10 hF => ?_) fun h10 hF => ?_
     ·try simp [go_sem, g, h10]
      exact wT (hj1 _) (Rn_some hF)
     ·try simp [go_sem, g, h10]
      refine wC hF [.sh, .sh] c_impl_Group_hasAll (fun z11 hF => ?_)
      try simp [go_sem, g, h10]
      exact wT (hj1 _) (Rn_some hF)
noncomputable def F_impl_VerifyKnowledge (a0 : Group) (a1 : ByteArray) (a2 : Int) (a3 : Int) (a4 : Proof) : Option (Bool × Bool) :=
 (F_impl_VerifyLinear a0 a1 [[a2]] [a3] a4).bind fun z1 =>
 some (z1.1, z1.2)
theorem c_impl_VerifyKnowledge : ∀ {a0} {a1} {a2} {a3} {a4} {r}, F_impl_VerifyKnowledge a0 a1 a2 a3 a4 = some r → PCalls Tryz.prog 84 [(.sh, vE a0), (.sh, .str a1), (.sh, .int .i64 a2), (.sh, .int .i64 a3), (.sh, vS a4)] (Eo (.tup [.bool r.1, .bool r.2]) [.junk, .junk, .junk, .junk, .junk]) := by
 intro a0 a1 a2 a3 a4 r hr
 apply pF 23 [] [] [] [.tmp 10, .tmp 11] hr cl84 Tryz.func84
 intro Φ hΦ hF g
 unfold F_impl_VerifyKnowledge at hF
 refine wW ?_
 refine wC hF [.sh, .sh, .sh, .sh, .sh] c_impl_VerifyLinear (fun z1 hF => ?_)
 refine wK [10, 11] ?_
 cases hΦ _ (Rn_some hF)
 try simp [go_sem, g]
@[go_sem] def D12_3 : List DE := [d2 0 [3] 3 3, d1 1 [3] 3, d2 2 [13] 3 13, d1 3 [4] 4, d2 4 [15] 4 15, d0 5 [16], d0 6 [17], d2 7 [5] 5 5, d3 8 [12, 14, 18, 19], d0 9 [20], d0 10 [20], d0 11 [21], d0 12 [22]]
noncomputable def F_impl_VerifyDealer (a0 : Group) (a1 : Dealing) (a2 : Proof) : Option (Bool × Bool) :=
 (F_impl_IsValidDealing a0 a1).bind fun z1 =>
 if (!z1) = true then (
 some (false, false)) else (
 (ix a1.Commits 0).bind fun x3 =>
 (F_impl_VerifyKnowledge a0 (⟨#[100, 101, 97, 108, 101, 114]⟩ : ByteArray) a0.G x3 a2).bind fun z4 =>
 some (z4.1, z4.2))
theorem c_impl_VerifyDealer : ∀ {a0} {a1} {a2} {r}, F_impl_VerifyDealer a0 a1 a2 = some r → PCalls Tryz.prog 12 [(.sh, vE a0), (.sh, vM a1), (.sh, vS a2)] (Eo (.tup [.bool r.1, .bool r.2]) [.junk, .junk, .junk]) := by
 intro a0 a1 a2 r hr
 apply pF 23 [] [] [] [.tmp 6, .tmp 7] hr cl12 Tryz.func12
 intro Φ hΦ hF g
 unfold F_impl_VerifyDealer at hF
 refine wW ?_
 refine wC hF [.sh, .sh] c_impl_IsValidDealing (fun z1 hF => ?_)
 refine wW ?_
 refine wI hF (fun h2 hF => ?_) (fun h2 hF => ?_)
 ·refine wK [6, 7] ?_
  cases hΦ _ (Rn_some hF)
  try simp [go_sem, g]
 ·refine wW ?_
  refine wX D12_3 follows ?_
  obtain ⟨x3, g, hF⟩ := Rxn g 0 hF
  refine wC hF [.sh, .sh, .sh, .sh, .sh] c_impl_VerifyKnowledge (fun z4 hF => ?_)
  refine wK [6, 7] ?_
  cases hΦ _ (Rn_some hF)
  try simp [go_sem, g]
noncomputable def F_spec_sCommits (a0 : Group) (a1 : (List Int)) : Option (Bool) :=
 (((F_spec_l1In (a1.length : Int) 1 7).bind fun z4 =>
 if z4 = true then (
 (F_spec_gIs a0 a1).bind fun z6 =>
 some z6) else (
 some false) : Option (Bool)).bind fun x3 =>
 some x3)
theorem c_spec_sCommits : ∀ {a0} {a1} {r}, F_spec_sCommits a0 a1 = some r → PCalls Tryz.prog 101 [(.sh, vE a0), (.sh, vC a1)] (Eo (.bool r) [.junk, .junk]) := by
 intro a0 a1 r hr
 apply pF 13 [] [] [] [.tmp 4] hr cl101 Tryz.func101
 intro Φ hΦ hF g
 unfold F_spec_sCommits at hF
 refine wW ?_
 refine wJ hF (fun x3 => [(4, .v (.bool x3))]) (fun x3 hF => ?_) fun _ hj1 hF => ?_
 ·cases hΦ _ (Rn_some hF)
  try simp [go_sem, g]
 ·try simp [go_sem, g]
  try intros
  refine wC hF [.sh, .sh, .sh] c_spec_l1In (fun z4 hF => ?_)
  refine wG hF (fun h5 hF => ?_) fun h5 hF => ?_
  ·try simp [go_sem, g, h5]
   refine wC hF [.sh, .sh] c_spec_gIs (fun z6 hF => ?_)
   try simp [go_sem, g, h5]
   exact wT (hj1 _) (Rn_some hF)
  ·try simp [go_sem, g, h5]
   exact wT (hj1 _) (Rn_some hF)
noncomputable def F_spec_sDealing (a0 : Group) (a1 : Dealing) : Option (Bool) :=
 (((F_spec_sCommits a0 a1.Commits).bind fun z4 =>
 if z4 = true then (
 (F_spec_l1In (a1.Shares.length : Int) (a1.Commits.length : Int) 7).bind fun z6 =>
 if z6 = true then (
 (F_spec_gExps a0 a1.Shares).bind fun z8 =>
 some z8) else (
 some false)) else (
 some false) : Option (Bool)).bind fun x3 =>
 some x3)
theorem c_spec_sDealing : ∀ {a0} {a1} {r}, F_spec_sDealing a0 a1 = some r → PCalls Tryz.prog 85 [(.sh, vE a0), (.sh, vM a1)] (Eo (.bool r) [.junk, .junk]) := by
 intro a0 a1 r hr
 apply pF 24 [] [] [] [.tmp 4] hr cl85 Tryz.func85
 intro Φ hΦ hF g
 unfold F_spec_sDealing at hF
 refine wW ?_
 refine wJ hF (fun x3 => [(4, .v (.bool x3))]) (fun x3 hF => ?_) fun _ hj1 hF => ?_
 ·cases hΦ _ (Rn_some hF)
  try simp [go_sem, g]
 ·refine wC hF [.sh, .sh] c_spec_sCommits (fun z4 hF => ?_)
  refine wG hF (fun h5 hF => ?_) fun h5 hF => ?_
  ·try simp [go_sem, g, h5]
   try intros
   refine wC hF [.sh, .sh, .sh] c_spec_l1In (fun z6 hF => ?_)
   try simp [go_sem, g, h5]
   refine wG hF (fun h7 hF => ?_) fun h7 hF => ?_
   ·try simp [go_sem, g, h7]
    refine wC hF [.sh, .sh] c_spec_gExps (fun z8 hF => ?_)
    try simp [go_sem, g, h7]
    exact wT (hj1 _) (Rn_some hF)
   ·try simp [go_sem, g, h7]
    exact wT (hj1 _) (Rn_some hF)
  ·try simp [go_sem, g, h5]
   exact wT (hj1 _) (Rn_some hF)
@[go_sem] def D288_1 : List DE := [d1 0 [9] 9, d2 1 [14] 9 14, d0 2 [15], d0 3 [2], d0 4 [17], d0 5 [16, 18], d0 6 [19], d1 7 [9, 20] 9, d2 8 [21, 20] 9 21, d0 9 [22, 20], d0 10 [23, 20], d0 11 [20, 24], d0 12 [25], d1 13 [9, 26] 9, d2 14 [27, 26] 9 27, d0 15 [28, 26], d0 16 [2, 26], d0 17 [30, 26], d0 18 [31, 26], d0 19 [32, 26], d0 20 [29, 33, 26], d0 21 [26, 34], d0 22 [35], d2 23 [5, 36] 5 5, d1 24 [9, 36] 9, d2 25 [38, 36] 9 38, d3 26 [37, 39, 36], d0 27 [40, 36], d0 28 [36, 41], d0 29 [42], d2 30 [5, 43] 5 5, d1 31 [9, 43] 9, d2 32 [45, 43] 9 45, d3 33 [44, 46, 43], d0 34 [47, 43], d0 35 [43, 48]]
@[go_sem] def D288_4 : List DE := [d0 0 [11], d2 1 [5] 5 5, d0 2 [1], d0 3 [2], d0 4 [3], d1 5 [9] 9, d2 6 [59] 9 59, d3 7 [57, 58, 60], d3 8 [55, 56, 61], d0 9 [54, 62]]
@[go_sem] def D288_9 : List DE := [d2 0 [5] 5 5, d0 1 [13], d1 2 [9] 9, d2 3 [73] 9 73, d2 5 [5] 5 5, d1 6 [9] 9, d2 7 [77] 9 77, d0 8 [12], d0 9 [78, 79], d0 10 [80], d2 11 [5] 5 5, d0 12 [3], d0 13 [12], d0 14 [83, 84], d0 15 [85], d0 16 [11], ⟨4, [71, 72, 74], [], none, false, true, false⟩, ⟨17, [82, 86, 87], [], none, false, true, false⟩, d0 18 [81, 88], ⟨19, [76, 89], [], none, true, true, true⟩, d0 20 [75, 90]]
noncomputable def F_spec_sVerify (a0 : Group) (a1 : ByteArray) (a2 : (List (List Int))) (a3 : (List Int)) (a4 : Proof) : Option (Bool) :=
 ((if ((a4.Commits.length : Int) != (a2.length : Int)) = true then (
 some true) else (
 if ((a4.Challenges.length : Int) != 1) = true then (
 some true) else (
 (ix a2 0).bind fun x6 =>
 if ((a4.Responses.length : Int) != (x6.length : Int)) = true then (
 some true) else (
 (F_spec_gIs a0 a4.Commits).bind fun z8 =>
 if (!z8) = true then (
 some true) else (
 (F_spec_gExps a0 a4.Responses).bind fun z10 =>
 some (!z10))))) : Option (Bool)).bind fun x3 =>
 if x3 = true then (
 some false) else (
 (ix a4.Challenges 0).bind fun x12 =>
 (F_spec_sStatement a2 a3 a4.Commits).bind fun z13 =>
 (F_spec_hChallenge a0 a1 z13).bind fun z14 =>
 if (x12 != z14) = true then (
 some false) else (
 ((rloop (σ := Unit) (fun i20 s19 =>
 (ix a2 i20).bind fun x26 =>
 (ix a4.Commits i20).bind fun x27 =>
 (ix a3 i20).bind fun x28 =>
 (F_spec_gProd a0 x26 a4.Responses).bind fun z29 =>
 (F_spec_gExp a0 x28 x12).bind fun z30 =>
 (F_spec_gMul a0 [x27, z30]).bind fun z31 =>
 if (z29 != z31) = true then (
 some (.out (.inr false))) else (
 some (.go ()))) (fun s19 => .inl ()) (a2.length) 0 () : Option (Unit ⊕ Bool)).bind (Sum.elim (fun x18 =>
 some true) some)))))
theorem c_spec_sVerify : ∀ {a0} {a1} {a2} {a3} {a4} {r}, F_spec_sVerify a0 a1 a2 a3 a4 = some r → PCalls Tryz.prog 288 [(.sh, vE a0), (.sh, .str a1), (.sh, vI a2), (.sh, vC a3), (.sh, vS a4)] (Eo (.bool r) [.junk, .junk, .junk, .junk, .junk]) := by
 intro a0 a1 a2 a3 a4 r hr
 apply pF 93 [] [] [] [.tmp 10] hr cl288 Tryz.func288
 intro Φ hΦ hF g
 unfold F_spec_sVerify at hF
 refine wW ?_
 refine wJ hF (fun x3 => [(1, .v (.str a1)), (2, .v (vI a2)), (3, .v (vC a3)), (5, .bl [.int .i64 a0.P, .int .i64 a0.Q, .int .i64 a0.G]), (9, .bl [vC a4.Commits, vC a4.Challenges, vC a4.Responses]), (49, .v (.bool x3))]) (fun x3 hF => ?_) fun _ hj1 hF => ?_
 ·refine wI hF (fun h11 hF => ?_) (fun h11 hF => ?_)
  ·cases hΦ _ (Rn_some hF)
   refine wW ?_
   try simp [go_sem, g]
  ·obtain ⟨x12, g, hF⟩ := Rxn g 0 hF
   iterate 2 refine wW ?_
   refine wX D288_4 follows ?_
   refine wC hF [.sh, .sh, .sh] c_spec_sStatement (fun z13 hF => ?_)
   refine wC hF [.sh, .sh, .sh] c_spec_hChallenge (fun z14 hF => ?_)
   refine wK [2, 3, 5, 9, 11, 63] ?_
   refine wI hF (fun h15 hF => ?_) (fun h15 hF => ?_)
   ·cases hΦ _ (Rn_some hF)
    refine wW ?_
    try simp [go_sem, g]
   ·iterate 2 (try simp [go_sem, g]; try intros; refine pw_wk ?_)
    refine wS hF (fun x18 => []) (fun x18 hF => ?_) fun _ hj16 hr17 hF => ?_
    ·cases hΦ _ (Rn_some hF)
     refine wW ?_
     try simp [go_sem, g]
    ·refine wB ?_
     obtain ⟨b33, hb34, hψ23⟩ := hF
     refine pR hb34 (fun i20 s19 => [(3, .v (vC a3)), (5, .bl [.int .i64 a0.P, .int .i64 a0.Q, .int .i64 a0.G]), (9, .bl [vC a4.Commits, vC a4.Challenges, vC a4.Responses]), (11, .v (.int .i64 x12)), (64, .v (vI a2)), (65, .v (.int .i64 (a2.length : Int))), (66, .v (.int .i64 i20))]) (fun s19 _ hN35 => ?_) (fun i20 s19 _ _ hi24 hi25 ho21 hg22 hF => ?_)
     ·subst hN35
      refine wW ?_
      refine wf ?_
      exact wT (hj16 _) hψ23
     ·refine wW ?_
      refine wt ?_ (hb := by simp [go_sem, g, hi24, hi25])
      refine wW ?_
      refine wB ?_
      obtain ⟨x26, g, hF⟩ := Rx g hF
      refine wW ?_
      refine wX D288_9 follows ?_
      obtain ⟨x27, g, hF⟩ := Rx g hF
      obtain ⟨x28, g, hF⟩ := Rx g hF
      refine wD hF c_spec_gProd (fun z29 hF => ?_)
      refine wD hF c_spec_gExp (fun z30 hF => ?_)
      refine wC hF [.sh, .sh] c_spec_gMul (fun z31 hF => ?_)
      refine wK [3, 5, 9, 11, 64, 65, 66, 91] ?_
      refine wI hF (fun h32 hF => ?_) (fun h32 hF => ?_)
      ·cases ho21 _ (Rn_some hF)
       cases hΦ _ (hr17 _ hψ23)
       refine wW ?_
       try simp [go_sem, g]
      ·refine wW ?_
       exact wT (hg22 ()) (Rn_some hF) (a := by simp [go_sem, g, wr_i hi24 hi25 (by assumption)])
 ·refine wX D288_1 follows ?_
  try simp [go_sem, g]
  try intros
  refine wH hF (fun h4 hF => ?_) fun h4 hF => ?_
  ·try simp [go_sem, g, h4]
   exact wT (hj1 _) (Rn_some hF)
  ·try simp [go_sem, g, h4]
   try intros
   refine wH hF (fun h5 hF => ?_) fun h5 hF => ?_
   ·try simp [go_sem, g, h5]
    exact wT (hj1 _) (Rn_some hF)
   ·obtain ⟨x6, g, hF⟩ := Rxn g 0 hF
    try simp [go_sem, g, h5]
    try intros
    refine wH hF (fun h7 hF => ?_) fun h7 hF => ?_
    ·try simp [go_sem, g, h7]
     exact wT (hj1 _) (Rn_some hF)
    ·try simp [go_sem, g, h7]
     refine wC hF [.sh, .sh] c_spec_gIs (fun z8 hF => ?_)
     try simp [go_sem, g, h7]
     refine wH hF (fun h9 hF => ?_) fun h9 hF => ?_
     ·try simp [go_sem, g, h9]
      exact wT (hj1 _) (Rn_some hF)
     ·try simp [go_sem, g, h9]
      refine wC hF [.sh, .sh] c_spec_gExps (fun z10 hF => ?_)
      try simp [go_sem, g, h9]
      exact wT (hj1 _) (Rn_some hF)
noncomputable def F_spec_VerifyLinear (a0 : Group) (a1 : ByteArray) (a2 : (List (List Int))) (a3 : (List Int)) (a4 : Proof) : Option (Bool × Bool) :=
 (((F_spec_sLabel a0 a1).bind fun z4 =>
 if (!z4) = true then (
 some true) else (
 (F_spec_sBases a0 a2).bind fun z6 =>
 if (!z6) = true then (
 some true) else (
 if ((a3.length : Int) != (a2.length : Int)) = true then (
 some true) else (
 (F_spec_gIs a0 a3).bind fun z9 =>
 some (!z9)))) : Option (Bool)).bind fun x3 =>
 if x3 = true then (
 some (false, false)) else (
 (F_spec_sVerify a0 a1 a2 a3 a4).bind fun z11 =>
 some (z11, true)))
theorem c_spec_VerifyLinear : ∀ {a0} {a1} {a2} {a3} {a4} {r}, F_spec_VerifyLinear a0 a1 a2 a3 a4 = some r → PCalls Tryz.prog 197 [(.sh, vE a0), (.sh, .str a1), (.sh, vI a2), (.sh, vC a3), (.sh, vS a4)] (Eo (.tup [.bool r.1, .bool r.2]) [.junk, .junk, .junk, .junk, .junk]) := by
 intro a0 a1 a2 a3 a4 r hr
 apply pF 41 [] [] [] [.tmp 10, .tmp 11] hr cl197 Tryz.func197
 intro Φ hΦ hF g
 unfold F_spec_VerifyLinear at hF
 refine wW ?_
 refine wJ hF (fun x3 => [(1, .v (.str a1)), (2, .v (vI a2)), (3, .v (vC a3)), (5, .bl [.int .i64 a0.P, .int .i64 a0.Q, .int .i64 a0.G]), (9, .bl [vC a4.Commits, vC a4.Challenges, vC a4.Responses]), (34, .v (.bool x3))]) (fun x3 hF => ?_) fun _ hj1 hF => ?_
 ·refine wI hF (fun h10 hF => ?_) (fun h10 hF => ?_)
  ·cases hΦ _ (Rn_some hF)
   refine wW ?_
   try simp [go_sem, g]
  ·refine wW ?_
   refine wC hF [.sh, .sh, .sh, .sh, .sh] c_spec_sVerify (fun z11 hF => ?_)
   refine wK [10, 11] ?_
   cases hΦ _ (Rn_some hF)
   try simp [go_sem, g]
 ·refine wC hF [.sh, .sh] c_spec_sLabel (fun z4 hF => ?_)
  refine wG hF (fun h5 hF => ?_) fun h5 hF => ?_
  ·try simp [go_sem, g, h5]
   exact wT (hj1 _) (Rn_some hF)
  ·try simp [go_sem, g, h5]
   refine wC hF [.sh, .sh] c_spec_sBases (fun z6 hF => ?_)
   try simp [go_sem, g, h5]
   refine wG hF (fun h7 hF => ?_) fun h7 hF => ?_
   ·try simp [go_sem, g, h7]
    exact wT (hj1 _) (Rn_some hF)
   ·try simp [go_sem, g, h7]
    try intros
    refine wG hF (fun h8 hF => ?_) fun h8 hF => ?_
    ·try simp [go_sem, g, h8]
     exact wT (hj1 _) (Rn_some hF)
    ·try simp [go_sem, g, h8]
     refine wC hF [.sh, .sh] c_spec_gIs (fun z9 hF => ?_)
     try simp [go_sem, g, h8]
     exact wT (hj1 _) (Rn_some hF)
noncomputable def F_spec_VerifyKnowledge (a0 : Group) (a1 : ByteArray) (a2 : Int) (a3 : Int) (a4 : Proof) : Option (Bool × Bool) :=
 (F_spec_VerifyLinear a0 a1 [[a2]] [a3] a4).bind fun z1 =>
 some (z1.1, z1.2)
theorem c_spec_VerifyKnowledge : ∀ {a0} {a1} {a2} {a3} {a4} {r}, F_spec_VerifyKnowledge a0 a1 a2 a3 a4 = some r → PCalls Tryz.prog 86 [(.sh, vE a0), (.sh, .str a1), (.sh, .int .i64 a2), (.sh, .int .i64 a3), (.sh, vS a4)] (Eo (.tup [.bool r.1, .bool r.2]) [.junk, .junk, .junk, .junk, .junk]) := by
 intro a0 a1 a2 a3 a4 r hr
 apply pF 23 [] [] [] [.tmp 10, .tmp 11] hr cl86 Tryz.func86
 intro Φ hΦ hF g
 unfold F_spec_VerifyKnowledge at hF
 refine wW ?_
 refine wC hF [.sh, .sh, .sh, .sh, .sh] c_spec_VerifyLinear (fun z1 hF => ?_)
 refine wK [10, 11] ?_
 cases hΦ _ (Rn_some hF)
 try simp [go_sem, g]
@[go_sem] def D13_3 : List DE := [d2 0 [3] 3 3, d1 1 [3] 3, d2 2 [18] 3 18, d1 3 [4] 4, d2 4 [20] 4 20, d0 5 [21], d0 6 [22], d2 7 [5] 5 5, d3 8 [17, 19, 23, 24], d0 9 [25], d0 10 [25], d0 11 [26], d0 12 [27]]
noncomputable def F_spec_VerifyDealer (a0 : Group) (a1 : Dealing) (a2 : Proof) : Option (Bool × Bool) :=
 (((F_spec_sGroup a0).bind fun z4 =>
 if (!z4) = true then (
 some true) else (
 (F_spec_sDealing a0 a1).bind fun z6 =>
 some (!z6)) : Option (Bool)).bind fun x3 =>
 if x3 = true then (
 some (false, false)) else (
 (ix a1.Commits 0).bind fun x8 =>
 (F_spec_VerifyKnowledge a0 (⟨#[100, 101, 97, 108, 101, 114]⟩ : ByteArray) a0.G x8 a2).bind fun z9 =>
 some (z9.1, z9.2)))
theorem c_spec_VerifyDealer : ∀ {a0} {a1} {a2} {r}, F_spec_VerifyDealer a0 a1 a2 = some r → PCalls Tryz.prog 13 [(.sh, vE a0), (.sh, vM a1), (.sh, vS a2)] (Eo (.tup [.bool r.1, .bool r.2]) [.junk, .junk, .junk]) := by
 intro a0 a1 a2 r hr
 apply pF 28 [] [] [] [.tmp 6, .tmp 7] hr cl13 Tryz.func13
 intro Φ hΦ hF g
 unfold F_spec_VerifyDealer at hF
 refine wW ?_
 refine wJ hF (fun x3 => [(3, .bl [.int .i64 a0.P, .int .i64 a0.Q, .int .i64 a0.G]), (4, .bl [vC a1.Commits, vC a1.Shares]), (5, .bl [vC a2.Commits, vC a2.Challenges, vC a2.Responses]), (16, .v (.bool x3))]) (fun x3 hF => ?_) fun _ hj1 hF => ?_
 ·refine wI hF (fun h7 hF => ?_) (fun h7 hF => ?_)
  ·cases hΦ _ (Rn_some hF)
   refine wW ?_
   try simp [go_sem, g]
  ·refine wW ?_
   refine wX D13_3 follows ?_
   obtain ⟨x8, g, hF⟩ := Rxn g 0 hF
   refine wC hF [.sh, .sh, .sh, .sh, .sh] c_spec_VerifyKnowledge (fun z9 hF => ?_)
   refine wK [6, 7] ?_
   cases hΦ _ (Rn_some hF)
   try simp [go_sem, g]
 ·refine wC hF [.sh] c_spec_sGroup (fun z4 hF => ?_)
  refine wG hF (fun h5 hF => ?_) fun h5 hF => ?_
  ·try simp [go_sem, g, h5]
   exact wT (hj1 _) (Rn_some hF)
  ·try simp [go_sem, g, h5]
   refine wC hF [.sh, .sh] c_spec_sDealing (fun z6 hF => ?_)
   try simp [go_sem, g, h5]
   exact wT (hj1 _) (Rn_some hF)
@[go_sem] def D15_6 : List DE := [d0 0 [0], d0 1 [5], d0 2 [16, 17], d0 3 [18], d0 4 [1], d0 5 [5], d0 6 [20, 21], d0 7 [22], d0 8 [19, 23]]
noncomputable def F_laws_qInts (a0 : (List Int)) (a1 : (List Int)) : Option (Bool) :=
 if ((a0.length : Int) != (a1.length : Int)) = true then (
 some false) else (
 ((rloop (σ := Unit) (fun i6 s5 =>
 (ix a0 i6).bind fun x12 =>
 (ix a1 i6).bind fun x13 =>
 if (x12 != x13) = true then (
 some (.out (.inr false))) else (
 some (.go ()))) (fun s5 => .inl ()) (a0.length) 0 () : Option (Unit ⊕ Bool)).bind (Sum.elim (fun x4 =>
 some true) some)))
theorem c_laws_qInts : ∀ {a0} {a1} {r}, F_laws_qInts a0 a1 = some r → PCalls Tryz.prog 15 [(.sh, vC a0), (.sh, vC a1)] (Eo (.bool r) [.junk, .junk]) := by
 intro a0 a1 r hr
 apply pF 26 [] [] [] [.tmp 4] hr cl15 Tryz.func15
 intro Φ hΦ hF g
 unfold F_laws_qInts at hF
 iterate 2 (try simp [go_sem, g]; try intros; refine pw_wk ?_)
 refine wI hF (fun h1 hF => ?_) (fun h1 hF => ?_)
 ·cases hΦ _ (Rn_some hF)
  refine wW ?_
  try simp [go_sem, g]
 ·iterate 2 (try simp [go_sem, g]; try intros; refine pw_wk ?_)
  refine wS hF (fun x4 => []) (fun x4 hF => ?_) fun _ hj2 hr3 hF => ?_
  ·refine wK [4] ?_
   cases hΦ _ (Rn_some hF)
   try simp [go_sem, g]
  ·refine wB ?_
   obtain ⟨b15, hb16, hψ9⟩ := hF
   refine pR hb16 (fun i6 s5 => [(0, .v (vC a0)), (1, .v (vC a1)), (12, .v (.int .i64 (a0.length : Int))), (13, .v (.int .i64 i6))]) (fun s5 _ hN17 => ?_) (fun i6 s5 _ _ hi10 hi11 ho7 hg8 hF => ?_)
   ·subst hN17
    refine wW ?_
    refine wf ?_
    exact wT (hj2 _) hψ9
   ·refine wK [0, 1, 12, 13, 14] ?_
    refine wt ?_ (hb := by simp [go_sem, g, hi10, hi11])
    refine wW ?_
    refine wB ?_
    refine wW ?_
    refine wX D15_6 follows ?_
    obtain ⟨x12, g, hF⟩ := Rx g hF
    obtain ⟨x13, g, hF⟩ := Rx g hF
    refine wK [0, 1, 12, 13, 24] ?_
    refine wI hF (fun h14 hF => ?_) (fun h14 hF => ?_)
    ·cases ho7 _ (Rn_some hF)
     cases hΦ _ (hr3 _ hψ9)
     refine wW ?_
     try simp [go_sem, g]
    ·refine wW ?_
     exact wT (hg8 ()) (Rn_some hF) (a := by simp [go_sem, g, wr_i hi10 hi11 (by assumption)])
noncomputable def F_laws_qDealing (a0 : Dealing) (a1 : Dealing) : Option (Bool) :=
 (((F_laws_qInts a0.Commits a1.Commits).bind fun z4 =>
 if z4 = true then (
 (F_laws_qInts a0.Shares a1.Shares).bind fun z6 =>
 some z6) else (
 some false) : Option (Bool)).bind fun x3 =>
 some x3)
theorem c_laws_qDealing : ∀ {a0} {a1} {r}, F_laws_qDealing a0 a1 = some r → PCalls Tryz.prog 14 [(.sh, vM a0), (.sh, vM a1)] (Eo (.bool r) [.junk, .junk]) := by
 intro a0 a1 r hr
 apply pF 17 [] [] [] [.tmp 4] hr cl14 Tryz.func14
 intro Φ hΦ hF g
 unfold F_laws_qDealing at hF
 refine wW ?_
 refine wJ hF (fun x3 => [(4, .v (.bool x3))]) (fun x3 hF => ?_) fun _ hj1 hF => ?_
 ·cases hΦ _ (Rn_some hF)
  try simp [go_sem, g]
 ·refine wC hF [.sh, .sh] c_laws_qInts (fun z4 hF => ?_)
  refine wG hF (fun h5 hF => ?_) fun h5 hF => ?_
  ·try simp [go_sem, g, h5]
   refine wC hF [.sh, .sh] c_laws_qInts (fun z6 hF => ?_)
   try simp [go_sem, g, h5]
   exact wT (hj1 _) (Rn_some hF)
  ·try simp [go_sem, g, h5]
   exact wT (hj1 _) (Rn_some hF)
noncomputable def F_impl_Group_hasDealings_1_ (a0 : Dealing) (a1c0 : Int) (a1c1 : Int) (a1c2 : Int) : Option (Bool) :=
 (F_impl_Group_hasDealing (Group.mk a1c0 a1c1 a1c2) a0).bind fun z1 =>
 some (!z1)
theorem c_impl_Group_hasDealings_1_ : ∀ {a0} {a1c0} {a1c1} {a1c2} {r}, F_impl_Group_hasDealings_1_ a0 a1c0 a1c1 a1c2 = some r → PCalls Tryz.prog 200 [(.sh, vM a0), (.sh, .fp [.int .i64 a1c0, .int .i64 a1c1, .int .i64 a1c2])] (Eo (.bool r) [.junk, .junk]) := by
 intro a0 a1c0 a1c1 a1c2 r hr
 apply pF 8 [] [] [] [.tmp 3] hr cl200 Tryz.func200
 intro Φ hΦ hF g
 unfold F_impl_Group_hasDealings_1_ at hF
 refine wW ?_
 refine wC hF [.sh, .sh] c_impl_Group_hasDealing (fun z1 hF => ?_)
 cases hΦ _ (Rn_some hF)
 refine wW ?_
 try simp [go_sem, g]
noncomputable def F_slices_IndexFunc_impl_Dealing_impl_Dealing__impl_Group_hasDealings_1 (a0 : (List Dealing)) (a1u0c0 : Int) (a1u0c1 : Int) (a1u0c2 : Int) : Option (Int) :=
 ((rloop (σ := Unit) (fun i5 s4 =>
 (ix a0 i5).bind fun x11 =>
 (F_impl_Group_hasDealings_1_ x11 a1u0c0 a1u0c1 a1u0c2).bind fun z12 =>
 if z12 = true then (
 some (.out (.inr i5))) else (
 some (.go ()))) (fun s4 => .inl ()) (a0.length) 0 () : Option (Unit ⊕ Int)).bind (Sum.elim (fun x3 =>
 some (-1)) some))
theorem c_slices_IndexFunc_impl_Dealing_impl_Dealing__impl_Group_hasDealings_1 : ∀ {a0} {a1u0c0} {a1u0c1} {a1u0c2} {r}, F_slices_IndexFunc_impl_Dealing_impl_Dealing__impl_Group_hasDealings_1 a0 a1u0c0 a1u0c1 a1u0c2 = some r → PCalls Tryz.prog 201 [(.sh, vT a0), (.sh, .func (.func 200) [] [.fp [.int .i64 a1u0c0, .int .i64 a1u0c1, .int .i64 a1u0c2]])] (Eo (.int .i64 r) [.junk, .junk]) := by
 intro a0 a1u0c0 a1u0c1 a1u0c2 r hr
 apply pF 19 [] [] [] [.tmp 4] hr cl201 Tryz.func201
 intro Φ hΦ hF g
 unfold F_slices_IndexFunc_impl_Dealing_impl_Dealing__impl_Group_hasDealings_1 at hF
 iterate 2 (try simp [go_sem, g]; try intros; refine pw_wk ?_)
 refine wS hF (fun x3 => []) (fun x3 hF => ?_) fun _ hj1 hr2 hF => ?_
 ·cases hΦ _ (Rn_some hF)
  refine wW ?_
  try simp [go_sem, g]
 ·refine wB ?_
  obtain ⟨b14, hb15, hψ8⟩ := hF
  refine pR hb15 (fun i5 s4 => [(0, .v (vT a0)), (1, .v (.func (.func 200) [] [.fp [.int .i64 a1u0c0, .int .i64 a1u0c1, .int .i64 a1u0c2]])), (7, .v (.int .i64 (a0.length : Int))), (8, .v (.int .i64 i5))]) (fun s4 _ hN16 => ?_) (fun i5 s4 _ _ hi9 hi10 ho6 hg7 hF => ?_)
  ·subst hN16
   refine wW ?_
   refine wf ?_
   exact wT (hj1 _) hψ8
  ·refine wW ?_
   refine wt ?_ (hb := by simp [go_sem, g, hi9, hi10])
   refine wW ?_
   refine wB ?_
   obtain ⟨x11, g, hF⟩ := Rx g hF
   refine wW ?_
   refine wC hF [.sh] c_impl_Group_hasDealings_1_ (fun z12 hF => ?_)
   refine wK [0, 1, 5, 7, 8, 16] ?_
   refine wI hF (fun h13 hF => ?_) (fun h13 hF => ?_)
   ·cases ho6 _ (Rn_some hF)
    cases hΦ _ (hr2 _ hψ8)
    refine wW ?_
    try simp [go_sem, g]
   ·refine wW ?_
    exact wT (hg7 ()) (Rn_some hF) (a := by simp [go_sem, g, wr_i hi9 hi10 (by assumption)])
noncomputable def F_slices_ContainsFunc_impl_Dealing_impl_Dealing__impl_Group_hasDealings_1 (a0 : (List Dealing)) (a1u0c0 : Int) (a1u0c1 : Int) (a1u0c2 : Int) : Option (Bool) :=
 (F_slices_IndexFunc_impl_Dealing_impl_Dealing__impl_Group_hasDealings_1 a0 a1u0c0 a1u0c1 a1u0c2).bind fun z1 =>
 some (decide (0 ≤ z1))
theorem c_slices_ContainsFunc_impl_Dealing_impl_Dealing__impl_Group_hasDealings_1 : ∀ {a0} {a1u0c0} {a1u0c1} {a1u0c2} {r}, F_slices_ContainsFunc_impl_Dealing_impl_Dealing__impl_Group_hasDealings_1 a0 a1u0c0 a1u0c1 a1u0c2 = some r → PCalls Tryz.prog 90 [(.sh, vT a0), (.sh, .func (.func 200) [] [.fp [.int .i64 a1u0c0, .int .i64 a1u0c1, .int .i64 a1u0c2]])] (Eo (.bool r) [.junk, .junk]) := by
 intro a0 a1u0c0 a1u0c1 a1u0c2 r hr
 apply pF 9 [] [] [] [.tmp 4] hr cl90 Tryz.func90
 intro Φ hΦ hF g
 unfold F_slices_ContainsFunc_impl_Dealing_impl_Dealing__impl_Group_hasDealings_1 at hF
 refine wW ?_
 refine wC hF [.sh, .sh] c_slices_IndexFunc_impl_Dealing_impl_Dealing__impl_Group_hasDealings_1 (fun z1 hF => ?_)
 cases hΦ _ (Rn_some hF)
 refine wW ?_
 try simp [go_sem, g]
noncomputable def F_impl_Group_hasDealings (a0 : Group) (a1 : (List Dealing)) : Option (Bool) :=
 ((if decide ((a1.length : Int) ≤ 7) = true then (
 (F_slices_ContainsFunc_impl_Dealing_impl_Dealing__impl_Group_hasDealings_1 a1 a0.P a0.Q a0.G).bind fun z5 =>
 some (!z5)) else (
 some false) : Option (Bool)).bind fun x3 =>
 some x3)
theorem c_impl_Group_hasDealings : ∀ {a0} {a1} {r}, F_impl_Group_hasDealings a0 a1 = some r → PCalls Tryz.prog 89 [(.sh, vE a0), (.sh, vT a1)] (Eo (.bool r) [.junk, .junk]) := by
 intro a0 a1 r hr
 apply pF 14 [] [] [1000000] [.tmp 4] hr cl89 Tryz.func89
 intro Φ hΦ hF g
 unfold F_impl_Group_hasDealings at hF
 refine wW ?_
 refine wJ hF (fun x3 => [(4, .v (.bool x3))]) (fun x3 hF => ?_) fun _ hj1 hF => ?_
 ·cases hΦ _ (Rn_some hF)
  try simp [go_sem, g]
 ·try simp [go_sem, g]
  try intros
  refine wG hF (fun h4 hF => ?_) fun h4 hF => ?_
  ·try simp [go_sem, g, h4]
   refine wC hF [.sh, .sh] c_slices_ContainsFunc_impl_Dealing_impl_Dealing__impl_Group_hasDealings_1 (fun z5 hF => ?_)
   try simp [go_sem, g, h4]
   exact wT (hj1 _) (Rn_some hF)
  ·try simp [go_sem, g, h4]
   exact wT (hj1 _) (Rn_some hF)
noncomputable def F_impl_sameShape (a0 : Dealing) (a1 : Dealing) : Option (Bool) :=
 ((if ((a0.Commits.length : Int) == (a1.Commits.length : Int)) = true then (
 some ((a0.Shares.length : Int) == (a1.Shares.length : Int))) else (
 some false) : Option (Bool)).bind fun x3 =>
 some x3)
theorem c_impl_sameShape : ∀ {a0} {a1} {r}, F_impl_sameShape a0 a1 = some r → PCalls Tryz.prog 92 [(.sh, vM a0), (.sh, vM a1)] (Eo (.bool r) [.junk, .junk]) := by
 intro a0 a1 r hr
 apply pF 21 [] [] [] [.tmp 4] hr cl92 Tryz.func92
 intro Φ hΦ hF g
 unfold F_impl_sameShape at hF
 refine wW ?_
 refine wJ hF (fun x3 => [(4, .v (.bool x3))]) (fun x3 hF => ?_) fun _ hj1 hF => ?_
 ·cases hΦ _ (Rn_some hF)
  try simp [go_sem, g]
 ·try simp [go_sem, g]
  try intros
  refine wG hF (fun h4 hF => ?_) fun h4 hF => ?_
  ·try simp [go_sem, g, h4]
   try intros
   exact wT (hj1 _) (Rn_some hF)
  ·try simp [go_sem, g, h4]
   exact wT (hj1 _) (Rn_some hF)
@[go_sem] def D91_1 : List DE := [d2 0 [2] 2 2, d0 1 [1], d0 2 [5], d0 3 [6], d3 4 [4, 7], d0 5 [8], d0 6 [9], d1 7 [2, 10] 2, d2 8 [11, 10] 2 11, d0 9 [12, 10], d0 10 [1, 10], d0 11 [14, 10], d0 12 [13, 15, 10], d0 13 [10, 16], d0 14 [17]]
noncomputable def F_impl_IsKeyGenInput_1_ (a0 : Dealing) (a1c0 : (List Dealing)) : Option (Bool) :=
 (((ix a1c0 0).bind fun x4 =>
 (F_impl_sameShape a0 x4).bind fun z5 =>
 if (!z5) = true then (
 some true) else (
 some ((a0.Shares.length : Int) != (a1c0.length : Int))) : Option (Bool)).bind fun x3 =>
 some x3)
theorem c_impl_IsKeyGenInput_1_ : ∀ {a0} {a1c0} {r}, F_impl_IsKeyGenInput_1_ a0 a1c0 = some r → PCalls Tryz.prog 91 [(.sh, vM a0), (.sh, .fp [vT a1c0])] (Eo (.bool r) [.junk, .junk]) := by
 intro a0 a1c0 r hr
 apply pF 18 [] [] [] [.tmp 3] hr cl91 Tryz.func91
 intro Φ hΦ hF g
 unfold F_impl_IsKeyGenInput_1_ at hF
 refine wW ?_
 refine wJ hF (fun x3 => [(3, .v (.bool x3))]) (fun x3 hF => ?_) fun _ hj1 hF => ?_
 ·cases hΦ _ (Rn_some hF)
  try simp [go_sem, g]
 ·refine wX D91_1 follows ?_
  obtain ⟨x4, g, hF⟩ := Rxn g 0 hF
  refine wC hF [.sh, .sh] c_impl_sameShape (fun z5 hF => ?_)
  refine wH hF (fun h6 hF => ?_) fun h6 hF => ?_
  ·try simp [go_sem, g, h6]
   exact wT (hj1 _) (Rn_some hF)
  ·try simp [go_sem, g, h6]
   try intros
   exact wT (hj1 _) (Rn_some hF)
noncomputable def F_slices_IndexFunc_impl_Dealing_impl_Dealing__impl_IsKeyGenInput_1 (a0 : (List Dealing)) (a1u0c0 : (List Dealing)) : Option (Int) :=
 ((rloop (σ := Unit) (fun i5 s4 =>
 (ix a0 i5).bind fun x11 =>
 (F_impl_IsKeyGenInput_1_ x11 a1u0c0).bind fun z12 =>
 if z12 = true then (
 some (.out (.inr i5))) else (
 some (.go ()))) (fun s4 => .inl ()) (a0.length) 0 () : Option (Unit ⊕ Int)).bind (Sum.elim (fun x3 =>
 some (-1)) some))
theorem c_slices_IndexFunc_impl_Dealing_impl_Dealing__impl_IsKeyGenInput_1 : ∀ {a0} {a1u0c0} {r}, F_slices_IndexFunc_impl_Dealing_impl_Dealing__impl_IsKeyGenInput_1 a0 a1u0c0 = some r → PCalls Tryz.prog 201 [(.sh, vT a0), (.sh, .func (.func 91) [] [.fp [vT a1u0c0]])] (Eo (.int .i64 r) [.junk, .junk]) := by
 intro a0 a1u0c0 r hr
 apply pF 19 [] [] [] [.tmp 4] hr cl201 Tryz.func201
 intro Φ hΦ hF g
 unfold F_slices_IndexFunc_impl_Dealing_impl_Dealing__impl_IsKeyGenInput_1 at hF
 iterate 2 (try simp [go_sem, g]; try intros; refine pw_wk ?_)
 refine wS hF (fun x3 => []) (fun x3 hF => ?_) fun _ hj1 hr2 hF => ?_
 ·cases hΦ _ (Rn_some hF)
  refine wW ?_
  try simp [go_sem, g]
 ·refine wB ?_
  obtain ⟨b14, hb15, hψ8⟩ := hF
  refine pR hb15 (fun i5 s4 => [(0, .v (vT a0)), (1, .v (.func (.func 91) [] [.fp [vT a1u0c0]])), (7, .v (.int .i64 (a0.length : Int))), (8, .v (.int .i64 i5))]) (fun s4 _ hN16 => ?_) (fun i5 s4 _ _ hi9 hi10 ho6 hg7 hF => ?_)
  ·subst hN16
   refine wW ?_
   refine wf ?_
   exact wT (hj1 _) hψ8
  ·refine wW ?_
   refine wt ?_ (hb := by simp [go_sem, g, hi9, hi10])
   refine wW ?_
   refine wB ?_
   obtain ⟨x11, g, hF⟩ := Rx g hF
   refine wW ?_
   refine wC hF [.sh] c_impl_IsKeyGenInput_1_ (fun z12 hF => ?_)
   refine wK [0, 1, 5, 7, 8, 16] ?_
   refine wI hF (fun h13 hF => ?_) (fun h13 hF => ?_)
   ·cases ho6 _ (Rn_some hF)
    cases hΦ _ (hr2 _ hψ8)
    refine wW ?_
    try simp [go_sem, g]
   ·refine wW ?_
    exact wT (hg7 ()) (Rn_some hF) (a := by simp [go_sem, g, wr_i hi9 hi10 (by assumption)])
noncomputable def F_slices_ContainsFunc_impl_Dealing_impl_Dealing__impl_IsKeyGenInput_1 (a0 : (List Dealing)) (a1u0c0 : (List Dealing)) : Option (Bool) :=
 (F_slices_IndexFunc_impl_Dealing_impl_Dealing__impl_IsKeyGenInput_1 a0 a1u0c0).bind fun z1 =>
 some (decide (0 ≤ z1))
theorem c_slices_ContainsFunc_impl_Dealing_impl_Dealing__impl_IsKeyGenInput_1 : ∀ {a0} {a1u0c0} {r}, F_slices_ContainsFunc_impl_Dealing_impl_Dealing__impl_IsKeyGenInput_1 a0 a1u0c0 = some r → PCalls Tryz.prog 90 [(.sh, vT a0), (.sh, .func (.func 91) [] [.fp [vT a1u0c0]])] (Eo (.bool r) [.junk, .junk]) := by
 intro a0 a1u0c0 r hr
 apply pF 9 [] [] [] [.tmp 4] hr cl90 Tryz.func90
 intro Φ hΦ hF g
 unfold F_slices_ContainsFunc_impl_Dealing_impl_Dealing__impl_IsKeyGenInput_1 at hF
 refine wW ?_
 refine wC hF [.sh, .sh] c_slices_IndexFunc_impl_Dealing_impl_Dealing__impl_IsKeyGenInput_1 (fun z1 hF => ?_)
 cases hΦ _ (Rn_some hF)
 refine wW ?_
 try simp [go_sem, g]
noncomputable def F_impl_IsKeyGenInput (a0 : Group) (a1 : (List Dealing)) : Option (Bool) :=
 (((F_impl_isSharing a0).bind fun z4 =>
 if z4 = true then (
 if decide (0 < (a1.length : Int)) = true then (
 (F_impl_Group_hasDealings a0 a1).bind fun z7 =>
 if z7 = true then (
 (F_slices_ContainsFunc_impl_Dealing_impl_Dealing__impl_IsKeyGenInput_1 a1 a1).bind fun z9 =>
 some (!z9)) else (
 some false)) else (
 some false)) else (
 some false) : Option (Bool)).bind fun x3 =>
 some x3)
theorem c_impl_IsKeyGenInput : ∀ {a0} {a1} {r}, F_impl_IsKeyGenInput a0 a1 = some r → PCalls Tryz.prog 18 [(.sh, vE a0), (.sh, vT a1)] (Eo (.bool r) [.junk, .junk]) := by
 intro a0 a1 r hr
 apply pF 23 [] [] [1000000] [.tmp 4] hr cl18 Tryz.func18
 intro Φ hΦ hF g
 unfold F_impl_IsKeyGenInput at hF
 refine wW ?_
 refine wJ hF (fun x3 => [(4, .v (.bool x3))]) (fun x3 hF => ?_) fun _ hj1 hF => ?_
 ·cases hΦ _ (Rn_some hF)
  try simp [go_sem, g]
 ·refine wC hF [.sh] c_impl_isSharing (fun z4 hF => ?_)
  refine wG hF (fun h5 hF => ?_) fun h5 hF => ?_
  ·try simp [go_sem, g, h5]
   try intros
   refine wG hF (fun h6 hF => ?_) fun h6 hF => ?_
   ·try simp [go_sem, g, h6]
    refine wC hF [.sh, .sh] c_impl_Group_hasDealings (fun z7 hF => ?_)
    try simp [go_sem, g, h6]
    refine wG hF (fun h8 hF => ?_) fun h8 hF => ?_
    ·try simp [go_sem, g, h8]
     refine wC hF [.sh, .sh] c_slices_ContainsFunc_impl_Dealing_impl_Dealing__impl_IsKeyGenInput_1 (fun z9 hF => ?_)
     try simp [go_sem, g, h8]
     exact wT (hj1 _) (Rn_some hF)
    ·try simp [go_sem, g, h8]
     exact wT (hj1 _) (Rn_some hF)
   ·try simp [go_sem, g, h6]
    exact wT (hj1 _) (Rn_some hF)
  ·try simp [go_sem, g, h5]
   exact wT (hj1 _) (Rn_some hF)
noncomputable def F_impl_ComplaintsIn (a0 : Group) (a1 : (List Dealing)) : Option ((List (List Int)) × Bool) :=
 (F_impl_IsKeyGenInput a0 a1).bind fun z1 =>
 if (!z1) = true then (
 some ([], false)) else (
 ((rloop (σ := (List (List Int))) (fun i16 s15 =>
 (ix a1 i16).bind fun x22 =>
 (F_impl_Group_bad a0 x22).bind fun z23 =>
 gd ((s15.length + 1) * 24 ≤ 140737488355328 ∧ s15.length + 1 ≤ 4611686018427387904) <|
 some (.go (s15 ++ [z23]))) (fun s15 => s15) (a1.length) 0 [] : Option ((List (List Int)))).bind fun x5 =>
 some (x5, true)))
theorem c_impl_ComplaintsIn : ∀ {a0} {a1} {r}, F_impl_ComplaintsIn a0 a1 = some r → PCalls Tryz.prog 16 [(.sh, vE a0), (.sh, vT a1)] (Eo (.tup [vO r.1, .bool r.2]) [.junk, .junk]) := by
 intro a0 a1 r hr
 apply pF 28 [] [] [] [.tmp 4, .tmp 5] hr cl16 Tryz.func16
 intro Φ hΦ hF g
 unfold F_impl_ComplaintsIn at hF
 refine wW ?_
 refine wC hF [.sh, .sh] c_impl_IsKeyGenInput (fun z1 hF => ?_)
 refine wW ?_
 refine wI hF (fun h2 hF => ?_) (fun h2 hF => ?_)
 ·cases hΦ _ (Rn_some hF)
  refine wW ?_
  try simp [go_sem, g]
 ·iterate 2 (try simp [go_sem, g]; try intros; refine pw_wk ?_)
  try simp [go_sem, g]
  try intros
  refine wK [2, 6, 14, 15, 16] ?_
  refine wJ hF (fun x5 => [(6, .v (vO x5))]) (fun x5 hF => ?_) fun _ hj3 hF => ?_
  ·cases hΦ _ (Rn_some hF)
   refine wW ?_
   try simp [go_sem, g]
  ·refine wB ?_
   obtain ⟨b24, hb25, hψ19⟩ := hF
   refine pR hb25 (fun i16 s15 => [(2, .bl [.int .i64 a0.P, .int .i64 a0.Q, .int .i64 a0.G]), (6, .v (vO s15)), (14, .v (vT a1)), (15, .v (.int .i64 (a1.length : Int))), (16, .v (.int .i64 i16))]) (fun s15 _ hN26 => ?_) (fun i16 s15 _ _ hi20 hi21 ho17 hg18 hF => ?_)
   ·subst hN26
    refine wW ?_
    refine wf ?_
    exact wT (hj3 _) hψ19
   ·refine wW ?_
    refine wt ?_ (hb := by simp [go_sem, g, hi20, hi21])
    refine wW ?_
    refine wB ?_
    obtain ⟨x22, g, hF⟩ := Rx g hF
    refine wW ?_
    refine wC hF [.sh, .sh] c_impl_Group_bad (fun z23 hF => ?_)
    obtain ⟨g, hF⟩ := Rg g hF
    refine wK [2, 6, 14, 15, 16] ?_
    exact wT (hg18 (s15 ++ [z23])) (Rn_some hF) (a := by simp [go_sem, g, wr_i hi20 hi21 (by assumption)])
noncomputable def F_impl_Group_areAnswers_1_ (a0 : (List Int)) (a1c0 : Int) (a1c1 : Int) (a1c2 : Int) : Option (Bool) :=
 ((if decide (7 < (a0.length : Int)) = true then (
 some true) else (
 (F_impl_Group_areExps (Group.mk a1c0 a1c1 a1c2) a0).bind fun z5 =>
 some (!z5)) : Option (Bool)).bind fun x3 =>
 some x3)
theorem c_impl_Group_areAnswers_1_ : ∀ {a0} {a1c0} {a1c1} {a1c2} {r}, F_impl_Group_areAnswers_1_ a0 a1c0 a1c1 a1c2 = some r → PCalls Tryz.prog 198 [(.sh, vC a0), (.sh, .fp [.int .i64 a1c0, .int .i64 a1c1, .int .i64 a1c2])] (Eo (.bool r) [.junk, .junk]) := by
 intro a0 a1c0 a1c1 a1c2 r hr
 apply pF 13 [] [] [] [.tmp 3] hr cl198 Tryz.func198
 intro Φ hΦ hF g
 unfold F_impl_Group_areAnswers_1_ at hF
 refine wW ?_
 refine wJ hF (fun x3 => [(3, .v (.bool x3))]) (fun x3 hF => ?_) fun _ hj1 hF => ?_
 ·cases hΦ _ (Rn_some hF)
  try simp [go_sem, g]
 ·try simp [go_sem, g]
  try intros
  refine wG hF (fun h4 hF => ?_) fun h4 hF => ?_
  ·try simp [go_sem, g, h4]
   exact wT (hj1 _) (Rn_some hF)
  ·try simp [go_sem, g, h4]
   refine wC hF [.sh, .sh] c_impl_Group_areExps (fun z5 hF => ?_)
   try simp [go_sem, g, h4]
   exact wT (hj1 _) (Rn_some hF)
noncomputable def F_slices_IndexFunc_int_int__impl_Group_areAnswers_1 (a0 : (List (List Int))) (a1u0c0 : Int) (a1u0c1 : Int) (a1u0c2 : Int) : Option (Int) :=
 ((rloop (σ := Unit) (fun i5 s4 =>
 (ix a0 i5).bind fun x11 =>
 (F_impl_Group_areAnswers_1_ x11 a1u0c0 a1u0c1 a1u0c2).bind fun z12 =>
 if z12 = true then (
 some (.out (.inr i5))) else (
 some (.go ()))) (fun s4 => .inl ()) (a0.length) 0 () : Option (Unit ⊕ Int)).bind (Sum.elim (fun x3 =>
 some (-1)) some))
theorem c_slices_IndexFunc_int_int__impl_Group_areAnswers_1 : ∀ {a0} {a1u0c0} {a1u0c1} {a1u0c2} {r}, F_slices_IndexFunc_int_int__impl_Group_areAnswers_1 a0 a1u0c0 a1u0c1 a1u0c2 = some r → PCalls Tryz.prog 278 [(.sh, vI a0), (.sh, .func (.func 198) [] [.fp [.int .i64 a1u0c0, .int .i64 a1u0c1, .int .i64 a1u0c2]])] (Eo (.int .i64 r) [.junk, .junk]) := by
 intro a0 a1u0c0 a1u0c1 a1u0c2 r hr
 apply pF 19 [] [] [] [.tmp 4] hr cl278 Tryz.func278
 intro Φ hΦ hF g
 unfold F_slices_IndexFunc_int_int__impl_Group_areAnswers_1 at hF
 iterate 2 (try simp [go_sem, g]; try intros; refine pw_wk ?_)
 refine wS hF (fun x3 => []) (fun x3 hF => ?_) fun _ hj1 hr2 hF => ?_
 ·cases hΦ _ (Rn_some hF)
  refine wW ?_
  try simp [go_sem, g]
 ·refine wB ?_
  obtain ⟨b14, hb15, hψ8⟩ := hF
  refine pR hb15 (fun i5 s4 => [(0, .v (vI a0)), (1, .v (.func (.func 198) [] [.fp [.int .i64 a1u0c0, .int .i64 a1u0c1, .int .i64 a1u0c2]])), (7, .v (.int .i64 (a0.length : Int))), (8, .v (.int .i64 i5))]) (fun s4 _ hN16 => ?_) (fun i5 s4 _ _ hi9 hi10 ho6 hg7 hF => ?_)
  ·subst hN16
   refine wW ?_
   refine wf ?_
   exact wT (hj1 _) hψ8
  ·refine wW ?_
   refine wt ?_ (hb := by simp [go_sem, g, hi9, hi10])
   refine wW ?_
   refine wB ?_
   obtain ⟨x11, g, hF⟩ := Rx g hF
   refine wW ?_
   refine wC hF [.sh] c_impl_Group_areAnswers_1_ (fun z12 hF => ?_)
   refine wK [0, 1, 5, 7, 8, 16] ?_
   refine wI hF (fun h13 hF => ?_) (fun h13 hF => ?_)
   ·cases ho6 _ (Rn_some hF)
    cases hΦ _ (hr2 _ hψ8)
    refine wW ?_
    try simp [go_sem, g]
   ·refine wW ?_
    exact wT (hg7 ()) (Rn_some hF) (a := by simp [go_sem, g, wr_i hi9 hi10 (by assumption)])
noncomputable def F_slices_ContainsFunc_int_int__impl_Group_areAnswers_1 (a0 : (List (List Int))) (a1u0c0 : Int) (a1u0c1 : Int) (a1u0c2 : Int) : Option (Bool) :=
 (F_slices_IndexFunc_int_int__impl_Group_areAnswers_1 a0 a1u0c0 a1u0c1 a1u0c2).bind fun z1 =>
 some (decide (0 ≤ z1))
theorem c_slices_ContainsFunc_int_int__impl_Group_areAnswers_1 : ∀ {a0} {a1u0c0} {a1u0c1} {a1u0c2} {r}, F_slices_ContainsFunc_int_int__impl_Group_areAnswers_1 a0 a1u0c0 a1u0c1 a1u0c2 = some r → PCalls Tryz.prog 181 [(.sh, vI a0), (.sh, .func (.func 198) [] [.fp [.int .i64 a1u0c0, .int .i64 a1u0c1, .int .i64 a1u0c2]])] (Eo (.bool r) [.junk, .junk]) := by
 intro a0 a1u0c0 a1u0c1 a1u0c2 r hr
 apply pF 9 [] [] [] [.tmp 4] hr cl181 Tryz.func181
 intro Φ hΦ hF g
 unfold F_slices_ContainsFunc_int_int__impl_Group_areAnswers_1 at hF
 refine wW ?_
 refine wC hF [.sh, .sh] c_slices_IndexFunc_int_int__impl_Group_areAnswers_1 (fun z1 hF => ?_)
 cases hΦ _ (Rn_some hF)
 refine wW ?_
 try simp [go_sem, g]
noncomputable def F_impl_Group_areAnswers (a0 : Group) (a1 : (List (List Int))) (a2 : Int) : Option (Bool) :=
 ((if ((a1.length : Int) == a2) = true then (
 (F_slices_ContainsFunc_int_int__impl_Group_areAnswers_1 a1 a0.P a0.Q a0.G).bind fun z5 =>
 some (!z5)) else (
 some false) : Option (Bool)).bind fun x3 =>
 some x3)
theorem c_impl_Group_areAnswers : ∀ {a0} {a1} {a2} {r}, F_impl_Group_areAnswers a0 a1 a2 = some r → PCalls Tryz.prog 87 [(.sh, vE a0), (.sh, vI a1), (.sh, .int .i64 a2)] (Eo (.bool r) [.junk, .junk, .junk]) := by
 intro a0 a1 a2 r hr
 apply pF 17 [] [] [1000000] [.tmp 6] hr cl87 Tryz.func87
 intro Φ hΦ hF g
 unfold F_impl_Group_areAnswers at hF
 refine wW ?_
 refine wJ hF (fun x3 => [(6, .v (.bool x3))]) (fun x3 hF => ?_) fun _ hj1 hF => ?_
 ·cases hΦ _ (Rn_some hF)
  try simp [go_sem, g]
 ·try simp [go_sem, g]
  try intros
  refine wG hF (fun h4 hF => ?_) fun h4 hF => ?_
  ·try simp [go_sem, g, h4]
   refine wC hF [.sh, .sh] c_slices_ContainsFunc_int_int__impl_Group_areAnswers_1 (fun z5 hF => ?_)
   try simp [go_sem, g, h4]
   exact wT (hj1 _) (Rn_some hF)
  ·try simp [go_sem, g, h4]
   exact wT (hj1 _) (Rn_some hF)
@[go_sem] def D199_7 : List DE := [d2 0 [3] 3 3, d1 1 [4] 4, d2 2 [34] 4 34, d0 3 [9], d0 4 [2], d0 5 [8], d0 6 [37, 38], d0 7 [39], d3 8 [33, 35, 36, 40], d0 9 [41]]
noncomputable def F_impl_Group_isQualified (a0 : Group) (a1 : Dealing) (a2 : (List Int)) : Option (Bool) :=
 (F_impl_Group_bad a0 a1).bind fun z1 =>
 ((if decide ((a1.Commits.length : Int) ≤ (z1.length : Int)) = true then (
 some true) else (
 some ((a2.length : Int) != (z1.length : Int))) : Option (Bool)).bind fun x4 =>
 if x4 = true then (
 some false) else (
 ((rloop (σ := Unit) (fun i11 s10 =>
 (ix z1 i11).bind fun x17 =>
 (ix a2 i11).bind fun x18 =>
 (F_impl_Group_isShare a0 a1.Commits x17 x18).bind fun z19 =>
 if (!z19) = true then (
 some (.out (.inr false))) else (
 some (.go ()))) (fun s10 => .inl ()) (z1.length) 0 () : Option (Unit ⊕ Bool)).bind (Sum.elim (fun x9 =>
 some true) some))))
theorem c_impl_Group_isQualified : ∀ {a0} {a1} {a2} {r}, F_impl_Group_isQualified a0 a1 a2 = some r → PCalls Tryz.prog 199 [(.sh, vE a0), (.sh, vM a1), (.sh, vC a2)] (Eo (.bool r) [.junk, .junk, .junk]) := by
 intro a0 a1 a2 r hr
 apply pF 44 [] [] [] [.tmp 6] hr cl199 Tryz.func199
 intro Φ hΦ hF g
 unfold F_impl_Group_isQualified at hF
 refine wW ?_
 refine wC hF [.sh, .sh] c_impl_Group_bad (fun z1 hF => ?_)
 refine wW ?_
 refine wJ hF (fun x4 => [(2, .v (vC a2)), (3, .bl [.int .i64 a0.P, .int .i64 a0.Q, .int .i64 a0.G]), (4, .bl [vC a1.Commits, vC a1.Shares]), (7, .v (vD z1)), (25, .v (.bool x4))]) (fun x4 hF => ?_) fun _ hj2 hF => ?_
 ·refine wI hF (fun h6 hF => ?_) (fun h6 hF => ?_)
  ·cases hΦ _ (Rn_some hF)
   refine wW ?_
   try simp [go_sem, g]
  ·try simp [go_sem, g]
   try intros
   refine pw_wk ?_
   try simp [go_sem, g]
   try intros
   refine wK [2, 3, 4, 7, 26, 27, 28] ?_
   refine wS hF (fun x9 => []) (fun x9 hF => ?_) fun _ hj7 hr8 hF => ?_
   ·cases hΦ _ (Rn_some hF)
    refine wW ?_
    try simp [go_sem, g]
   ·refine wB ?_
    obtain ⟨b21, hb22, hψ14⟩ := hF
    refine pR hb22 (fun i11 s10 => [(2, .v (vC a2)), (3, .bl [.int .i64 a0.P, .int .i64 a0.Q, .int .i64 a0.G]), (4, .bl [vC a1.Commits, vC a1.Shares]), (7, .v (vD z1)), (26, .rf 7 []), (27, .v (.int .i64 (z1.length : Int))), (28, .v (.int .i64 i11))]) (fun s10 _ hN23 => ?_) (fun i11 s10 _ _ hi15 hi16 ho12 hg13 hF => ?_)
    ·subst hN23
     refine wW ?_
     refine wf ?_
     exact wT (hj7 _) hψ14
    ·refine wW ?_
     refine wt ?_ (hb := by simp [go_sem, g, hi15, hi16])
     refine wW ?_
     refine wB ?_
     obtain ⟨x17, g, hF⟩ := Rx g hF
     refine wW ?_
     refine wX D199_7 follows ?_
     obtain ⟨x18, g, hF⟩ := Rx g hF
     refine wC hF [.sh, .sh, .sh, .sh] c_impl_Group_isShare (fun z19 hF => ?_)
     refine wK [2, 3, 4, 7, 26, 27, 28, 42] ?_
     refine wI hF (fun h20 hF => ?_) (fun h20 hF => ?_)
     ·cases ho12 _ (Rn_some hF)
      cases hΦ _ (hr8 _ hψ14)
      refine wW ?_
      try simp [go_sem, g]
     ·refine wW ?_
      exact wT (hg13 ()) (Rn_some hF) (a := by simp [go_sem, g, wr_i hi15 hi16 (by assumption)])
 ·try simp [go_sem, g]
  try intros
  refine wG hF (fun h5 hF => ?_) fun h5 hF => ?_
  ·try simp [go_sem, g, h5]
   exact wT (hj2 _) (Rn_some hF)
  ·try simp [go_sem, g, h5]
   try intros
   exact wT (hj2 _) (Rn_some hF)
@[go_sem] def D88_5 : List DE := [d2 0 [3] 3 3, d2 1 [9] 9 9, d0 2 [2], d0 3 [8], d0 4 [20, 21], d0 5 [22], d3 6 [18, 19, 23]]
noncomputable def F_impl_Group_qualified (a0 : Group) (a1 : (List Dealing)) (a2 : (List (List Int))) : Option ((List Int)) :=
 ((rloop (σ := (List Int)) (fun i5 s4 =>
 (((ix a1 i5).bind fun x14 =>
 (ix a2 i5).bind fun x15 =>
 (F_impl_Group_isQualified a0 x14 x15).bind fun z16 =>
 if z16 = true then (
 gd ((s4.length + 1) * 8 ≤ 140737488355328 ∧ s4.length + 1 ≤ 4611686018427387904) <|
 some (s4 ++ [i64.wrap (i5 + 1)])) else (
 some s4) : Option ((List Int))).bind fun x13 =>
 some (.go x13))) (fun s4 => s4) (a1.length) 0 [] : Option ((List Int))).bind fun x3 =>
 some x3)
theorem c_impl_Group_qualified : ∀ {a0} {a1} {a2} {r}, F_impl_Group_qualified a0 a1 a2 = some r → PCalls Tryz.prog 88 [(.sh, vE a0), (.sh, vT a1), (.sh, vI a2)] (Eo (vD r) [.junk, .junk, .junk]) := by
 intro a0 a1 a2 r hr
 apply pF 32 [] [] [] [.tmp 6] hr cl88 Tryz.func88
 intro Φ hΦ hF g
 unfold F_impl_Group_qualified at hF
 iterate 3 (try simp [go_sem, g]; try intros; refine pw_wk ?_)
 refine wJ hF (fun x3 => [(7, .v (vD x3))]) (fun x3 hF => ?_) fun _ hj1 hF => ?_
 ·cases hΦ _ (Rn_some hF)
  refine wW ?_
  try simp [go_sem, g]
 ·refine wB ?_
  obtain ⟨b18, hb19, hψ8⟩ := hF
  refine pR hb19 (fun i5 s4 => [(2, .v (vI a2)), (3, .bl [.int .i64 a0.P, .int .i64 a0.Q, .int .i64 a0.G]), (7, .v (vD s4)), (11, .v (vT a1)), (12, .v (.int .i64 (a1.length : Int))), (13, .v (.int .i64 i5))]) (fun s4 _ hN20 => ?_) (fun i5 s4 _ _ hi9 hi10 ho6 hg7 hF => ?_)
  ·subst hN20
   refine wW ?_
   refine wf ?_
   exact wT (hj1 _) hψ8
  ·refine wW ?_
   refine wt ?_ (hb := by simp [go_sem, g, hi9, hi10])
   refine wW ?_
   refine wJ hF (fun x13 => [(2, .v (vI a2)), (3, .bl [.int .i64 a0.P, .int .i64 a0.Q, .int .i64 a0.G]), (7, .v (vD x13)), (11, .v (vT a1)), (12, .v (.int .i64 (a1.length : Int))), (13, .v (.int .i64 i5))]) (fun x13 hF => ?_) fun _ hj11 hF => ?_
   ·exact wT (hg7 x13) (Rn_some hF) (a := by simp [go_sem, g, wr_i hi9 hi10 (by assumption)])
   ·refine wB ?_
    obtain ⟨x14, g, hF⟩ := Rx g hF
    refine wK [2, 3, 7, 8, 9, 11, 12, 13] ?_
    refine wX D88_5 follows ?_
    obtain ⟨x15, g, hF⟩ := Rx g hF
    refine wC hF [.sh, .sh, .sh] c_impl_Group_isQualified (fun z16 hF => ?_)
    refine wW ?_
    refine wI hF (fun h17 hF => ?_) (fun h17 hF => ?_)
    ·obtain ⟨g, hF⟩ := Rg g hF
     exact wT (hj11 _) (Rn_some hF)
    ·exact wT (hj11 _) (Rn_some hF)
noncomputable def F_impl_QualifiedIn (a0 : Group) (a1 : (List Dealing)) (a2 : (List (List Int))) : Option ((List Int) × Bool) :=
 (((F_impl_IsKeyGenInput a0 a1).bind fun z4 =>
 if (!z4) = true then (
 some true) else (
 (F_impl_Group_areAnswers a0 a2 (a1.length : Int)).bind fun z6 =>
 some (!z6)) : Option (Bool)).bind fun x3 =>
 if x3 = true then (
 some ([], false)) else (
 (F_impl_Group_qualified a0 a1 a2).bind fun z8 =>
 some (z8, true)))
theorem c_impl_QualifiedIn : ∀ {a0} {a1} {a2} {r}, F_impl_QualifiedIn a0 a1 a2 = some r → PCalls Tryz.prog 17 [(.sh, vE a0), (.sh, vT a1), (.sh, vI a2)] (Eo (.tup [vD r.1, .bool r.2]) [.junk, .junk, .junk]) := by
 intro a0 a1 a2 r hr
 apply pF 24 [] [] [] [.tmp 6, .tmp 7] hr cl17 Tryz.func17
 intro Φ hΦ hF g
 unfold F_impl_QualifiedIn at hF
 refine wW ?_
 refine wJ hF (fun x3 => [(1, .v (vT a1)), (2, .v (vI a2)), (3, .bl [.int .i64 a0.P, .int .i64 a0.Q, .int .i64 a0.G]), (19, .v (.bool x3))]) (fun x3 hF => ?_) fun _ hj1 hF => ?_
 ·refine wI hF (fun h7 hF => ?_) (fun h7 hF => ?_)
  ·cases hΦ _ (Rn_some hF)
   refine wW ?_
   try simp [go_sem, g]
  ·refine wW ?_
   refine wC hF [.sh, .sh, .sh] c_impl_Group_qualified (fun z8 hF => ?_)
   cases hΦ _ (Rn_some hF)
   refine wW ?_
   try simp [go_sem, g]
 ·refine wC hF [.sh, .sh] c_impl_IsKeyGenInput (fun z4 hF => ?_)
  refine wG hF (fun h5 hF => ?_) fun h5 hF => ?_
  ·try simp [go_sem, g, h5]
   exact wT (hj1 _) (Rn_some hF)
  ·try simp [go_sem, g, h5]
   try intros
   refine wC hF [.sh, .sh, .sh] c_impl_Group_areAnswers (fun z6 hF => ?_)
   try simp [go_sem, g, h5]
   exact wT (hj1 _) (Rn_some hF)
@[go_sem] def D211_2 : List DE := [d2 0 [5] 5 5, d0 1 [1], d0 2 [2], d2 4 [5] 5 5, d0 5 [2], d0 6 [3], d1 8 [12] 12, d2 9 [31] 12 31, d3 3 [25], d3 7 [27, 28, 29], d0 10 [26, 30, 32], ⟨11, [33], [], none, true, true, true⟩, d3 12 [23, 24, 34], d0 13 [35], d0 14 [22], d0 15 [22], d0 16 [36], d0 17 [37]]
@[go_sem] def D211_9 : List DE := [d1 0 [12] 12, d2 1 [51] 12 51, d2 2 [5] 5 5, d0 3 [16], d0 4 [13], d0 5 [3], d0 6 [15], d0 7 [56, 57], d0 8 [58], d0 9 [55, 59], d0 10 [54, 60], d3 11 [53, 61], d0 12 [62], ⟨13, [52, 63], [], none, true, false, false⟩, d1 14 [12] 12, d2 15 [65, 64] 12 65]
noncomputable def F_impl_Group_proveLinear (a0 : Group) (a1 : ByteArray) (a2 : (List (List Int))) (a3 : (List Int)) (a4 : (List Int)) : Option (Proof × Bool) :=
 (F_impl_Group_images a0 a2 a4).bind fun z1 =>
 (F_slices_Concat_int_int a2).bind fun z2 =>
 (F_impl_Group_images a0 a2 a3).bind fun z3 =>
 (F_slices_Concat_int_int [z2, z3, z1]).bind fun z4 =>
 (F_impl_Group_challenge a0 a1 z4).bind fun z5 =>
 if (!z5.2) = true then (
 some ((Proof.mk [] [] []), false)) else (
 ((rloop (σ := (List Int) × (List Int) × (List Int)) (fun i21 s20 =>
 (ix a4 i21).bind fun x27 =>
 (ix a3 i21).bind fun x28 =>
 (F_impl_Group_exp a0 (i64.wrap (x27 + (i64.wrap (z5.1 * x28))))).bind fun z29 =>
 gd ((s20.2.2.length + 1) * 8 ≤ 140737488355328 ∧ s20.2.2.length + 1 ≤ 4611686018427387904) <|
 some (.go (s20.1, s20.2.1, s20.2.2 ++ [z29]))) (fun s20 => (s20.1, s20.2.1, s20.2.2)) (a4.length) 0 (z1, [z5.1], []) : Option (((List Int) × (List Int) × (List Int)))).bind fun x9 =>
 some ((Proof.mk x9.1 x9.2.1 x9.2.2), true)))
theorem c_impl_Group_proveLinear : ∀ {a0} {a1} {a2} {a3} {a4} {r}, F_impl_Group_proveLinear a0 a1 a2 a3 a4 = some r → PCalls Tryz.prog 211 [(.sh, vE a0), (.sh, .str a1), (.sh, vI a2), (.sh, vC a3), (.sh, vC a4)] (Eo (.tup [vS r.1, .bool r.2]) [.junk, .junk, .junk, .junk, .junk]) := by
 intro a0 a1 a2 a3 a4 r hr
 apply pFz 68 [] [26, 30, 32] [] [.cell 10 36, .tmp 11] hr cl211 Tryz.func211
 intro Φ hΦ hF g
 unfold F_impl_Group_proveLinear at hF
 refine wW ?_
 refine wC hF [.sh, .sh, .sh] c_impl_Group_images (fun z1 hF => ?_)
 refine wK [1, 2, 3, 4, 5, 10, 12] ?_
 refine wX D211_2 follows ?_
 refine wC hF [.sh] c_slices_Concat_int_int (fun z2 hF => ?_)
 refine wC hF [.sh, .sh, .sh] c_impl_Group_images (fun z3 hF => ?_)
 refine wC hF [.sh] c_slices_Concat_int_int (fun z4 hF => ?_)
 refine wC hF [.sh, .sh, .sh] c_impl_Group_challenge (fun z5 hF => ?_)
 refine wK [3, 4, 5, 10, 12, 13, 14] ?_
 refine wW ?_
 refine wI hF (fun h6 hF => ?_) (fun h6 hF => ?_)
 ·cases hΦ _ (Rn_some hF)
  refine wW ?_
  try simp [go_sem, g]
 ·iterate 3 (try simp [go_sem, g]; try intros; refine pw_wk ?_)
  refine wJ hF (fun x9 => [(10, .bl [.sl true 1 [], .sl true 1 [], .sl true 1 []]), (12, .bl [vC x9.1, vD x9.2.1, vD x9.2.2])]) (fun x9 hF => ?_) fun _ hj7 hF => ?_
  ·refine wK [10, 11] ?_
   cases hΦ _ (Rn_some hF)
   try simp [go_sem, g]
  ·refine wB ?_
   obtain ⟨b30, hb31, hψ24⟩ := hF
   refine pR hb31 (fun i21 s20 => [(3, .v (vC a3)), (5, .bl [.int .i64 a0.P, .int .i64 a0.Q, .int .i64 a0.G]), (10, .bl [.sl true 1 [], .sl true 1 [], .sl true 1 []]), (12, .bl [vC s20.1, vD s20.2.1, vD s20.2.2]), (13, .v (.int .i64 z5.1)), (44, .v (vC a4)), (45, .v (.int .i64 (a4.length : Int))), (46, .v (.int .i64 i21))]) (fun s20 _ hN32 => ?_) (fun i21 s20 _ _ hi25 hi26 ho22 hg23 hF => ?_)
   ·subst hN32
    refine wW ?_
    refine wf ?_
    exact wT (hj7 _) hψ24
   ·refine wK [3, 5, 10, 12, 13, 44, 45, 46, 47] ?_
    refine wt ?_ (hb := by simp [go_sem, g, hi25, hi26])
    refine wW ?_
    refine wB ?_
    obtain ⟨x27, g, hF⟩ := Rx g hF
    refine wW ?_
    refine wX D211_9 follows ?_
    obtain ⟨x28, g, hF⟩ := Rx g hF
    refine wC hF [.sh, .sh] c_impl_Group_exp (fun z29 hF => ?_)
    obtain ⟨g, hF⟩ := Rg g hF
    refine wK [3, 5, 10, 12, 13, 44, 45, 46] ?_
    exact wT (hg23 (s20.1, s20.2.1, s20.2.2 ++ [z29])) (Rn_some hF) (a := by simp [go_sem, g, wr_i hi25 hi26 (by assumption)])
noncomputable def F_impl_ProveLinear (a0 : Group) (a1 : ByteArray) (a2 : (List (List Int))) (a3 : (List Int)) (a4 : (List Int)) : Option (Proof × Bool) :=
 (((F_impl_IsValidGroup a0).bind fun z4 =>
 if (!z4) = true then (
 some true) else (
 (F_impl_isLabel a1).bind fun z6 =>
 if (!z6) = true then (
 some true) else (
 (F_impl_Group_areRows a0 a2).bind fun z8 =>
 if (!z8) = true then (
 some true) else (
 (ix a2 0).bind fun x10 =>
 if ((a3.length : Int) != (x10.length : Int)) = true then (
 some true) else (
 if ((a4.length : Int) != (a3.length : Int)) = true then (
 some true) else (
 (F_impl_Group_areExps a0 a3).bind fun z13 =>
 if (!z13) = true then (
 some true) else (
 (F_impl_Group_areExps a0 a4).bind fun z15 =>
 some (!z15))))))) : Option (Bool)).bind fun x3 =>
 if x3 = true then (
 some ((Proof.mk [] [] []), false)) else (
 (F_impl_Group_proveLinear a0 a1 a2 a3 a4).bind fun z17 =>
 some (z17.1, z17.2)))
theorem c_impl_ProveLinear : ∀ {a0} {a1} {a2} {a3} {a4} {r}, F_impl_ProveLinear a0 a1 a2 a3 a4 = some r → PCalls Tryz.prog 203 [(.sh, vE a0), (.sh, .str a1), (.sh, vI a2), (.sh, vC a3), (.sh, vC a4)] (Eo (.tup [vS r.1, .bool r.2]) [.junk, .junk, .junk, .junk, .junk]) := by
 intro a0 a1 a2 a3 a4 r hr
 apply pFz 63 [] [] [] [.cell 10 36, .tmp 11] hr cl203 Tryz.func203
 intro Φ hΦ hF g
 unfold F_impl_ProveLinear at hF
 refine wW ?_
 refine wJ hF (fun x3 => [(1, .v (.str a1)), (2, .v (vI a2)), (3, .v (vC a3)), (4, .v (vC a4)), (5, .bl [.int .i64 a0.P, .int .i64 a0.Q, .int .i64 a0.G]), (10, .bl [.sl true 1 [], .sl true 1 [], .sl true 1 []]), (53, .v (.bool x3))]) (fun x3 hF => ?_) fun _ hj1 hF => ?_
 ·refine wI hF (fun h16 hF => ?_) (fun h16 hF => ?_)
  ·cases hΦ _ (Rn_some hF)
   refine wW ?_
   try simp [go_sem, g]
  ·refine wW ?_
   refine wC hF [.sh, .sh, .sh, .sh, .sh] c_impl_Group_proveLinear (fun z17 hF => ?_)
   refine wK [10, 11] ?_
   cases hΦ _ (Rn_some hF)
   try simp [go_sem, g]
 ·refine wC hF [.sh] c_impl_IsValidGroup (fun z4 hF => ?_)
  refine wG hF (fun h5 hF => ?_) fun h5 hF => ?_
  ·try simp [go_sem, g, h5]
   exact wT (hj1 _) (Rn_some hF)
  ·try simp [go_sem, g, h5]
   refine wC hF [.sh] c_impl_isLabel (fun z6 hF => ?_)
   try simp [go_sem, g, h5]
   refine wG hF (fun h7 hF => ?_) fun h7 hF => ?_
   ·try simp [go_sem, g, h7]
    exact wT (hj1 _) (Rn_some hF)
   ·try simp [go_sem, g, h7]
    refine wC hF [.sh, .sh] c_impl_Group_areRows (fun z8 hF => ?_)
    try simp [go_sem, g, h7]
    refine wG hF (fun h9 hF => ?_) fun h9 hF => ?_
    ·try simp [go_sem, g, h9]
     exact wT (hj1 _) (Rn_some hF)
    ·obtain ⟨x10, g, hF⟩ := Rxn g 0 hF
     try simp [go_sem, g, h9]
     try intros
     refine wG hF (fun h11 hF => ?_) fun h11 hF => ?_
     ·try simp [go_sem, g, h11]
      exact wT (hj1 _) (Rn_some hF)
     ·try simp [go_sem, g, h11]
      try intros
      refine wG hF (fun h12 hF => ?_) fun h12 hF => ?_
      ·try simp [go_sem, g, h12]
       exact wT (hj1 _) (Rn_some hF)
      ·try simp [go_sem, g, h12]
       refine wC hF [.sh, .sh] c_impl_Group_areExps (fun z13 hF => ?_)
       try simp [go_sem, g, h12]
       refine wG hF (fun h14 hF => ?_) fun h14 hF => ?_
       ·try simp [go_sem, g, h14]
        exact wT (hj1 _) (Rn_some hF)
       ·try simp [go_sem, g, h14]
        refine wC hF [.sh, .sh] c_impl_Group_areExps (fun z15 hF => ?_)
        try simp [go_sem, g, h14]
        exact wT (hj1 _) (Rn_some hF)
noncomputable def F_impl_ProveLinear__mv2_mv3_mv4 (a0 : Group) (a1 : ByteArray) (a2 : (List (List Int))) (a3 : (List Int)) (a4 : (List Int)) : Option (Proof × Bool) :=
 (((F_impl_IsValidGroup a0).bind fun z4 =>
 if (!z4) = true then (
 some true) else (
 (F_impl_isLabel a1).bind fun z6 =>
 if (!z6) = true then (
 some true) else (
 (F_impl_Group_areRows a0 a2).bind fun z8 =>
 if (!z8) = true then (
 some true) else (
 (ix a2 0).bind fun x10 =>
 if ((a3.length : Int) != (x10.length : Int)) = true then (
 some true) else (
 if ((a4.length : Int) != (a3.length : Int)) = true then (
 some true) else (
 (F_impl_Group_areExps a0 a3).bind fun z13 =>
 if (!z13) = true then (
 some true) else (
 (F_impl_Group_areExps a0 a4).bind fun z15 =>
 some (!z15))))))) : Option (Bool)).bind fun x3 =>
 if x3 = true then (
 some ((Proof.mk [] [] []), false)) else (
 (F_impl_Group_proveLinear a0 a1 a2 a3 a4).bind fun z17 =>
 some (z17.1, z17.2)))
theorem c_impl_ProveLinear__mv2_mv3_mv4 : ∀ {a0} {a1} {a2} {a3} {a4} {r}, F_impl_ProveLinear__mv2_mv3_mv4 a0 a1 a2 a3 a4 = some r → PCalls Tryz.prog 203 [(.sh, vE a0), (.sh, .str a1), (.mv, vO a2), (.mv, vD a3), (.mv, vD a4)] (Eo (.tup [vS r.1, .bool r.2]) [.junk, .junk, .junk, .junk, .junk]) := by
 intro a0 a1 a2 a3 a4 r hr
 apply pFz 63 [] [57, 58, 59] [] [.cell 10 36, .tmp 11] hr cl203 Tryz.func203
 intro Φ hΦ hF g
 unfold F_impl_ProveLinear__mv2_mv3_mv4 at hF
 refine wW ?_
 refine wJ hF (fun x3 => [(1, .v (.str a1)), (2, .v (vO a2)), (3, .v (vD a3)), (4, .v (vD a4)), (5, .bl [.int .i64 a0.P, .int .i64 a0.Q, .int .i64 a0.G]), (10, .bl [.sl true 1 [], .sl true 1 [], .sl true 1 []]), (53, .v (.bool x3))]) (fun x3 hF => ?_) fun _ hj1 hF => ?_
 ·refine wI hF (fun h16 hF => ?_) (fun h16 hF => ?_)
  ·cases hΦ _ (Rn_some hF)
   refine wW ?_
   try simp [go_sem, g]
  ·refine wW ?_
   refine wC hF [.sh, .sh, .sh, .sh, .sh] c_impl_Group_proveLinear (fun z17 hF => ?_)
   refine wK [10, 11] ?_
   cases hΦ _ (Rn_some hF)
   try simp [go_sem, g]
 ·refine wC hF [.sh] c_impl_IsValidGroup (fun z4 hF => ?_)
  refine wG hF (fun h5 hF => ?_) fun h5 hF => ?_
  ·try simp [go_sem, g, h5]
   exact wT (hj1 _) (Rn_some hF)
  ·try simp [go_sem, g, h5]
   refine wC hF [.sh] c_impl_isLabel (fun z6 hF => ?_)
   try simp [go_sem, g, h5]
   refine wG hF (fun h7 hF => ?_) fun h7 hF => ?_
   ·try simp [go_sem, g, h7]
    exact wT (hj1 _) (Rn_some hF)
   ·try simp [go_sem, g, h7]
    refine wC hF [.sh, .sh] c_impl_Group_areRows (fun z8 hF => ?_)
    try simp [go_sem, g, h7]
    refine wG hF (fun h9 hF => ?_) fun h9 hF => ?_
    ·try simp [go_sem, g, h9]
     exact wT (hj1 _) (Rn_some hF)
    ·obtain ⟨x10, g, hF⟩ := Rxn g 0 hF
     try simp [go_sem, g, h9]
     try intros
     refine wG hF (fun h11 hF => ?_) fun h11 hF => ?_
     ·try simp [go_sem, g, h11]
      exact wT (hj1 _) (Rn_some hF)
     ·try simp [go_sem, g, h11]
      try intros
      refine wG hF (fun h12 hF => ?_) fun h12 hF => ?_
      ·try simp [go_sem, g, h12]
       exact wT (hj1 _) (Rn_some hF)
      ·try simp [go_sem, g, h12]
       refine wC hF [.sh, .sh] c_impl_Group_areExps (fun z13 hF => ?_)
       try simp [go_sem, g, h12]
       refine wG hF (fun h14 hF => ?_) fun h14 hF => ?_
       ·try simp [go_sem, g, h14]
        exact wT (hj1 _) (Rn_some hF)
       ·try simp [go_sem, g, h14]
        refine wC hF [.sh, .sh] c_impl_Group_areExps (fun z15 hF => ?_)
        try simp [go_sem, g, h14]
        exact wT (hj1 _) (Rn_some hF)
noncomputable def F_impl_ProveKnowledge (a0 : Group) (a1 : ByteArray) (a2 : Int) (a3 : Int) (a4 : Int) : Option (Proof × Bool) :=
 (F_impl_ProveLinear__mv2_mv3_mv4 a0 a1 [[a2]] [a3] [a4]).bind fun z1 =>
 some (z1.1, z1.2)
theorem c_impl_ProveKnowledge : ∀ {a0} {a1} {a2} {a3} {a4} {r}, F_impl_ProveKnowledge a0 a1 a2 a3 a4 = some r → PCalls Tryz.prog 95 [(.sh, vE a0), (.sh, .str a1), (.sh, .int .i64 a2), (.sh, .int .i64 a3), (.sh, .int .i64 a4)] (Eo (.tup [vS r.1, .bool r.2]) [.junk, .junk, .junk, .junk, .junk]) := by
 intro a0 a1 a2 a3 a4 r hr
 apply pF 24 [] [] [] [.cell 10 36, .tmp 11] hr cl95 Tryz.func95
 intro Φ hΦ hF g
 unfold F_impl_ProveKnowledge at hF
 refine wW ?_
 refine wC hF [.sh, .sh, .mv, .mv, .mv] c_impl_ProveLinear__mv2_mv3_mv4 (fun z1 hF => ?_)
 refine wK [10, 11] ?_
 cases hΦ _ (Rn_some hF)
 try simp [go_sem, g]
@[go_sem] def D19_3 : List DE := [d2 0 [3] 3 3, d1 1 [3] 3, d2 2 [25] 3 25, d0 3 [1], d0 4 [27], d0 5 [28], d0 6 [2], d3 7 [24, 26, 29, 30], d0 8 [31], d0 9 [31], d2 10 [6, 32] 6 6, d0 11 [33]]
noncomputable def F_impl_ProveDealer (a0 : Group) (a1 : (List Int)) (a2 : Int) : Option (Proof × Bool) :=
 (((F_impl_isSharing a0).bind fun z4 =>
 if (!z4) = true then (
 some true) else (
 (F_impl_within (a1.length : Int) 1 7).bind fun z6 =>
 if (!z6) = true then (
 some true) else (
 (F_impl_Group_areExps a0 a1).bind fun z8 =>
 some (!z8))) : Option (Bool)).bind fun x3 =>
 if x3 = true then (
 some ((Proof.mk [] [] []), false)) else (
 (ix a1 0).bind fun x10 =>
 (F_impl_ProveKnowledge a0 (⟨#[100, 101, 97, 108, 101, 114]⟩ : ByteArray) a0.G x10 a2).bind fun z11 =>
 some (z11.1, z11.2)))
theorem c_impl_ProveDealer : ∀ {a0} {a1} {a2} {r}, F_impl_ProveDealer a0 a1 a2 = some r → PCalls Tryz.prog 19 [(.sh, vE a0), (.sh, vC a1), (.sh, .int .i64 a2)] (Eo (.tup [vS r.1, .bool r.2]) [.junk, .junk, .junk]) := by
 intro a0 a1 a2 r hr
 apply pFz 34 [] [] [] [.cell 6 36, .tmp 7] hr cl19 Tryz.func19
 intro Φ hΦ hF g
 unfold F_impl_ProveDealer at hF
 refine wW ?_
 refine wJ hF (fun x3 => [(1, .v (vC a1)), (2, .v (.int .i64 a2)), (3, .bl [.int .i64 a0.P, .int .i64 a0.Q, .int .i64 a0.G]), (6, .bl [.sl true 1 [], .sl true 1 [], .sl true 1 []]), (22, .v (.bool x3))]) (fun x3 hF => ?_) fun _ hj1 hF => ?_
 ·refine wI hF (fun h9 hF => ?_) (fun h9 hF => ?_)
  ·cases hΦ _ (Rn_some hF)
   refine wW ?_
   try simp [go_sem, g]
  ·refine wW ?_
   refine wX D19_3 follows ?_
   obtain ⟨x10, g, hF⟩ := Rxn g 0 hF
   refine wC hF [.sh, .sh, .sh, .sh, .sh] c_impl_ProveKnowledge (fun z11 hF => ?_)
   refine wK [6, 7] ?_
   cases hΦ _ (Rn_some hF)
   try simp [go_sem, g]
 ·refine wC hF [.sh] c_impl_isSharing (fun z4 hF => ?_)
  refine wG hF (fun h5 hF => ?_) fun h5 hF => ?_
  ·try simp [go_sem, g, h5]
   exact wT (hj1 _) (Rn_some hF)
  ·try simp [go_sem, g, h5]
   try intros
   refine wC hF [.sh, .sh, .sh] c_impl_within (fun z6 hF => ?_)
   try simp [go_sem, g, h5]
   refine wG hF (fun h7 hF => ?_) fun h7 hF => ?_
   ·try simp [go_sem, g, h7]
    exact wT (hj1 _) (Rn_some hF)
   ·try simp [go_sem, g, h7]
    refine wC hF [.sh, .sh] c_impl_Group_areExps (fun z8 hF => ?_)
    try simp [go_sem, g, h7]
    exact wT (hj1 _) (Rn_some hF)
@[go_sem] def D3_14 : List DE := [d0 0 [8], d0 1 [21], d0 2 [114, 115], d0 3 [116], d0 4 [11], d0 5 [21], d0 6 [118, 119], d0 7 [120], d3 8 [117, 121], d0 9 [122], d0 10 [123], d0 11 [9, 124], d0 12 [21, 124], d0 13 [125, 126, 124], d0 14 [127, 124], d0 15 [12, 124], d0 16 [21, 124], d0 17 [129, 130, 124], d0 18 [131, 124], d3 19 [128, 132, 124], d0 20 [133, 124], d0 21 [124, 134]]
@[go_sem] def D3_34 : List DE := [d2 0 [5] 5 5, d0 1 [6], d0 2 [26], d0 3 [202, 203], d0 4 [204], d0 5 [26], d0 10 [], d3 6 [201, 205, 206], d0 7 [207], d0 8 [200], d0 9 [200], d2 11 [30, 208] 30 30, d0 12 [209]]
@[go_sem] def D3_35 : List DE := [d2 0 [5] 5 5, d0 1 [8], d0 2 [26], d0 3 [212, 213], d0 4 [214], d2 5 [30] 30 30, d3 6 [211, 215, 216], d0 7 [217], d0 8 [210], d0 9 [210], d0 10 [218], d0 11 [219]]
noncomputable def F_laws_FnDealers (a0 : (List Int)) (a1 : (List Int)) : Option (Bool) :=
 if decide (1048576 < (i64.wrap ((a0.length : Int) + (a1.length : Int)))) = true then (
 some true) else (
 (F_spec_DrawPlayDealers a0).bind fun z2 =>
 (F_impl_PlayDealers z2.1 z2.2.1 z2.2.2).bind fun z3 =>
 (F_spec_PlayDealers z2.1 z2.2.1 z2.2.2).bind fun z4 =>
 (F_spec_DrawVerifyDealer a1).bind fun z5 =>
 (F_impl_VerifyDealer z5.1 z5.2.1 z5.2.2).bind fun z6 =>
 (F_spec_VerifyDealer z5.1 z5.2.1 z5.2.2).bind fun z7 =>
 ((if (z3.2.2 != z4.2.2) = true then (
 some true) else (
 if ((z3.1.length : Int) != (z4.1.length : Int)) = true then (
 some true) else (
 if ((z3.2.1.length : Int) != (z4.2.1.length : Int)) = true then (
 some true) else (
 if (z6.2 != z7.2) = true then (
 some true) else (
 some (z6.1 != z7.1))))) : Option (Bool)).bind fun x10 =>
 if x10 = true then (
 some false) else (
 ((rloop (σ := Unit) (fun i20 s19 =>
 (((ix z3.1 i20).bind fun x29 =>
 (ix z4.1 i20).bind fun x30 =>
 (F_laws_qDealing x29 x30).bind fun z31 =>
 if (!z31) = true then (
 some true) else (
 (ix z3.2.1 i20).bind fun x33 =>
 (ix z4.2.1 i20).bind fun x34 =>
 (F_laws_qInts x33 x34).bind fun z35 =>
 some (!z35)) : Option (Bool)).bind fun x28 =>
 if x28 = true then (
 some (.out (.inr false))) else (
 some (.go ())))) (fun s19 => .inl ()) (z3.1.length) 0 () : Option (Unit ⊕ Bool)).bind (Sum.elim (fun x18 =>
 if (!z3.2.2) = true then (
 some true) else (
 (F_impl_ComplaintsIn z2.1 z3.1).bind fun z42 =>
 (F_impl_QualifiedIn z2.1 z3.1 z3.2.1).bind fun z43 =>
 ((if (!z42.2) = true then (
 some true) else (
 if (!z43.2) = true then (
 some true) else (
 if ((z42.1.length : Int) != (z3.1.length : Int)) = true then (
 some true) else (
 (F_impl_IsKeyGenInput z2.1 z3.1).bind fun z50 =>
 some (!z50)))) : Option (Bool)).bind fun x46 =>
 if x46 = true then (
 some false) else (
 ((rloop (σ := Unit) (fun i56 s55 =>
 ((rloop (σ := Bool) (fun i66 s65 =>
 (((ix z43.1 i66).bind fun x75 =>
 if s65 = true then (
 some true) else (
 some (x75 == (i64.wrap (i56 + 1)))) : Option (Bool)).bind fun x74 =>
 some (.go x74))) (fun s65 => s65) (z43.1.length) 0 false : Option (Bool)).bind fun x64 =>
 (((ix z42.1 i56).bind fun x84 =>
 if ((x84.length : Int) == 0) = true then (
 some (!x64)) else (
 some false) : Option (Bool)).bind fun x83 =>
 if x83 = true then (
 some (.out (.inr false))) else (
 (ix z2.2.1 i56).bind fun x87 =>
 (F_impl_ProveDealer z2.1 x87 i56).bind fun z88 =>
 (ix z3.1 i56).bind fun x89 =>
 (F_impl_VerifyDealer z2.1 x89 z88.1).bind fun z90 =>
 ((if (!z88.2) = true then (
 some true) else (
 if (!z90.2) = true then (
 some true) else (
 some (!z90.1))) : Option (Bool)).bind fun x93 =>
 if x93 = true then (
 some (.out (.inr false))) else (
 some (.go ()))))))) (fun s55 => .inl ()) (z3.1.length) 0 () : Option (Unit ⊕ Bool)).bind (Sum.elim (fun x54 =>
 some true) some)))))) some)))))
set_option maxHeartbeats 1000000 in
theorem c_laws_FnDealers : ∀ {a0} {a1} {r}, F_laws_FnDealers a0 a1 = some r → PCalls Tryz.prog 3 [(.sh, .sl false 1 (a0.map row_u8)), (.sh, .sl false 1 (a1.map row_u8))] (Eo (.bool r) [.junk, .junk]) := by
 intro a0 a1 r hr
 apply pF 231 [] [] [] [.tmp 4] hr cl3 Tryz.func3
 intro Φ hΦ hF g
 unfold F_laws_FnDealers at hF
 iterate 2 (try simp [go_sem, g]; try intros; refine pw_wk ?_)
 refine wI hF (fun h1 hF => ?_) (fun h1 hF => ?_)
 ·cases hΦ _ (Rn_some hF)
  refine wW ?_
  try simp [go_sem, g]
 ·refine wW ?_
  refine wC hF [.sh] c_spec_DrawPlayDealers (fun z2 hF => ?_)
  refine wK [1, 5, 6, 7] ?_
  refine wC hF [.sh, .sh, .sh] c_impl_PlayDealers (fun z3 hF => ?_)
  refine wK [1, 5, 6, 7, 8, 9, 10] ?_
  refine wC hF [.sh, .sh, .sh] c_spec_PlayDealers (fun z4 hF => ?_)
  refine wK [1, 5, 6, 8, 9, 10, 11, 12, 13] ?_
  refine wC hF [.sh] c_spec_DrawVerifyDealer (fun z5 hF => ?_)
  refine wK [5, 6, 8, 9, 10, 11, 12, 13, 14, 15, 16] ?_
  refine wC hF [.sh, .sh, .sh] c_impl_VerifyDealer (fun z6 hF => ?_)
  refine wW ?_
  refine wC hF [.sh, .sh, .sh] c_spec_VerifyDealer (fun z7 hF => ?_)
  refine wK [5, 6, 8, 9, 10, 11, 12, 13, 17, 18, 19, 20] ?_
  refine wJ hF (fun x10 => [(5, .bl [.int .i64 z2.1.P, .int .i64 z2.1.Q, .int .i64 z2.1.G]), (6, .v (vF z2.2.1)), (8, .v (vN z3.1)), (9, .v (vO z3.2.1)), (10, .v (.bool z3.2.2)), (11, .v (vN z4.1)), (12, .v (vO z4.2.1)), (108, .v (.bool x10))]) (fun x10 hF => ?_) fun _ hj8 hF => ?_
  ·refine wI hF (fun h15 hF => ?_) (fun h15 hF => ?_)
   ·cases hΦ _ (Rn_some hF)
    refine wW ?_
    try simp [go_sem, g]
   ·iterate 2 (try simp [go_sem, g]; try intros; refine pw_wk ?_)
    refine wS hF (fun x18 => [(5, .bl [.int .i64 z2.1.P, .int .i64 z2.1.Q, .int .i64 z2.1.G]), (6, .v (vF z2.2.1)), (8, .v (vN z3.1)), (9, .v (vO z3.2.1)), (10, .v (.bool z3.2.2))]) (fun x18 hF => ?_) fun _ hj16 hr17 hF => ?_
    ·refine wW ?_
     refine wI hF (fun h41 hF => ?_) (fun h41 hF => ?_)
     ·cases hΦ _ (Rn_some hF)
      refine wW ?_
      try simp [go_sem, g]
     ·refine wW ?_
      refine wC hF [.sh, .sh] c_impl_ComplaintsIn (fun z42 hF => ?_)
      refine wK [5, 6, 8, 9, 22, 23] ?_
      refine wC hF [.sh, .sh, .sh] c_impl_QualifiedIn (fun z43 hF => ?_)
      refine wW ?_
      refine wJ hF (fun x46 => [(5, .bl [.int .i64 z2.1.P, .int .i64 z2.1.Q, .int .i64 z2.1.G]), (6, .v (vF z2.2.1)), (8, .v (vN z3.1)), (22, .v (vO z42.1)), (24, .v (vD z43.1)), (170, .v (.bool x46))]) (fun x46 hF => ?_) fun _ hj44 hF => ?_
      ·refine wI hF (fun h51 hF => ?_) (fun h51 hF => ?_)
       ·refine wK [4] ?_
        cases hΦ _ (Rn_some hF)
        try simp [go_sem, g]
       ·try simp [go_sem, g]
        try intros
        refine pw_wk ?_
        try simp [go_sem, g]
        try intros
        refine wK [5, 6, 8, 22, 24, 172, 173] ?_
        refine wS hF (fun x54 => []) (fun x54 hF => ?_) fun _ hj52 hr53 hF => ?_
        ·cases hΦ _ (Rn_some hF)
         refine wW ?_
         try simp [go_sem, g]
        ·refine wB ?_
         obtain ⟨b97, hb98, hψ59⟩ := hF
         refine pR hb98 (fun i56 s55 => [(5, .bl [.int .i64 z2.1.P, .int .i64 z2.1.Q, .int .i64 z2.1.G]), (6, .v (vF z2.2.1)), (8, .v (vN z3.1)), (22, .v (vO z42.1)), (24, .v (vD z43.1)), (172, .v (.int .i64 (z3.1.length : Int))), (173, .v (.int .i64 i56))]) (fun s55 _ hN99 => ?_) (fun i56 s55 _ _ hi60 hi61 ho57 hg58 hF => ?_)
         ·subst hN99
          refine wW ?_
          refine wf ?_
          exact wT (hj52 _) hψ59
         ·refine wW ?_
          refine wt ?_ (hb := by simp [go_sem, g, hi60, hi61])
          refine wW ?_
          refine wB ?_
          iterate 3 (try simp [go_sem, g]; try intros; refine pw_wk ?_)
          refine wJ hF (fun x64 => [(5, .bl [.int .i64 z2.1.P, .int .i64 z2.1.Q, .int .i64 z2.1.G]), (6, .v (vF z2.2.1)), (8, .v (vN z3.1)), (22, .v (vO z42.1)), (24, .v (vD z43.1)), (26, .v (.int .i64 i56)), (27, .v (.bool x64)), (172, .v (.int .i64 (z3.1.length : Int))), (173, .v (.int .i64 i56))]) (fun x64 hF => ?_) fun _ hj62 hF => ?_
          ·refine wJ hF (fun x83 => [(5, .bl [.int .i64 z2.1.P, .int .i64 z2.1.Q, .int .i64 z2.1.G]), (6, .v (vF z2.2.1)), (8, .v (vN z3.1)), (22, .v (vO z42.1)), (24, .v (vD z43.1)), (26, .v (.int .i64 i56)), (172, .v (.int .i64 (z3.1.length : Int))), (173, .v (.int .i64 i56)), (199, .v (.bool x83))]) (fun x83 hF => ?_) fun _ hj81 hF => ?_
           ·refine wI hF (fun h86 hF => ?_) (fun h86 hF => ?_)
            ·cases ho57 _ (Rn_some hF)
             cases hΦ _ (hr53 _ hψ59)
             refine wW ?_
             try simp [go_sem, g]
            ·refine wW ?_
             refine wX D3_34 follows ?_
             obtain ⟨x87, g, hF⟩ := Rx g hF
             refine wC hF [.sh, .sh, .sh] c_impl_ProveDealer (fun z88 hF => ?_)
             refine wK [5, 6, 8, 22, 24, 26, 30, 31, 172, 173] ?_
             refine wX D3_35 follows ?_
             obtain ⟨x89, g, hF⟩ := Rx g hF
             refine wC hF [.sh, .sh, .sh] c_impl_VerifyDealer (fun z90 hF => ?_)
             refine wK [5, 6, 8, 22, 24, 31, 32, 33, 172, 173] ?_
             refine wJ hF (fun x93 => [(5, .bl [.int .i64 z2.1.P, .int .i64 z2.1.Q, .int .i64 z2.1.G]), (6, .v (vF z2.2.1)), (8, .v (vN z3.1)), (22, .v (vO z42.1)), (24, .v (vD z43.1)), (172, .v (.int .i64 (z3.1.length : Int))), (173, .v (.int .i64 i56)), (229, .v (.bool x93))]) (fun x93 hF => ?_) fun _ hj91 hF => ?_
             ·refine wI hF (fun h96 hF => ?_) (fun h96 hF => ?_)
              ·cases ho57 _ (Rn_some hF)
               cases hΦ _ (hr53 _ hψ59)
               refine wW ?_
               try simp [go_sem, g]
              ·refine wW ?_
               exact wT (hg58 ()) (Rn_some hF) (a := by simp [go_sem, g, wr_i hi60 hi61 (by assumption)])
             ·refine wG hF (fun h94 hF => ?_) fun h94 hF => ?_
              ·try simp [go_sem, g, h94]
               exact wT (hj91 _) (Rn_some hF)
              ·try simp [go_sem, g, h94]
               refine wG hF (fun h95 hF => ?_) fun h95 hF => ?_
               ·try simp [go_sem, g, h95]
                exact wT (hj91 _) (Rn_some hF)
               ·try simp [go_sem, g, h95]
                exact wT (hj91 _) (Rn_some hF)
           ·obtain ⟨x84, g, hF⟩ := Rx g hF
            try simp [go_sem, g]
            try intros
            refine wG hF (fun h85 hF => ?_) fun h85 hF => ?_
            ·try simp [go_sem, g, h85]
             exact wT (hj81 _) (Rn_some hF)
            ·try simp [go_sem, g, h85]
             exact wT (hj81 _) (Rn_some hF)
          ·refine wB ?_
           obtain ⟨b77, hb78, hψ69⟩ := hF
           refine pR hb78 (fun i66 s65 => [(5, .bl [.int .i64 z2.1.P, .int .i64 z2.1.Q, .int .i64 z2.1.G]), (6, .v (vF z2.2.1)), (8, .v (vN z3.1)), (22, .v (vO z42.1)), (24, .v (vD z43.1)), (26, .v (.int .i64 i56)), (27, .v (.bool s65)), (172, .v (.int .i64 (z3.1.length : Int))), (173, .v (.int .i64 i56)), (176, .rf 24 []), (177, .v (.int .i64 (z43.1.length : Int))), (178, .v (.int .i64 i66))]) (fun s65 _ hN79 => ?_) (fun i66 s65 _ _ hi70 hi71 ho67 hg68 hF => ?_)
           ·subst hN79
            refine wW ?_
            refine wf ?_
            exact wT (hj62 _) hψ69
           ·refine wW ?_
            refine wt ?_ (hb := by simp [go_sem, g, hi70, hi71])
            refine wW ?_
            refine wJ hF (fun x74 => [(5, .bl [.int .i64 z2.1.P, .int .i64 z2.1.Q, .int .i64 z2.1.G]), (6, .v (vF z2.2.1)), (8, .v (vN z3.1)), (22, .v (vO z42.1)), (24, .v (vD z43.1)), (26, .v (.int .i64 i56)), (27, .v (.bool x74)), (172, .v (.int .i64 (z3.1.length : Int))), (173, .v (.int .i64 i56)), (176, .rf 24 []), (177, .v (.int .i64 (z43.1.length : Int))), (178, .v (.int .i64 i66))]) (fun x74 hF => ?_) fun _ hj72 hF => ?_
            ·exact wT (hg68 x74) (Rn_some hF) (a := by simp [go_sem, g, wr_i hi70 hi71 (by assumption)])
            ·refine wB ?_
             obtain ⟨x75, g, hF⟩ := Rx g hF
             refine wK [5, 6, 8, 22, 24, 26, 27, 29, 172, 173, 176, 177, 178] ?_
             refine wG hF (fun h76 hF => ?_) fun h76 hF => ?_
             ·try simp [go_sem, g, h76]
              exact wT (hj72 _) (Rn_some hF)
             ·try simp [go_sem, g, h76]
              exact wT (hj72 _) (Rn_some hF)
      ·refine wG hF (fun h47 hF => ?_) fun h47 hF => ?_
       ·try simp [go_sem, g, h47]
        exact wT (hj44 _) (Rn_some hF)
       ·try simp [go_sem, g, h47]
        refine wG hF (fun h48 hF => ?_) fun h48 hF => ?_
        ·try simp [go_sem, g, h48]
         exact wT (hj44 _) (Rn_some hF)
        ·try simp [go_sem, g, h48]
         try intros
         refine wG hF (fun h49 hF => ?_) fun h49 hF => ?_
         ·try simp [go_sem, g, h49]
          exact wT (hj44 _) (Rn_some hF)
         ·try simp [go_sem, g, h49]
          refine wC hF [.sh, .sh] c_impl_IsKeyGenInput (fun z50 hF => ?_)
          try simp [go_sem, g, h49]
          exact wT (hj44 _) (Rn_some hF)
    ·refine wB ?_
     obtain ⟨b37, hb38, hψ23⟩ := hF
     refine pR hb38 (fun i20 s19 => [(5, .bl [.int .i64 z2.1.P, .int .i64 z2.1.Q, .int .i64 z2.1.G]), (6, .v (vF z2.2.1)), (8, .v (vN z3.1)), (9, .v (vO z3.2.1)), (10, .v (.bool z3.2.2)), (11, .v (vN z4.1)), (12, .v (vO z4.2.1)), (110, .v (.int .i64 (z3.1.length : Int))), (111, .v (.int .i64 i20))]) (fun s19 _ hN39 => ?_) (fun i20 s19 _ _ hi24 hi25 ho21 hg22 hF => ?_)
     ·subst hN39
      refine wW ?_
      refine wf ?_
      exact wT (hj16 _) hψ23
     ·refine wW ?_
      refine wt ?_ (hb := by simp [go_sem, g, hi24, hi25])
      refine wW ?_
      refine wB ?_
      refine wW ?_
      refine wJ hF (fun x28 => [(5, .bl [.int .i64 z2.1.P, .int .i64 z2.1.Q, .int .i64 z2.1.G]), (6, .v (vF z2.2.1)), (8, .v (vN z3.1)), (9, .v (vO z3.2.1)), (10, .v (.bool z3.2.2)), (11, .v (vN z4.1)), (12, .v (vO z4.2.1)), (110, .v (.int .i64 (z3.1.length : Int))), (111, .v (.int .i64 i20)), (135, .v (.bool x28))]) (fun x28 hF => ?_) fun _ hj26 hF => ?_
      ·refine wI hF (fun h36 hF => ?_) (fun h36 hF => ?_)
       ·cases ho21 _ (Rn_some hF)
        cases hΦ _ (hr17 _ hψ23)
        refine wW ?_
        try simp [go_sem, g]
       ·refine wW ?_
        exact wT (hg22 ()) (Rn_some hF) (a := by simp [go_sem, g, wr_i hi24 hi25 (by assumption)])
      ·refine wX D3_14 follows ?_
       obtain ⟨x29, g, hF⟩ := Rx g hF
       obtain ⟨x30, g, hF⟩ := Rx g hF
       refine wC hF [.sh, .sh] c_laws_qDealing (fun z31 hF => ?_)
       refine wH hF (fun h32 hF => ?_) fun h32 hF => ?_
       ·try simp [go_sem, g, h32]
        exact wT (hj26 _) (Rn_some hF)
       ·obtain ⟨x33, g, hF⟩ := Rx g hF
        obtain ⟨x34, g, hF⟩ := Rx g hF
        try simp [go_sem, g, h32]
        refine wC hF [.sh, .sh] c_laws_qInts (fun z35 hF => ?_)
        try simp [go_sem, g, h32]
        exact wT (hj26 _) (Rn_some hF)
  ·refine wG hF (fun h11 hF => ?_) fun h11 hF => ?_
   ·try simp [go_sem, g, h11]
    exact wT (hj8 _) (Rn_some hF)
   ·try simp [go_sem, g, h11]
    try intros
    refine wG hF (fun h12 hF => ?_) fun h12 hF => ?_
    ·try simp [go_sem, g, h12]
     exact wT (hj8 _) (Rn_some hF)
    ·try simp [go_sem, g, h12]
     try intros
     refine wG hF (fun h13 hF => ?_) fun h13 hF => ?_
     ·try simp [go_sem, g, h13]
      exact wT (hj8 _) (Rn_some hF)
     ·try simp [go_sem, g, h13]
      refine wG hF (fun h14 hF => ?_) fun h14 hF => ?_
      ·try simp [go_sem, g, h14]
       exact wT (hj8 _) (Rn_some hF)
      ·try simp [go_sem, g, h14]
       exact wT (hj8 _) (Rn_some hF)
end Go.Pm
