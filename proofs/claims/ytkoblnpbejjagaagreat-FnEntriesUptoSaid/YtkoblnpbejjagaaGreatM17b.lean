/-
  Plain functions and their walks. Written by wip/tools/lift.py.
-/
import Derived.Test.YtkoblnpbejjagaaGreatM17
namespace Go.Pm
open Go.Am IntKind
open Go.Proofs
set_option maxRecDepth 100000
attribute [local irreducible] pw pwx pw1 pwg qv qz qf
attribute [-simp] List.map_set
set_option linter.unusedSimpArgs false
set_option linter.unusedVariables false
theorem c_spec_l1Cur_spoiltProof__io0 : ∀ {a0c0} {a0c1} {a0c2} {a1} {a2} {r}, F_spec_l1Cur_spoiltProof__io0 a0c0 a0c1 a0c2 a1 a2 = some r → PCalls Tryz.prog 111 [(.io, .bx [.sl false 1 (a0c0.map row_u8), .int .i64 a0c1, .int .u64 a0c2]), (.sh, .agg [.int .i64 a1.P, .int .i64 a1.Q, .int .i64 a1.G]), (.sh, .agg [.sl false 1 (a2.Commits.map row_i64), .sl false 1 (a2.Challenges.map row_i64), .sl false 1 (a2.Responses.map row_i64)])] (Eo (.agg [.sl true 1 (r.1.Commits.map row_i64), .sl true 1 (r.1.Challenges.map row_i64), .sl true 1 (r.1.Responses.map row_i64)]) [.bx [.sl false 1 (r.2.1.map row_u8), .int .i64 r.2.2.1, .int .u64 r.2.2.2], .junk, .junk]) := by
  intro a0c0 a0c1 a0c2 a1 a2 r hr
  apply pF 81 [0] [] [] [.cell 6 30] hr cl111 Tryz.func111
  intro Φ hΦ hF g
  unfold F_spec_l1Cur_spoiltProof__io0 at hF
  try simp [go_sem, g]
  refine pw_wk ?_
  repeat rw [sq]
  refine pw_draw D111_1 follows (by kernel_rfl) rfl ?_
  try simp only [go_sem, D111_1]
  try simp [go_sem, g]
  refine pC hF [.sh] c_spec_l1Own (fun z1 hF => ?_)
  try simp [go_sem, g]
  refine pC hF [.sh] c_spec_l1Own (fun z2 hF => ?_)
  try simp [go_sem, g]
  refine pC hF [.sh] c_spec_l1Own (fun z3 hF => ?_)
  try simp [go_sem, g]
  refine pw_wkK [0, 4, 5, 6] (by simp [go_sem, g]; rfl) ?_
  try simp [go_sem, g]
  refine pC hF [.io, .sh] c_spec_l1Cur_pick__io0 (fun z4 hF => ?_)
  try simp [go_sem, g]
  refine pw_wk ?_
  repeat rw [sq]
  refine pJs hF (fun x7 => [(0, .v (.bx [.sl false 1 (x7.1.1.map row_u8), .int .i64 x7.1.2.1, .int .u64 x7.1.2.2])), (5, .bl [.sl true 1 (x7.2.1.map row_i64), .sl true 1 (x7.2.2.1.map row_i64), .sl true 1 (x7.2.2.2.map row_i64)]), (6, .bl [.sl true 1 [], .sl true 1 [], .sl true 1 []])]) (fun x7 hF => ?_) fun _ hj5 hr6 hF => ?_
  ·cases hΦ _ (Rn_some hF)
   try simp [go_sem, g]
   refine pw_wk ?_
   try simp [go_sem, g]
  ·repeat rw [sq]
   rw [pw_block]
   try simp [go_sem, g]
   refine pw_wk ?_
   repeat rw [sq]
   refine pI hF (fun h8 hF => ?_) (fun h8 hF => ?_)
   ·try simp [go_sem, g]
    try intros
    refine pw_wk ?_
    try simp [go_sem, g]
    try intros
    refine pw_wkK [0, 4, 5, 6, 7, 28] (by simp [go_sem, g]; rfl) ?_
    repeat rw [sq]
    refine pI hF (fun h9 hF => ?_) (fun h9 hF => ?_)
    ·repeat rw [sq]
     refine pw_draw D111_6 follows (by kernel_rfl) rfl ?_
     try simp only [go_sem, D111_6]
     try simp [go_sem, g]
     refine pC hF [.io, .sh] c_spec_l1Cur_pick__io0 (fun z10 hF => ?_)
     try simp [go_sem, g]
     refine pC hF [.io, .sh] c_spec_l1Cur_anyExpo__io0 (fun z11 hF => ?_)
     obtain ⟨x12, g, hF⟩ := Rx g hF
     try simp [go_sem, g]
     exact pT (hj5 ((z11.2.1, z11.2.2.1, z11.2.2.2), z1, z2, z3.set z10.1.toNat z11.1)) (Rn_some hF)
    ·try simp [go_sem, g]
     exact pT (hj5 ((z4.2.1, z4.2.2.1, z4.2.2.2), z1, z2, z3)) (Rn_some hF)
   ·try simp [go_sem, g]
    refine pw_wk ?_
    repeat rw [sq]
    refine pI hF (fun h13 hF => ?_) (fun h13 hF => ?_)
    ·try simp [go_sem, g]
     try intros
     refine pw_wkK [0, 4, 5, 6, 8] (by simp [go_sem, g]; rfl) ?_
     try simp [go_sem, g]
     refine pw_wk ?_
     repeat rw [sq]
     refine pI hF (fun h14 hF => ?_) (fun h14 hF => ?_)
     ·repeat rw [sq]
      refine pw_draw D111_10 follows (by kernel_rfl) rfl ?_
      try simp only [go_sem, D111_10]
      try simp [go_sem, g]
      refine pC hF [.io, .sh] c_spec_l1Cur_pick__io0 (fun z15 hF => ?_)
      try simp [go_sem, g]
      refine pC hF [.io, .sh] c_spec_l1Cur_anyElement__io0 (fun z16 hF => ?_)
      obtain ⟨x17, g, hF⟩ := Rx g hF
      try simp [go_sem, g]
      exact pT (hj5 ((z16.2.1, z16.2.2.1, z16.2.2.2), z1.set z15.1.toNat z16.1, z2, z3)) (Rn_some hF)
     ·try simp [go_sem, g]
      exact pT (hj5 ((z4.2.1, z4.2.2.1, z4.2.2.2), z1, z2, z3)) (Rn_some hF)
    ·try simp [go_sem, g]
     refine pw_wk ?_
     repeat rw [sq]
     refine pI hF (fun h18 hF => ?_) (fun h18 hF => ?_)
     ·try simp [go_sem, g]
      try intros
      refine pw_wkK [0, 4, 5, 6, 9] (by simp [go_sem, g]; rfl) ?_
      try simp [go_sem, g]
      refine pw_wk ?_
      repeat rw [sq]
      refine pI hF (fun h19 hF => ?_) (fun h19 hF => ?_)
      ·repeat rw [sq]
       refine pw_draw D111_14 follows (by kernel_rfl) rfl ?_
       try simp only [go_sem, D111_14]
       try simp [go_sem, g]
       refine pC hF [.io, .sh] c_spec_l1Cur_pick__io0 (fun z20 hF => ?_)
       try simp [go_sem, g]
       refine pC hF [.io, .sh] c_spec_l1Cur_anyExpo__io0 (fun z21 hF => ?_)
       obtain ⟨x22, g, hF⟩ := Rx g hF
       try simp [go_sem, g]
       exact pT (hj5 ((z21.2.1, z21.2.2.1, z21.2.2.2), z1, z2.set z20.1.toNat z21.1, z3)) (Rn_some hF)
      ·try simp [go_sem, g]
       exact pT (hj5 ((z4.2.1, z4.2.2.1, z4.2.2.2), z1, z2, z3)) (Rn_some hF)
     ·try simp [go_sem, g]
      refine pw_wkK [0, 5, 6, 21, 70] (by simp [go_sem, g]; rfl) ?_
      repeat rw [sq]
      refine pI hF (fun h23 hF => ?_) (fun h23 hF => ?_)
      ·obtain ⟨g, hF⟩ := Rg g hF
       try simp [go_sem, g]
       exact pT (hj5 ((z4.2.1, z4.2.2.1, z4.2.2.2), z1, z2, z3 ++ [0])) (Rn_some hF)
      ·try simp [go_sem, g]
       refine pw_wk ?_
       repeat rw [sq]
       refine pI hF (fun h24 hF => ?_) (fun h24 hF => ?_)
       ·cases hΦ _ (hr6 _ (Rn_some hF))
        try simp [go_sem, g]
        refine pw_wk ?_
        try simp [go_sem, g]
       ·try simp [go_sem, g]
        exact pT (hj5 ((z4.2.1, z4.2.2.1, z4.2.2.2), z1, z2, z3)) (Rn_some hF)
def D55_1 : List DE := [d1 0 [5] 5, d2 1 [8] 5 8, d1 2 [5] 5, d2 3 [10] 5 10, d1 4 [5] 5, d2 5 [12] 5 12, d1 7 [5] 5, d2 8 [15] 5 15, d0 10 [], d3 6 [13], d0 9 [9, 11, 14, 16], d2 11 [7, 17] 7 7]
def D55_8 : List DE := [d1 0 [7] 7, d2 1 [37] 7 37, d0 2 [0], d3 3 [39], d0 4 [40], ⟨5, [38, 41], [], none, true, false, false⟩, d1 6 [7] 7, d2 7 [43, 42] 7 43]
noncomputable def F_spec_l1Cur_spoiltEntry__io0 (a0c0 : (List Int)) (a0c1 : Int) (a0c2 : Int) (a1 : Group) (a2 : Entry) : Option (Entry × ((List Int) × Int × Int)) :=
  (F_spec_l1Own a2.Data).bind fun z1 =>
  (F_spec_l1Cur_pick__io0 a0c0 a0c1 a0c2 8).bind fun z2 =>
  ((if (z2.1 == 0) = true then (
  (F_spec_l1Cur_among__io0_mv1 z2.2.1 z2.2.2.1 z2.2.2.2 [0, 9, 10, i64.wrap (a2.Kind + 1)]).bind fun z7 =>
  some ((z7.2.1, z7.2.2.1, z7.2.2.2), z7.1, a2.Author, z1, a2.Sign.Commits, a2.Sign.Challenges, a2.Sign.Responses)) else (
  if (z2.1 == 1) = true then (
  (F_spec_l1Cur_among__io0_mv1 z2.2.1 z2.2.2.1 z2.2.2.2 [(-1), 0, 1, 40]).bind fun z9 =>
  some ((z9.2.1, z9.2.2.1, z9.2.2.2), a2.Kind, z9.1, z1, a2.Sign.Commits, a2.Sign.Challenges, a2.Sign.Responses)) else (
  if (z2.1 == 2) = true then (
  (F_spec_l1Cur_digest__io0 z2.2.1 z2.2.2.1 z2.2.2.2).bind fun z11 =>
  gd ((z1.length + 1) * 8 ≤ 140737488355328 ∧ z1.length + 1 ≤ 4611686018427387904) <|
  some ((z11.2.1, z11.2.2.1, z11.2.2.2), a2.Kind, a2.Author, z1 ++ [z11.1], a2.Sign.Commits, a2.Sign.Challenges, a2.Sign.Responses)) else (
  if (z2.1 == 3) = true then (
  (F_spec_l1Cur_spoiltProof__io0 z2.2.1 z2.2.2.1 z2.2.2.2 a1 a2.Sign).bind fun z13 =>
  some ((z13.2.1, z13.2.2.1, z13.2.2.2), a2.Kind, a2.Author, z1, z13.1.Commits, z13.1.Challenges, z13.1.Responses)) else (
  some ((z2.2.1, z2.2.2.1, z2.2.2.2), a2.Kind, a2.Author, z1, a2.Sign.Commits, a2.Sign.Challenges, a2.Sign.Responses))))) : Option ((((List Int) × Int × Int) × Int × Int × (List Int) × (List Int) × (List Int) × (List Int)))).bind fun x5 =>
  some ((Entry.mk x5.2.1 x5.2.2.1 x5.2.2.2.1 (Proof.mk x5.2.2.2.2.1 x5.2.2.2.2.2.1 x5.2.2.2.2.2.2)), (x5.1.1, x5.1.2.1, x5.1.2.2)))
theorem c_spec_l1Cur_spoiltEntry__io0 : ∀ {a0c0} {a0c1} {a0c2} {a1} {a2} {r}, F_spec_l1Cur_spoiltEntry__io0 a0c0 a0c1 a0c2 a1 a2 = some r → PCalls Tryz.prog 55 [(.io, .bx [.sl false 1 (a0c0.map row_u8), .int .i64 a0c1, .int .u64 a0c2]), (.sh, .agg [.int .i64 a1.P, .int .i64 a1.Q, .int .i64 a1.G]), (.sh, .agg [.int .i64 a2.Kind, .int .i64 a2.Author, .sl false 1 (a2.Data.map row_i64), .sl false 1 (a2.Sign.Commits.map row_i64), .sl false 1 (a2.Sign.Challenges.map row_i64), .sl false 1 (a2.Sign.Responses.map row_i64)])] (Eo (.agg [.int .i64 r.1.Kind, .int .i64 r.1.Author, .sl true 1 (r.1.Data.map row_i64), .sl false 1 (r.1.Sign.Commits.map row_i64), .sl false 1 (r.1.Sign.Challenges.map row_i64), .sl false 1 (r.1.Sign.Responses.map row_i64)]) [.bx [.sl false 1 (r.2.1.map row_u8), .int .i64 r.2.2.1, .int .u64 r.2.2.2], .junk, .junk]) := by
  intro a0c0 a0c1 a0c2 a1 a2 r hr
  apply pF 53 [0] [] [] [.cell 6 32] hr cl55 Tryz.func55
  intro Φ hΦ hF g
  unfold F_spec_l1Cur_spoiltEntry__io0 at hF
  try simp [go_sem, g]
  refine pw_wk ?_
  repeat rw [sq]
  refine pw_draw D55_1 follows (by kernel_rfl) rfl ?_
  try simp only [go_sem, D55_1]
  try simp [go_sem, g]
  refine pC hF [.sh] c_spec_l1Own (fun z1 hF => ?_)
  try simp [go_sem, g]
  refine pw_wkK [0, 4, 5, 6, 7] (by simp [go_sem, g]; rfl) ?_
  try simp [go_sem, g]
  refine pC hF [.io, .sh] c_spec_l1Cur_pick__io0 (fun z2 hF => ?_)
  try simp [go_sem, g]
  refine pw_wk ?_
  repeat rw [sq]
  refine pJ hF (fun x5 => [(0, .v (.bx [.sl false 1 (x5.1.1.map row_u8), .int .i64 x5.1.2.1, .int .u64 x5.1.2.2])), (6, .bl [.int .i64 0, .int .i64 0, .sl true 1 [], .sl true 1 [], .sl true 1 [], .sl true 1 []]), (7, .bl [.int .i64 x5.2.1, .int .i64 x5.2.2.1, .sl true 1 (x5.2.2.2.1.map row_i64), .sl false 1 (x5.2.2.2.2.1.map row_i64), .sl false 1 (x5.2.2.2.2.2.1.map row_i64), .sl false 1 (x5.2.2.2.2.2.2.map row_i64)])]) (fun x5 hF => ?_) fun _ hj3 hF => ?_
  ·cases hΦ _ (Rn_some hF)
   try simp [go_sem, g]
   refine pw_wk ?_
   try simp [go_sem, g]
  ·repeat rw [sq]
   rw [pw_block]
   try simp [go_sem, g]
   refine pw_wk ?_
   repeat rw [sq]
   refine pI hF (fun h6 hF => ?_) (fun h6 hF => ?_)
   ·try simp [go_sem, g]
    refine pC hF [.io, .mv] c_spec_l1Cur_among__io0_mv1 (fun z7 hF => ?_)
    try simp [go_sem, g]
    exact pT (hj3 ((z7.2.1, z7.2.2.1, z7.2.2.2), z7.1, a2.Author, z1, a2.Sign.Commits, a2.Sign.Challenges, a2.Sign.Responses)) (Rn_some hF)
   ·try simp [go_sem, g]
    refine pw_wk ?_
    repeat rw [sq]
    refine pI hF (fun h8 hF => ?_) (fun h8 hF => ?_)
    ·try simp [go_sem, g]
     refine pC hF [.io, .mv] c_spec_l1Cur_among__io0_mv1 (fun z9 hF => ?_)
     try simp [go_sem, g]
     exact pT (hj3 ((z9.2.1, z9.2.2.1, z9.2.2.2), a2.Kind, z9.1, z1, a2.Sign.Commits, a2.Sign.Challenges, a2.Sign.Responses)) (Rn_some hF)
    ·try simp [go_sem, g]
     refine pw_wk ?_
     repeat rw [sq]
     refine pI hF (fun h10 hF => ?_) (fun h10 hF => ?_)
     ·repeat rw [sq]
      refine pw_draw D55_8 follows (by kernel_rfl) rfl ?_
      try simp only [go_sem, D55_8]
      try simp [go_sem, g]
      refine pC hF [.io] c_spec_l1Cur_digest__io0 (fun z11 hF => ?_)
      obtain ⟨g, hF⟩ := Rg g hF
      try simp [go_sem, g]
      exact pT (hj3 ((z11.2.1, z11.2.2.1, z11.2.2.2), a2.Kind, a2.Author, z1 ++ [z11.1], a2.Sign.Commits, a2.Sign.Challenges, a2.Sign.Responses)) (Rn_some hF)
     ·try simp [go_sem, g]
      refine pw_wkK [0, 4, 5, 6, 7, 44] (by simp [go_sem, g]; rfl) ?_
      repeat rw [sq]
      refine pI hF (fun h12 hF => ?_) (fun h12 hF => ?_)
      ·try simp [go_sem, g]
       refine pC hF [.io, .sh, .sh] c_spec_l1Cur_spoiltProof__io0 (fun z13 hF => ?_)
       try simp [go_sem, g]
       refine pw_frzB 7 3 (by simp [go_sem, g]; rfl) rfl (by simp [go_sem]) ?_
       refine pw_frzB 7 4 (by simp [go_sem, g]; rfl) rfl (by simp [go_sem]) ?_
       refine pw_frzB 7 5 (by simp [go_sem, g]; rfl) rfl (by simp [go_sem]) ?_
       exact pT (hj3 ((z13.2.1, z13.2.2.1, z13.2.2.2), a2.Kind, a2.Author, z1, z13.1.Commits, z13.1.Challenges, z13.1.Responses)) (Rn_some hF)
      ·try simp [go_sem, g]
       exact pT (hj3 ((z2.2.1, z2.2.2.1, z2.2.2.2), a2.Kind, a2.Author, z1, a2.Sign.Commits, a2.Sign.Challenges, a2.Sign.Responses)) (Rn_some hF)
def D13_7 : List DE := [d2 0 [6] 6 6, d2 1 [7] 7 7, d0 2 [5], d2 3 [6] 6 6, d1 4 [9] 9, d2 5 [36] 9 36, d1 6 [9] 9, d2 7 [38] 9 38, d0 8 [39], d0 9 [40], d0 10 [37, 41], d0 11 [42], d3 12 [34, 35, 43], d2 13 [2, 32] 2 2, d2 14 [3, 33] 3 3, d2 15 [4, 44] 4 4]
noncomputable def F_spec_DrawAppendEntry (a0 : (List Int)) : Option (Group × Board × Entry) :=
  (F_spec_l1Cur_anyGroup__io0 a0 0 0).bind fun z1 =>
  (F_spec_l2Good z1.1).bind fun z2 =>
  if (!z2) = true then (
  some (z1.1, (Board.mk [] []), (Entry.mk 1 0 [] (Proof.mk [] [] [])))) else (
  (F_spec_l1Cur_board__io0 z1.2.1 z1.2.2.1 z1.2.2.2 z1.1).bind fun z4 =>
  (F_spec_l1Cur_longer__io0 z4.2.2.1 z4.2.2.2.1 z4.2.2.2.2 z1.1 z4.1 z4.2.1).bind fun z5 =>
  (ix z5.1.Entries (i64.wrap ((z5.1.Entries.length : Int) - 1))).bind fun x6 =>
  (F_spec_l1Cur_spoiltEntry__io0 z5.2.1 z5.2.2.1 z5.2.2.2 z1.1 x6).bind fun z7 =>
  some (z1.1, z4.1, z7.1))
theorem c_spec_DrawAppendEntry : ∀ {a0} {r}, F_spec_DrawAppendEntry a0 = some r → PCalls Tryz.prog 13 [(.sh, .sl false 1 (a0.map row_u8))] (Eo (.tup [.agg [.int .i64 r.1.P, .int .i64 r.1.Q, .int .i64 r.1.G], .agg [.sl false 1 (r.2.1.Keys.map row_i64), .sl false 6 (r.2.1.Entries.map row_Entry_z)], .agg [.int .i64 r.2.2.Kind, .int .i64 r.2.2.Author, .sl false 1 (r.2.2.Data.map row_i64), .sl false 1 (r.2.2.Sign.Commits.map row_i64), .sl false 1 (r.2.2.Sign.Challenges.map row_i64), .sl false 1 (r.2.2.Sign.Responses.map row_i64)]]) [.junk]) := by
  intro a0 r hr
  apply pFz 45 [] [29] [12] [.cell 2 25, .cell 3 42, .cell 4 32] hr cl13 Tryz.func13
  intro Φ hΦ hF g
  unfold F_spec_DrawAppendEntry at hF
  iterate 2 (try simp [go_sem, g]; refine pw_wk ?_)
  try simp [go_sem, g]
  refine pC hF [.io] c_spec_l1Cur_anyGroup__io0 (fun z1 hF => ?_)
  try simp [go_sem, g]
  refine pw_wkK [2, 3, 4, 5, 6] (by simp [go_sem, g]; rfl) ?_
  try simp [go_sem, g]
  refine pC hF [.sh] c_spec_l2Good (fun z2 hF => ?_)
  try simp [go_sem, g]
  refine pw_wk ?_
  repeat rw [sq]
  refine pI hF (fun h3 hF => ?_) (fun h3 hF => ?_)
  ·cases hΦ _ (Rn_some hF)
   try simp [go_sem, g]
   refine pw_wk ?_
   try simp [go_sem, g]
  ·try simp [go_sem, g]
   refine pw_wk ?_
   try simp [go_sem, g]
   refine pC hF [.io, .sh] c_spec_l1Cur_board__io0 (fun z4 hF => ?_)
   try simp [go_sem, g]
   refine pw_wkK [2, 3, 4, 5, 6, 7, 8] (by simp [go_sem, g]; rfl) ?_
   try simp [go_sem, g]
   refine pC hF [.io, .sh, .sh, .sh] c_spec_l1Cur_longer__io0 (fun z5 hF => ?_)
   try simp [go_sem, g]
   refine pw_wk ?_
   repeat rw [sq]
   refine pw_draw D13_7 follows (by kernel_rfl) rfl ?_
   try simp only [go_sem, D13_7]
   obtain ⟨x6, g, hF⟩ := Rx g hF
   try simp [go_sem, g]
   try intros
   refine pC hF [.io, .sh, .sh] c_spec_l1Cur_spoiltEntry__io0 (fun z7 hF => ?_)
   try simp [go_sem, g]
   refine pw_wkK [2, 3, 4] (by simp [go_sem, g]; rfl) ?_
   cases hΦ _ (Rn_some hF)
   try simp [go_sem, g]
theorem gr149 : GrowC Tryz.prog 149 40 := by
  intro n H e b es by_ z e1 e2 h0 h1 h2 h3 h4 h5
  refine acalls_intro cl149 Tryz.func149 rfl rfl (by simp [Tryz.f149]) fun hw => ?_
  have hn : ¬ n < 0 := by omega
  have hw1 : i64.wrap n = n := wrI (by omega)
  have hw0 : i64.wrap 0 = 0 := wrI (by omega)
  have ei : (intTy Tryz.prog 3).isSome = true := by kernel_rfl
  by_cases hp : 0 < n
  · have hne : n ≠ 0 := by omega
    have h5' := h5
    simp [okConst] at h5'
    simp [Tryz.f149, awp, aops, aop, ahp, aplain, plainOps, matl, mat, plainV, putO, athen, FR.put, FR.init, rdv, rda, binV, binInt, okConst, Am.lenV, sliceV, sliceBnds, bnd, bndM, aend, resL, resV, resT, hn, e1, e2, ei, hw1, hw0, hp, h1, h2, h3, h4, hne]
    exact h5'
  · have hz : n = 0 := by omega
    subst hz
    simp [Tryz.f149, awp, aops, aop, ahp, aplain, plainOps, matl, mat, plainV, putO, athen, FR.put, FR.init, rdv, rda, binV, binInt, okConst, Am.lenV, sliceV, sliceBnds, bnd, bndM, aend, resL, resV, resT, hn, e1, e2, hw1, hw0, hp]
noncomputable def F_slices_Concat_impl_Entry_impl_Entry (a0 : (List (List Entry))) : Option ((List Entry)) :=
  ((rloop (σ := Int) (fun i5 s4 =>
  (ix a0 i5).bind fun x11 =>
  if decide ((i64.wrap (s4 + (x11.length : Int))) < 0) = true then (
  none) else (
  some (.go (i64.wrap (s4 + (x11.length : Int)))))) (fun s4 => s4) (a0.length) 0 0 : Option (Int)).bind fun x3 =>
  gd (0 ≤ x3 ∧ 112 * x3 ≤ 140737488355328 ∧ x3 ≤ 4611686018427387904) <|
  ((rloop (σ := (List Entry)) (fun i22 s21 =>
  (ix a0 i22).bind fun x28 =>
  gd ((s21.length + x28.length) * 112 ≤ 140737488355328 ∧ s21.length + x28.length ≤ 4611686018427387904) <|
  some (.go (s21 ++ x28))) (fun s21 => s21) (a0.length) 0 [] : Option ((List Entry))).bind fun x20 =>
  some x20))
theorem c_slices_Concat_impl_Entry_impl_Entry : ∀ {a0} {r}, F_slices_Concat_impl_Entry_impl_Entry a0 = some r → PCalls Tryz.prog 112 [(.sh, .sl false 1 (a0.map row_zEntry_z))] (Eo (.sl true 6 (r.map row_Entry_z)) [.junk]) := by
  intro a0 r hr
  apply pF 36 [] [] [] [.tmp 2] hr cl112 Tryz.func112
  intro Φ hΦ hF g
  unfold F_slices_Concat_impl_Entry_impl_Entry at hF
  iterate 3 (try simp [go_sem, g]; try intros; refine pw_wk ?_)
  repeat rw [sq]
  refine pJ hF (fun x3 => [(0, .v (.sl false 1 (a0.map row_zEntry_z))), (3, .v (.int .i64 x3))]) (fun x3 hF => ?_) fun _ hj1 hF => ?_
  ·obtain ⟨g17, hF⟩ := Rn_gd hF
   try simp [go_sem, g]
   refine pw_grow gr149 ez40 (by simp [go_sem, g]) g17 ?_
   try simp [go_sem, g]
   try intros
   refine pw_wk ?_
   try simp [go_sem, g]
   try intros
   refine pw_wkK [6, 25, 26, 27] (by simp [go_sem, g]; rfl) ?_
   repeat rw [sq]
   refine pJ hF (fun x20 => [(6, .v (.sl true 6 (x20.map row_Entry_z)))]) (fun x20 hF => ?_) fun _ hj18 hF => ?_
   ·cases hΦ _ (Rn_some hF)
    try simp [go_sem, g]
    refine pw_wk ?_
    try simp [go_sem, g]
   ·repeat rw [sq]
    rw [pw_block]
    obtain ⟨b29, hb30, hψ25⟩ := hF
    refine pR hb30 (fun i22 s21 => [(6, .v (.sl true 6 (s21.map row_Entry_z))), (25, .v (.sl false 1 (a0.map row_zEntry_z))), (26, .v (.int .i64 (a0.length : Int))), (27, .v (.int .i64 i22))]) (fun s21 _ hN31 => ?_) (fun i22 s21 _ _ hi26 hi27 ho23 hg24 hF => ?_)
    ·subst hN31
     try simp [go_sem]
     refine pw_wk ?_
     repeat rw [sq]
     refine pw_cond_f (by simp [go_sem]) ?_
     try simp [go_sem]
     exact pT (hj18 s21) hψ25 (by simp [go_sem])
    ·try simp [go_sem, g]
     refine pw_wk ?_
     repeat rw [sq]
     refine pw_cond_t (by simp [go_sem, g, hi26, hi27]) ?_
     try simp [go_sem, g]
     refine pw_wk ?_
     repeat rw [sq]
     rw [pw_block]
     obtain ⟨x28, g, hF⟩ := Rx g hF
     obtain ⟨g, hF⟩ := Rg g hF
     iterate 2 (try simp [go_sem, g]; refine pw_wk ?_)
     try simp [go_sem, g]
     exact pT (hg24 (s21 ++ x28)) (Rn_some hF) (by simp [go_sem, g, wr_i hi26 hi27 (by assumption)])
  ·repeat rw [sq]
   rw [pw_block]
   obtain ⟨b13, hb14, hψ8⟩ := hF
   refine pR hb14 (fun i5 s4 => [(0, .v (.sl false 1 (a0.map row_zEntry_z))), (3, .v (.int .i64 s4)), (9, .v (.sl false 1 (a0.map row_zEntry_z))), (10, .v (.int .i64 (a0.length : Int))), (11, .v (.int .i64 i5))]) (fun s4 _ hN15 => ?_) (fun i5 s4 _ _ hi9 hi10 ho6 hg7 hF => ?_)
   ·subst hN15
    try simp [go_sem]
    refine pw_wk ?_
    repeat rw [sq]
    refine pw_cond_f (by simp [go_sem]) ?_
    try simp [go_sem]
    exact pT (hj1 s4) hψ8 (by simp [go_sem])
   ·try simp [go_sem, g]
    refine pw_wk ?_
    repeat rw [sq]
    refine pw_cond_t (by simp [go_sem, g, hi9, hi10]) ?_
    try simp [go_sem, g]
    refine pw_wk ?_
    repeat rw [sq]
    rw [pw_block]
    obtain ⟨x11, g, hF⟩ := Rx g hF
    try simp [go_sem, g]
    try intros
    refine pw_wk ?_
    try simp [go_sem, g]
    try intros
    refine pw_wkK [0, 3, 9, 10, 11] (by simp [go_sem, g]; rfl) ?_
    try simp [go_sem, g]
    refine pw_wk ?_
    repeat rw [sq]
    refine pI hF (fun h12 hF => ?_) (fun h12 hF => ?_)
    ·exact (Rn_none hF).elim
    ·try simp [go_sem, g]
     refine pw_wk ?_
     try simp [go_sem, g]
     exact pT (hg7 (i64.wrap (s4 + (x11.length : Int)))) (Rn_some hF) (by simp [go_sem, g, wr_i hi9 hi10 (by assumption)])
noncomputable def F_slices_Concat_impl_Entry_impl_Entry__mv0 (a0 : (List (List Entry))) : Option ((List Entry)) :=
  ((rloop (σ := Int) (fun i5 s4 =>
  (ix a0 i5).bind fun x11 =>
  if decide ((i64.wrap (s4 + (x11.length : Int))) < 0) = true then (
  none) else (
  some (.go (i64.wrap (s4 + (x11.length : Int)))))) (fun s4 => s4) (a0.length) 0 0 : Option (Int)).bind fun x3 =>
  gd (0 ≤ x3 ∧ 112 * x3 ≤ 140737488355328 ∧ x3 ≤ 4611686018427387904) <|
  ((rloop (σ := (List Entry)) (fun i22 s21 =>
  (ix a0 i22).bind fun x28 =>
  gd ((s21.length + x28.length) * 112 ≤ 140737488355328 ∧ s21.length + x28.length ≤ 4611686018427387904) <|
  some (.go (s21 ++ x28))) (fun s21 => s21) (a0.length) 0 [] : Option ((List Entry))).bind fun x20 =>
  some x20))
theorem c_slices_Concat_impl_Entry_impl_Entry__mv0 : ∀ {a0} {r}, F_slices_Concat_impl_Entry_impl_Entry__mv0 a0 = some r → PCalls Tryz.prog 112 [(.mv, .sl true 1 (a0.map row_zEntry_z))] (Eo (.sl true 6 (r.map row_Entry_z)) [.junk]) := by
  intro a0 r hr
  apply pF 36 [] [] [] [.tmp 2] hr cl112 Tryz.func112
  intro Φ hΦ hF g
  unfold F_slices_Concat_impl_Entry_impl_Entry__mv0 at hF
  iterate 3 (try simp [go_sem, g]; try intros; refine pw_wk ?_)
  repeat rw [sq]
  refine pJ hF (fun x3 => [(0, .v (.sl true 1 (a0.map row_zEntry_z))), (3, .v (.int .i64 x3))]) (fun x3 hF => ?_) fun _ hj1 hF => ?_
  ·obtain ⟨g17, hF⟩ := Rn_gd hF
   try simp [go_sem, g]
   refine pw_grow gr149 ez40 (by simp [go_sem, g]) g17 ?_
   try simp [go_sem, g]
   try intros
   refine pw_wk ?_
   try simp [go_sem, g]
   try intros
   refine pw_wkK [0, 6, 25, 26, 27] (by simp [go_sem, g]; rfl) ?_
   repeat rw [sq]
   refine pJ hF (fun x20 => [(6, .v (.sl true 6 (x20.map row_Entry_z)))]) (fun x20 hF => ?_) fun _ hj18 hF => ?_
   ·cases hΦ _ (Rn_some hF)
    try simp [go_sem, g]
    refine pw_wk ?_
    try simp [go_sem, g]
   ·repeat rw [sq]
    rw [pw_block]
    obtain ⟨b29, hb30, hψ25⟩ := hF
    refine pR hb30 (fun i22 s21 => [(0, .v (.sl true 1 (a0.map row_zEntry_z))), (6, .v (.sl true 6 (s21.map row_Entry_z))), (25, .rf 0 []), (26, .v (.int .i64 (a0.length : Int))), (27, .v (.int .i64 i22))]) (fun s21 _ hN31 => ?_) (fun i22 s21 _ _ hi26 hi27 ho23 hg24 hF => ?_)
    ·subst hN31
     try simp [go_sem]
     refine pw_wk ?_
     repeat rw [sq]
     refine pw_cond_f (by simp [go_sem]) ?_
     try simp [go_sem]
     exact pT (hj18 s21) hψ25 (by simp [go_sem])
    ·try simp [go_sem, g]
     refine pw_wk ?_
     repeat rw [sq]
     refine pw_cond_t (by simp [go_sem, g, hi26, hi27]) ?_
     try simp [go_sem, g]
     refine pw_wk ?_
     repeat rw [sq]
     rw [pw_block]
     obtain ⟨x28, g, hF⟩ := Rx g hF
     obtain ⟨g, hF⟩ := Rg g hF
     iterate 2 (try simp [go_sem, g]; refine pw_wk ?_)
     try simp [go_sem, g]
     exact pT (hg24 (s21 ++ x28)) (Rn_some hF) (by simp [go_sem, g, wr_i hi26 hi27 (by assumption)])
  ·repeat rw [sq]
   rw [pw_block]
   obtain ⟨b13, hb14, hψ8⟩ := hF
   refine pR hb14 (fun i5 s4 => [(0, .v (.sl true 1 (a0.map row_zEntry_z))), (3, .v (.int .i64 s4)), (9, .rf 0 []), (10, .v (.int .i64 (a0.length : Int))), (11, .v (.int .i64 i5))]) (fun s4 _ hN15 => ?_) (fun i5 s4 _ _ hi9 hi10 ho6 hg7 hF => ?_)
   ·subst hN15
    try simp [go_sem]
    refine pw_wk ?_
    repeat rw [sq]
    refine pw_cond_f (by simp [go_sem]) ?_
    try simp [go_sem]
    exact pT (hj1 s4) hψ8 (by simp [go_sem])
   ·try simp [go_sem, g]
    refine pw_wk ?_
    repeat rw [sq]
    refine pw_cond_t (by simp [go_sem, g, hi9, hi10]) ?_
    try simp [go_sem, g]
    refine pw_wk ?_
    repeat rw [sq]
    rw [pw_block]
    obtain ⟨x11, g, hF⟩ := Rx g hF
    try simp [go_sem, g]
    try intros
    refine pw_wk ?_
    try simp [go_sem, g]
    try intros
    refine pw_wkK [0, 3, 9, 10, 11] (by simp [go_sem, g]; rfl) ?_
    try simp [go_sem, g]
    refine pw_wk ?_
    repeat rw [sq]
    refine pI hF (fun h12 hF => ?_) (fun h12 hF => ?_)
    ·exact (Rn_none hF).elim
    ·try simp [go_sem, g]
     refine pw_wk ?_
     try simp [go_sem, g]
     exact pT (hg7 (i64.wrap (s4 + (x11.length : Int)))) (Rn_some hF) (by simp [go_sem, g, wr_i hi9 hi10 (by assumption)])
def D113_1 : List DE := [d1 0 [1] 1, d2 1 [3] 1 3, d1 3 [1] 1, d2 4 [6] 1 6, d1 6 [1] 1, d2 7 [9] 1 9, d3 2 [4], d3 5 [7], d3 8 [10], d0 9 [5, 8, 11], d2 10 [2, 12] 2 2]
noncomputable def F_impl_copyProof (a0 : Proof) : Option (Proof) :=
  (F_slices_Clone_int_int a0.Commits).bind fun z1 =>
  (F_slices_Clone_int_int a0.Challenges).bind fun z2 =>
  (F_slices_Clone_int_int a0.Responses).bind fun z3 =>
  some (Proof.mk z1 z2 z3)
theorem c_impl_copyProof : ∀ {a0} {r}, F_impl_copyProof a0 = some r → PCalls Tryz.prog 113 [(.sh, .agg [.sl false 1 (a0.Commits.map row_i64), .sl false 1 (a0.Challenges.map row_i64), .sl false 1 (a0.Responses.map row_i64)])] (Eo (.agg [.sl true 1 (r.Commits.map row_i64), .sl true 1 (r.Challenges.map row_i64), .sl true 1 (r.Responses.map row_i64)]) [.junk]) := by
  intro a0 r hr
  apply pF 13 [] [] [] [.cell 2 30] hr cl113 Tryz.func113
  intro Φ hΦ hF g
  unfold F_impl_copyProof at hF
  try simp [go_sem, g]
  refine pw_wk ?_
  repeat rw [sq]
  refine pw_draw D113_1 follows (by kernel_rfl) rfl ?_
  try simp only [go_sem, D113_1]
  try simp [go_sem, g]
  refine pC hF [.sh] c_slices_Clone_int_int (fun z1 hF => ?_)
  try simp [go_sem, g]
  refine pC hF [.sh] c_slices_Clone_int_int (fun z2 hF => ?_)
  try simp [go_sem, g]
  refine pC hF [.sh] c_slices_Clone_int_int (fun z3 hF => ?_)
  try simp [go_sem, g]
  refine pw_wkK [2] (by simp [go_sem, g]; rfl) ?_
  cases hΦ _ (Rn_some hF)
  try simp [go_sem, g]
def D56_5 : List DE := [d1 0 [7] 7, d2 1 [22] 7 22, d1 3 [7] 7, d2 4 [25] 7 25, d3 2 [23], d1 6 [7] 7, d3 5 [26], d2 7 [28, 24] 7 28, d1 8 [7] 7, d2 9 [29, 27] 7 29]
noncomputable def F_impl_copyBoard (a0 : Board) (a1 : (List Entry)) : Option (Board) :=
  (F_slices_Clone_int_int a0.Keys).bind fun z1 =>
  (F_slices_Concat_impl_Entry_impl_Entry__mv0 [a0.Entries, a1]).bind fun z2 =>
  ((rloop (σ := (List Int) × (List Entry)) (fun i27 s26 =>
  (ix z2 i27).bind fun x33 =>
  (F_slices_Clone_int_int x33.Data).bind fun z34 =>
  (F_impl_copyProof x33.Sign).bind fun z35 =>
  gd ((s26.2.length + 1) * 112 ≤ 140737488355328 ∧ s26.2.length + 1 ≤ 4611686018427387904) <|
  some (.go (s26.1, s26.2 ++ [(Entry.mk x33.Kind x33.Author z34 z35)]))) (fun s26 => (s26.1, s26.2)) (z2.length) 0 (z1, []) : Option (((List Int) × (List Entry)))).bind fun x5 =>
  some (Board.mk x5.1 x5.2))
theorem c_impl_copyBoard : ∀ {a0} {a1} {r}, F_impl_copyBoard a0 a1 = some r → PCalls Tryz.prog 56 [(.sh, .agg [.sl false 1 (a0.Keys.map row_i64), .sl false 6 (a0.Entries.map row_Entry_z)]), (.sh, .sl false 6 (a1.map row_Entry_z))] (Eo (.agg [.sl true 1 (r.Keys.map row_i64), .sl true 6 (r.Entries.map row_Entry_o)]) [.junk, .junk]) := by
  intro a0 a1 r hr
  apply pF 38 [] [] [] [.cell 4 42] hr cl56 Tryz.func56
  intro Φ hΦ hF g
  unfold F_impl_copyBoard at hF
  try simp [go_sem, g]
  refine pw_wk ?_
  try simp [go_sem, g]
  refine pC hF [.sh] c_slices_Clone_int_int (fun z1 hF => ?_)
  try simp [go_sem, g]
  refine pw_wk ?_
  try simp [go_sem, g]
  refine pC hF [.mv] c_slices_Concat_impl_Entry_impl_Entry__mv0 (fun z2 hF => ?_)
  try simp [go_sem, g]
  try intros
  refine pw_wkK [4, 5, 16, 17, 18] (by simp [go_sem, g]; rfl) ?_
  repeat rw [sq]
  refine pJ hF (fun x5 => [(4, .bl [.sl true 1 [], .sl true 6 []]), (5, .bl [.sl true 1 (x5.1.map row_i64), .sl true 6 (x5.2.map row_Entry_o)])]) (fun x5 hF => ?_) fun _ hj3 hF => ?_
  ·cases hΦ _ (Rn_some hF)
   try simp [go_sem, g]
   refine pw_wk ?_
   try simp [go_sem, g]
  ·repeat rw [sq]
   rw [pw_block]
   obtain ⟨b36, hb37, hψ30⟩ := hF
   refine pR hb37 (fun i27 s26 => [(4, .bl [.sl true 1 [], .sl true 6 []]), (5, .bl [.sl true 1 (s26.1.map row_i64), .sl true 6 (s26.2.map row_Entry_o)]), (16, .v (.sl true 6 (z2.map row_Entry_z))), (17, .v (.int .i64 (z2.length : Int))), (18, .v (.int .i64 i27))]) (fun s26 _ hN38 => ?_) (fun i27 s26 _ _ hi31 hi32 ho28 hg29 hF => ?_)
   ·subst hN38
    try simp [go_sem]
    refine pw_wk ?_
    repeat rw [sq]
    refine pw_cond_f (by simp [go_sem]) ?_
    try simp [go_sem]
    exact pT (hj3 (s26.1, s26.2)) hψ30 (by simp [go_sem])
   ·try simp [go_sem, g]
    refine pw_wk ?_
    repeat rw [sq]
    refine pw_cond_t (by simp [go_sem, g, hi31, hi32]) ?_
    try simp [go_sem, g]
    refine pw_wk ?_
    repeat rw [sq]
    rw [pw_block]
    obtain ⟨x33, g, hF⟩ := Rx g hF
    try simp [go_sem, g]
    refine pw_wk ?_
    repeat rw [sq]
    refine pw_draw D56_5 follows (by kernel_rfl) rfl ?_
    try simp only [go_sem, D56_5]
    try simp [go_sem, g]
    refine pC hF [.sh] c_slices_Clone_int_int (fun z34 hF => ?_)
    try simp [go_sem, g]
    refine pC hF [.sh] c_impl_copyProof (fun z35 hF => ?_)
    try simp [go_sem, g]
    refine pw_wkK [4, 5, 7, 16, 17, 18] (by simp [go_sem, g]; rfl) ?_
    obtain ⟨g, hF⟩ := Rg g hF
    try simp [go_sem, g]
    refine pw_wk ?_
    try simp [go_sem, g]
    exact pT (hg29 (s26.1, s26.2 ++ [(Entry.mk x33.Kind x33.Author z34 z35)])) (Rn_some hF) (by simp [go_sem, g, wr_i hi31 hi32 (by assumption)])
noncomputable def F_impl_Group_areKeys (a0 : Group) (a1 : (List Int)) : Option (Bool) :=
  ((if decide ((a1.length : Int) ≤ 40) = true then (
  (F_impl_Group_hasAll a0 a1).bind fun z5 =>
  some z5) else (
  some false) : Option (Bool)).bind fun x3 =>
  some x3)
theorem c_impl_Group_areKeys : ∀ {a0} {a1} {r}, F_impl_Group_areKeys a0 a1 = some r → PCalls Tryz.prog 117 [(.sh, .agg [.int .i64 a0.P, .int .i64 a0.Q, .int .i64 a0.G]), (.sh, .sl false 1 (a1.map row_i64))] (Eo (.bool r) [.junk, .junk]) := by
  intro a0 a1 r hr
  apply pF 13 [] [] [] [.tmp 4] hr cl117 Tryz.func117
  intro Φ hΦ hF g
  unfold F_impl_Group_areKeys at hF
  try simp [go_sem, g]
  refine pw_wk ?_
  repeat rw [sq]
  refine pJ hF (fun x3 => [(4, .v (.bool x3))]) (fun x3 hF => ?_) fun _ hj1 hF => ?_
  ·cases hΦ _ (Rn_some hF)
   try simp [go_sem, g]
  ·try simp [go_sem, g]
   try intros
   refine pwg_F hF (fun h4 hF => ?_) fun h4 hF => ?_
   ·try simp [go_sem, g, h4]
    refine pC hF [.sh, .sh] c_impl_Group_hasAll (fun z5 hF => ?_)
    try simp [go_sem, g, h4]
    exact pT (hj1 z5) (Rn_some hF)
   ·try simp [go_sem, g, h4]
    exact pT (hj1 false) (Rn_some hF)
def D60_6 : List DE := [d1 0 [6] 6, d2 1 [26] 6 26, d1 2 [3] 3, d2 3 [28] 3 28, d0 4 [29], d0 5 [30], d3 6 [27, 31], d0 7 [32], d0 8 [33], d2 9 [2, 34] 2 2, d1 10 [3, 34] 3, d2 11 [36, 34] 3 36, d1 12 [6, 34] 6, d2 13 [38, 34] 6 38, d0 14 [37, 39, 34], d0 15 [40, 34], d0 16 [5, 34], d2 17 [6, 34] 6 6, d3 18 [35, 41, 42, 43, 34], d0 19 [44, 34], d0 20 [34, 45]]
noncomputable def F_impl_Group_isBoard (a0 : Group) (a1 : Board) : Option (Bool) :=
  (((F_impl_Group_areKeys a0 a1.Keys).bind fun z4 =>
  if (!z4) = true then (
  some true) else (
  some (decide (64 < (a1.Entries.length : Int)))) : Option (Bool)).bind fun x3 =>
  if x3 = true then (
  some false) else (
  ((rloop (σ := Unit) (fun i11 s10 =>
  (ix a1.Entries i11).bind fun x17 =>
  (((F_impl_within x17.Author 0 (i64.wrap ((a1.Keys.length : Int) - 1))).bind fun z21 =>
  if (!z21) = true then (
  some true) else (
  (ix a1.Keys x17.Author).bind fun x23 =>
  (F_impl_Group_isEntry a0 x23 i11 x17).bind fun z24 =>
  some (!z24)) : Option (Bool)).bind fun x20 =>
  if x20 = true then (
  some (.out (.inr false))) else (
  some (.go ())))) (fun s10 => .inl ()) (a1.Entries.length) 0 () : Option (Unit ⊕ Bool)).bind (Sum.elim (fun x9 =>
  some true) some))))
theorem c_impl_Group_isBoard : ∀ {a0} {a1} {r}, F_impl_Group_isBoard a0 a1 = some r → PCalls Tryz.prog 60 [(.sh, .agg [.int .i64 a0.P, .int .i64 a0.Q, .int .i64 a0.G]), (.sh, .agg [.sl false 1 (a1.Keys.map row_i64), .sl false 6 (a1.Entries.map row_Entry_z)])] (Eo (.bool r) [.junk, .junk]) := by
  intro a0 a1 r hr
  apply pF 48 [] [] [] [.tmp 4] hr cl60 Tryz.func60
  intro Φ hΦ hF g
  unfold F_impl_Group_isBoard at hF
  try simp [go_sem, g]
  refine pw_wk ?_
  repeat rw [sq]
  refine pJ hF (fun x3 => [(2, .bl [.int .i64 a0.P, .int .i64 a0.Q, .int .i64 a0.G]), (3, .bl [.sl false 1 (a1.Keys.map row_i64), .sl false 6 (a1.Entries.map row_Entry_z)]), (17, .v (.bool x3))]) (fun x3 hF => ?_) fun _ hj1 hF => ?_
  ·repeat rw [sq]
   refine pI hF (fun h6 hF => ?_) (fun h6 hF => ?_)
   ·cases hΦ _ (Rn_some hF)
    try simp [go_sem, g]
    refine pw_wk ?_
    try simp [go_sem, g]
   ·iterate 2 (try simp [go_sem, g]; try intros; refine pw_wk ?_)
    repeat rw [sq]
    refine pJs hF (fun x9 => []) (fun x9 hF => ?_) fun _ hj7 hr8 hF => ?_
    ·cases hΦ _ (Rn_some hF)
     try simp [go_sem, g]
     refine pw_wk ?_
     try simp [go_sem, g]
    ·repeat rw [sq]
     rw [pw_block]
     obtain ⟨b26, hb27, hψ14⟩ := hF
     refine pR hb27 (fun i11 s10 => [(2, .bl [.int .i64 a0.P, .int .i64 a0.Q, .int .i64 a0.G]), (3, .bl [.sl false 1 (a1.Keys.map row_i64), .sl false 6 (a1.Entries.map row_Entry_z)]), (19, .v (.sl false 6 (a1.Entries.map row_Entry_z))), (20, .v (.int .i64 (a1.Entries.length : Int))), (21, .v (.int .i64 i11))]) (fun s10 _ hN28 => ?_) (fun i11 s10 _ _ hi15 hi16 ho12 hg13 hF => ?_)
     ·subst hN28
      try simp [go_sem]
      refine pw_wk ?_
      repeat rw [sq]
      refine pw_cond_f (by simp [go_sem]) ?_
      try simp [go_sem]
      exact pT (hj7 ()) hψ14 (by simp [go_sem])
     ·try simp [go_sem, g]
      refine pw_wk ?_
      repeat rw [sq]
      refine pw_cond_t (by simp [go_sem, g, hi15, hi16]) ?_
      try simp [go_sem, g]
      refine pw_wk ?_
      repeat rw [sq]
      rw [pw_block]
      obtain ⟨x17, g, hF⟩ := Rx g hF
      try simp [go_sem, g]
      refine pw_wkK [2, 3, 5, 6, 19, 20, 21] (by simp [go_sem, g]; rfl) ?_
      repeat rw [sq]
      refine pJ hF (fun x20 => [(2, .bl [.int .i64 a0.P, .int .i64 a0.Q, .int .i64 a0.G]), (3, .bl [.sl false 1 (a1.Keys.map row_i64), .sl false 6 (a1.Entries.map row_Entry_z)]), (19, .v (.sl false 6 (a1.Entries.map row_Entry_z))), (20, .v (.int .i64 (a1.Entries.length : Int))), (21, .v (.int .i64 i11)), (46, .v (.bool x20))]) (fun x20 hF => ?_) fun _ hj18 hF => ?_
      ·repeat rw [sq]
       refine pI hF (fun h25 hF => ?_) (fun h25 hF => ?_)
       ·cases ho12 _ (Rn_some hF)
        cases hΦ _ (hr8 _ hψ14)
        try simp [go_sem, g]
        refine pw_wk ?_
        try simp [go_sem, g]
       ·try simp [go_sem, g]
        refine pw_wk ?_
        try simp [go_sem, g]
        exact pT (hg13 ()) (Rn_some hF) (by simp [go_sem, g, wr_i hi15 hi16 (by assumption)])
      ·repeat rw [sq]
       refine pw_draw D60_6 follows (by kernel_rfl) rfl ?_
       try simp only [go_sem, D60_6]
       try simp [go_sem, g]
       try intros
       refine pC hF [.sh, .sh, .sh] c_impl_within (fun z21 hF => ?_)
       try simp [go_sem, g]
       refine pwgD_F hF (fun h22 hF => ?_) fun h22 hF => ?_
       ·try simp [go_sem, g, h22]
        exact pT (hj18 true) (Rn_some hF)
       ·obtain ⟨x23, g, hF⟩ := Rx g hF
        try simp [go_sem, g, h22]
        refine pC hF [.sh, .sh, .sh, .sh] c_impl_Group_isEntry (fun z24 hF => ?_)
        try simp [go_sem, g, h22]
        exact pT (hj18 (!z24)) (Rn_some hF)
  ·try simp [go_sem, g]
   refine pC hF [.sh, .sh] c_impl_Group_areKeys (fun z4 hF => ?_)
   try simp [go_sem, g]
   refine pwg_F hF (fun h5 hF => ?_) fun h5 hF => ?_
   ·try simp [go_sem, g, h5]
    exact pT (hj1 true) (Rn_some hF)
   ·try simp [go_sem, g, h5]
    try intros
    exact pT (hj1 (decide (64 < (a1.Entries.length : Int)))) (Rn_some hF)
noncomputable def F_impl_areBoard (a0 : Group) (a1 : Board) : Option (Bool) :=
  (((F_impl_IsValidGroup a0).bind fun z4 =>
  if z4 = true then (
  (F_impl_Group_isBoard a0 a1).bind fun z6 =>
  some z6) else (
  some false) : Option (Bool)).bind fun x3 =>
  some x3)
theorem c_impl_areBoard : ∀ {a0} {a1} {r}, F_impl_areBoard a0 a1 = some r → PCalls Tryz.prog 57 [(.sh, .agg [.int .i64 a0.P, .int .i64 a0.Q, .int .i64 a0.G]), (.sh, .agg [.sl false 1 (a1.Keys.map row_i64), .sl false 6 (a1.Entries.map row_Entry_z)])] (Eo (.bool r) [.junk, .junk]) := by
  intro a0 a1 r hr
  apply pF 12 [] [] [] [.tmp 4] hr cl57 Tryz.func57
  intro Φ hΦ hF g
  unfold F_impl_areBoard at hF
  try simp [go_sem, g]
  refine pw_wk ?_
  repeat rw [sq]
  refine pJ hF (fun x3 => [(4, .v (.bool x3))]) (fun x3 hF => ?_) fun _ hj1 hF => ?_
  ·cases hΦ _ (Rn_some hF)
   try simp [go_sem, g]
  ·try simp [go_sem, g]
   refine pC hF [.sh] c_impl_IsValidGroup (fun z4 hF => ?_)
   try simp [go_sem, g]
   refine pwg_F hF (fun h5 hF => ?_) fun h5 hF => ?_
   ·try simp [go_sem, g, h5]
    refine pC hF [.sh, .sh] c_impl_Group_isBoard (fun z6 hF => ?_)
    try simp [go_sem, g, h5]
    exact pT (hj1 z6) (Rn_some hF)
   ·try simp [go_sem, g, h5]
    exact pT (hj1 false) (Rn_some hF)
noncomputable def F_impl_AppendEntry (a0 : Group) (a1 : Board) (a2 : Entry) : Option (Board × Bool) :=
  (F_impl_copyBoard a1 [a2]).bind fun z1 =>
  (F_impl_areBoard a0 z1).bind fun z2 =>
  if (!z2) = true then (
  some ((Board.mk [] []), false)) else (
  some (z1, true))
theorem c_impl_AppendEntry : ∀ {a0} {a1} {a2} {r}, F_impl_AppendEntry a0 a1 a2 = some r → PCalls Tryz.prog 14 [(.sh, .agg [.int .i64 a0.P, .int .i64 a0.Q, .int .i64 a0.G]), (.sh, .agg [.sl false 1 (a1.Keys.map row_i64), .sl false 6 (a1.Entries.map row_Entry_z)]), (.sh, .agg [.int .i64 a2.Kind, .int .i64 a2.Author, .sl false 1 (a2.Data.map row_i64), .sl false 1 (a2.Sign.Commits.map row_i64), .sl false 1 (a2.Sign.Challenges.map row_i64), .sl false 1 (a2.Sign.Responses.map row_i64)])] (Eo (.tup [.agg [.sl true 1 (r.1.Keys.map row_i64), .sl true 6 (r.1.Entries.map row_Entry_o)], .bool r.2]) [.junk, .junk, .junk]) := by
  intro a0 a1 a2 r hr
  apply pF 19 [] [] [] [.cell 6 42, .tmp 7] hr cl14 Tryz.func14
  intro Φ hΦ hF g
  unfold F_impl_AppendEntry at hF
  try simp [go_sem, g]
  refine pw_wk ?_
  try simp [go_sem, g]
  refine pC hF [.sh, .sh] c_impl_copyBoard (fun z1 hF => ?_)
  try simp [go_sem, g]
  refine pw_wkK [3, 6, 8] (by simp [go_sem, g]; rfl) ?_
  try simp [go_sem, g]
  refine pC hF [.sh, .sh] c_impl_areBoard (fun z2 hF => ?_)
  try simp [go_sem, g]
  refine pw_wk ?_
  repeat rw [sq]
  refine pI hF (fun h3 hF => ?_) (fun h3 hF => ?_)
  ·cases hΦ _ (Rn_some hF)
   try simp [go_sem, g]
   refine pw_wk ?_
   try simp [go_sem, g]
  ·cases hΦ _ (Rn_some hF)
   iterate 2 (try simp [go_sem, g]; refine pw_wk ?_)
   try simp [go_sem, g]
def D114_1 : List DE := [d1 0 [1] 1, d2 1 [3] 1 3, d1 3 [1] 1, d2 4 [6] 1 6, d1 6 [1] 1, d2 7 [9] 1 9, d3 2 [4], d3 5 [7], d3 8 [10], d0 9 [5, 8, 11], d2 10 [2, 12] 2 2]
noncomputable def F_spec_oOwnProof (a0 : Proof) : Option (Proof) :=
  (F_spec_l1Own a0.Commits).bind fun z1 =>
  (F_spec_l1Own a0.Challenges).bind fun z2 =>
  (F_spec_l1Own a0.Responses).bind fun z3 =>
  some (Proof.mk z1 z2 z3)
theorem c_spec_oOwnProof : ∀ {a0} {r}, F_spec_oOwnProof a0 = some r → PCalls Tryz.prog 114 [(.sh, .agg [.sl false 1 (a0.Commits.map row_i64), .sl false 1 (a0.Challenges.map row_i64), .sl false 1 (a0.Responses.map row_i64)])] (Eo (.agg [.sl true 1 (r.Commits.map row_i64), .sl true 1 (r.Challenges.map row_i64), .sl true 1 (r.Responses.map row_i64)]) [.junk]) := by
  intro a0 r hr
  apply pF 13 [] [] [] [.cell 2 30] hr cl114 Tryz.func114
  intro Φ hΦ hF g
  unfold F_spec_oOwnProof at hF
  try simp [go_sem, g]
  refine pw_wk ?_
  repeat rw [sq]
  refine pw_draw D114_1 follows (by kernel_rfl) rfl ?_
  try simp only [go_sem, D114_1]
  try simp [go_sem, g]
  refine pC hF [.sh] c_spec_l1Own (fun z1 hF => ?_)
  try simp [go_sem, g]
  refine pC hF [.sh] c_spec_l1Own (fun z2 hF => ?_)
  try simp [go_sem, g]
  refine pC hF [.sh] c_spec_l1Own (fun z3 hF => ?_)
  try simp [go_sem, g]
  refine pw_wkK [2] (by simp [go_sem, g]; rfl) ?_
  cases hΦ _ (Rn_some hF)
  try simp [go_sem, g]
def D58_5 : List DE := [d1 0 [3] 3, d2 1 [17] 3 17, d1 2 [5] 5, d2 3 [19] 5 19, d1 4 [5] 5, d2 5 [21] 5 21, d1 6 [5] 5, d2 7 [23] 5 23, d1 9 [5] 5, d2 10 [26] 5 26, d3 8 [24], d3 11 [27], d0 12 [20, 22, 25, 28], d0 13 [29], ⟨14, [18, 30], [], none, true, false, false⟩, d1 15 [3] 3, d2 16 [32, 31] 3 32]
noncomputable def F_spec_oOwn (a0 : Board) : Option (Board) :=
  (F_spec_l1Own a0.Keys).bind fun z1 =>
  ((rloop (σ := (List Int) × (List Entry)) (fun i26 s25 =>
  (ix a0.Entries i26).bind fun x32 =>
  (F_spec_l1Own x32.Data).bind fun z33 =>
  (F_spec_oOwnProof x32.Sign).bind fun z34 =>
  gd ((s25.2.length + 1) * 112 ≤ 140737488355328 ∧ s25.2.length + 1 ≤ 4611686018427387904) <|
  some (.go (s25.1, s25.2 ++ [(Entry.mk x32.Kind x32.Author z33 z34)]))) (fun s25 => (s25.1, s25.2)) (a0.Entries.length) 0 (z1, []) : Option (((List Int) × (List Entry)))).bind fun x4 =>
  some (Board.mk x4.1 x4.2))
theorem c_spec_oOwn : ∀ {a0} {r}, F_spec_oOwn a0 = some r → PCalls Tryz.prog 58 [(.sh, .agg [.sl false 1 (a0.Keys.map row_i64), .sl false 6 (a0.Entries.map row_Entry_z)])] (Eo (.agg [.sl true 1 (r.Keys.map row_i64), .sl true 6 (r.Entries.map row_Entry_o)]) [.junk]) := by
  intro a0 r hr
  apply pF 35 [] [] [] [.cell 2 42] hr cl58 Tryz.func58
  intro Φ hΦ hF g
  unfold F_spec_oOwn at hF
  try simp [go_sem, g]
  refine pw_wk ?_
  try simp [go_sem, g]
  refine pC hF [.sh] c_spec_l1Own (fun z1 hF => ?_)
  try simp [go_sem, g]
  try intros
  refine pw_wk ?_
  try simp [go_sem, g]
  try intros
  refine pw_wkK [2, 3, 11, 12, 13] (by simp [go_sem, g]; rfl) ?_
  repeat rw [sq]
  refine pJ hF (fun x4 => [(2, .bl [.sl true 1 [], .sl true 6 []]), (3, .bl [.sl true 1 (x4.1.map row_i64), .sl true 6 (x4.2.map row_Entry_o)])]) (fun x4 hF => ?_) fun _ hj2 hF => ?_
  ·cases hΦ _ (Rn_some hF)
   try simp [go_sem, g]
   refine pw_wk ?_
   try simp [go_sem, g]
  ·repeat rw [sq]
   rw [pw_block]
   obtain ⟨b35, hb36, hψ29⟩ := hF
   refine pR hb36 (fun i26 s25 => [(2, .bl [.sl true 1 [], .sl true 6 []]), (3, .bl [.sl true 1 (s25.1.map row_i64), .sl true 6 (s25.2.map row_Entry_o)]), (11, .v (.sl false 6 (a0.Entries.map row_Entry_z))), (12, .v (.int .i64 (a0.Entries.length : Int))), (13, .v (.int .i64 i26))]) (fun s25 _ hN37 => ?_) (fun i26 s25 _ _ hi30 hi31 ho27 hg28 hF => ?_)
   ·subst hN37
    try simp [go_sem]
    refine pw_wk ?_
    repeat rw [sq]
    refine pw_cond_f (by simp [go_sem]) ?_
    try simp [go_sem]
    exact pT (hj2 (s25.1, s25.2)) hψ29 (by simp [go_sem])
   ·try simp [go_sem, g]
    refine pw_wk ?_
    repeat rw [sq]
    refine pw_cond_t (by simp [go_sem, g, hi30, hi31]) ?_
    try simp [go_sem, g]
    refine pw_wk ?_
    repeat rw [sq]
    rw [pw_block]
    obtain ⟨x32, g, hF⟩ := Rx g hF
    try simp [go_sem, g]
    refine pw_wk ?_
    repeat rw [sq]
    refine pw_draw D58_5 follows (by kernel_rfl) rfl ?_
    try simp only [go_sem, D58_5]
    try simp [go_sem, g]
    refine pC hF [.sh] c_spec_l1Own (fun z33 hF => ?_)
    try simp [go_sem, g]
    refine pC hF [.sh] c_spec_oOwnProof (fun z34 hF => ?_)
    obtain ⟨g, hF⟩ := Rg g hF
    try simp [go_sem, g]
    refine pw_wkK [2, 3, 11, 12, 13] (by simp [go_sem, g]; rfl) ?_
    try simp [go_sem, g]
    exact pT (hg28 (s25.1, s25.2 ++ [(Entry.mk x32.Kind x32.Author z33 z34)])) (Rn_some hF) (by simp [go_sem, g, wr_i hi30 hi31 (by assumption)])
noncomputable def F_spec_gIs (a0 : Group) (a1 : (List Int)) : Option (Bool) :=
  ((rloop (σ := Unit) (fun i5 s4 =>
  (ix a1 i5).bind fun x11 =>
  (((F_spec_l1In x11 1 (i64.wrap (a0.P - 1))).bind fun z15 =>
  if (!z15) = true then (
  some true) else (
  (F_spec_nPower x11 a0.Q a0.P).bind fun z17 =>
  some (z17 != 1)) : Option (Bool)).bind fun x14 =>
  if x14 = true then (
  some (.out (.inr false))) else (
  some (.go ())))) (fun s4 => .inl ()) (a1.length) 0 () : Option (Unit ⊕ Bool)).bind (Sum.elim (fun x3 =>
  some true) some))
theorem c_spec_gIs : ∀ {a0} {a1} {r}, F_spec_gIs a0 a1 = some r → PCalls Tryz.prog 115 [(.sh, .agg [.int .i64 a0.P, .int .i64 a0.Q, .int .i64 a0.G]), (.sh, .sl false 1 (a1.map row_i64))] (Eo (.bool r) [.junk, .junk]) := by
  intro a0 a1 r hr
  apply pF 29 [] [] [] [.tmp 4] hr cl115 Tryz.func115
  intro Φ hΦ hF g
  unfold F_spec_gIs at hF
  iterate 2 (try simp [go_sem, g]; try intros; refine pw_wk ?_)
  repeat rw [sq]
  refine pJs hF (fun x3 => []) (fun x3 hF => ?_) fun _ hj1 hr2 hF => ?_
  ·cases hΦ _ (Rn_some hF)
   try simp [go_sem, g]
   refine pw_wk ?_
   try simp [go_sem, g]
  ·repeat rw [sq]
   rw [pw_block]
   obtain ⟨b19, hb20, hψ8⟩ := hF
   refine pR hb20 (fun i5 s4 => [(2, .bl [.int .i64 a0.P, .int .i64 a0.Q, .int .i64 a0.G]), (7, .v (.sl false 1 (a1.map row_i64))), (8, .v (.int .i64 (a1.length : Int))), (9, .v (.int .i64 i5))]) (fun s4 _ hN21 => ?_) (fun i5 s4 _ _ hi9 hi10 ho6 hg7 hF => ?_)
   ·subst hN21
    try simp [go_sem]
    refine pw_wk ?_
    repeat rw [sq]
    refine pw_cond_f (by simp [go_sem]) ?_
    try simp [go_sem]
    exact pT (hj1 ()) hψ8 (by simp [go_sem])
   ·try simp [go_sem, g]
    refine pw_wk ?_
    repeat rw [sq]
    refine pw_cond_t (by simp [go_sem, g, hi9, hi10]) ?_
    try simp [go_sem, g]
    refine pw_wk ?_
    repeat rw [sq]
    rw [pw_block]
    obtain ⟨x11, g, hF⟩ := Rx g hF
    try simp [go_sem, g]
    refine pw_wk ?_
    repeat rw [sq]
    refine pJ hF (fun x14 => [(2, .bl [.int .i64 a0.P, .int .i64 a0.Q, .int .i64 a0.G]), (7, .v (.sl false 1 (a1.map row_i64))), (8, .v (.int .i64 (a1.length : Int))), (9, .v (.int .i64 i5)), (27, .v (.bool x14))]) (fun x14 hF => ?_) fun _ hj12 hF => ?_
    ·repeat rw [sq]
     refine pI hF (fun h18 hF => ?_) (fun h18 hF => ?_)
     ·try simp [go_sem, g]
      refine pw_wkK [4] (by simp [go_sem, g]; rfl) ?_
      cases ho6 _ (Rn_some hF)
      cases hΦ _ (hr2 _ hψ8)
      try simp [go_sem, g]
     ·try simp [go_sem, g]
      refine pw_wk ?_
      try simp [go_sem, g]
      exact pT (hg7 ()) (Rn_some hF) (by simp [go_sem, g, wr_i hi9 hi10 (by assumption)])
    ·try simp [go_sem, g]
     refine pC hF [.sh, .sh, .sh] c_spec_l1In (fun z15 hF => ?_)
     try simp [go_sem, g]
     refine pwg_F hF (fun h16 hF => ?_) fun h16 hF => ?_
     ·try simp [go_sem, g, h16]
      exact pT (hj12 true) (Rn_some hF)
     ·try simp [go_sem, g, h16]
      refine pC hF [.sh, .sh, .sh] c_spec_nPower (fun z17 hF => ?_)
      try simp [go_sem, g, h16]
      exact pT (hj12 (z17 != 1)) (Rn_some hF)
noncomputable def F_spec_gMul (a0 : Group) (a1 : (List Int)) : Option (Int) :=
  ((rloop (σ := Int) (fun i5 s4 =>
  (ix a1 i5).bind fun x11 =>
  gd (a0.P ≠ 0) <|
  some (.go ((i64.wrap (s4 * x11)).tmod a0.P))) (fun s4 => s4) (a1.length) 0 1 : Option (Int)).bind fun x3 =>
  some x3)
theorem c_spec_gMul : ∀ {a0} {a1} {r}, F_spec_gMul a0 a1 = some r → PCalls Tryz.prog 186 [(.sh, .agg [.int .i64 a0.P, .int .i64 a0.Q, .int .i64 a0.G]), (.sh, .sl false 1 (a1.map row_i64))] (Eo (.int .i64 r) [.junk, .junk]) := by
  intro a0 a1 r hr
  apply pF 22 [] [] [] [.tmp 4] hr cl186 Tryz.func186
  intro Φ hΦ hF g
  unfold F_spec_gMul at hF
  iterate 3 (try simp [go_sem, g]; try intros; refine pw_wk ?_)
  repeat rw [sq]
  refine pJ hF (fun x3 => [(5, .v (.int .i64 x3))]) (fun x3 hF => ?_) fun _ hj1 hF => ?_
  ·cases hΦ _ (Rn_some hF)
   try simp [go_sem, g]
   refine pw_wk ?_
   try simp [go_sem, g]
  ·repeat rw [sq]
   rw [pw_block]
   obtain ⟨b12, hb13, hψ8⟩ := hF
   refine pR hb13 (fun i5 s4 => [(2, .bl [.int .i64 a0.P, .int .i64 a0.Q, .int .i64 a0.G]), (5, .v (.int .i64 s4)), (8, .v (.sl false 1 (a1.map row_i64))), (9, .v (.int .i64 (a1.length : Int))), (10, .v (.int .i64 i5))]) (fun s4 _ hN14 => ?_) (fun i5 s4 _ _ hi9 hi10 ho6 hg7 hF => ?_)
   ·subst hN14
    try simp [go_sem]
    refine pw_wk ?_
    repeat rw [sq]
    refine pw_cond_f (by simp [go_sem]) ?_
    try simp [go_sem]
    exact pT (hj1 s4) hψ8 (by simp [go_sem])
   ·try simp [go_sem, g]
    refine pw_wk ?_
    repeat rw [sq]
    refine pw_cond_t (by simp [go_sem, g, hi9, hi10]) ?_
    try simp [go_sem, g]
    refine pw_wk ?_
    repeat rw [sq]
    rw [pw_block]
    obtain ⟨x11, g, hF⟩ := Rx g hF
    try simp [go_sem, g]
    refine pw_wkK [2, 5, 7, 8, 9, 10] (by simp [go_sem, g]; rfl) ?_
    obtain ⟨g, hF⟩ := Rz g hF
    try simp [go_sem, g]
    refine pw_wk ?_
    try simp [go_sem, g]
    exact pT (hg7 ((i64.wrap (s4 * x11)).tmod a0.P)) (Rn_some hF) (by simp [go_sem, g, wr_i hi9 hi10 (by assumption)])
def D177_1 : List DE := [d1 0 [9] 9, d2 1 [14] 9 14, d0 2 [15], d0 3 [2], d0 4 [17], d0 5 [16, 18], d0 6 [19], d1 7 [9, 20] 9, d2 8 [21, 20] 9 21, d0 9 [22, 20], d0 10 [23, 20], d0 11 [20, 24], d0 12 [25], d1 13 [9, 26] 9, d2 14 [27, 26] 9 27, d0 15 [28, 26], d0 16 [2, 26], d0 17 [30, 26], d0 18 [31, 26], d0 19 [32, 26], d0 20 [29, 33, 26], d0 21 [26, 34], d0 22 [35], d2 23 [5, 36] 5 5, d1 24 [9, 36] 9, d2 25 [38, 36] 9 38, d3 26 [37, 39, 36], d0 27 [40, 36], d0 28 [36, 41], d0 29 [42], d2 30 [5, 43] 5 5, d1 31 [9, 43] 9, d2 32 [45, 43] 9 45, d3 33 [44, 46, 43], d0 34 [47, 43], d0 35 [43, 48]]
def D177_4 : List DE := [d0 0 [11], d2 1 [5] 5 5, d0 2 [1], d0 3 [2], d0 4 [3], d1 5 [9] 9, d2 6 [59] 9 59, d3 7 [57, 58, 60], d3 8 [55, 56, 61], d0 9 [54, 62]]
def D177_9 : List DE := [d2 0 [5] 5 5, d0 1 [13], d1 2 [9] 9, d2 3 [73] 9 73, d2 5 [5] 5 5, d1 6 [9] 9, d2 7 [77] 9 77, d0 8 [12], d0 9 [78, 79], d0 10 [80], d2 11 [5] 5 5, d0 12 [3], d0 13 [12], d0 14 [83, 84], d0 15 [85], d0 16 [11], ⟨4, [71, 72, 74], [], none, false, true, false⟩, ⟨17, [82, 86, 87], [], none, false, true, false⟩, d0 18 [81, 88], ⟨19, [76, 89], [], none, true, true, true⟩, d0 20 [75, 90]]
noncomputable def F_spec_sVerify (a0 : Group) (a1 : ByteArray) (a2 : (List (List Int))) (a3 : (List Int)) (a4 : Proof) : Option (Bool) :=
  ((if ((a4.Commits.length : Int) != (a2.length : Int)) = true then (
  some true) else (
  if ((a4.Challenges.length : Int) != 1) = true then (
  some true) else (
  (ix a2 0).bind fun x6 =>
  if ((a4.Responses.length : Int) != (x6.length : Int)) = true then (
  some true) else (
  (F_spec_gIs a0 a4.Commits).bind fun z8 =>
  if (!z8) = true then (
  some true) else (
  (F_spec_gExps a0 a4.Responses).bind fun z10 =>
  some (!z10))))) : Option (Bool)).bind fun x3 =>
  if x3 = true then (
  some false) else (
  (ix a4.Challenges 0).bind fun x12 =>
  (F_spec_sStatement a2 a3 a4.Commits).bind fun z13 =>
  (F_spec_hChallenge a0 a1 z13).bind fun z14 =>
  if (x12 != z14) = true then (
  some false) else (
  ((rloop (σ := Unit) (fun i20 s19 =>
  (ix a2 i20).bind fun x26 =>
  (ix a4.Commits i20).bind fun x27 =>
  (ix a3 i20).bind fun x28 =>
  (F_spec_gProd a0 x26 a4.Responses).bind fun z29 =>
  (F_spec_gExp a0 x28 x12).bind fun z30 =>
  (F_spec_gMul a0 [x27, z30]).bind fun z31 =>
  if (z29 != z31) = true then (
  some (.out (.inr false))) else (
  some (.go ()))) (fun s19 => .inl ()) (a2.length) 0 () : Option (Unit ⊕ Bool)).bind (Sum.elim (fun x18 =>
  some true) some)))))
theorem c_spec_sVerify : ∀ {a0} {a1} {a2} {a3} {a4} {r}, F_spec_sVerify a0 a1 a2 a3 a4 = some r → PCalls Tryz.prog 177 [(.sh, .agg [.int .i64 a0.P, .int .i64 a0.Q, .int .i64 a0.G]), (.sh, .str a1), (.sh, .sl false 1 (a2.map row_zi64)), (.sh, .sl false 1 (a3.map row_i64)), (.sh, .agg [.sl false 1 (a4.Commits.map row_i64), .sl false 1 (a4.Challenges.map row_i64), .sl false 1 (a4.Responses.map row_i64)])] (Eo (.bool r) [.junk, .junk, .junk, .junk, .junk]) := by
  intro a0 a1 a2 a3 a4 r hr
  apply pF 93 [] [] [] [.tmp 10] hr cl177 Tryz.func177
  intro Φ hΦ hF g
  unfold F_spec_sVerify at hF
  try simp [go_sem, g]
  refine pw_wk ?_
  repeat rw [sq]
  refine pJ hF (fun x3 => [(1, .v (.str a1)), (2, .v (.sl false 1 (a2.map row_zi64))), (3, .v (.sl false 1 (a3.map row_i64))), (5, .bl [.int .i64 a0.P, .int .i64 a0.Q, .int .i64 a0.G]), (9, .bl [.sl false 1 (a4.Commits.map row_i64), .sl false 1 (a4.Challenges.map row_i64), .sl false 1 (a4.Responses.map row_i64)]), (49, .v (.bool x3))]) (fun x3 hF => ?_) fun _ hj1 hF => ?_
  ·repeat rw [sq]
   refine pI hF (fun h11 hF => ?_) (fun h11 hF => ?_)
   ·cases hΦ _ (Rn_some hF)
    try simp [go_sem, g]
    refine pw_wk ?_
    try simp [go_sem, g]
   ·obtain ⟨x12, g, hF⟩ := Rxn g 0 hF
    iterate 2 (try simp [go_sem, g]; refine pw_wk ?_)
    repeat rw [sq]
    refine pw_draw D177_4 follows (by kernel_rfl) rfl ?_
    try simp only [go_sem, D177_4]
    try simp [go_sem, g]
    refine pC hF [.sh, .sh, .sh] c_spec_sStatement (fun z13 hF => ?_)
    try simp [go_sem, g]
    refine pC hF [.sh, .sh, .sh] c_spec_hChallenge (fun z14 hF => ?_)
    try simp [go_sem, g]
    refine pw_wkK [2, 3, 5, 9, 11, 63] (by simp [go_sem, g]; rfl) ?_
    repeat rw [sq]
    refine pI hF (fun h15 hF => ?_) (fun h15 hF => ?_)
    ·cases hΦ _ (Rn_some hF)
     try simp [go_sem, g]
     refine pw_wk ?_
     try simp [go_sem, g]
    ·iterate 2 (try simp [go_sem, g]; try intros; refine pw_wk ?_)
     repeat rw [sq]
     refine pJs hF (fun x18 => []) (fun x18 hF => ?_) fun _ hj16 hr17 hF => ?_
     ·cases hΦ _ (Rn_some hF)
      try simp [go_sem, g]
      refine pw_wk ?_
      try simp [go_sem, g]
     ·repeat rw [sq]
      rw [pw_block]
      obtain ⟨b33, hb34, hψ23⟩ := hF
      refine pR hb34 (fun i20 s19 => [(3, .v (.sl false 1 (a3.map row_i64))), (5, .bl [.int .i64 a0.P, .int .i64 a0.Q, .int .i64 a0.G]), (9, .bl [.sl false 1 (a4.Commits.map row_i64), .sl false 1 (a4.Challenges.map row_i64), .sl false 1 (a4.Responses.map row_i64)]), (11, .v (.int .i64 x12)), (64, .v (.sl false 1 (a2.map row_zi64))), (65, .v (.int .i64 (a2.length : Int))), (66, .v (.int .i64 i20))]) (fun s19 _ hN35 => ?_) (fun i20 s19 _ _ hi24 hi25 ho21 hg22 hF => ?_)
      ·subst hN35
       try simp [go_sem]
       refine pw_wk ?_
       repeat rw [sq]
       refine pw_cond_f (by simp [go_sem]) ?_
       try simp [go_sem]
       exact pT (hj16 ()) hψ23 (by simp [go_sem])
      ·try simp [go_sem, g]
       refine pw_wk ?_
       repeat rw [sq]
       refine pw_cond_t (by simp [go_sem, g, hi24, hi25]) ?_
       try simp [go_sem, g]
       refine pw_wk ?_
       repeat rw [sq]
       rw [pw_block]
       obtain ⟨x26, g, hF⟩ := Rx g hF
       try simp [go_sem, g]
       refine pw_wk ?_
       repeat rw [sq]
       refine pw_draw D177_9 follows (by kernel_rfl) rfl ?_
       try simp only [go_sem, D177_9]
       obtain ⟨x27, g, hF⟩ := Rx g hF
       obtain ⟨x28, g, hF⟩ := Rx g hF
       try simp [go_sem, g]
       refine pCD hF c_spec_gProd (fun z29 hF => ?_)
       try simp [go_sem, g]
       refine pCD hF c_spec_gExp (fun z30 hF => ?_)
       try simp [go_sem, g]
       refine pC hF [.sh, .sh] c_spec_gMul (fun z31 hF => ?_)
       try simp [go_sem, g]
       refine pw_wkK [3, 5, 9, 11, 64, 65, 66, 91] (by simp [go_sem, g]; rfl) ?_
       repeat rw [sq]
       refine pI hF (fun h32 hF => ?_) (fun h32 hF => ?_)
       ·cases ho21 _ (Rn_some hF)
        cases hΦ _ (hr17 _ hψ23)
        try simp [go_sem, g]
        refine pw_wk ?_
        try simp [go_sem, g]
       ·try simp [go_sem, g]
        refine pw_wk ?_
        try simp [go_sem, g]
        exact pT (hg22 ()) (Rn_some hF) (by simp [go_sem, g, wr_i hi24 hi25 (by assumption)])
  ·repeat rw [sq]
   refine pw_draw D177_1 follows (by kernel_rfl) rfl ?_
   try simp only [go_sem, D177_1]
   try simp [go_sem, g]
   try intros
   refine pwgD_F hF (fun h4 hF => ?_) fun h4 hF => ?_
   ·try simp [go_sem, g, h4]
    exact pT (hj1 true) (Rn_some hF)
   ·try simp [go_sem, g, h4]
    try intros
    refine pwgD_F hF (fun h5 hF => ?_) fun h5 hF => ?_
    ·try simp [go_sem, g, h5]
     exact pT (hj1 true) (Rn_some hF)
    ·obtain ⟨x6, g, hF⟩ := Rxn g 0 hF
     try simp [go_sem, g, h5]
     try intros
     refine pwgD_F hF (fun h7 hF => ?_) fun h7 hF => ?_
     ·try simp [go_sem, g, h7]
      exact pT (hj1 true) (Rn_some hF)
     ·try simp [go_sem, g, h7]
      refine pC hF [.sh, .sh] c_spec_gIs (fun z8 hF => ?_)
      try simp [go_sem, g, h7]
      refine pwgD_F hF (fun h9 hF => ?_) fun h9 hF => ?_
      ·try simp [go_sem, g, h9]
       exact pT (hj1 true) (Rn_some hF)
      ·try simp [go_sem, g, h9]
       refine pC hF [.sh, .sh] c_spec_gExps (fun z10 hF => ?_)
       try simp [go_sem, g, h9]
       exact pT (hj1 (!z10)) (Rn_some hF)
noncomputable def F_spec_oSigned (a0 : Group) (a1 : ByteArray) (a2 : Int) (a3 : Proof) : Option (Bool) :=
  (F_spec_sVerify a0 a1 [[a0.G]] [a2] a3).bind fun z1 =>
  some z1
theorem c_spec_oSigned : ∀ {a0} {a1} {a2} {a3} {r}, F_spec_oSigned a0 a1 a2 a3 = some r → PCalls Tryz.prog 150 [(.sh, .agg [.int .i64 a0.P, .int .i64 a0.Q, .int .i64 a0.G]), (.sh, .str a1), (.sh, .int .i64 a2), (.sh, .agg [.sl false 1 (a3.Commits.map row_i64), .sl false 1 (a3.Challenges.map row_i64), .sl false 1 (a3.Responses.map row_i64)])] (Eo (.bool r) [.junk, .junk, .junk, .junk]) := by
  intro a0 a1 a2 a3 r hr
  apply pF 19 [] [] [] [.tmp 8] hr cl150 Tryz.func150
  intro Φ hΦ hF g
  unfold F_spec_oSigned at hF
  try simp [go_sem, g]
  refine pw_wk ?_
  try simp [go_sem, g]
  refine pC hF [.sh, .sh, .sh, .sh, .sh] c_spec_sVerify (fun z1 hF => ?_)
  try simp [go_sem, g]
  refine pw_wkK [8] (by simp [go_sem, g]; rfl) ?_
  cases hΦ _ (Rn_some hF)
  try simp [go_sem, g]
def D116_1 : List DE := [d2 0 [7] 7 7, d3 1 [9], d0 2 [10], d2 3 [4, 11] 4 4, d2 4 [7, 11] 7 7, d0 5 [2, 11], d0 7 [1, 11], d1 8 [7, 11] 7, d2 9 [17, 11] 7 17, d3 6 [13, 14, 11], d3 10 [12, 15, 16, 18, 11], d0 11 [11, 19], d0 12 [20]]
noncomputable def F_spec_oAccepts (a0 : Group) (a1 : Int) (a2 : Int) (a3 : Entry) : Option (Bool) :=
  (((F_spec_oPlain a3).bind fun z4 =>
  if z4 = true then (
  (F_spec_oLabel a3 a2).bind fun z6 =>
  (F_spec_oSigned a0 z6 a1 a3.Sign).bind fun z7 =>
  some z7) else (
  some false) : Option (Bool)).bind fun x3 =>
  some x3)
theorem c_spec_oAccepts : ∀ {a0} {a1} {a2} {a3} {r}, F_spec_oAccepts a0 a1 a2 a3 = some r → PCalls Tryz.prog 116 [(.sh, .agg [.int .i64 a0.P, .int .i64 a0.Q, .int .i64 a0.G]), (.sh, .int .i64 a1), (.sh, .int .i64 a2), (.sh, .agg [.int .i64 a3.Kind, .int .i64 a3.Author, .sl false 1 (a3.Data.map row_i64), .sl false 1 (a3.Sign.Commits.map row_i64), .sl false 1 (a3.Sign.Challenges.map row_i64), .sl false 1 (a3.Sign.Responses.map row_i64)])] (Eo (.bool r) [.junk, .junk, .junk, .junk]) := by
  intro a0 a1 a2 a3 r hr
  apply pF 21 [] [] [] [.tmp 8] hr cl116 Tryz.func116
  intro Φ hΦ hF g
  unfold F_spec_oAccepts at hF
  try simp [go_sem, g]
  refine pw_wk ?_
  repeat rw [sq]
  refine pJ hF (fun x3 => [(8, .v (.bool x3))]) (fun x3 hF => ?_) fun _ hj1 hF => ?_
  ·cases hΦ _ (Rn_some hF)
   try simp [go_sem, g]
  ·repeat rw [sq]
   refine pw_draw D116_1 follows (by kernel_rfl) rfl ?_
   try simp only [go_sem, D116_1]
   try simp [go_sem, g]
   refine pC hF [.sh] c_spec_oPlain (fun z4 hF => ?_)
   try simp [go_sem, g]
   refine pwgD_F hF (fun h5 hF => ?_) fun h5 hF => ?_
   ·try simp [go_sem, g, h5]
    refine pC hF [.sh, .sh] c_spec_oLabel (fun z6 hF => ?_)
    try simp [go_sem, g, h5]
    refine pC hF [.sh, .sh, .sh, .sh] c_spec_oSigned (fun z7 hF => ?_)
    try simp [go_sem, g, h5]
    exact pT (hj1 z7) (Rn_some hF)
   ·try simp [go_sem, g, h5]
    exact pT (hj1 false) (Rn_some hF)
def D59_6 : List DE := [d1 0 [6] 6, d2 1 [32] 6 32, d1 2 [3] 3, d2 3 [34] 3 34, d0 4 [35], d0 5 [36], d3 6 [33, 37], d0 7 [38], d0 8 [39], d2 9 [2, 40] 2 2, d1 10 [3, 40] 3, d2 11 [42, 40] 3 42, d1 12 [6, 40] 6, d2 13 [44, 40] 6 44, d0 14 [43, 45, 40], d0 15 [46, 40], d0 16 [5, 40], d2 17 [6, 40] 6 6, d3 18 [41, 47, 48, 49, 40], d0 19 [50, 40], d0 20 [40, 51]]
noncomputable def F_spec_oBoard (a0 : Group) (a1 : Board) : Option (Bool) :=
  ((if decide (40 < (a1.Keys.length : Int)) = true then (
  some true) else (
  (F_spec_gIs a0 a1.Keys).bind fun z5 =>
  if (!z5) = true then (
  some true) else (
  some (decide (64 < (a1.Entries.length : Int))))) : Option (Bool)).bind fun x3 =>
  if x3 = true then (
  some false) else (
  ((rloop (σ := Unit) (fun i12 s11 =>
  (ix a1.Entries i12).bind fun x18 =>
  (((F_spec_l1In x18.Author 0 (i64.wrap ((a1.Keys.length : Int) - 1))).bind fun z22 =>
  if (!z22) = true then (
  some true) else (
  (ix a1.Keys x18.Author).bind fun x24 =>
  (F_spec_oAccepts a0 x24 i12 x18).bind fun z25 =>
  some (!z25)) : Option (Bool)).bind fun x21 =>
  if x21 = true then (
  some (.out (.inr false))) else (
  some (.go ())))) (fun s11 => .inl ()) (a1.Entries.length) 0 () : Option (Unit ⊕ Bool)).bind (Sum.elim (fun x10 =>
  some true) some))))
theorem c_spec_oBoard : ∀ {a0} {a1} {r}, F_spec_oBoard a0 a1 = some r → PCalls Tryz.prog 59 [(.sh, .agg [.int .i64 a0.P, .int .i64 a0.Q, .int .i64 a0.G]), (.sh, .agg [.sl false 1 (a1.Keys.map row_i64), .sl false 6 (a1.Entries.map row_Entry_z)])] (Eo (.bool r) [.junk, .junk]) := by
  intro a0 a1 r hr
  apply pF 54 [] [] [] [.tmp 4] hr cl59 Tryz.func59
  intro Φ hΦ hF g
  unfold F_spec_oBoard at hF
  try simp [go_sem, g]
  refine pw_wk ?_
  repeat rw [sq]
  refine pJ hF (fun x3 => [(2, .bl [.int .i64 a0.P, .int .i64 a0.Q, .int .i64 a0.G]), (3, .bl [.sl false 1 (a1.Keys.map row_i64), .sl false 6 (a1.Entries.map row_Entry_z)]), (23, .v (.bool x3))]) (fun x3 hF => ?_) fun _ hj1 hF => ?_
  ·repeat rw [sq]
   refine pI hF (fun h7 hF => ?_) (fun h7 hF => ?_)
   ·cases hΦ _ (Rn_some hF)
    try simp [go_sem, g]
    refine pw_wk ?_
    try simp [go_sem, g]
   ·iterate 2 (try simp [go_sem, g]; try intros; refine pw_wk ?_)
    repeat rw [sq]
    refine pJs hF (fun x10 => []) (fun x10 hF => ?_) fun _ hj8 hr9 hF => ?_
    ·cases hΦ _ (Rn_some hF)
     try simp [go_sem, g]
     refine pw_wk ?_
     try simp [go_sem, g]
    ·repeat rw [sq]
     rw [pw_block]
     obtain ⟨b27, hb28, hψ15⟩ := hF
     refine pR hb28 (fun i12 s11 => [(2, .bl [.int .i64 a0.P, .int .i64 a0.Q, .int .i64 a0.G]), (3, .bl [.sl false 1 (a1.Keys.map row_i64), .sl false 6 (a1.Entries.map row_Entry_z)]), (25, .v (.sl false 6 (a1.Entries.map row_Entry_z))), (26, .v (.int .i64 (a1.Entries.length : Int))), (27, .v (.int .i64 i12))]) (fun s11 _ hN29 => ?_) (fun i12 s11 _ _ hi16 hi17 ho13 hg14 hF => ?_)
     ·subst hN29
      try simp [go_sem]
      refine pw_wk ?_
      repeat rw [sq]
      refine pw_cond_f (by simp [go_sem]) ?_
      try simp [go_sem]
      exact pT (hj8 ()) hψ15 (by simp [go_sem])
     ·try simp [go_sem, g]
      refine pw_wk ?_
      repeat rw [sq]
      refine pw_cond_t (by simp [go_sem, g, hi16, hi17]) ?_
      try simp [go_sem, g]
      refine pw_wk ?_
      repeat rw [sq]
      rw [pw_block]
      obtain ⟨x18, g, hF⟩ := Rx g hF
      try simp [go_sem, g]
      refine pw_wkK [2, 3, 5, 6, 25, 26, 27] (by simp [go_sem, g]; rfl) ?_
      repeat rw [sq]
      refine pJ hF (fun x21 => [(2, .bl [.int .i64 a0.P, .int .i64 a0.Q, .int .i64 a0.G]), (3, .bl [.sl false 1 (a1.Keys.map row_i64), .sl false 6 (a1.Entries.map row_Entry_z)]), (25, .v (.sl false 6 (a1.Entries.map row_Entry_z))), (26, .v (.int .i64 (a1.Entries.length : Int))), (27, .v (.int .i64 i12)), (52, .v (.bool x21))]) (fun x21 hF => ?_) fun _ hj19 hF => ?_
      ·repeat rw [sq]
       refine pI hF (fun h26 hF => ?_) (fun h26 hF => ?_)
       ·cases ho13 _ (Rn_some hF)
        cases hΦ _ (hr9 _ hψ15)
        try simp [go_sem, g]
        refine pw_wk ?_
        try simp [go_sem, g]
       ·try simp [go_sem, g]
        refine pw_wk ?_
        try simp [go_sem, g]
        exact pT (hg14 ()) (Rn_some hF) (by simp [go_sem, g, wr_i hi16 hi17 (by assumption)])
      ·repeat rw [sq]
       refine pw_draw D59_6 follows (by kernel_rfl) rfl ?_
       try simp only [go_sem, D59_6]
       try simp [go_sem, g]
       try intros
       refine pC hF [.sh, .sh, .sh] c_spec_l1In (fun z22 hF => ?_)
       try simp [go_sem, g]
       refine pwgD_F hF (fun h23 hF => ?_) fun h23 hF => ?_
       ·try simp [go_sem, g, h23]
        exact pT (hj19 true) (Rn_some hF)
       ·obtain ⟨x24, g, hF⟩ := Rx g hF
        try simp [go_sem, g, h23]
        refine pC hF [.sh, .sh, .sh, .sh] c_spec_oAccepts (fun z25 hF => ?_)
        try simp [go_sem, g, h23]
        exact pT (hj19 (!z25)) (Rn_some hF)
  ·try simp [go_sem, g]
   try intros
   refine pwg_F hF (fun h4 hF => ?_) fun h4 hF => ?_
   ·try simp [go_sem, g, h4]
    exact pT (hj1 true) (Rn_some hF)
   ·try simp [go_sem, g, h4]
    refine pC hF [.sh, .sh] c_spec_gIs (fun z5 hF => ?_)
    try simp [go_sem, g, h4]
    refine pwg_F hF (fun h6 hF => ?_) fun h6 hF => ?_
    ·try simp [go_sem, g, h6]
     exact pT (hj1 true) (Rn_some hF)
    ·try simp [go_sem, g, h6]
     try intros
     exact pT (hj1 (decide (64 < (a1.Entries.length : Int)))) (Rn_some hF)
def D15_3 : List DE := [d1 0 [4] 4, d2 1 [13] 4 13, d0 2 [], d1 3 [4] 4, d2 4 [16] 4 16, d2 6 [5] 5 5, d0 7 [19], d0 11 [], ⟨5, [15, 17], [], none, true, false, false⟩, ⟨8, [18, 20], [], none, true, false, false⟩, d0 9 [14, 21], d3 10 [22], d2 12 [8, 23] 8 8]
noncomputable def F_spec_AppendEntry (a0 : Group) (a1 : Board) (a2 : Entry) : Option (Board × Bool) :=
  (F_spec_l2Good a0).bind fun z1 =>
  if (!z1) = true then (
  some ((Board.mk [] []), false)) else (
  gd (a1.Entries.length * 112 ≤ 140737488355328 ∧ a1.Entries.length ≤ 4611686018427387904) <|
  gd ((a1.Entries.length + 1) * 112 ≤ 140737488355328 ∧ a1.Entries.length + 1 ≤ 4611686018427387904) <|
  (F_spec_oOwn (Board.mk a1.Keys (a1.Entries ++ [a2]))).bind fun z3 =>
  (F_spec_oBoard a0 z3).bind fun z4 =>
  if (!z4) = true then (
  some ((Board.mk [] []), false)) else (
  some (z3, true)))
theorem c_spec_AppendEntry : ∀ {a0} {a1} {a2} {r}, F_spec_AppendEntry a0 a1 a2 = some r → PCalls Tryz.prog 15 [(.sh, .agg [.int .i64 a0.P, .int .i64 a0.Q, .int .i64 a0.G]), (.sh, .agg [.sl false 1 (a1.Keys.map row_i64), .sl false 6 (a1.Entries.map row_Entry_z)]), (.sh, .agg [.int .i64 a2.Kind, .int .i64 a2.Author, .sl false 1 (a2.Data.map row_i64), .sl false 1 (a2.Sign.Commits.map row_i64), .sl false 1 (a2.Sign.Challenges.map row_i64), .sl false 1 (a2.Sign.Responses.map row_i64)])] (Eo (.tup [.agg [.sl true 1 (r.1.Keys.map row_i64), .sl true 6 (r.1.Entries.map row_Entry_o)], .bool r.2]) [.junk, .junk, .junk]) := by
  intro a0 a1 a2 r hr
  apply pF 30 [] [] [] [.cell 6 42, .tmp 7] hr cl15 Tryz.func15
  intro Φ hΦ hF g
  unfold F_spec_AppendEntry at hF
  try simp [go_sem, g]
  refine pw_wk ?_
  try simp [go_sem, g]
  refine pC hF [.sh] c_spec_l2Good (fun z1 hF => ?_)
  try simp [go_sem, g]
  refine pw_wk ?_
  repeat rw [sq]
  refine pI hF (fun h2 hF => ?_) (fun h2 hF => ?_)
  ·try simp [go_sem, g]
   refine pw_wkK [6, 7] (by simp [go_sem, g]; rfl) ?_
   cases hΦ _ (Rn_some hF)
   try simp [go_sem, g]
  ·try simp [go_sem, g]
   refine pw_wk ?_
   repeat rw [sq]
   refine pw_draw D15_3 follows (by kernel_rfl) rfl ?_
   try simp only [go_sem, D15_3]
   obtain ⟨g, hF⟩ := Rg g hF
   obtain ⟨g, hF⟩ := Rg g hF
   try simp [go_sem, g]
   refine pC hF [.sh] c_spec_oOwn (fun z3 hF => ?_)
   try simp [go_sem, g]
   refine pw_wkK [3, 6, 8] (by simp [go_sem, g]; rfl) ?_
   try simp [go_sem, g]
   refine pC hF [.sh, .sh] c_spec_oBoard (fun z4 hF => ?_)
   try simp [go_sem, g]
   refine pw_wk ?_
   repeat rw [sq]
   refine pI hF (fun h5 hF => ?_) (fun h5 hF => ?_)
   ·cases hΦ _ (Rn_some hF)
    try simp [go_sem, g]
    refine pw_wk ?_
    try simp [go_sem, g]
   ·cases hΦ _ (Rn_some hF)
    iterate 2 (try simp [go_sem, g]; refine pw_wk ?_)
    try simp [go_sem, g]
def D16_6 : List DE := [d1 0 [2] 2, d2 1 [27] 2 27, d0 2 [5], d0 3 [28, 29], d0 4 [30], d1 5 [3] 3, d2 6 [32] 3 32, d0 7 [5], d0 8 [33, 34], d0 9 [35], d3 10 [31, 36], d0 11 [37]]
noncomputable def F_laws_pSameBoard (a0 : Board) (a1 : Board) : Option (Bool) :=
  (((F_laws_sameInts a0.Keys a1.Keys).bind fun z4 =>
  if (!z4) = true then (
  some true) else (
  some ((a0.Entries.length : Int) != (a1.Entries.length : Int))) : Option (Bool)).bind fun x3 =>
  if x3 = true then (
  some false) else (
  ((rloop (σ := Unit) (fun i11 s10 =>
  (ix a0.Entries i11).bind fun x17 =>
  (ix a1.Entries i11).bind fun x18 =>
  (F_laws_pSameEntry x17 x18).bind fun z19 =>
  if (!z19) = true then (
  some (.out (.inr false))) else (
  some (.go ()))) (fun s10 => .inl ()) (a0.Entries.length) 0 () : Option (Unit ⊕ Bool)).bind (Sum.elim (fun x9 =>
  some true) some))))
theorem c_laws_pSameBoard : ∀ {a0} {a1} {r}, F_laws_pSameBoard a0 a1 = some r → PCalls Tryz.prog 16 [(.sh, .agg [.sl false 1 (a0.Keys.map row_i64), .sl false 6 (a0.Entries.map row_Entry_z)]), (.sh, .agg [.sl false 1 (a1.Keys.map row_i64), .sl false 6 (a1.Entries.map row_Entry_z)])] (Eo (.bool r) [.junk, .junk]) := by
  intro a0 a1 r hr
  apply pF 40 [] [] [] [.tmp 4] hr cl16 Tryz.func16
  intro Φ hΦ hF g
  unfold F_laws_pSameBoard at hF
  try simp [go_sem, g]
  refine pw_wk ?_
  repeat rw [sq]
  refine pJ hF (fun x3 => [(2, .bl [.sl false 1 (a0.Keys.map row_i64), .sl false 6 (a0.Entries.map row_Entry_z)]), (3, .bl [.sl false 1 (a1.Keys.map row_i64), .sl false 6 (a1.Entries.map row_Entry_z)]), (20, .v (.bool x3))]) (fun x3 hF => ?_) fun _ hj1 hF => ?_
  ·repeat rw [sq]
   refine pI hF (fun h6 hF => ?_) (fun h6 hF => ?_)
   ·cases hΦ _ (Rn_some hF)
    try simp [go_sem, g]
    refine pw_wk ?_
    try simp [go_sem, g]
   ·iterate 2 (try simp [go_sem, g]; try intros; refine pw_wk ?_)
    repeat rw [sq]
    refine pJs hF (fun x9 => []) (fun x9 hF => ?_) fun _ hj7 hr8 hF => ?_
    ·cases hΦ _ (Rn_some hF)
     try simp [go_sem, g]
     refine pw_wk ?_
     try simp [go_sem, g]
    ·repeat rw [sq]
     rw [pw_block]
     obtain ⟨b21, hb22, hψ14⟩ := hF
     refine pR hb22 (fun i11 s10 => [(2, .bl [.sl false 1 (a0.Keys.map row_i64), .sl false 6 (a0.Entries.map row_Entry_z)]), (3, .bl [.sl false 1 (a1.Keys.map row_i64), .sl false 6 (a1.Entries.map row_Entry_z)]), (23, .v (.int .i64 (a0.Entries.length : Int))), (24, .v (.int .i64 i11))]) (fun s10 _ hN23 => ?_) (fun i11 s10 _ _ hi15 hi16 ho12 hg13 hF => ?_)
     ·subst hN23
      try simp [go_sem]
      refine pw_wk ?_
      repeat rw [sq]
      refine pw_cond_f (by simp [go_sem]) ?_
      try simp [go_sem]
      exact pT (hj7 ()) hψ14 (by simp [go_sem])
     ·try simp [go_sem, g]
      refine pw_wk ?_
      repeat rw [sq]
      refine pw_cond_t (by simp [go_sem, g, hi15, hi16]) ?_
      try simp [go_sem, g]
      refine pw_wk ?_
      repeat rw [sq]
      rw [pw_block]
      try simp [go_sem, g]
      refine pw_wkK [2, 3, 5, 23, 24] (by simp [go_sem, g]; rfl) ?_
      repeat rw [sq]
      refine pw_draw D16_6 follows (by kernel_rfl) rfl ?_
      try simp only [go_sem, D16_6]
      obtain ⟨x17, g, hF⟩ := Rx g hF
      obtain ⟨x18, g, hF⟩ := Rx g hF
      try simp [go_sem, g]
      refine pC hF [.sh, .sh] c_laws_pSameEntry (fun z19 hF => ?_)
      try simp [go_sem, g]
      refine pw_wkK [2, 3, 23, 24, 38] (by simp [go_sem, g]; rfl) ?_
      repeat rw [sq]
      refine pI hF (fun h20 hF => ?_) (fun h20 hF => ?_)
      ·cases ho12 _ (Rn_some hF)
       cases hΦ _ (hr8 _ hψ14)
       try simp [go_sem, g]
       refine pw_wk ?_
       try simp [go_sem, g]
      ·try simp [go_sem, g]
       refine pw_wk ?_
       try simp [go_sem, g]
       exact pT (hg13 ()) (Rn_some hF) (by simp [go_sem, g, wr_i hi15 hi16 (by assumption)])
  ·try simp [go_sem, g]
   refine pC hF [.sh, .sh] c_laws_sameInts (fun z4 hF => ?_)
   try simp [go_sem, g]
   refine pwg_F hF (fun h5 hF => ?_) fun h5 hF => ?_
   ·try simp [go_sem, g, h5]
    exact pT (hj1 true) (Rn_some hF)
   ·try simp [go_sem, g, h5]
    try intros
    exact pT (hj1 ((a0.Entries.length : Int) != (a1.Entries.length : Int))) (Rn_some hF)
noncomputable def F_impl_IsValidBoard (a0 : Group) (a1 : Board) : Option (Bool × Bool) :=
  (F_impl_IsValidGroup a0).bind fun z1 =>
  if (!z1) = true then (
  some (false, false)) else (
  (F_impl_Group_isBoard a0 a1).bind fun z3 =>
  some (z3, true))
theorem c_impl_IsValidBoard : ∀ {a0} {a1} {r}, F_impl_IsValidBoard a0 a1 = some r → PCalls Tryz.prog 17 [(.sh, .agg [.int .i64 a0.P, .int .i64 a0.Q, .int .i64 a0.G]), (.sh, .agg [.sl false 1 (a1.Keys.map row_i64), .sl false 6 (a1.Entries.map row_Entry_z)])] (Eo (.tup [.bool r.1, .bool r.2]) [.junk, .junk]) := by
  intro a0 a1 r hr
  apply pF 12 [] [] [] [.tmp 4, .tmp 5] hr cl17 Tryz.func17
  intro Φ hΦ hF g
  unfold F_impl_IsValidBoard at hF
  try simp [go_sem, g]
  refine pw_wk ?_
  try simp [go_sem, g]
  refine pC hF [.sh] c_impl_IsValidGroup (fun z1 hF => ?_)
  try simp [go_sem, g]
  refine pw_wk ?_
  repeat rw [sq]
  refine pI hF (fun h2 hF => ?_) (fun h2 hF => ?_)
  ·cases hΦ _ (Rn_some hF)
   try simp [go_sem, g]
   refine pw_wk ?_
   try simp [go_sem, g]
  ·try simp [go_sem, g]
   refine pw_wk ?_
   try simp [go_sem, g]
   refine pC hF [.sh, .sh] c_impl_Group_isBoard (fun z3 hF => ?_)
   try simp [go_sem, g]
   refine pw_wkK [4, 5] (by simp [go_sem, g]; rfl) ?_
   cases hΦ _ (Rn_some hF)
   try simp [go_sem, g]
def D61_6 : List DE := [d0 0 [0], d0 1 [5], d0 2 [16, 17], d0 3 [18], d0 4 [1], d0 5 [5], d0 6 [20, 21], d0 7 [22], d0 8 [19, 23]]
noncomputable def F_slices_Equal_int_int (a0 : (List Int)) (a1 : (List Int)) : Option (Bool) :=
  if ((a0.length : Int) != (a1.length : Int)) = true then (
  some false) else (
  ((rloop (σ := Unit) (fun i6 s5 =>
  (ix a0 i6).bind fun x12 =>
  (ix a1 i6).bind fun x13 =>
  if (x12 != x13) = true then (
  some (.out (.inr false))) else (
  some (.go ()))) (fun s5 => .inl ()) (a0.length) 0 () : Option (Unit ⊕ Bool)).bind (Sum.elim (fun x4 =>
  some true) some)))
theorem c_slices_Equal_int_int : ∀ {a0} {a1} {r}, F_slices_Equal_int_int a0 a1 = some r → PCalls Tryz.prog 61 [(.sh, .sl false 1 (a0.map row_i64)), (.sh, .sl false 1 (a1.map row_i64))] (Eo (.bool r) [.junk, .junk]) := by
  intro a0 a1 r hr
  apply pF 26 [] [] [] [.tmp 4] hr cl61 Tryz.func61
  intro Φ hΦ hF g
  unfold F_slices_Equal_int_int at hF
  iterate 2 (try simp [go_sem, g]; try intros; refine pw_wk ?_)
  repeat rw [sq]
  refine pI hF (fun h1 hF => ?_) (fun h1 hF => ?_)
  ·cases hΦ _ (Rn_some hF)
   try simp [go_sem, g]
   refine pw_wk ?_
   try simp [go_sem, g]
  ·iterate 2 (try simp [go_sem, g]; try intros; refine pw_wk ?_)
   repeat rw [sq]
   refine pJs hF (fun x4 => []) (fun x4 hF => ?_) fun _ hj2 hr3 hF => ?_
   ·try simp [go_sem, g]
    refine pw_wkK [4] (by simp [go_sem, g]; rfl) ?_
    cases hΦ _ (Rn_some hF)
    try simp [go_sem, g]
   ·repeat rw [sq]
    rw [pw_block]
    obtain ⟨b15, hb16, hψ9⟩ := hF
    refine pR hb16 (fun i6 s5 => [(0, .v (.sl false 1 (a0.map row_i64))), (1, .v (.sl false 1 (a1.map row_i64))), (12, .v (.int .i64 (a0.length : Int))), (13, .v (.int .i64 i6))]) (fun s5 _ hN17 => ?_) (fun i6 s5 _ _ hi10 hi11 ho7 hg8 hF => ?_)
    ·subst hN17
     try simp [go_sem]
     refine pw_wk ?_
     repeat rw [sq]
     refine pw_cond_f (by simp [go_sem]) ?_
     try simp [go_sem]
     exact pT (hj2 ()) hψ9 (by simp [go_sem])
    ·try simp [go_sem, g]
     refine pw_wkK [0, 1, 12, 13, 14] (by simp [go_sem, g]; rfl) ?_
     repeat rw [sq]
     refine pw_cond_t (by simp [go_sem, g, hi10, hi11]) ?_
     try simp [go_sem, g]
     refine pw_wk ?_
     repeat rw [sq]
     rw [pw_block]
     try simp [go_sem, g]
     refine pw_wk ?_
     repeat rw [sq]
     refine pw_draw D61_6 follows (by kernel_rfl) rfl ?_
     try simp only [go_sem, D61_6]
     obtain ⟨x12, g, hF⟩ := Rx g hF
     obtain ⟨x13, g, hF⟩ := Rx g hF
     try simp [go_sem, g]
     refine pw_wkK [0, 1, 12, 13, 24] (by simp [go_sem, g]; rfl) ?_
     repeat rw [sq]
     refine pI hF (fun h14 hF => ?_) (fun h14 hF => ?_)
     ·cases ho7 _ (Rn_some hF)
      cases hΦ _ (hr3 _ hψ9)
      try simp [go_sem, g]
      refine pw_wk ?_
      try simp [go_sem, g]
     ·try simp [go_sem, g]
      refine pw_wk ?_
      try simp [go_sem, g]
      exact pT (hg8 ()) (Rn_some hF) (by simp [go_sem, g, wr_i hi10 hi11 (by assumption)])
noncomputable def F_impl_sameProof (a0 : Proof) (a1 : Proof) : Option (Bool) :=
  (((F_slices_Equal_int_int a0.Commits a1.Commits).bind fun z4 =>
  if z4 = true then (
  (F_slices_Equal_int_int a0.Challenges a1.Challenges).bind fun z6 =>
  if z6 = true then (
  (F_slices_Equal_int_int a0.Responses a1.Responses).bind fun z8 =>
  some z8) else (
  some false)) else (
  some false) : Option (Bool)).bind fun x3 =>
  some x3)
theorem c_impl_sameProof : ∀ {a0} {a1} {r}, F_impl_sameProof a0 a1 = some r → PCalls Tryz.prog 62 [(.sh, .agg [.sl false 1 (a0.Commits.map row_i64), .sl false 1 (a0.Challenges.map row_i64), .sl false 1 (a0.Responses.map row_i64)]), (.sh, .agg [.sl false 1 (a1.Commits.map row_i64), .sl false 1 (a1.Challenges.map row_i64), .sl false 1 (a1.Responses.map row_i64)])] (Eo (.bool r) [.junk, .junk]) := by
  intro a0 a1 r hr
  apply pF 24 [] [] [] [.tmp 4] hr cl62 Tryz.func62
  intro Φ hΦ hF g
  unfold F_impl_sameProof at hF
  try simp [go_sem, g]
  refine pw_wk ?_
  repeat rw [sq]
  refine pJ hF (fun x3 => [(4, .v (.bool x3))]) (fun x3 hF => ?_) fun _ hj1 hF => ?_
  ·cases hΦ _ (Rn_some hF)
   try simp [go_sem, g]
  ·try simp [go_sem, g]
   refine pC hF [.sh, .sh] c_slices_Equal_int_int (fun z4 hF => ?_)
   try simp [go_sem, g]
   refine pwg_F hF (fun h5 hF => ?_) fun h5 hF => ?_
   ·try simp [go_sem, g, h5]
    refine pC hF [.sh, .sh] c_slices_Equal_int_int (fun z6 hF => ?_)
    try simp [go_sem, g, h5]
    refine pwg_F hF (fun h7 hF => ?_) fun h7 hF => ?_
    ·try simp [go_sem, g, h7]
     refine pC hF [.sh, .sh] c_slices_Equal_int_int (fun z8 hF => ?_)
     try simp [go_sem, g, h7]
     exact pT (hj1 z8) (Rn_some hF)
    ·try simp [go_sem, g, h7]
     exact pT (hj1 false) (Rn_some hF)
   ·try simp [go_sem, g, h5]
    exact pT (hj1 false) (Rn_some hF)
def D18_7 : List DE := [d1 0 [4] 4, d2 1 [42] 4 42, d0 2 [10], d0 3 [43, 44], d0 4 [45], d1 5 [5] 5, d2 6 [47] 5 47, d0 7 [10], d0 8 [48, 49], d0 9 [50], d0 10 [], d0 11 [], d2 12 [11, 46] 11 11, d2 13 [12, 51] 12 12]
noncomputable def F_impl_CompareReplicas (a0 : Group) (a1 : Board) (a2 : Board) : Option (Int × Int × Bool) :=
  (((F_impl_areBoard a0 a1).bind fun z4 =>
  if (!z4) = true then (
  some true) else (
  (F_impl_areBoard a0 a2).bind fun z6 =>
  if (!z6) = true then (
  some true) else (
  (F_slices_Equal_int_int a1.Keys a2.Keys).bind fun z8 =>
  some (!z8))) : Option (Bool)).bind fun x3 =>
  if x3 = true then (
  some (0, 0, false)) else (
  ((wloop (σ := Int) (fun s13 =>
  if decide (s13 < (if (a2.Entries.length : Int) < (a1.Entries.length : Int) then (a2.Entries.length : Int) else (a1.Entries.length : Int))) = true then (
  (ix a1.Entries s13).bind fun x19 =>
  (ix a2.Entries s13).bind fun x20 =>
  ((if (x19.Kind != x20.Kind) = true then (
  some true) else (
  if (x19.Author != x20.Author) = true then (
  some true) else (
  (F_slices_Equal_int_int x19.Data x20.Data).bind fun z26 =>
  if (!z26) = true then (
  some true) else (
  (F_impl_sameProof x19.Sign x20.Sign).bind fun z28 =>
  some (!z28)))) : Option (Bool)).bind fun x23 =>
  if x23 = true then (
  some (.out (.inr (3, s13, true)))) else (
  some (.go (i64.wrap (s13 + 1)))))) else (
  some (.out (.inl ())))) 0 : Option (Unit ⊕ (Int × Int × Bool))).bind (Sum.elim (fun x12 =>
  if decide ((if (a2.Entries.length : Int) < (a1.Entries.length : Int) then (a2.Entries.length : Int) else (a1.Entries.length : Int)) < (a1.Entries.length : Int)) = true then (
  some (1, (if (a2.Entries.length : Int) < (a1.Entries.length : Int) then (a2.Entries.length : Int) else (a1.Entries.length : Int)), true)) else (
  if decide ((if (a2.Entries.length : Int) < (a1.Entries.length : Int) then (a2.Entries.length : Int) else (a1.Entries.length : Int)) < (a2.Entries.length : Int)) = true then (
  some (2, (if (a2.Entries.length : Int) < (a1.Entries.length : Int) then (a2.Entries.length : Int) else (a1.Entries.length : Int)), true)) else (
  some (0, (if (a2.Entries.length : Int) < (a1.Entries.length : Int) then (a2.Entries.length : Int) else (a1.Entries.length : Int)), true)))) some))))
theorem c_impl_CompareReplicas : ∀ {a0} {a1} {a2} {r}, F_impl_CompareReplicas a0 a1 a2 = some r → PCalls Tryz.prog 18 [(.sh, .agg [.int .i64 a0.P, .int .i64 a0.Q, .int .i64 a0.G]), (.sh, .agg [.sl false 1 (a1.Keys.map row_i64), .sl false 6 (a1.Entries.map row_Entry_z)]), (.sh, .agg [.sl false 1 (a2.Keys.map row_i64), .sl false 6 (a2.Entries.map row_Entry_z)])] (Eo (.tup [.int .i64 r.1, .int .i64 r.2.1, .bool r.2.2]) [.junk, .junk, .junk]) := by
  intro a0 a1 a2 r hr
  apply pF 97 [] [] [] [.tmp 6, .tmp 7, .tmp 8] hr cl18 Tryz.func18
  intro Φ hΦ hF g
  unfold F_impl_CompareReplicas at hF
  try simp [go_sem, g]
  refine pw_wk ?_
  repeat rw [sq]
  refine pJ hF (fun x3 => [(4, .bl [.sl false 1 (a1.Keys.map row_i64), .sl false 6 (a1.Entries.map row_Entry_z)]), (5, .bl [.sl false 1 (a2.Keys.map row_i64), .sl false 6 (a2.Entries.map row_Entry_z)]), (30, .v (.bool x3))]) (fun x3 hF => ?_) fun _ hj1 hF => ?_
  ·repeat rw [sq]
   refine pI hF (fun h9 hF => ?_) (fun h9 hF => ?_)
   ·cases hΦ _ (Rn_some hF)
    try simp [go_sem, g]
    refine pw_wk ?_
    try simp [go_sem, g]
   ·try simp [go_sem, g]
    try intros
    refine pw_wk ?_
    try simp [go_sem, g]
    try intros
    refine pw_wkK [4, 5, 9] (by simp [go_sem, g]; rfl) ?_
    try simp [go_sem, g]
    refine pw_wk ?_
    repeat rw [sq]
    refine pJs hF (fun x12 => [(4, .bl [.sl false 1 (a1.Keys.map row_i64), .sl false 6 (a1.Entries.map row_Entry_z)]), (5, .bl [.sl false 1 (a2.Keys.map row_i64), .sl false 6 (a2.Entries.map row_Entry_z)]), (9, .v (.int .i64 (if (a2.Entries.length : Int) < (a1.Entries.length : Int) then (a2.Entries.length : Int) else (a1.Entries.length : Int))))]) (fun x12 hF => ?_) fun _ hj10 hr11 hF => ?_
    ·repeat rw [sq]
     rw [pw_block]
     try simp [go_sem, g]
     try intros
     refine pw_wk ?_
     repeat rw [sq]
     refine pI hF (fun h32 hF => ?_) (fun h32 hF => ?_)
     ·try simp [go_sem, g]
      refine pw_wkK [6, 7, 8] (by simp [go_sem, g]; rfl) ?_
      cases hΦ _ (Rn_some hF)
      try simp [go_sem, g]
     ·try simp [go_sem, g]
      try intros
      refine pw_wkK [9, 89] (by simp [go_sem, g]; rfl) ?_
      repeat rw [sq]
      refine pI hF (fun h33 hF => ?_) (fun h33 hF => ?_)
      ·cases hΦ _ (Rn_some hF)
       try simp [go_sem, g]
       refine pw_wk ?_
       try simp [go_sem, g]
      ·cases hΦ _ (Rn_some hF)
       iterate 2 (try simp [go_sem, g]; refine pw_wk ?_)
       try simp [go_sem, g]
    ·repeat rw [sq]
     rw [pw_block]
     obtain ⟨b30, hb31, hψ17⟩ := hF
     refine pL hb31 (fun s13 => [(4, .bl [.sl false 1 (a1.Keys.map row_i64), .sl false 6 (a1.Entries.map row_Entry_z)]), (5, .bl [.sl false 1 (a2.Keys.map row_i64), .sl false 6 (a2.Entries.map row_Entry_z)]), (9, .v (.int .i64 (if (a2.Entries.length : Int) < (a1.Entries.length : Int) then (a2.Entries.length : Int) else (a1.Entries.length : Int)))), (38, .v (.int .i64 (if (a2.Entries.length : Int) < (a1.Entries.length : Int) then (a2.Entries.length : Int) else (a1.Entries.length : Int)))), (39, .v (.int .i64 s13))]) (fun s13 _ _ ho15 hg16 hF => ?_)
     try simp [go_sem, g]
     refine pw_wk ?_
     repeat rw [sq]
     refine pI hF (fun h18 hF => ?_) (fun h18 hF => ?_)
     ·try simp [go_sem, g]
      refine pw_wk ?_
      repeat rw [sq]
      rw [pw_block]
      try simp [go_sem, g]
      refine pw_wk ?_
      repeat rw [sq]
      refine pw_draw D18_7 follows (by kernel_rfl) rfl ?_
      try simp only [go_sem, D18_7]
      obtain ⟨x19, g, hF⟩ := Rx g hF
      obtain ⟨x20, g, hF⟩ := Rx g hF
      try simp [go_sem, g]
      refine pw_wkK [4, 5, 9, 10, 11, 12, 38, 39] (by simp [go_sem, g]; rfl) ?_
      repeat rw [sq]
      refine pJ hF (fun x23 => [(4, .bl [.sl false 1 (a1.Keys.map row_i64), .sl false 6 (a1.Entries.map row_Entry_z)]), (5, .bl [.sl false 1 (a2.Keys.map row_i64), .sl false 6 (a2.Entries.map row_Entry_z)]), (9, .v (.int .i64 (if (a2.Entries.length : Int) < (a1.Entries.length : Int) then (a2.Entries.length : Int) else (a1.Entries.length : Int)))), (10, .v (.int .i64 s13)), (38, .v (.int .i64 (if (a2.Entries.length : Int) < (a1.Entries.length : Int) then (a2.Entries.length : Int) else (a1.Entries.length : Int)))), (39, .v (.int .i64 s13)), (79, .v (.bool x23))]) (fun x23 hF => ?_) fun _ hj21 hF => ?_
      ·repeat rw [sq]
       refine pI hF (fun h29 hF => ?_) (fun h29 hF => ?_)
       ·cases ho15 _ (Rn_some hF)
        cases hΦ _ (hr11 _ hψ17)
        try simp [go_sem, g]
        refine pw_wk ?_
        try simp [go_sem, g]
       ·try simp [go_sem, g]
        refine pw_wk ?_
        try simp [go_sem, g]
        exact pT (hg16 (i64.wrap (s13 + 1))) (Rn_some hF)
      ·try simp [go_sem, g]
       refine pwg_F hF (fun h24 hF => ?_) fun h24 hF => ?_
       ·try simp [go_sem, g, h24]
        exact pT (hj21 true) (Rn_some hF)
       ·try simp [go_sem, g, h24]
        refine pwg_F hF (fun h25 hF => ?_) fun h25 hF => ?_
        ·try simp [go_sem, g, h25]
         exact pT (hj21 true) (Rn_some hF)
        ·try simp [go_sem, g, h25]
         refine pC hF [.sh, .sh] c_slices_Equal_int_int (fun z26 hF => ?_)
         try simp [go_sem, g, h25]
         refine pwg_F hF (fun h27 hF => ?_) fun h27 hF => ?_
         ·try simp [go_sem, g, h27]
          exact pT (hj21 true) (Rn_some hF)
         ·try simp [go_sem, g, h27]
          refine pC hF [.sh, .sh] c_impl_sameProof (fun z28 hF => ?_)
          try simp [go_sem, g, h27]
          exact pT (hj21 (!z28)) (Rn_some hF)
     ·try simp [go_sem, g]
      cases ho15 _ (Rn_some hF)
      exact pT (hj10 ()) hψ17
  ·try simp [go_sem, g]
   refine pC hF [.sh, .sh] c_impl_areBoard (fun z4 hF => ?_)
   try simp [go_sem, g]
   refine pwg_F hF (fun h5 hF => ?_) fun h5 hF => ?_
   ·try simp [go_sem, g, h5]
    exact pT (hj1 true) (Rn_some hF)
   ·try simp [go_sem, g, h5]
    refine pC hF [.sh, .sh] c_impl_areBoard (fun z6 hF => ?_)
    try simp [go_sem, g, h5]
    refine pwg_F hF (fun h7 hF => ?_) fun h7 hF => ?_
    ·try simp [go_sem, g, h7]
     exact pT (hj1 true) (Rn_some hF)
    ·try simp [go_sem, g, h7]
     refine pC hF [.sh, .sh] c_slices_Equal_int_int (fun z8 hF => ?_)
     try simp [go_sem, g, h7]
     exact pT (hj1 (!z8)) (Rn_some hF)
noncomputable def F_laws_FnEntries (a0 : (List Int)) (a1 : (List Int)) : Option (Bool) :=
  (F_laws_big a0 a1).bind fun z1 =>
  if z1 = true then (
  some true) else (
  (F_spec_DrawSignEntry a0).bind fun z3 =>
  (F_impl_SignEntry z3.1 z3.2.1 z3.2.2.1 z3.2.2.2.1 z3.2.2.2.2.1 z3.2.2.2.2.2.1 z3.2.2.2.2.2.2).bind fun z4 =>
  (F_spec_SignEntry z3.1 z3.2.1 z3.2.2.1 z3.2.2.2.1 z3.2.2.2.2.1 z3.2.2.2.2.2.1 z3.2.2.2.2.2.2).bind fun z5 =>
  ((if (z4.2 != z5.2) = true then (
  some true) else (
  (F_laws_pSameEntry z4.1 z5.1).bind fun z10 =>
  some (!z10)) : Option (Bool)).bind fun x8 =>
  if x8 = true then (
  some false) else (
  ((if z4.2 = true then (
  (F_spec_KeyOf z3.1 z3.2.1).bind fun z16 =>
  (F_impl_VerifyEntry z3.1 z16.1 z3.2.2.2.2.1 z4.1).bind fun z17 =>
  ((if (!z16.2) = true then (
  some true) else (
  if (!z17.2) = true then (
  some true) else (
  some (!z17.1))) : Option (Bool)).bind fun x20 =>
  if x20 = true then (
  some (.inr false)) else (
  some (.inl ())))) else (
  some (.inl ())) : Option (Unit ⊕ Bool)).bind (Sum.elim (fun x14 =>
  (F_spec_DrawAppendEntry a1).bind fun z24 =>
  (F_impl_AppendEntry z24.1 z24.2.1 z24.2.2).bind fun z25 =>
  (F_spec_AppendEntry z24.1 z24.2.1 z24.2.2).bind fun z26 =>
  ((if (z25.2 != z26.2) = true then (
  some true) else (
  (F_laws_pSameBoard z25.1 z26.1).bind fun z31 =>
  some (!z31)) : Option (Bool)).bind fun x29 =>
  if x29 = true then (
  some false) else (
  if z25.2 = true then (
  (F_impl_IsValidBoard z24.1 z25.1).bind fun z34 =>
  (F_impl_CompareReplicas z24.1 z25.1 z24.2.1).bind fun z35 =>
  ((if z34.2 = true then (
  if z34.1 = true then (
  if z35.2.2 = true then (
  if (z35.1 == 1) = true then (
  if (z35.2.1 == (z24.2.1.Entries.length : Int)) = true then (
  some ((z25.1.Entries.length : Int) == (i64.wrap ((z24.2.1.Entries.length : Int) + 1)))) else (
  some false)) else (
  some false)) else (
  some false)) else (
  some false)) else (
  some false) : Option (Bool)).bind fun x38 =>
  some x38)) else (
  some true)))) some)))))
theorem c_laws_FnEntries : ∀ {a0} {a1} {r}, F_laws_FnEntries a0 a1 = some r → PCalls Tryz.prog 3 [(.sh, .sl false 1 (a0.map row_u8)), (.sh, .sl false 1 (a1.map row_u8))] (Eo (.bool r) [.junk, .junk]) := by
  intro a0 a1 r hr
  apply pF 173 [] [51] [] [.tmp 4] hr cl3 Tryz.func3
  intro Φ hΦ hF g
  unfold F_laws_FnEntries at hF
  try simp [go_sem, g]
  refine pw_wk ?_
  try simp [go_sem, g]
  refine pC hF [.sh, .sh] c_laws_big (fun z1 hF => ?_)
  try simp [go_sem, g]
  refine pw_wk ?_
  repeat rw [sq]
  refine pI hF (fun h2 hF => ?_) (fun h2 hF => ?_)
  ·cases hΦ _ (Rn_some hF)
   try simp [go_sem, g]
   refine pw_wk ?_
   try simp [go_sem, g]
  ·try simp [go_sem, g]
   refine pw_wk ?_
   try simp [go_sem, g]
   refine pC hF [.sh] c_spec_DrawSignEntry (fun z3 hF => ?_)
   try simp [go_sem, g]
   refine pw_wkK [1, 5, 6, 7, 8, 9, 10, 11] (by simp [go_sem, g]; rfl) ?_
   try simp [go_sem, g]
   refine pC hF [.sh, .sh, .sh, .sh, .sh, .sh, .sh] c_impl_SignEntry (fun z4 hF => ?_)
   try simp [go_sem, g]
   refine pw_wkK [1, 5, 6, 7, 8, 9, 10, 11, 12, 13] (by simp [go_sem, g]; rfl) ?_
   try simp [go_sem, g]
   refine pC hF [.sh, .sh, .sh, .sh, .sh, .sh, .sh] c_spec_SignEntry (fun z5 hF => ?_)
   try simp [go_sem, g]
   refine pw_wkK [1, 5, 6, 9, 12, 13, 14, 15] (by simp [go_sem, g]; rfl) ?_
   repeat rw [sq]
   refine pJ hF (fun x8 => [(1, .v (.sl false 1 (a1.map row_u8))), (5, .bl [.int .i64 z3.1.P, .int .i64 z3.1.Q, .int .i64 z3.1.G]), (6, .v (.int .i64 z3.2.1)), (9, .v (.int .i64 z3.2.2.2.2.1)), (12, .bl [.int .i64 z4.1.Kind, .int .i64 z4.1.Author, .sl false 1 (z4.1.Data.map row_i64), .sl false 1 (z4.1.Sign.Commits.map row_i64), .sl false 1 (z4.1.Sign.Challenges.map row_i64), .sl false 1 (z4.1.Sign.Responses.map row_i64)]), (13, .v (.bool z4.2)), (75, .v (.bool x8))]) (fun x8 hF => ?_) fun _ hj6 hF => ?_
   ·repeat rw [sq]
    refine pI hF (fun h11 hF => ?_) (fun h11 hF => ?_)
    ·cases hΦ _ (Rn_some hF)
     try simp [go_sem, g]
     refine pw_wk ?_
     try simp [go_sem, g]
    ·iterate 2 (try simp [go_sem, g]; refine pw_wk ?_)
     repeat rw [sq]
     refine pJs hF (fun x14 => [(1, .v (.sl false 1 (a1.map row_u8)))]) (fun x14 hF => ?_) fun _ hj12 hr13 hF => ?_
     ·try simp [go_sem, g]
      refine pC hF [.sh] c_spec_DrawAppendEntry (fun z24 hF => ?_)
      try simp [go_sem, g]
      refine pw_wkK [20, 21, 22] (by simp [go_sem, g]; rfl) ?_
      try simp [go_sem, g]
      refine pC hF [.sh, .sh, .sh] c_impl_AppendEntry (fun z25 hF => ?_)
      try simp [go_sem, g]
      refine pw_wkK [20, 21, 22, 23, 24] (by simp [go_sem, g]; rfl) ?_
      try simp [go_sem, g]
      refine pC hF [.sh, .sh, .sh] c_spec_AppendEntry (fun z26 hF => ?_)
      try simp [go_sem, g]
      refine pw_wkK [20, 21, 23, 24, 25, 26] (by simp [go_sem, g]; rfl) ?_
      repeat rw [sq]
      refine pJ hF (fun x29 => [(20, .bl [.int .i64 z24.1.P, .int .i64 z24.1.Q, .int .i64 z24.1.G]), (21, .bl [.sl false 1 (z24.2.1.Keys.map row_i64), .sl false 6 (z24.2.1.Entries.map row_Entry_z)]), (23, .bl [.sl true 1 (z25.1.Keys.map row_i64), .sl true 6 (z25.1.Entries.map row_Entry_o)]), (24, .v (.bool z25.2)), (129, .v (.bool x29))]) (fun x29 hF => ?_) fun _ hj27 hF => ?_
      ·repeat rw [sq]
       refine pI hF (fun h32 hF => ?_) (fun h32 hF => ?_)
       ·cases hΦ _ (Rn_some hF)
        try simp [go_sem, g]
        refine pw_wk ?_
        try simp [go_sem, g]
       ·iterate 2 (try simp [go_sem, g]; refine pw_wk ?_)
        repeat rw [sq]
        refine pI hF (fun h33 hF => ?_) (fun h33 hF => ?_)
        ·try simp [go_sem, g]
         refine pC hF [.sh, .sh] c_impl_IsValidBoard (fun z34 hF => ?_)
         try simp [go_sem, g]
         refine pw_wk ?_
         try simp [go_sem, g]
         refine pC hF [.sh, .sh, .sh] c_impl_CompareReplicas (fun z35 hF => ?_)
         try simp [go_sem, g]
         refine pw_wkK [21, 23, 27, 28, 29, 30, 31] (by simp [go_sem, g]; rfl) ?_
         repeat rw [sq]
         refine pJ hF (fun x38 => [(4, .v (.bool x38))]) (fun x38 hF => ?_) fun _ hj36 hF => ?_
         ·cases hΦ _ (Rn_some hF)
          try simp [go_sem, g]
         ·try simp [go_sem, g]
          refine pwg_F hF (fun h39 hF => ?_) fun h39 hF => ?_
          ·try simp [go_sem, g, h39]
           refine pwg_F hF (fun h40 hF => ?_) fun h40 hF => ?_
           ·try simp [go_sem, g, h40]
            refine pwg_F hF (fun h41 hF => ?_) fun h41 hF => ?_
            ·try simp [go_sem, g, h41]
             refine pwg_F hF (fun h42 hF => ?_) fun h42 hF => ?_
             ·try simp [go_sem, g, h42]
              try intros
              refine pwg_F hF (fun h43 hF => ?_) fun h43 hF => ?_
              ·try simp [go_sem, g, h43]
               try intros
               exact pT (hj36 ((z25.1.Entries.length : Int) == (i64.wrap ((z24.2.1.Entries.length : Int) + 1)))) (Rn_some hF)
              ·try simp [go_sem, g, h43]
               exact pT (hj36 false) (Rn_some hF)
             ·try simp [go_sem, g, h42]
              exact pT (hj36 false) (Rn_some hF)
            ·try simp [go_sem, g, h41]
             exact pT (hj36 false) (Rn_some hF)
           ·try simp [go_sem, g, h40]
            exact pT (hj36 false) (Rn_some hF)
          ·try simp [go_sem, g, h39]
           exact pT (hj36 false) (Rn_some hF)
        ·cases hΦ _ (Rn_some hF)
         iterate 2 (try simp [go_sem, g]; refine pw_wk ?_)
         try simp [go_sem, g]
      ·try simp [go_sem, g]
       refine pwg_F hF (fun h30 hF => ?_) fun h30 hF => ?_
       ·try simp [go_sem, g, h30]
        exact pT (hj27 true) (Rn_some hF)
       ·try simp [go_sem, g, h30]
        refine pC hF [.sh, .sh] c_laws_pSameBoard (fun z31 hF => ?_)
        try simp [go_sem, g, h30]
        exact pT (hj27 (!z31)) (Rn_some hF)
     ·repeat rw [sq]
      refine pI hF (fun h15 hF => ?_) (fun h15 hF => ?_)
      ·try simp [go_sem, g]
       refine pC hF [.sh, .sh] c_spec_KeyOf (fun z16 hF => ?_)
       try simp [go_sem, g]
       refine pw_wk ?_
       try simp [go_sem, g]
       refine pC hF [.sh, .sh, .sh, .sh] c_impl_VerifyEntry (fun z17 hF => ?_)
       try simp [go_sem, g]
       refine pw_wkK [1, 17, 18, 19] (by simp [go_sem, g]; rfl) ?_
       repeat rw [sq]
       refine pJ hF (fun x20 => [(1, .v (.sl false 1 (a1.map row_u8))), (100, .v (.bool x20))]) (fun x20 hF => ?_) fun _ hj18 hF => ?_
       ·repeat rw [sq]
        refine pI hF (fun h23 hF => ?_) (fun h23 hF => ?_)
        ·cases hΦ _ (hr13 _ (Rn_some hF))
         try simp [go_sem, g]
         refine pw_wk ?_
         try simp [go_sem, g]
        ·try simp [go_sem, g]
         exact pT (hj12 ()) (Rn_some hF)
       ·try simp [go_sem, g]
        refine pwg_F hF (fun h21 hF => ?_) fun h21 hF => ?_
        ·try simp [go_sem, g, h21]
         exact pT (hj18 true) (Rn_some hF)
        ·try simp [go_sem, g, h21]
         refine pwg_F hF (fun h22 hF => ?_) fun h22 hF => ?_
         ·try simp [go_sem, g, h22]
          exact pT (hj18 true) (Rn_some hF)
         ·try simp [go_sem, g, h22]
          exact pT (hj18 (!z17.1)) (Rn_some hF)
      ·try simp [go_sem, g]
       exact pT (hj12 ()) (Rn_some hF)
   ·try simp [go_sem, g]
    refine pwg_F hF (fun h9 hF => ?_) fun h9 hF => ?_
    ·try simp [go_sem, g, h9]
     exact pT (hj6 true) (Rn_some hF)
    ·try simp [go_sem, g, h9]
     refine pC hF [.sh, .sh] c_laws_pSameEntry (fun z10 hF => ?_)
     try simp [go_sem, g, h9]
     exact pT (hj6 (!z10)) (Rn_some hF)
end Go.Pm
