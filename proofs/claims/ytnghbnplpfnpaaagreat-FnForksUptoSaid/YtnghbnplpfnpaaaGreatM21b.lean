/-
  Plain functions and their walks. Written by wip/tools/lift.py.
-/
import Derived.Test.YtnghbnplpfnpaaaGreatM21
namespace Go.Pm
open Go.Am IntKind
open Go.Proofs
set_option maxRecDepth 100000
attribute [local irreducible] pw pwx pw1 pwg qv qz qf
attribute [-simp] List.map_set
set_option linter.unusedSimpArgs false
set_option linter.unusedVariables false
theorem c_spec_sVerify : ∀ {a0} {a1} {a2} {a3} {a4} {r}, F_spec_sVerify a0 a1 a2 a3 a4 = some r → PCalls Tryz.prog 132 [(.sh, .agg [.int .i64 a0.P, .int .i64 a0.Q, .int .i64 a0.G]), (.sh, .str a1), (.sh, .sl false 1 (a2.map row_zi64)), (.sh, .sl false 1 (a3.map row_i64)), (.sh, .agg [.sl false 1 (a4.Commits.map row_i64), .sl false 1 (a4.Challenges.map row_i64), .sl false 1 (a4.Responses.map row_i64)])] (Eo (.bool r) [.junk, .junk, .junk, .junk, .junk]) := by
 intro a0 a1 a2 a3 a4 r hr
 apply pF 93 [] [] [] [.tmp 10] hr cl132 Tryz.func132
 intro Φ hΦ hF g
 unfold F_spec_sVerify at hF
 try simp [go_sem, g]
 refine pw_wk ?_
 repeat rw [sq]
 refine pJ hF (fun x3 => [(1, .v (.str a1)), (2, .v (.sl false 1 (a2.map row_zi64))), (3, .v (.sl false 1 (a3.map row_i64))), (5, .bl [.int .i64 a0.P, .int .i64 a0.Q, .int .i64 a0.G]), (9, .bl [.sl false 1 (a4.Commits.map row_i64), .sl false 1 (a4.Challenges.map row_i64), .sl false 1 (a4.Responses.map row_i64)]), (49, .v (.bool x3))]) (fun x3 hF => ?_) fun _ hj1 hF => ?_
 ·repeat rw [sq]
  refine pI hF (fun h11 hF => ?_) (fun h11 hF => ?_)
  ·cases hΦ _ (Rn_some hF)
   try simp [go_sem, g]
   refine pw_wk ?_
   try simp [go_sem, g]
  ·obtain ⟨x12, g, hF⟩ := Rxn g 0 hF
   iterate 2 (try simp [go_sem, g]; refine pw_wk ?_)
   repeat rw [sq]
   refine pw_draw D132_4 follows (by kernel_rfl) rfl ?_
   try simp only [go_sem, D132_4]
   try simp [go_sem, g]
   refine pC hF [.sh, .sh, .sh] c_spec_sStatement (fun z13 hF => ?_)
   try simp [go_sem, g]
   refine pC hF [.sh, .sh, .sh] c_spec_hChallenge (fun z14 hF => ?_)
   try simp [go_sem, g]
   refine pw_wkK [2, 3, 5, 9, 11, 63] (by simp [go_sem, g]; rfl) ?_
   repeat rw [sq]
   refine pI hF (fun h15 hF => ?_) (fun h15 hF => ?_)
   ·cases hΦ _ (Rn_some hF)
    try simp [go_sem, g]
    refine pw_wk ?_
    try simp [go_sem, g]
   ·iterate 2 (try simp [go_sem, g]; try intros; refine pw_wk ?_)
    repeat rw [sq]
    refine pJs hF (fun x18 => []) (fun x18 hF => ?_) fun _ hj16 hr17 hF => ?_
    ·cases hΦ _ (Rn_some hF)
     try simp [go_sem, g]
     refine pw_wk ?_
     try simp [go_sem, g]
    ·repeat rw [sq]
     rw [pw_block]
     obtain ⟨b33, hb34, hψ23⟩ := hF
     refine pR hb34 (fun i20 s19 => [(3, .v (.sl false 1 (a3.map row_i64))), (5, .bl [.int .i64 a0.P, .int .i64 a0.Q, .int .i64 a0.G]), (9, .bl [.sl false 1 (a4.Commits.map row_i64), .sl false 1 (a4.Challenges.map row_i64), .sl false 1 (a4.Responses.map row_i64)]), (11, .v (.int .i64 x12)), (64, .v (.sl false 1 (a2.map row_zi64))), (65, .v (.int .i64 (a2.length : Int))), (66, .v (.int .i64 i20))]) (fun s19 _ hN35 => ?_) (fun i20 s19 _ _ hi24 hi25 ho21 hg22 hF => ?_)
     ·subst hN35
      try simp [go_sem]
      refine pw_wk ?_
      repeat rw [sq]
      refine pw_cond_f (by simp [go_sem]) ?_
      try simp [go_sem]
      exact pT (hj16 ()) hψ23 (by simp [go_sem])
     ·try simp [go_sem, g]
      refine pw_wk ?_
      repeat rw [sq]
      refine pw_cond_t (by simp [go_sem, g, hi24, hi25]) ?_
      try simp [go_sem, g]
      refine pw_wk ?_
      repeat rw [sq]
      rw [pw_block]
      obtain ⟨x26, g, hF⟩ := Rx g hF
      try simp [go_sem, g]
      refine pw_wk ?_
      repeat rw [sq]
      refine pw_draw D132_9 follows (by kernel_rfl) rfl ?_
      try simp only [go_sem, D132_9]
      obtain ⟨x27, g, hF⟩ := Rx g hF
      obtain ⟨x28, g, hF⟩ := Rx g hF
      try simp [go_sem, g]
      refine pCD hF c_spec_gProd (fun z29 hF => ?_)
      try simp [go_sem, g]
      refine pCD hF c_spec_gExp (fun z30 hF => ?_)
      try simp [go_sem, g]
      refine pC hF [.sh, .sh] c_spec_gMul (fun z31 hF => ?_)
      try simp [go_sem, g]
      refine pw_wkK [3, 5, 9, 11, 64, 65, 66, 91] (by simp [go_sem, g]; rfl) ?_
      repeat rw [sq]
      refine pI hF (fun h32 hF => ?_) (fun h32 hF => ?_)
      ·cases ho21 _ (Rn_some hF)
       cases hΦ _ (hr17 _ hψ23)
       try simp [go_sem, g]
       refine pw_wk ?_
       try simp [go_sem, g]
      ·try simp [go_sem, g]
       refine pw_wk ?_
       try simp [go_sem, g]
       exact pT (hg22 ()) (Rn_some hF) (by simp [go_sem, g, wr_i hi24 hi25 (by assumption)])
 ·repeat rw [sq]
  refine pw_draw D132_1 follows (by kernel_rfl) rfl ?_
  try simp only [go_sem, D132_1]
  try simp [go_sem, g]
  try intros
  refine pwgD_F hF (fun h4 hF => ?_) fun h4 hF => ?_
  ·try simp [go_sem, g, h4]
   exact pT (hj1 true) (Rn_some hF)
  ·try simp [go_sem, g, h4]
   try intros
   refine pwgD_F hF (fun h5 hF => ?_) fun h5 hF => ?_
   ·try simp [go_sem, g, h5]
    exact pT (hj1 true) (Rn_some hF)
   ·obtain ⟨x6, g, hF⟩ := Rxn g 0 hF
    try simp [go_sem, g, h5]
    try intros
    refine pwgD_F hF (fun h7 hF => ?_) fun h7 hF => ?_
    ·try simp [go_sem, g, h7]
     exact pT (hj1 true) (Rn_some hF)
    ·try simp [go_sem, g, h7]
     refine pC hF [.sh, .sh] c_spec_gIs (fun z8 hF => ?_)
     try simp [go_sem, g, h7]
     refine pwgD_F hF (fun h9 hF => ?_) fun h9 hF => ?_
     ·try simp [go_sem, g, h9]
      exact pT (hj1 true) (Rn_some hF)
     ·try simp [go_sem, g, h9]
      refine pC hF [.sh, .sh] c_spec_gExps (fun z10 hF => ?_)
      try simp [go_sem, g, h9]
      exact pT (hj1 (!z10)) (Rn_some hF)
noncomputable def F_spec_oSigned (a0 : Group) (a1 : ByteArray) (a2 : Int) (a3 : Proof) : Option (Bool) :=
 (F_spec_sVerify a0 a1 [[a0.G]] [a2] a3).bind fun z1 =>
 some z1
theorem c_spec_oSigned : ∀ {a0} {a1} {a2} {a3} {r}, F_spec_oSigned a0 a1 a2 a3 = some r → PCalls Tryz.prog 119 [(.sh, .agg [.int .i64 a0.P, .int .i64 a0.Q, .int .i64 a0.G]), (.sh, .str a1), (.sh, .int .i64 a2), (.sh, .agg [.sl false 1 (a3.Commits.map row_i64), .sl false 1 (a3.Challenges.map row_i64), .sl false 1 (a3.Responses.map row_i64)])] (Eo (.bool r) [.junk, .junk, .junk, .junk]) := by
 intro a0 a1 a2 a3 r hr
 apply pF 19 [] [] [] [.tmp 8] hr cl119 Tryz.func119
 intro Φ hΦ hF g
 unfold F_spec_oSigned at hF
 try simp [go_sem, g]
 refine pw_wk ?_
 try simp [go_sem, g]
 refine pC hF [.sh, .sh, .sh, .sh, .sh] c_spec_sVerify (fun z1 hF => ?_)
 try simp [go_sem, g]
 refine pw_wkK [8] (by simp [go_sem, g]; rfl) ?_
 cases hΦ _ (Rn_some hF)
 try simp [go_sem, g]
def D97_1 : List DE := [d2 0 [5] 5 5, d3 1 [7], d0 2 [8], d2 3 [3, 9] 3 3, d2 4 [5, 9] 5 5, d0 6 [1, 9], d1 7 [5, 9] 5, d2 8 [14, 9] 5 14, d3 5 [11, 9], d3 9 [10, 12, 13, 15, 9], d0 10 [9, 16], d0 11 [17]]
noncomputable def F_spec_oHeadBy (a0 : Group) (a1 : Int) (a2 : Head) : Option (Bool) :=
 (((F_spec_oHead a2).bind fun z4 =>
 if z4 = true then (
 (F_spec_oHeadLabel a2).bind fun z6 =>
 (F_spec_oSigned a0 z6 a1 a2.Sign).bind fun z7 =>
 some z7) else (
 some false) : Option (Bool)).bind fun x3 =>
 some x3)
theorem c_spec_oHeadBy : ∀ {a0} {a1} {a2} {r}, F_spec_oHeadBy a0 a1 a2 = some r → PCalls Tryz.prog 97 [(.sh, .agg [.int .i64 a0.P, .int .i64 a0.Q, .int .i64 a0.G]), (.sh, .int .i64 a1), (.sh, .agg [.int .i64 a2.Author, .int .i64 a2.Size, .int .i64 a2.Root, .sl false 1 (a2.Sign.Commits.map row_i64), .sl false 1 (a2.Sign.Challenges.map row_i64), .sl false 1 (a2.Sign.Responses.map row_i64)])] (Eo (.bool r) [.junk, .junk, .junk]) := by
 intro a0 a1 a2 r hr
 apply pF 18 [] [] [] [.tmp 6] hr cl97 Tryz.func97
 intro Φ hΦ hF g
 unfold F_spec_oHeadBy at hF
 try simp [go_sem, g]
 refine pw_wk ?_
 repeat rw [sq]
 refine pJ hF (fun x3 => [(6, .v (.bool x3))]) (fun x3 hF => ?_) fun _ hj1 hF => ?_
 ·cases hΦ _ (Rn_some hF)
  try simp [go_sem, g]
 ·repeat rw [sq]
  refine pw_draw D97_1 follows (by kernel_rfl) rfl ?_
  try simp only [go_sem, D97_1]
  try simp [go_sem, g]
  refine pC hF [.sh] c_spec_oHead (fun z4 hF => ?_)
  try simp [go_sem, g]
  refine pwgD_F hF (fun h5 hF => ?_) fun h5 hF => ?_
  ·try simp [go_sem, g, h5]
   refine pC hF [.sh] c_spec_oHeadLabel (fun z6 hF => ?_)
   try simp [go_sem, g, h5]
   refine pC hF [.sh, .sh, .sh, .sh] c_spec_oSigned (fun z7 hF => ?_)
   try simp [go_sem, g, h5]
   exact pT (hj1 z7) (Rn_some hF)
  ·try simp [go_sem, g, h5]
   exact pT (hj1 false) (Rn_some hF)
def D66_1 : List DE := [d1 0 [5] 5, d2 1 [9] 5 9, d1 2 [5] 5, d2 3 [11] 5 11, d0 4 [], d0 5 [], d2 6 [7, 10] 7 7, d2 7 [8, 12] 8 8]
def D66_4 : List DE := [d2 0 [3] 3 3, d0 1 [1], d1 2 [7] 7, d2 3 [43] 7 43, d0 4 [42, 44], d0 5 [45], d2 6 [7] 7 7, d3 7 [41, 46, 47], d0 8 [48], d2 9 [3, 49] 3 3, d0 10 [1, 49], d1 11 [8, 49] 8, d2 12 [52, 49] 8 52, d0 13 [51, 53, 49], d0 14 [54, 49], d2 15 [8, 49] 8 8, d3 16 [50, 55, 56, 49], d0 17 [49, 57], d0 18 [58]]
noncomputable def F_spec_fEvidence (a0 : Group) (a1 : (List Int)) (a2 : ForkEvidence) : Option (Bool) :=
 ((if (a2.First.Author != a2.Second.Author) = true then (
 some true) else (
 if (a2.First.Size != a2.Second.Size) = true then (
 some true) else (
 if (a2.First.Root == a2.Second.Root) = true then (
 some true) else (
 (F_spec_l1In a2.First.Author 0 (i64.wrap ((a1.length : Int) - 1))).bind fun z7 =>
 some (!z7)))) : Option (Bool)).bind fun x3 =>
 if x3 = true then (
 some false) else (
 (((ix a1 a2.First.Author).bind fun x12 =>
 (F_spec_oHeadBy a0 x12 a2.First).bind fun z13 =>
 if z13 = true then (
 (ix a1 a2.Second.Author).bind fun x15 =>
 (F_spec_oHeadBy a0 x15 a2.Second).bind fun z16 =>
 some z16) else (
 some false) : Option (Bool)).bind fun x11 =>
 some x11)))
theorem c_spec_fEvidence : ∀ {a0} {a1} {a2} {r}, F_spec_fEvidence a0 a1 a2 = some r → PCalls Tryz.prog 66 [(.sh, .agg [.int .i64 a0.P, .int .i64 a0.Q, .int .i64 a0.G]), (.sh, .sl false 1 (a1.map row_i64)), (.sh, .agg [.int .i64 a2.First.Author, .int .i64 a2.First.Size, .int .i64 a2.First.Root, .sl false 1 (a2.First.Sign.Commits.map row_i64), .sl false 1 (a2.First.Sign.Challenges.map row_i64), .sl false 1 (a2.First.Sign.Responses.map row_i64), .int .i64 a2.Second.Author, .int .i64 a2.Second.Size, .int .i64 a2.Second.Root, .sl false 1 (a2.Second.Sign.Commits.map row_i64), .sl false 1 (a2.Second.Sign.Challenges.map row_i64), .sl false 1 (a2.Second.Sign.Responses.map row_i64)])] (Eo (.bool r) [.junk, .junk, .junk]) := by
 intro a0 a1 a2 r hr
 apply pF 59 [] [] [] [.tmp 6] hr cl66 Tryz.func66
 intro Φ hΦ hF g
 unfold F_spec_fEvidence at hF
 try simp [go_sem, g]
 refine pw_wk ?_
 repeat rw [sq]
 refine pw_draw D66_1 follows (by kernel_rfl) rfl ?_
 try simp only [go_sem, D66_1]
 try simp [go_sem, g]
 refine pw_wkK [1, 3, 7, 8] (by simp [go_sem, g]; rfl) ?_
 repeat rw [sq]
 refine pJ hF (fun x3 => [(1, .v (.sl false 1 (a1.map row_i64))), (3, .bl [.int .i64 a0.P, .int .i64 a0.Q, .int .i64 a0.G]), (7, .bl [.int .i64 a2.First.Author, .int .i64 a2.First.Size, .int .i64 a2.First.Root, .sl false 1 (a2.First.Sign.Commits.map row_i64), .sl false 1 (a2.First.Sign.Challenges.map row_i64), .sl false 1 (a2.First.Sign.Responses.map row_i64)]), (8, .bl [.int .i64 a2.Second.Author, .int .i64 a2.Second.Size, .int .i64 a2.Second.Root, .sl false 1 (a2.Second.Sign.Commits.map row_i64), .sl false 1 (a2.Second.Sign.Challenges.map row_i64), .sl false 1 (a2.Second.Sign.Responses.map row_i64)]), (40, .v (.bool x3))]) (fun x3 hF => ?_) fun _ hj1 hF => ?_
 ·repeat rw [sq]
  refine pI hF (fun h8 hF => ?_) (fun h8 hF => ?_)
  ·cases hΦ _ (Rn_some hF)
   try simp [go_sem, g]
   refine pw_wk ?_
   try simp [go_sem, g]
  ·try simp [go_sem, g]
   refine pw_wk ?_
   repeat rw [sq]
   refine pJ hF (fun x11 => [(6, .v (.bool x11))]) (fun x11 hF => ?_) fun _ hj9 hF => ?_
   ·cases hΦ _ (Rn_some hF)
    try simp [go_sem, g]
   ·repeat rw [sq]
    refine pw_draw D66_4 follows (by kernel_rfl) rfl ?_
    try simp only [go_sem, D66_4]
    obtain ⟨x12, g, hF⟩ := Rx g hF
    try simp [go_sem, g]
    refine pC hF [.sh, .sh, .sh] c_spec_oHeadBy (fun z13 hF => ?_)
    try simp [go_sem, g]
    refine pwgD_F hF (fun h14 hF => ?_) fun h14 hF => ?_
    ·obtain ⟨x15, g, hF⟩ := Rx g hF
     try simp [go_sem, g, h14]
     refine pC hF [.sh, .sh, .sh] c_spec_oHeadBy (fun z16 hF => ?_)
     try simp [go_sem, g, h14]
     exact pT (hj9 z16) (Rn_some hF)
    ·try simp [go_sem, g, h14]
     exact pT (hj9 false) (Rn_some hF)
 ·try simp [go_sem, g]
  refine pwg_F hF (fun h4 hF => ?_) fun h4 hF => ?_
  ·try simp [go_sem, g, h4]
   exact pT (hj1 true) (Rn_some hF)
  ·try simp [go_sem, g, h4]
   refine pwg_F hF (fun h5 hF => ?_) fun h5 hF => ?_
   ·try simp [go_sem, g, h5]
    exact pT (hj1 true) (Rn_some hF)
   ·try simp [go_sem, g, h5]
    refine pwg_F hF (fun h6 hF => ?_) fun h6 hF => ?_
    ·try simp [go_sem, g, h6]
     exact pT (hj1 true) (Rn_some hF)
    ·try simp [go_sem, g, h6]
     try intros
     refine pC hF [.sh, .sh, .sh] c_spec_l1In (fun z7 hF => ?_)
     try simp [go_sem, g, h6]
     exact pT (hj1 (!z7)) (Rn_some hF)
def D98_1 : List DE := [d1 0 [1] 1, d2 1 [3] 1 3, d1 3 [1] 1, d2 4 [6] 1 6, d1 6 [1] 1, d2 7 [9] 1 9, d3 2 [4], d3 5 [7], d3 8 [10], d0 9 [5, 8, 11], d2 10 [2, 12] 2 2]
noncomputable def F_spec_oOwnProof (a0 : Proof) : Option (Proof) :=
 (F_spec_l1Own a0.Commits).bind fun z1 =>
 (F_spec_l1Own a0.Challenges).bind fun z2 =>
 (F_spec_l1Own a0.Responses).bind fun z3 =>
 some (Proof.mk z1 z2 z3)
theorem c_spec_oOwnProof : ∀ {a0} {r}, F_spec_oOwnProof a0 = some r → PCalls Tryz.prog 98 [(.sh, .agg [.sl false 1 (a0.Commits.map row_i64), .sl false 1 (a0.Challenges.map row_i64), .sl false 1 (a0.Responses.map row_i64)])] (Eo (.agg [.sl true 1 (r.Commits.map row_i64), .sl true 1 (r.Challenges.map row_i64), .sl true 1 (r.Responses.map row_i64)]) [.junk]) := by
 intro a0 r hr
 apply pF 13 [] [] [] [.cell 2 31] hr cl98 Tryz.func98
 intro Φ hΦ hF g
 unfold F_spec_oOwnProof at hF
 try simp [go_sem, g]
 refine pw_wk ?_
 repeat rw [sq]
 refine pw_draw D98_1 follows (by kernel_rfl) rfl ?_
 try simp only [go_sem, D98_1]
 try simp [go_sem, g]
 refine pC hF [.sh] c_spec_l1Own (fun z1 hF => ?_)
 try simp [go_sem, g]
 refine pC hF [.sh] c_spec_l1Own (fun z2 hF => ?_)
 try simp [go_sem, g]
 refine pC hF [.sh] c_spec_l1Own (fun z3 hF => ?_)
 try simp [go_sem, g]
 refine pw_wkK [2] (by simp [go_sem, g]; rfl) ?_
 cases hΦ _ (Rn_some hF)
 try simp [go_sem, g]
def D67_1 : List DE := [d1 0 [1] 1, d2 1 [3] 1 3, d1 2 [1] 1, d2 3 [5] 1 5, d1 4 [1] 1, d2 5 [7] 1 7, d1 6 [1] 1, d2 7 [9] 1 9, d3 8 [10], d0 9 [4, 6, 8, 11], d2 10 [2, 12] 2 2]
noncomputable def F_spec_fOwn (a0 : Head) : Option (Head) :=
 (F_spec_oOwnProof a0.Sign).bind fun z1 =>
 some (Head.mk a0.Author a0.Size a0.Root z1)
theorem c_spec_fOwn : ∀ {a0} {r}, F_spec_fOwn a0 = some r → PCalls Tryz.prog 67 [(.sh, .agg [.int .i64 a0.Author, .int .i64 a0.Size, .int .i64 a0.Root, .sl false 1 (a0.Sign.Commits.map row_i64), .sl false 1 (a0.Sign.Challenges.map row_i64), .sl false 1 (a0.Sign.Responses.map row_i64)])] (Eo (.agg [.int .i64 r.Author, .int .i64 r.Size, .int .i64 r.Root, .sl true 1 (r.Sign.Commits.map row_i64), .sl true 1 (r.Sign.Challenges.map row_i64), .sl true 1 (r.Sign.Responses.map row_i64)]) [.junk]) := by
 intro a0 r hr
 apply pF 13 [] [] [] [.cell 2 33] hr cl67 Tryz.func67
 intro Φ hΦ hF g
 unfold F_spec_fOwn at hF
 try simp [go_sem, g]
 refine pw_wk ?_
 repeat rw [sq]
 refine pw_draw D67_1 follows (by kernel_rfl) rfl ?_
 try simp only [go_sem, D67_1]
 try simp [go_sem, g]
 refine pC hF [.sh] c_spec_oOwnProof (fun z1 hF => ?_)
 try simp [go_sem, g]
 refine pw_wkK [2] (by simp [go_sem, g]; rfl) ?_
 cases hΦ _ (Rn_some hF)
 try simp [go_sem, g]
def D31_9 : List DE := [d2 0 [9] 9 9, d2 2 [11] 11 11, d3 1 [36], d3 3 [38], d0 4 [37, 39], d2 5 [6, 40] 6 6, d0 6 []]
noncomputable def F_spec_fFind (a0 : Group) (a1 : (List Int)) (a2 : (List Head)) : Option (ForkEvidence × Bool) :=
 ((rloop (σ := Unit) (fun i5 s4 =>
 (((ix a2 i5).bind fun x14 =>
 gd (0 ≤ (i64.wrap (i5 + 1))) <|
 gd ((i64.wrap (i5 + 1)).toNat ≤ a2.length ∧ a2.length ≤ a2.length) <|
 rloop (σ := Unit) (fun i16 s15 =>
 (ix ((a2.take a2.length).drop ((i64.wrap (i5 + 1)).toNat)) i16).bind fun x23 =>
 (F_spec_fEvidence a0 a1 (ForkEvidence.mk x14 x23)).bind fun z24 =>
 if z24 = true then (
 (F_spec_fOwn x14).bind fun z26 =>
 (F_spec_fOwn x23).bind fun z27 =>
 some (.out (.inr (.out (.inr ((ForkEvidence.mk z26 z27), true)))))) else (
 some (.go ()))) (fun s15 => .inl ()) (((a2.take a2.length).drop ((i64.wrap (i5 + 1)).toNat)).length) 0 () : Option (Unit ⊕ (Stp Unit (Unit ⊕ (ForkEvidence × Bool))))).bind (Sum.elim (fun x13 =>
 some (.go ())) some))) (fun s4 => .inl ()) (a2.length) 0 () : Option (Unit ⊕ (ForkEvidence × Bool))).bind (Sum.elim (fun x3 =>
 some ((ForkEvidence.mk (Head.mk 0 0 0 (Proof.mk [] [] [])) (Head.mk 0 0 0 (Proof.mk [] [] []))), false)) some))
theorem c_spec_fFind : ∀ {a0} {a1} {a2} {r}, F_spec_fFind a0 a1 a2 = some r → PCalls Tryz.prog 31 [(.sh, .agg [.int .i64 a0.P, .int .i64 a0.Q, .int .i64 a0.G]), (.sh, .sl false 1 (a1.map row_i64)), (.sh, .sl false 6 (a2.map row_Head))] (Eo (.tup [.agg [.int .i64 r.1.First.Author, .int .i64 r.1.First.Size, .int .i64 r.1.First.Root, .sl true 1 (r.1.First.Sign.Commits.map row_i64), .sl true 1 (r.1.First.Sign.Challenges.map row_i64), .sl true 1 (r.1.First.Sign.Responses.map row_i64), .int .i64 r.1.Second.Author, .int .i64 r.1.Second.Size, .int .i64 r.1.Second.Root, .sl true 1 (r.1.Second.Sign.Commits.map row_i64), .sl true 1 (r.1.Second.Sign.Challenges.map row_i64), .sl true 1 (r.1.Second.Sign.Responses.map row_i64)], .bool r.2]) [.junk, .junk, .junk]) := by
 intro a0 a1 a2 r hr
 apply pF 44 [] [] [] [.cell 6 35, .tmp 7] hr cl31 Tryz.func31
 intro Φ hΦ hF g
 unfold F_spec_fFind at hF
 iterate 2 (try simp [go_sem, g]; try intros; refine pw_wk ?_)
 repeat rw [sq]
 refine pJs hF (fun x3 => [(6, .bl [.int .i64 0, .int .i64 0, .int .i64 0, .sl true 1 [], .sl true 1 [], .sl true 1 [], .int .i64 0, .int .i64 0, .int .i64 0, .sl true 1 [], .sl true 1 [], .sl true 1 []])]) (fun x3 hF => ?_) fun _ hj1 hr2 hF => ?_
 ·cases hΦ _ (Rn_some hF)
  try simp [go_sem, g]
  refine pw_wk ?_
  try simp [go_sem, g]
 ·repeat rw [sq]
  rw [pw_block]
  obtain ⟨b32, hb33, hψ8⟩ := hF
  refine pR hb33 (fun i5 s4 => [(1, .v (.sl false 1 (a1.map row_i64))), (2, .v (.sl false 6 (a2.map row_Head))), (3, .bl [.int .i64 a0.P, .int .i64 a0.Q, .int .i64 a0.G]), (6, .bl [.int .i64 0, .int .i64 0, .int .i64 0, .sl true 1 [], .sl true 1 [], .sl true 1 [], .int .i64 0, .int .i64 0, .int .i64 0, .sl true 1 [], .sl true 1 [], .sl true 1 []]), (13, .v (.sl false 6 (a2.map row_Head))), (14, .v (.int .i64 (a2.length : Int))), (15, .v (.int .i64 i5))]) (fun s4 _ hN34 => ?_) (fun i5 s4 _ _ hi9 hi10 ho6 hg7 hF => ?_)
  ·subst hN34
   try simp [go_sem]
   refine pw_wk ?_
   repeat rw [sq]
   refine pw_cond_f (by simp [go_sem]) ?_
   try simp [go_sem]
   exact pT (hj1 ()) hψ8 (by simp [go_sem])
  ·try simp [go_sem, g]
   refine pw_wk ?_
   repeat rw [sq]
   refine pw_cond_t (by simp [go_sem, g, hi9, hi10]) ?_
   try simp [go_sem, g]
   refine pw_wk ?_
   repeat rw [sq]
   refine pJs hF (fun x13 => [(1, .v (.sl false 1 (a1.map row_i64))), (2, .v (.sl false 6 (a2.map row_Head))), (3, .bl [.int .i64 a0.P, .int .i64 a0.Q, .int .i64 a0.G]), (6, .bl [.int .i64 0, .int .i64 0, .int .i64 0, .sl true 1 [], .sl true 1 [], .sl true 1 [], .int .i64 0, .int .i64 0, .int .i64 0, .sl true 1 [], .sl true 1 [], .sl true 1 []]), (13, .v (.sl false 6 (a2.map row_Head))), (14, .v (.int .i64 (a2.length : Int))), (15, .v (.int .i64 i5))]) (fun x13 hF => ?_) fun _ hj11 hr12 hF => ?_
   ·try simp [go_sem, g]
    exact pT (hg7 ()) (Rn_some hF) (by simp [go_sem, g, wr_i hi9 hi10 (by assumption)])
   ·repeat rw [sq]
    rw [pw_block]
    obtain ⟨x14, g, hF⟩ := Rx g hF
    try simp [go_sem, g]
    refine pw_wkK [1, 2, 3, 6, 8, 9, 13, 14, 15] (by simp [go_sem, g]; rfl) ?_
    obtain ⟨g, hF⟩ := Rg g hF
    obtain ⟨g, hF⟩ := Rg g hF
    try simp [go_sem, g]
    try intros
    refine pw_wk ?_
    repeat rw [sq]
    rw [pw_block]
    obtain ⟨b28, hb29, hψ19⟩ := hF
    refine pR hb29 (fun i16 s15 => [(1, .v (.sl false 1 (a1.map row_i64))), (2, .v (.sl false 6 (a2.map row_Head))), (3, .bl [.int .i64 a0.P, .int .i64 a0.Q, .int .i64 a0.G]), (6, .bl [.int .i64 0, .int .i64 0, .int .i64 0, .sl true 1 [], .sl true 1 [], .sl true 1 [], .int .i64 0, .int .i64 0, .int .i64 0, .sl true 1 [], .sl true 1 [], .sl true 1 []]), (9, .bl [.int .i64 x14.Author, .int .i64 x14.Size, .int .i64 x14.Root, .sl false 1 (x14.Sign.Commits.map row_i64), .sl false 1 (x14.Sign.Challenges.map row_i64), .sl false 1 (x14.Sign.Responses.map row_i64)]), (13, .v (.sl false 6 (a2.map row_Head))), (14, .v (.int .i64 (a2.length : Int))), (15, .v (.int .i64 i5)), (23, .v (.sl false 6 (((a2.take a2.length).drop ((i64.wrap (i5 + 1)).toNat)).map row_Head))), (24, .v (.int .i64 (((a2.take a2.length).drop ((i64.wrap (i5 + 1)).toNat)).length : Int))), (25, .v (.int .i64 i16))]) (fun s15 _ hN30 => ?_) (fun i16 s15 _ _ hi20 hi21 ho17 hg18 hF => ?_)
    ·subst hN30
     try simp [go_sem]
     refine pw_wk ?_
     repeat rw [sq]
     refine pw_cond_f (by simp [go_sem]) ?_
     try simp [go_sem]
     exact pT (hj11 ()) hψ19 (by simp [go_sem])
    ·have hi22 := hi21
     try simp at hi22
     try simp [go_sem, g]
     refine pw_wk ?_
     repeat rw [sq]
     refine pw_cond_t (by simp [go_sem, g, hi20, hi21, hi22]) ?_
     try simp [go_sem, g]
     refine pw_wk ?_
     repeat rw [sq]
     rw [pw_block]
     obtain ⟨x23, g, hF⟩ := Rxq g hF
     try simp [go_sem, g]
     refine pw_wkK [1, 2, 3, 6, 9, 11, 13, 14, 15, 23, 24, 25] (by simp [go_sem, g]; rfl) ?_
     try simp [go_sem, g]
     refine pw_wk ?_
     try simp [go_sem, g]
     refine pC hF [.sh, .sh, .sh] c_spec_fEvidence (fun z24 hF => ?_)
     try simp [go_sem, g]
     refine pw_wk ?_
     repeat rw [sq]
     refine pI hF (fun h25 hF => ?_) (fun h25 hF => ?_)
     ·repeat rw [sq]
      refine pw_draw D31_9 follows (by kernel_rfl) rfl ?_
      try simp only [go_sem, D31_9]
      try simp [go_sem, g]
      refine pC hF [.sh] c_spec_fOwn (fun z26 hF => ?_)
      try simp [go_sem, g]
      refine pC hF [.sh] c_spec_fOwn (fun z27 hF => ?_)
      try simp [go_sem, g]
      refine pw_wkK [6, 7] (by simp [go_sem, g]; rfl) ?_
      cases ho17 _ (Rn_some hF)
      cases ho6 _ (hr12 _ hψ19)
      cases hΦ _ (hr2 _ hψ8)
      try simp [go_sem, g]
     ·try simp [go_sem, g]
      refine pw_wk ?_
      try simp [go_sem, g]
      exact pT (hg18 ()) (Rn_some hF) (by simp [go_sem, g, wr_i hi20 hi21 (by first | assumption | (simp; assumption) | (simp; omega))])
noncomputable def F_spec_FindFork (a0 : Group) (a1 : (List Int)) (a2 : (List Head)) : Option (ForkEvidence × Bool) :=
 (((F_spec_fKeys a0 a1).bind fun z4 =>
 if (!z4) = true then (
 some true) else (
 (F_spec_fHeads a2).bind fun z6 =>
 some (!z6)) : Option (Bool)).bind fun x3 =>
 if x3 = true then (
 some ((ForkEvidence.mk (Head.mk 0 0 0 (Proof.mk [] [] [])) (Head.mk 0 0 0 (Proof.mk [] [] []))), false)) else (
 (F_spec_fFind a0 a1 a2).bind fun z8 =>
 some (z8.1, z8.2)))
theorem c_spec_FindFork : ∀ {a0} {a1} {a2} {r}, F_spec_FindFork a0 a1 a2 = some r → PCalls Tryz.prog 8 [(.sh, .agg [.int .i64 a0.P, .int .i64 a0.Q, .int .i64 a0.G]), (.sh, .sl false 1 (a1.map row_i64)), (.sh, .sl false 6 (a2.map row_Head))] (Eo (.tup [.agg [.int .i64 r.1.First.Author, .int .i64 r.1.First.Size, .int .i64 r.1.First.Root, .sl true 1 (r.1.First.Sign.Commits.map row_i64), .sl true 1 (r.1.First.Sign.Challenges.map row_i64), .sl true 1 (r.1.First.Sign.Responses.map row_i64), .int .i64 r.1.Second.Author, .int .i64 r.1.Second.Size, .int .i64 r.1.Second.Root, .sl true 1 (r.1.Second.Sign.Commits.map row_i64), .sl true 1 (r.1.Second.Sign.Challenges.map row_i64), .sl true 1 (r.1.Second.Sign.Responses.map row_i64)], .bool r.2]) [.junk, .junk, .junk]) := by
 intro a0 a1 a2 r hr
 apply pF 24 [] [] [] [.cell 6 35, .tmp 7] hr cl8 Tryz.func8
 intro Φ hΦ hF g
 unfold F_spec_FindFork at hF
 try simp [go_sem, g]
 refine pw_wk ?_
 repeat rw [sq]
 refine pJ hF (fun x3 => [(1, .v (.sl false 1 (a1.map row_i64))), (2, .v (.sl false 6 (a2.map row_Head))), (3, .bl [.int .i64 a0.P, .int .i64 a0.Q, .int .i64 a0.G]), (6, .bl [.int .i64 0, .int .i64 0, .int .i64 0, .sl true 1 [], .sl true 1 [], .sl true 1 [], .int .i64 0, .int .i64 0, .int .i64 0, .sl true 1 [], .sl true 1 [], .sl true 1 []]), (16, .v (.bool x3))]) (fun x3 hF => ?_) fun _ hj1 hF => ?_
 ·repeat rw [sq]
  refine pI hF (fun h7 hF => ?_) (fun h7 hF => ?_)
  ·cases hΦ _ (Rn_some hF)
   try simp [go_sem, g]
   refine pw_wk ?_
   try simp [go_sem, g]
  ·try simp [go_sem, g]
   refine pw_wk ?_
   try simp [go_sem, g]
   refine pC hF [.sh, .sh, .sh] c_spec_fFind (fun z8 hF => ?_)
   try simp [go_sem, g]
   refine pw_wkK [6, 7] (by simp [go_sem, g]; rfl) ?_
   cases hΦ _ (Rn_some hF)
   try simp [go_sem, g]
 ·try simp [go_sem, g]
  refine pC hF [.sh, .sh] c_spec_fKeys (fun z4 hF => ?_)
  try simp [go_sem, g]
  refine pwg_F hF (fun h5 hF => ?_) fun h5 hF => ?_
  ·try simp [go_sem, g, h5]
   exact pT (hj1 true) (Rn_some hF)
  ·try simp [go_sem, g, h5]
   refine pC hF [.sh] c_spec_fHeads (fun z6 hF => ?_)
   try simp [go_sem, g, h5]
   exact pT (hj1 (!z6)) (Rn_some hF)
noncomputable def F_impl_IsForkEvidence (a0 : Group) (a1 : (List Int)) (a2 : ForkEvidence) : Option (Bool × Bool) :=
 (((F_impl_IsValidGroup a0).bind fun z4 =>
 if (!z4) = true then (
 some true) else (
 (F_impl_Group_areKeys a0 a1).bind fun z6 =>
 some (!z6)) : Option (Bool)).bind fun x3 =>
 if x3 = true then (
 some (false, false)) else (
 (F_impl_Group_isFork a0 a1 a2.First a2.Second).bind fun z8 =>
 some (z8, true)))
theorem c_impl_IsForkEvidence : ∀ {a0} {a1} {a2} {r}, F_impl_IsForkEvidence a0 a1 a2 = some r → PCalls Tryz.prog 9 [(.sh, .agg [.int .i64 a0.P, .int .i64 a0.Q, .int .i64 a0.G]), (.sh, .sl false 1 (a1.map row_i64)), (.sh, .agg [.int .i64 a2.First.Author, .int .i64 a2.First.Size, .int .i64 a2.First.Root, .sl false 1 (a2.First.Sign.Commits.map row_i64), .sl false 1 (a2.First.Sign.Challenges.map row_i64), .sl false 1 (a2.First.Sign.Responses.map row_i64), .int .i64 a2.Second.Author, .int .i64 a2.Second.Size, .int .i64 a2.Second.Root, .sl false 1 (a2.Second.Sign.Commits.map row_i64), .sl false 1 (a2.Second.Sign.Challenges.map row_i64), .sl false 1 (a2.Second.Sign.Responses.map row_i64)])] (Eo (.tup [.bool r.1, .bool r.2]) [.junk, .junk, .junk]) := by
 intro a0 a1 a2 r hr
 apply pF 24 [] [] [] [.tmp 6, .tmp 7] hr cl9 Tryz.func9
 intro Φ hΦ hF g
 unfold F_impl_IsForkEvidence at hF
 try simp [go_sem, g]
 refine pw_wk ?_
 repeat rw [sq]
 refine pJ hF (fun x3 => [(1, .v (.sl false 1 (a1.map row_i64))), (3, .bl [.int .i64 a0.P, .int .i64 a0.Q, .int .i64 a0.G]), (5, .bl [.int .i64 a2.First.Author, .int .i64 a2.First.Size, .int .i64 a2.First.Root, .sl false 1 (a2.First.Sign.Commits.map row_i64), .sl false 1 (a2.First.Sign.Challenges.map row_i64), .sl false 1 (a2.First.Sign.Responses.map row_i64), .int .i64 a2.Second.Author, .int .i64 a2.Second.Size, .int .i64 a2.Second.Root, .sl false 1 (a2.Second.Sign.Commits.map row_i64), .sl false 1 (a2.Second.Sign.Challenges.map row_i64), .sl false 1 (a2.Second.Sign.Responses.map row_i64)]), (16, .v (.bool x3))]) (fun x3 hF => ?_) fun _ hj1 hF => ?_
 ·repeat rw [sq]
  refine pI hF (fun h7 hF => ?_) (fun h7 hF => ?_)
  ·cases hΦ _ (Rn_some hF)
   try simp [go_sem, g]
   refine pw_wk ?_
   try simp [go_sem, g]
  ·try simp [go_sem, g]
   refine pw_wk ?_
   try simp [go_sem, g]
   refine pC hF [.sh, .sh, .sh, .sh] c_impl_Group_isFork (fun z8 hF => ?_)
   try simp [go_sem, g]
   refine pw_wkK [6, 7] (by simp [go_sem, g]; rfl) ?_
   cases hΦ _ (Rn_some hF)
   try simp [go_sem, g]
 ·try simp [go_sem, g]
  refine pC hF [.sh] c_impl_IsValidGroup (fun z4 hF => ?_)
  try simp [go_sem, g]
  refine pwg_F hF (fun h5 hF => ?_) fun h5 hF => ?_
  ·try simp [go_sem, g, h5]
   exact pT (hj1 true) (Rn_some hF)
  ·try simp [go_sem, g, h5]
   refine pC hF [.sh, .sh] c_impl_Group_areKeys (fun z6 hF => ?_)
   try simp [go_sem, g, h5]
   exact pT (hj1 (!z6)) (Rn_some hF)
noncomputable def F_math_bits_Len64 (a0 : Int) : Option (Int) :=
 ((if decide (4294967296 ≤ a0) = true then (
 some (a0.fdiv 4294967296, 32)) else (
 some (a0, 0)) : Option ((Int × Int))).bind fun x3 =>
 ((if decide (65536 ≤ x3.1) = true then (
 some (x3.1.fdiv 65536, i64.wrap (x3.2 + 16))) else (
 some (x3.1, x3.2)) : Option ((Int × Int))).bind fun x7 =>
 ((if decide (256 ≤ x7.1) = true then (
 some (x7.1.fdiv 256, i64.wrap (x7.2 + 8))) else (
 some (x7.1, x7.2)) : Option ((Int × Int))).bind fun x11 =>
 (ixs (⟨#[0, 1, 2, 2, 3, 3, 3, 3, 4, 4, 4, 4, 4, 4, 4, 4, 5, 5, 5, 5, 5, 5, 5, 5, 5, 5, 5, 5, 5, 5, 5, 5, 6, 6, 6, 6, 6, 6, 6, 6, 6, 6, 6, 6, 6, 6, 6, 6, 6, 6, 6, 6, 6, 6, 6, 6, 6, 6, 6, 6, 6, 6, 6, 6, 7, 7, 7, 7, 7, 7, 7, 7, 7, 7, 7, 7, 7, 7, 7, 7, 7, 7, 7, 7, 7, 7, 7, 7, 7, 7, 7, 7, 7, 7, 7, 7, 7, 7, 7, 7, 7, 7, 7, 7, 7, 7, 7, 7, 7, 7, 7, 7, 7, 7, 7, 7, 7, 7, 7, 7, 7, 7, 7, 7, 7, 7, 7, 7, 8, 8, 8, 8, 8, 8, 8, 8, 8, 8, 8, 8, 8, 8, 8, 8, 8, 8, 8, 8, 8, 8, 8, 8, 8, 8, 8, 8, 8, 8, 8, 8, 8, 8, 8, 8, 8, 8, 8, 8, 8, 8, 8, 8, 8, 8, 8, 8, 8, 8, 8, 8, 8, 8, 8, 8, 8, 8, 8, 8, 8, 8, 8, 8, 8, 8, 8, 8, 8, 8, 8, 8, 8, 8, 8, 8, 8, 8, 8, 8, 8, 8, 8, 8, 8, 8, 8, 8, 8, 8, 8, 8, 8, 8, 8, 8, 8, 8, 8, 8, 8, 8, 8, 8, 8, 8, 8, 8, 8, 8, 8, 8, 8, 8, 8, 8, 8, 8, 8, 8, 8, 8, 8, 8, 8, 8, 8, 8]⟩ : ByteArray) (u8.wrap x11.1)).bind fun x13 =>
 some (i64.wrap (x11.2 + (i64.wrap x13))))))
theorem c_math_bits_Len64 : ∀ {a0} {r}, F_math_bits_Len64 a0 = some r → PCalls Tryz.prog 143 [(.sh, .int .u64 a0)] (Eo (.int .i64 r) [.junk]) := by
 intro a0 r hr
 apply pF 25 [] [] [] [.tmp 2] hr cl143 Tryz.func143
 intro Φ hΦ hF g
 unfold F_math_bits_Len64 at hF
 iterate 2 (try simp [go_sem, g]; refine pw_wk ?_)
 repeat rw [sq]
 refine pJ hF (fun x3 => [(0, .v (.int .u64 x3.1)), (2, .v (.int .i64 x3.2))]) (fun x3 hF => ?_) fun _ hj1 hF => ?_
 ·try simp [go_sem, g]
  refine pw_wk ?_
  repeat rw [sq]
  refine pJ hF (fun x7 => [(0, .v (.int .u64 x7.1)), (2, .v (.int .i64 x7.2))]) (fun x7 hF => ?_) fun _ hj5 hF => ?_
  ·try simp [go_sem, g]
   refine pw_wk ?_
   repeat rw [sq]
   refine pJ hF (fun x11 => [(0, .v (.int .u64 x11.1)), (2, .v (.int .i64 x11.2))]) (fun x11 hF => ?_) fun _ hj9 hF => ?_
   ·obtain ⟨x13, g, hF⟩ := Rxs g hF
    try simp [go_sem, g]
    refine pw_wkK [2] (by simp [go_sem, g]; rfl) ?_
    cases hΦ _ (Rn_some hF)
    try simp [go_sem, g]
   ·repeat rw [sq]
    refine pI hF (fun h12 hF => ?_) (fun h12 hF => ?_)
    ·have g := Ls g 8
     try simp [go_sem, g]
     refine pw_wkK [0, 2] (by simp [go_sem, g]; rfl) ?_
     try simp [go_sem, g]
     exact pT (hj9 (x7.1.fdiv 256, i64.wrap (x7.2 + 8))) (Rn_some hF)
    ·try simp [go_sem, g]
     exact pT (hj9 (x7.1, x7.2)) (Rn_some hF)
  ·repeat rw [sq]
   refine pI hF (fun h8 hF => ?_) (fun h8 hF => ?_)
   ·have g := Ls g 16
    try simp [go_sem, g]
    refine pw_wk ?_
    try simp [go_sem, g]
    exact pT (hj5 (x3.1.fdiv 65536, i64.wrap (x3.2 + 16))) (Rn_some hF)
   ·try simp [go_sem, g]
    exact pT (hj5 (x3.1, x3.2)) (Rn_some hF)
 ·repeat rw [sq]
  refine pI hF (fun h4 hF => ?_) (fun h4 hF => ?_)
  ·have g := Ls g 32
   try simp [go_sem, g]
   refine pw_wk ?_
   try simp [go_sem, g]
   exact pT (hj1 (a0.fdiv 4294967296, 32)) (Rn_some hF)
  ·try simp [go_sem, g]
   exact pT (hj1 (a0, 0)) (Rn_some hF)
noncomputable def F_math_bits_Len (a0 : Int) : Option (Int) :=
 (F_math_bits_Len64 a0).bind fun z1 =>
 some z1
theorem c_math_bits_Len : ∀ {a0} {r}, F_math_bits_Len a0 = some r → PCalls Tryz.prog 124 [(.sh, .int .u64 a0)] (Eo (.int .i64 r) [.junk]) := by
 intro a0 r hr
 apply pF 8 [] [] [] [.tmp 2] hr cl124 Tryz.func124
 intro Φ hΦ hF g
 unfold F_math_bits_Len at hF
 try simp [go_sem, g]
 refine pw_wk ?_
 repeat rw [sq]
 refine pw_cond_f (by simp [go_sem, g]) ?_
 try simp [go_sem, g]
 refine pw_wk ?_
 try simp [go_sem, g]
 refine pC hF [.sh] c_math_bits_Len64 (fun z1 hF => ?_)
 cases hΦ _ (Rn_some hF)
 try simp [go_sem, g]
 refine pw_wk ?_
 try simp [go_sem, g]
noncomputable def F_impl_half (a0 : Int) : Option (Int) :=
 (F_math_bits_Len (u64.wrap (i64.wrap (a0 - 1)))).bind fun z1 =>
 gd (0 ≤ (u64.wrap (i64.wrap (z1 - 1)))) <|
 some (i64.wrap (1 * 2 ^ min (u64.wrap (i64.wrap (z1 - 1))).toNat i64.bits))
theorem c_impl_half : ∀ {a0} {r}, F_impl_half a0 = some r → PCalls Tryz.prog 102 [(.sh, .int .i64 a0)] (Eo (.int .i64 r) [.junk]) := by
 intro a0 r hr
 apply pF 10 [] [] [] [.tmp 2] hr cl102 Tryz.func102
 intro Φ hΦ hF g
 unfold F_impl_half at hF
 try simp [go_sem, g]
 refine pw_wk ?_
 try simp [go_sem, g]
 refine pC hF [.sh] c_math_bits_Len (fun z1 hF => ?_)
 obtain ⟨g, hF⟩ := Rsh g hF
 cases hΦ _ (Rn_some hF)
 try simp [go_sem, g]
 refine pw_wk ?_
 try simp [go_sem, g]
noncomputable def F_impl_nodeOf (a0 : Int) (a1 : Int) : Option (Int) :=
 (F_impl_HashLabelled (⟨#[110, 111, 100, 101]⟩ : ByteArray) [a0, a1]).bind fun z1 =>
 some z1.1
theorem c_impl_nodeOf : ∀ {a0} {a1} {r}, F_impl_nodeOf a0 a1 = some r → PCalls Tryz.prog 103 [(.sh, .int .i64 a0), (.sh, .int .i64 a1)] (Eo (.int .i64 r) [.junk, .junk]) := by
 intro a0 a1 r hr
 apply pF 15 [] [] [] [.tmp 4] hr cl103 Tryz.func103
 intro Φ hΦ hF g
 unfold F_impl_nodeOf at hF
 try simp [go_sem, g]
 refine pw_wk ?_
 try simp [go_sem, g]
 refine pC hF [.sh, .sh] c_impl_HashLabelled (fun z1 hF => ?_)
 try simp [go_sem, g]
 refine pw_wkK [5] (by simp [go_sem, g]; rfl) ?_
 cases hΦ _ (Rn_some hF)
 try simp [go_sem, g]
 refine pw_wk ?_
 try simp [go_sem, g]
def D72_15 : List DE := [d0 0 [4], d0 1 [13], d0 2 [82, 83], d0 3 [84], d0 4 [18], d0 6 [4], d0 7 [13], d0 8 [88, 89], d0 9 [90], d0 10 [19], d0 12 [20], ⟨5, [85, 86], [], none, false, true, false⟩, d3 11 [91, 92], d0 13 [87], d0 14 [93], d0 15 [94]]
def D72_7 : List DE := [d0 0 [4], d0 1 [34], d0 2 [35], d0 3 [4], d0 4 [37], d0 5 [38], d0 6 [36], d0 7 [39], d0 8 []]
noncomputable def F_impl_consistent_r : Nat → Int → Int → Int → Bool → (List Int) → Option (Int × Int × Bool)
 | 0, _, _, _, _, _ => none
 | n_ + 1, a0, a1, a2, a3, a4 =>
 if (a0 == a1) = true then (
 if a3 = true then (
 some (a2, a2, decide ((i64.wrap ((a4.length : Int) - 1)) < 0))) else (
 if ((i64.wrap ((a4.length : Int) - 1)) != 0) = true then (
 some (0, 0, false)) else (
 (ix a4 0).bind fun x4 =>
 some (x4, x4, true)))) else (
 if decide ((i64.wrap ((a4.length : Int) - 1)) < 0) = true then (
 some (0, 0, false)) else (
 (F_impl_half a1).bind fun z6 =>
 if decide (a0 ≤ z6) = true then (
 gd (0 ≤ (i64.wrap ((a4.length : Int) - 1))) <|
 gd (0 ≤ (i64.wrap ((a4.length : Int) - 1)).toNat ∧ (i64.wrap ((a4.length : Int) - 1)).toNat ≤ a4.length) <|
 (F_impl_consistent_r n_ a0 z6 a2 a3 ((a4.take ((i64.wrap ((a4.length : Int) - 1)).toNat)).drop 0)).bind fun z8 =>
 (ix a4 (i64.wrap ((a4.length : Int) - 1))).bind fun x9 =>
 (F_impl_nodeOf z8.2.1 x9).bind fun z10 =>
 some (z8.1, z10, z8.2.2)) else (
 gd (0 ≤ (i64.wrap ((a4.length : Int) - 1))) <|
 gd (0 ≤ (i64.wrap ((a4.length : Int) - 1)).toNat ∧ (i64.wrap ((a4.length : Int) - 1)).toNat ≤ a4.length) <|
 (F_impl_consistent_r n_ (i64.wrap (a0 - z6)) (i64.wrap (a1 - z6)) a2 false ((a4.take ((i64.wrap ((a4.length : Int) - 1)).toNat)).drop 0)).bind fun z11 =>
 (ix a4 (i64.wrap ((a4.length : Int) - 1))).bind fun x12 =>
 (F_impl_nodeOf x12 z11.1).bind fun z13 =>
 (F_impl_nodeOf x12 z11.2.1).bind fun z14 =>
 some (z13, z14, z11.2.2))))
noncomputable def F_impl_consistent (a0 : Int) (a1 : Int) (a2 : Int) (a3 : Bool) (a4 : (List Int)) : Option (Int × Int × Bool) := frec fun n_ => F_impl_consistent_r n_ a0 a1 a2 a3 a4
theorem c_impl_consistent_r : ∀ {n_ : Nat} {a0 : Int} {a1 : Int} {a2 : Int} {a3 : Bool} {a4 : (List Int)} {r : Int × Int × Bool} (hr : F_impl_consistent_r n_ a0 a1 a2 a3 a4 = some r), PCalls Tryz.prog 72 [(.sh, .int .i64 a0), (.sh, .int .i64 a1), (.sh, .int .i64 a2), (.sh, .bool a3), (.sh, .sl false 1 (a4.map row_i64))] (Eo (.tup [.int .i64 r.1, .int .i64 r.2.1, .bool r.2.2]) [.junk, .junk, .junk, .junk, .junk]) := by
 intro n_
 induction n_ with
 | zero => intro a0 a1 a2 a3 a4 r hr; cases hr
 | succ n_ ih =>
  intro a0 a1 a2 a3 a4 r hr
  apply pF 95 [] [] [] [.tmp 10, .tmp 11, .tmp 12] hr cl72 Tryz.func72
  intro Φ hΦ hF g
  simp only [F_impl_consistent_r] at hF
  iterate 2 (try simp [go_sem, g]; try intros; refine pw_wk ?_)
  try simp [go_sem, g]
  try intros
  refine pw_wkK [0, 1, 2, 3, 4, 13, 26] (by simp [go_sem, g]; rfl) ?_
  repeat rw [sq]
  refine pI hF (fun h1 hF => ?_) (fun h1 hF => ?_)
  ·try simp [go_sem, g]
   refine pw_wk ?_
   repeat rw [sq]
   refine pI hF (fun h2 hF => ?_) (fun h2 hF => ?_)
   ·cases hΦ _ (Rn_some hF)
    try simp [go_sem, g]
    refine pw_wk ?_
    try simp [go_sem, g]
   ·iterate 2 (try simp [go_sem, g]; refine pw_wk ?_)
    repeat rw [sq]
    refine pI hF (fun h3 hF => ?_) (fun h3 hF => ?_)
    ·cases hΦ _ (Rn_some hF)
     try simp [go_sem, g]
     refine pw_wk ?_
     try simp [go_sem, g]
    ·try simp [go_sem, g]
     refine pw_wk ?_
     repeat rw [sq]
     refine pw_draw D72_7 follows (by kernel_rfl) rfl ?_
     try simp only [go_sem, D72_7]
     obtain ⟨x4, g, hF⟩ := Rxn g 0 hF
     try simp [go_sem, g]
     refine pw_wkK [10, 11, 12] (by simp [go_sem, g]; rfl) ?_
     cases hΦ _ (Rn_some hF)
     try simp [go_sem, g]
  ·iterate 2 (try simp [go_sem, g]; refine pw_wk ?_)
   repeat rw [sq]
   refine pI hF (fun h5 hF => ?_) (fun h5 hF => ?_)
   ·cases hΦ _ (Rn_some hF)
    try simp [go_sem, g]
    refine pw_wk ?_
    try simp [go_sem, g]
   ·try simp [go_sem, g]
    refine pw_wk ?_
    try simp [go_sem, g]
    refine pC hF [.sh] c_impl_half (fun z6 hF => ?_)
    iterate 2 (try simp [go_sem, g]; refine pw_wk ?_)
    repeat rw [sq]
    refine pI hF (fun h7 hF => ?_) (fun h7 hF => ?_)
    ·obtain ⟨g, hF⟩ := Rg g hF
     obtain ⟨g, hF⟩ := Rg g hF
     try simp [go_sem, g]
     refine pC hF [.sh, .sh, .sh, .sh, .sh] ih (fun z8 hF => ?_)
     try simp [go_sem, g]
     refine pw_wkK [4, 13, 15, 16, 17] (by simp [go_sem, g]; rfl) ?_
     obtain ⟨x9, g, hF⟩ := Rx g hF
     try simp [go_sem, g]
     refine pC hF [.sh, .sh] c_impl_nodeOf (fun z10 hF => ?_)
     try simp [go_sem, g]
     refine pw_wkK [10, 11, 12] (by simp [go_sem, g]; rfl) ?_
     cases hΦ _ (Rn_some hF)
     try simp [go_sem, g]
    ·obtain ⟨g, hF⟩ := Rg g hF
     obtain ⟨g, hF⟩ := Rg g hF
     try simp [go_sem, g]
     refine pw_wk ?_
     try simp [go_sem, g]
     refine pC hF [.sh, .sh, .sh, .sh, .sh] ih (fun z11 hF => ?_)
     try simp [go_sem, g]
     refine pw_wkK [4, 13, 18, 19, 20] (by simp [go_sem, g]; rfl) ?_
     repeat rw [sq]
     refine pw_draw D72_15 follows (by kernel_rfl) rfl ?_
     try simp only [go_sem, D72_15]
     obtain ⟨x12, g, hF⟩ := Rx g hF
     try simp [go_sem, g]
     refine pCD hF c_impl_nodeOf (fun z13 hF => ?_)
     try simp [go_sem, g]
     refine pC hF [.sh, .sh] c_impl_nodeOf (fun z14 hF => ?_)
     try simp [go_sem, g]
     refine pw_wkK [10, 11, 12] (by simp [go_sem, g]; rfl) ?_
     cases hΦ _ (Rn_some hF)
     try simp [go_sem, g]
theorem c_impl_consistent {a0 : Int} {a1 : Int} {a2 : Int} {a3 : Bool} {a4 : (List Int)} {r : Int × Int × Bool} (hr : F_impl_consistent a0 a1 a2 a3 a4 = some r) : PCalls Tryz.prog 72 [(.sh, .int .i64 a0), (.sh, .int .i64 a1), (.sh, .int .i64 a2), (.sh, .bool a3), (.sh, .sl false 1 (a4.map row_i64))] (Eo (.tup [.int .i64 r.1, .int .i64 r.2.1, .bool r.2.2]) [.junk, .junk, .junk, .junk, .junk]) := by
 obtain ⟨n_, hn⟩ := frec_some hr
 exact c_impl_consistent_r hn
noncomputable def F_impl_VerifyConsistency (a0 : Int) (a1 : Int) (a2 : Int) (a3 : Int) (a4 : (List Int)) : Option (Bool × Bool) :=
 (((F_impl_within a1 1 64).bind fun z4 =>
 if (!z4) = true then (
 some true) else (
 (F_impl_within a0 1 a1).bind fun z6 =>
 if (!z6) = true then (
 some true) else (
 (F_impl_isDigest a2).bind fun z8 =>
 if (!z8) = true then (
 some true) else (
 (F_impl_isDigest a3).bind fun z10 =>
 if (!z10) = true then (
 some true) else (
 (F_impl_areAll__impl_isDigest a4).bind fun z12 =>
 some (!z12))))) : Option (Bool)).bind fun x3 =>
 if x3 = true then (
 some (false, false)) else (
 (F_impl_consistent a0 a1 a2 true a4).bind fun z14 =>
 ((if z14.2.2 = true then (
 if (z14.1 == a2) = true then (
 some (z14.2.1 == a3)) else (
 some false)) else (
 some false) : Option (Bool)).bind fun x17 =>
 some (x17, true))))
theorem c_impl_VerifyConsistency : ∀ {a0} {a1} {a2} {a3} {a4} {r}, F_impl_VerifyConsistency a0 a1 a2 a3 a4 = some r → PCalls Tryz.prog 36 [(.sh, .int .i64 a0), (.sh, .int .i64 a1), (.sh, .int .i64 a2), (.sh, .int .i64 a3), (.sh, .sl false 1 (a4.map row_i64))] (Eo (.tup [.bool r.1, .bool r.2]) [.junk, .junk, .junk, .junk, .junk]) := by
 intro a0 a1 a2 a3 a4 r hr
 apply pF 59 [] [] [] [.tmp 10, .tmp 11] hr cl36 Tryz.func36
 intro Φ hΦ hF g
 unfold F_impl_VerifyConsistency at hF
 try simp [go_sem, g]
 refine pw_wk ?_
 repeat rw [sq]
 refine pJ hF (fun x3 => [(0, .v (.int .i64 a0)), (1, .v (.int .i64 a1)), (2, .v (.int .i64 a2)), (3, .v (.int .i64 a3)), (4, .v (.sl false 1 (a4.map row_i64))), (38, .v (.bool x3))]) (fun x3 hF => ?_) fun _ hj1 hF => ?_
 ·repeat rw [sq]
  refine pI hF (fun h13 hF => ?_) (fun h13 hF => ?_)
  ·cases hΦ _ (Rn_some hF)
   try simp [go_sem, g]
   refine pw_wk ?_
   try simp [go_sem, g]
  ·try simp [go_sem, g]
   refine pw_wk ?_
   try simp [go_sem, g]
   refine pC hF [.sh, .sh, .sh, .sh, .sh] c_impl_consistent (fun z14 hF => ?_)
   try simp [go_sem, g]
   refine pw_wkK [2, 3, 12, 13, 14] (by simp [go_sem, g]; rfl) ?_
   repeat rw [sq]
   refine pJ hF (fun x17 => [(10, .v (.bool x17)), (11, .v (.bool true))]) (fun x17 hF => ?_) fun _ hj15 hF => ?_
   ·cases hΦ _ (Rn_some hF)
    try simp [go_sem, g]
   ·try simp [go_sem, g]
    refine pwg_F hF (fun h18 hF => ?_) fun h18 hF => ?_
    ·try simp [go_sem, g, h18]
     refine pwg_F hF (fun h19 hF => ?_) fun h19 hF => ?_
     ·try simp [go_sem, g, h19]
      exact pT (hj15 (z14.2.1 == a3)) (Rn_some hF)
     ·try simp [go_sem, g, h19]
      exact pT (hj15 false) (Rn_some hF)
    ·try simp [go_sem, g, h18]
     exact pT (hj15 false) (Rn_some hF)
 ·try simp [go_sem, g]
  refine pC hF [.sh, .sh, .sh] c_impl_within (fun z4 hF => ?_)
  try simp [go_sem, g]
  refine pwg_F hF (fun h5 hF => ?_) fun h5 hF => ?_
  ·try simp [go_sem, g, h5]
   exact pT (hj1 true) (Rn_some hF)
  ·try simp [go_sem, g, h5]
   refine pC hF [.sh, .sh, .sh] c_impl_within (fun z6 hF => ?_)
   try simp [go_sem, g, h5]
   refine pwg_F hF (fun h7 hF => ?_) fun h7 hF => ?_
   ·try simp [go_sem, g, h7]
    exact pT (hj1 true) (Rn_some hF)
   ·try simp [go_sem, g, h7]
    refine pC hF [.sh] c_impl_isDigest (fun z8 hF => ?_)
    try simp [go_sem, g, h7]
    refine pwg_F hF (fun h9 hF => ?_) fun h9 hF => ?_
    ·try simp [go_sem, g, h9]
     exact pT (hj1 true) (Rn_some hF)
    ·try simp [go_sem, g, h9]
     refine pC hF [.sh] c_impl_isDigest (fun z10 hF => ?_)
     try simp [go_sem, g, h9]
     refine pwg_F hF (fun h11 hF => ?_) fun h11 hF => ?_
     ·try simp [go_sem, g, h11]
      exact pT (hj1 true) (Rn_some hF)
     ·try simp [go_sem, g, h11]
      refine pC hF [.sh, .sh] c_impl_areAll__impl_isDigest (fun z12 hF => ?_)
      try simp [go_sem, g, h11]
      exact pT (hj1 (!z12)) (Rn_some hF)
noncomputable def F_impl_CompareHeads (a0 : Head) (a1 : Head) (a2 : (List Int)) : Option (Int × Bool) :=
 (((F_impl_Head_isPlain a0).bind fun z4 =>
 if (!z4) = true then (
 some true) else (
 (F_impl_Head_isPlain a1).bind fun z6 =>
 if (!z6) = true then (
 some true) else (
 if decide (20 < (a2.length : Int)) = true then (
 some true) else (
 (F_impl_areAll__impl_isDigest a2).bind fun z9 =>
 some (!z9)))) : Option (Bool)).bind fun x3 =>
 if x3 = true then (
 some (0, false)) else (
 ((if (a0.Size == a1.Size) = true then (
 some (a0.Root == a1.Root)) else (
 some false) : Option (Bool)).bind fun x13 =>
 if x13 = true then (
 some (0, true)) else (
 if (a0.Size == a1.Size) = true then (
 some (2, true)) else (
 ((if decide (1 ≤ a0.Size) = true then (
 some (decide (a0.Size < a1.Size))) else (
 some false) : Option (Bool)).bind fun x19 =>
 ((if x19 = true then (
 (F_impl_VerifyConsistency a0.Size a1.Size a0.Root a1.Root a2).bind fun z25 =>
 ((if z25.1 = true then (
 some z25.2) else (
 some false) : Option (Bool)).bind fun x28 =>
 if x28 = true then (
 some (.inr (1, true))) else (
 some (.inl ())))) else (
 some (.inl ())) : Option (Unit ⊕ (Int × Bool))).bind (Sum.elim (fun x23 =>
 some (3, true)) some))))))))
theorem c_impl_CompareHeads : ∀ {a0} {a1} {a2} {r}, F_impl_CompareHeads a0 a1 a2 = some r → PCalls Tryz.prog 10 [(.sh, .agg [.int .i64 a0.Author, .int .i64 a0.Size, .int .i64 a0.Root, .sl false 1 (a0.Sign.Commits.map row_i64), .sl false 1 (a0.Sign.Challenges.map row_i64), .sl false 1 (a0.Sign.Responses.map row_i64)]), (.sh, .agg [.int .i64 a1.Author, .int .i64 a1.Size, .int .i64 a1.Root, .sl false 1 (a1.Sign.Commits.map row_i64), .sl false 1 (a1.Sign.Challenges.map row_i64), .sl false 1 (a1.Sign.Responses.map row_i64)]), (.sh, .sl false 1 (a2.map row_i64))] (Eo (.tup [.int .i64 r.1, .bool r.2]) [.junk, .junk, .junk]) := by
 intro a0 a1 a2 r hr
 apply pF 74 [] [] [] [.tmp 6, .tmp 7] hr cl10 Tryz.func10
 intro Φ hΦ hF g
 unfold F_impl_CompareHeads at hF
 try simp [go_sem, g]
 refine pw_wk ?_
 repeat rw [sq]
 refine pJ hF (fun x3 => [(2, .v (.sl false 1 (a2.map row_i64))), (3, .bl [.int .i64 a0.Author, .int .i64 a0.Size, .int .i64 a0.Root, .sl false 1 (a0.Sign.Commits.map row_i64), .sl false 1 (a0.Sign.Challenges.map row_i64), .sl false 1 (a0.Sign.Responses.map row_i64)]), (4, .bl [.int .i64 a1.Author, .int .i64 a1.Size, .int .i64 a1.Root, .sl false 1 (a1.Sign.Commits.map row_i64), .sl false 1 (a1.Sign.Challenges.map row_i64), .sl false 1 (a1.Sign.Responses.map row_i64)]), (27, .v (.bool x3))]) (fun x3 hF => ?_) fun _ hj1 hF => ?_
 ·repeat rw [sq]
  refine pI hF (fun h10 hF => ?_) (fun h10 hF => ?_)
  ·cases hΦ _ (Rn_some hF)
   try simp [go_sem, g]
   refine pw_wk ?_
   try simp [go_sem, g]
  ·try simp [go_sem, g]
   refine pw_wk ?_
   repeat rw [sq]
   rw [pw_block]
   repeat rw [sq]
   refine pJ hF (fun x13 => [(2, .v (.sl false 1 (a2.map row_i64))), (3, .bl [.int .i64 a0.Author, .int .i64 a0.Size, .int .i64 a0.Root, .sl false 1 (a0.Sign.Commits.map row_i64), .sl false 1 (a0.Sign.Challenges.map row_i64), .sl false 1 (a0.Sign.Responses.map row_i64)]), (4, .bl [.int .i64 a1.Author, .int .i64 a1.Size, .int .i64 a1.Root, .sl false 1 (a1.Sign.Commits.map row_i64), .sl false 1 (a1.Sign.Challenges.map row_i64), .sl false 1 (a1.Sign.Responses.map row_i64)]), (28, .v (.bool x13))]) (fun x13 hF => ?_) fun _ hj11 hF => ?_
   ·repeat rw [sq]
    refine pI hF (fun h15 hF => ?_) (fun h15 hF => ?_)
    ·cases hΦ _ (Rn_some hF)
     try simp [go_sem, g]
     refine pw_wk ?_
     try simp [go_sem, g]
    ·try simp [go_sem, g]
     refine pw_wkK [2, 3, 4, 41] (by simp [go_sem, g]; rfl) ?_
     repeat rw [sq]
     refine pI hF (fun h16 hF => ?_) (fun h16 hF => ?_)
     ·cases hΦ _ (Rn_some hF)
      try simp [go_sem, g]
      refine pw_wk ?_
      try simp [go_sem, g]
     ·try simp [go_sem, g]
      refine pw_wk ?_
      repeat rw [sq]
      refine pJ hF (fun x19 => [(2, .v (.sl false 1 (a2.map row_i64))), (3, .bl [.int .i64 a0.Author, .int .i64 a0.Size, .int .i64 a0.Root, .sl false 1 (a0.Sign.Commits.map row_i64), .sl false 1 (a0.Sign.Challenges.map row_i64), .sl false 1 (a0.Sign.Responses.map row_i64)]), (4, .bl [.int .i64 a1.Author, .int .i64 a1.Size, .int .i64 a1.Root, .sl false 1 (a1.Sign.Commits.map row_i64), .sl false 1 (a1.Sign.Challenges.map row_i64), .sl false 1 (a1.Sign.Responses.map row_i64)]), (56, .v (.bool x19))]) (fun x19 hF => ?_) fun _ hj17 hF => ?_
      ·repeat rw [sq]
       refine pJs hF (fun x23 => []) (fun x23 hF => ?_) fun _ hj21 hr22 hF => ?_
       ·cases hΦ _ (Rn_some hF)
        try simp [go_sem, g]
        refine pw_wk ?_
        try simp [go_sem, g]
       ·repeat rw [sq]
        refine pI hF (fun h24 hF => ?_) (fun h24 hF => ?_)
        ·try simp [go_sem, g]
         refine pC hF [.sh, .sh, .sh, .sh, .sh] c_impl_VerifyConsistency (fun z25 hF => ?_)
         try simp [go_sem, g]
         refine pw_wkK [8, 9] (by simp [go_sem, g]; rfl) ?_
         repeat rw [sq]
         refine pJ hF (fun x28 => [(73, .v (.bool x28))]) (fun x28 hF => ?_) fun _ hj26 hF => ?_
         ·repeat rw [sq]
          refine pI hF (fun h30 hF => ?_) (fun h30 hF => ?_)
          ·cases hΦ _ (hr22 _ (Rn_some hF))
           try simp [go_sem, g]
           refine pw_wk ?_
           try simp [go_sem, g]
          ·try simp [go_sem, g]
           exact pT (hj21 ()) (Rn_some hF)
         ·try simp [go_sem, g]
          refine pwg_F hF (fun h29 hF => ?_) fun h29 hF => ?_
          ·try simp [go_sem, g, h29]
           exact pT (hj26 z25.2) (Rn_some hF)
          ·try simp [go_sem, g, h29]
           exact pT (hj26 false) (Rn_some hF)
        ·try simp [go_sem, g]
         exact pT (hj21 ()) (Rn_some hF)
      ·try simp [go_sem, g]
       refine pwg_F hF (fun h20 hF => ?_) fun h20 hF => ?_
       ·try simp [go_sem, g, h20]
        exact pT (hj17 (decide (a0.Size < a1.Size))) (Rn_some hF)
       ·try simp [go_sem, g, h20]
        exact pT (hj17 false) (Rn_some hF)
   ·try simp [go_sem, g]
    refine pwg_F hF (fun h14 hF => ?_) fun h14 hF => ?_
    ·try simp [go_sem, g, h14]
     exact pT (hj11 (a0.Root == a1.Root)) (Rn_some hF)
    ·try simp [go_sem, g, h14]
     exact pT (hj11 false) (Rn_some hF)
 ·try simp [go_sem, g]
  refine pC hF [.sh] c_impl_Head_isPlain (fun z4 hF => ?_)
  try simp [go_sem, g]
  refine pwg_F hF (fun h5 hF => ?_) fun h5 hF => ?_
  ·try simp [go_sem, g, h5]
   exact pT (hj1 true) (Rn_some hF)
  ·try simp [go_sem, g, h5]
   refine pC hF [.sh] c_impl_Head_isPlain (fun z6 hF => ?_)
   try simp [go_sem, g, h5]
   refine pwg_F hF (fun h7 hF => ?_) fun h7 hF => ?_
   ·try simp [go_sem, g, h7]
    exact pT (hj1 true) (Rn_some hF)
   ·try simp [go_sem, g, h7]
    try intros
    refine pwg_F hF (fun h8 hF => ?_) fun h8 hF => ?_
    ·try simp [go_sem, g, h8]
     exact pT (hj1 true) (Rn_some hF)
    ·try simp [go_sem, g, h8]
     refine pC hF [.sh, .sh] c_impl_areAll__impl_isDigest (fun z9 hF => ?_)
     try simp [go_sem, g, h8]
     exact pT (hj1 (!z9)) (Rn_some hF)
noncomputable def F_spec_l1Most (a0 : Int) (a1 : Int) : Option (Int) :=
 if decide (a1 < a0) = true then (
 some a0) else (
 some a1)
theorem c_spec_l1Most : ∀ {a0} {a1} {r}, F_spec_l1Most a0 a1 = some r → PCalls Tryz.prog 38 [(.sh, .int .i64 a0), (.sh, .int .i64 a1)] (Eo (.int .i64 r) [.junk, .junk]) := by
 intro a0 a1 r hr
 apply pF 10 [] [] [] [.tmp 4] hr cl38 Tryz.func38
 intro Φ hΦ hF g
 unfold F_spec_l1Most at hF
 iterate 2 (try simp [go_sem, g]; refine pw_wk ?_)
 repeat rw [sq]
 refine pI hF (fun h1 hF => ?_) (fun h1 hF => ?_)
 ·cases hΦ _ (Rn_some hF)
  try simp [go_sem, g]
  refine pw_wk ?_
  try simp [go_sem, g]
 ·cases hΦ _ (Rn_some hF)
  iterate 2 (try simp [go_sem, g]; refine pw_wk ?_)
  try simp [go_sem, g]
noncomputable def F_spec_l1Least (a0 : Int) (a1 : Int) : Option (Int) :=
 if decide (a0 < a1) = true then (
 some a0) else (
 some a1)
theorem c_spec_l1Least : ∀ {a0} {a1} {r}, F_spec_l1Least a0 a1 = some r → PCalls Tryz.prog 39 [(.sh, .int .i64 a0), (.sh, .int .i64 a1)] (Eo (.int .i64 r) [.junk, .junk]) := by
 intro a0 a1 r hr
 apply pF 10 [] [] [] [.tmp 4] hr cl39 Tryz.func39
 intro Φ hΦ hF g
 unfold F_spec_l1Least at hF
 iterate 2 (try simp [go_sem, g]; refine pw_wk ?_)
 repeat rw [sq]
 refine pI hF (fun h1 hF => ?_) (fun h1 hF => ?_)
 ·cases hΦ _ (Rn_some hF)
  try simp [go_sem, g]
  refine pw_wk ?_
  try simp [go_sem, g]
 ·cases hΦ _ (Rn_some hF)
  iterate 2 (try simp [go_sem, g]; refine pw_wk ?_)
  try simp [go_sem, g]
def D11_4 : List DE := [d0 0 [7], d0 1 [8], d0 2 [23, 24], d0 3 [], d0 4 [7], d0 5 [8], d0 6 [28], d0 10 [7], d0 12 [7], d0 13 [35], d0 14 [36], d0 15 [8], d0 16 [38], d3 7 [29], d0 8 [27, 30], ⟨9, [26, 31], [], none, true, false, false⟩, d0 11 [32, 33], d3 17 [39], d0 18 [37, 40], d3 19 [41], d0 20 [34, 42], d0 21 [25], d0 22 [43]]
noncomputable def F_spec_DrawMergeHeads (a0 : (List Int)) : Option ((List Head) × (List Head)) :=
 (F_spec_l1Cur_anyHeads__io0 a0 0 0).bind fun z1 =>
 (F_spec_l1Cur_pick__io0 z1.2.2.2.1 z1.2.2.2.2.1 z1.2.2.2.2.2 (i64.wrap ((z1.2.2.1.length : Int) + 1))).bind fun z2 =>
 gd (0 ≤ z2.1) <|
 gd (0 ≤ z2.1.toNat ∧ z2.1.toNat ≤ z1.2.2.1.length) <|
 (F_spec_l1Most 0 (i64.wrap (z2.1 - 1))).bind fun z3 =>
 gd (0 ≤ z3) <|
 gd (z3.toNat ≤ z1.2.2.1.length ∧ z1.2.2.1.length ≤ z1.2.2.1.length) <|
 gd ((((z1.2.2.1.take z1.2.2.1.length).drop z3.toNat).length) * 96 ≤ 140737488355328 ∧ ((z1.2.2.1.take z1.2.2.1.length).drop z3.toNat).length ≤ 4611686018427387904) <|
 gd ((((z1.2.2.1.take z1.2.2.1.length).drop z3.toNat).length + z1.2.2.1.length) * 96 ≤ 140737488355328 ∧ ((z1.2.2.1.take z1.2.2.1.length).drop z3.toNat).length + z1.2.2.1.length ≤ 4611686018427387904) <|
 (F_spec_l1Most 0 (i64.wrap (z2.1 - 1))).bind fun z4 =>
 (F_spec_l1Least 20 (i64.wrap ((i64.wrap (2 * (z1.2.2.1.length : Int))) - z4))).bind fun z5 =>
 gd (0 ≤ z5) <|
 gd (0 ≤ z5.toNat ∧ z5.toNat ≤ ((z1.2.2.1.take z1.2.2.1.length).drop z3.toNat ++ z1.2.2.1).length) <|
 some (z1.2.2.1.take z2.1.toNat, ((z1.2.2.1.take z1.2.2.1.length).drop z3.toNat ++ z1.2.2.1).take z5.toNat)
theorem c_spec_DrawMergeHeads : ∀ {a0} {r}, F_spec_DrawMergeHeads a0 = some r → PCalls Tryz.prog 11 [(.sh, .sl false 1 (a0.map row_u8))] (Eo (.tup [.sl true 6 (r.1.map row_Head), .sl true 6 (r.2.map row_Head)]) [.junk]) := by
 intro a0 r hr
 apply pF 44 [] [] [11] [.tmp 2, .tmp 3] hr cl11 Tryz.func11
 intro Φ hΦ hF g
 unfold F_spec_DrawMergeHeads at hF
 iterate 2 (try simp [go_sem, g]; refine pw_wk ?_)
 try simp [go_sem, g]
 refine pC hF [.io] c_spec_l1Cur_anyHeads__io0 (fun z1 hF => ?_)
 try simp [go_sem, g]
 refine pw_wkK [4, 7] (by simp [go_sem, g]; rfl) ?_
 try simp [go_sem, g]
 try intros
 refine pC hF [.io, .sh] c_spec_l1Cur_pick__io0 (fun z2 hF => ?_)
 try simp [go_sem, g]
 refine pw_wk ?_
 repeat rw [sq]
 refine pw_draw D11_4 follows (by kernel_rfl) rfl ?_
 try simp only [go_sem, D11_4]
 obtain ⟨g, hF⟩ := Rg g hF
 obtain ⟨g, hF⟩ := Rg g hF
 try simp [go_sem, g]
 try intros
 refine pC hF [.sh, .sh] c_spec_l1Most (fun z3 hF => ?_)
 obtain ⟨g, hF⟩ := Rg g hF
 obtain ⟨g, hF⟩ := Rg g hF
 obtain ⟨g, hF⟩ := Rg g hF
 obtain ⟨g, hF⟩ := Rg g hF
 try simp [go_sem, g]
 refine pC hF [.sh, .sh] c_spec_l1Most (fun z4 hF => ?_)
 try simp [go_sem, g]
 refine pC hF [.sh, .sh] c_spec_l1Least (fun z5 hF => ?_)
 obtain ⟨g, hF⟩ := Rg g hF
 obtain ⟨g, hF⟩ := Rg g hF
 try simp [go_sem, g]
 refine pw_wkK [2, 3] (by simp [go_sem, g]; rfl) ?_
 cases hΦ _ (Rn_some hF)
 try simp [go_sem, g]
def D125_6 : List DE := [d0 0 [0], d0 1 [5], d0 2 [16, 17], d0 3 [18], d0 4 [1], d0 5 [5], d0 6 [20, 21], d0 7 [22], d0 8 [19, 23]]
noncomputable def F_slices_Equal_int_int (a0 : (List Int)) (a1 : (List Int)) : Option (Bool) :=
 if ((a0.length : Int) != (a1.length : Int)) = true then (
 some false) else (
 ((rloop (σ := Unit) (fun i6 s5 =>
 (ix a0 i6).bind fun x12 =>
 (ix a1 i6).bind fun x13 =>
 if (x12 != x13) = true then (
 some (.out (.inr false))) else (
 some (.go ()))) (fun s5 => .inl ()) (a0.length) 0 () : Option (Unit ⊕ Bool)).bind (Sum.elim (fun x4 =>
 some true) some)))
theorem c_slices_Equal_int_int : ∀ {a0} {a1} {r}, F_slices_Equal_int_int a0 a1 = some r → PCalls Tryz.prog 125 [(.sh, .sl false 1 (a0.map row_i64)), (.sh, .sl false 1 (a1.map row_i64))] (Eo (.bool r) [.junk, .junk]) := by
 intro a0 a1 r hr
 apply pF 26 [] [] [] [.tmp 4] hr cl125 Tryz.func125
 intro Φ hΦ hF g
 unfold F_slices_Equal_int_int at hF
 iterate 2 (try simp [go_sem, g]; try intros; refine pw_wk ?_)
 repeat rw [sq]
 refine pI hF (fun h1 hF => ?_) (fun h1 hF => ?_)
 ·cases hΦ _ (Rn_some hF)
  try simp [go_sem, g]
  refine pw_wk ?_
  try simp [go_sem, g]
 ·iterate 2 (try simp [go_sem, g]; try intros; refine pw_wk ?_)
  repeat rw [sq]
  refine pJs hF (fun x4 => []) (fun x4 hF => ?_) fun _ hj2 hr3 hF => ?_
  ·try simp [go_sem, g]
   refine pw_wkK [4] (by simp [go_sem, g]; rfl) ?_
   cases hΦ _ (Rn_some hF)
   try simp [go_sem, g]
  ·repeat rw [sq]
   rw [pw_block]
   obtain ⟨b15, hb16, hψ9⟩ := hF
   refine pR hb16 (fun i6 s5 => [(0, .v (.sl false 1 (a0.map row_i64))), (1, .v (.sl false 1 (a1.map row_i64))), (12, .v (.int .i64 (a0.length : Int))), (13, .v (.int .i64 i6))]) (fun s5 _ hN17 => ?_) (fun i6 s5 _ _ hi10 hi11 ho7 hg8 hF => ?_)
   ·subst hN17
    try simp [go_sem]
    refine pw_wk ?_
    repeat rw [sq]
    refine pw_cond_f (by simp [go_sem]) ?_
    try simp [go_sem]
    exact pT (hj2 ()) hψ9 (by simp [go_sem])
   ·try simp [go_sem, g]
    refine pw_wkK [0, 1, 12, 13, 14] (by simp [go_sem, g]; rfl) ?_
    repeat rw [sq]
    refine pw_cond_t (by simp [go_sem, g, hi10, hi11]) ?_
    try simp [go_sem, g]
    refine pw_wk ?_
    repeat rw [sq]
    rw [pw_block]
    try simp [go_sem, g]
    refine pw_wk ?_
    repeat rw [sq]
    refine pw_draw D125_6 follows (by kernel_rfl) rfl ?_
    try simp only [go_sem, D125_6]
    obtain ⟨x12, g, hF⟩ := Rx g hF
    obtain ⟨x13, g, hF⟩ := Rx g hF
    try simp [go_sem, g]
    refine pw_wkK [0, 1, 12, 13, 24] (by simp [go_sem, g]; rfl) ?_
    repeat rw [sq]
    refine pI hF (fun h14 hF => ?_) (fun h14 hF => ?_)
    ·cases ho7 _ (Rn_some hF)
     cases hΦ _ (hr3 _ hψ9)
     try simp [go_sem, g]
     refine pw_wk ?_
     try simp [go_sem, g]
    ·try simp [go_sem, g]
     refine pw_wk ?_
     try simp [go_sem, g]
     exact pT (hg8 ()) (Rn_some hF) (by simp [go_sem, g, wr_i hi10 hi11 (by assumption)])
noncomputable def F_impl_sameProof (a0 : Proof) (a1 : Proof) : Option (Bool) :=
 (((F_slices_Equal_int_int a0.Commits a1.Commits).bind fun z4 =>
 if z4 = true then (
 (F_slices_Equal_int_int a0.Challenges a1.Challenges).bind fun z6 =>
 if z6 = true then (
 (F_slices_Equal_int_int a0.Responses a1.Responses).bind fun z8 =>
 some z8) else (
 some false)) else (
 some false) : Option (Bool)).bind fun x3 =>
 some x3)
theorem c_impl_sameProof : ∀ {a0} {a1} {r}, F_impl_sameProof a0 a1 = some r → PCalls Tryz.prog 104 [(.sh, .agg [.sl false 1 (a0.Commits.map row_i64), .sl false 1 (a0.Challenges.map row_i64), .sl false 1 (a0.Responses.map row_i64)]), (.sh, .agg [.sl false 1 (a1.Commits.map row_i64), .sl false 1 (a1.Challenges.map row_i64), .sl false 1 (a1.Responses.map row_i64)])] (Eo (.bool r) [.junk, .junk]) := by
 intro a0 a1 r hr
 apply pF 24 [] [] [] [.tmp 4] hr cl104 Tryz.func104
 intro Φ hΦ hF g
 unfold F_impl_sameProof at hF
 try simp [go_sem, g]
 refine pw_wk ?_
 repeat rw [sq]
 refine pJ hF (fun x3 => [(4, .v (.bool x3))]) (fun x3 hF => ?_) fun _ hj1 hF => ?_
 ·cases hΦ _ (Rn_some hF)
  try simp [go_sem, g]
 ·try simp [go_sem, g]
  refine pC hF [.sh, .sh] c_slices_Equal_int_int (fun z4 hF => ?_)
  try simp [go_sem, g]
  refine pwg_F hF (fun h5 hF => ?_) fun h5 hF => ?_
  ·try simp [go_sem, g, h5]
   refine pC hF [.sh, .sh] c_slices_Equal_int_int (fun z6 hF => ?_)
   try simp [go_sem, g, h5]
   refine pwg_F hF (fun h7 hF => ?_) fun h7 hF => ?_
   ·try simp [go_sem, g, h7]
    refine pC hF [.sh, .sh] c_slices_Equal_int_int (fun z8 hF => ?_)
    try simp [go_sem, g, h7]
    exact pT (hj1 z8) (Rn_some hF)
   ·try simp [go_sem, g, h7]
    exact pT (hj1 false) (Rn_some hF)
  ·try simp [go_sem, g, h5]
   exact pT (hj1 false) (Rn_some hF)
noncomputable def F_impl_sameHead (a0 : Head) (a1 : Head) : Option (Bool) :=
 ((if (a0.Author == a1.Author) = true then (
 if (a0.Size == a1.Size) = true then (
 if (a0.Root == a1.Root) = true then (
 (F_impl_sameProof a0.Sign a1.Sign).bind fun z7 =>
 some z7) else (
 some false)) else (
 some false)) else (
 some false) : Option (Bool)).bind fun x3 =>
 some x3)
theorem c_impl_sameHead : ∀ {a0} {a1} {r}, F_impl_sameHead a0 a1 = some r → PCalls Tryz.prog 75 [(.sh, .agg [.int .i64 a0.Author, .int .i64 a0.Size, .int .i64 a0.Root, .sl false 1 (a0.Sign.Commits.map row_i64), .sl false 1 (a0.Sign.Challenges.map row_i64), .sl false 1 (a0.Sign.Responses.map row_i64)]), (.sh, .agg [.int .i64 a1.Author, .int .i64 a1.Size, .int .i64 a1.Root, .sl false 1 (a1.Sign.Commits.map row_i64), .sl false 1 (a1.Sign.Challenges.map row_i64), .sl false 1 (a1.Sign.Responses.map row_i64)])] (Eo (.bool r) [.junk, .junk]) := by
 intro a0 a1 r hr
 apply pF 31 [] [] [] [.tmp 4] hr cl75 Tryz.func75
 intro Φ hΦ hF g
 unfold F_impl_sameHead at hF
 try simp [go_sem, g]
 refine pw_wk ?_
 repeat rw [sq]
 refine pJ hF (fun x3 => [(4, .v (.bool x3))]) (fun x3 hF => ?_) fun _ hj1 hF => ?_
 ·cases hΦ _ (Rn_some hF)
  try simp [go_sem, g]
 ·try simp [go_sem, g]
  refine pwg_F hF (fun h4 hF => ?_) fun h4 hF => ?_
  ·try simp [go_sem, g, h4]
   refine pwg_F hF (fun h5 hF => ?_) fun h5 hF => ?_
   ·try simp [go_sem, g, h5]
    refine pwg_F hF (fun h6 hF => ?_) fun h6 hF => ?_
    ·try simp [go_sem, g, h6]
     refine pC hF [.sh, .sh] c_impl_sameProof (fun z7 hF => ?_)
     try simp [go_sem, g, h6]
     exact pT (hj1 z7) (Rn_some hF)
    ·try simp [go_sem, g, h6]
     exact pT (hj1 false) (Rn_some hF)
   ·try simp [go_sem, g, h5]
    exact pT (hj1 false) (Rn_some hF)
  ·try simp [go_sem, g, h4]
   exact pT (hj1 false) (Rn_some hF)
noncomputable def F_impl_mergeHeads_1_ (a0 : Head) (a1c0 : Int) (a1c1 : Int) (a1c2 : Int) (a1c3 : (List Int)) (a1c4 : (List Int)) (a1c5 : (List Int)) : Option (Bool) :=
 (F_impl_sameHead a0 (Head.mk a1c0 a1c1 a1c2 (Proof.mk a1c3 a1c4 a1c5))).bind fun z1 =>
 some z1
theorem c_impl_mergeHeads_1_ : ∀ {a0} {a1c0} {a1c1} {a1c2} {a1c3} {a1c4} {a1c5} {r}, F_impl_mergeHeads_1_ a0 a1c0 a1c1 a1c2 a1c3 a1c4 a1c5 = some r → PCalls Tryz.prog 74 [(.sh, .agg [.int .i64 a0.Author, .int .i64 a0.Size, .int .i64 a0.Root, .sl false 1 (a0.Sign.Commits.map row_i64), .sl false 1 (a0.Sign.Challenges.map row_i64), .sl false 1 (a0.Sign.Responses.map row_i64)]), (.sh, .fp [.int .i64 a1c0, .int .i64 a1c1, .int .i64 a1c2, .sl false 1 (a1c3.map row_i64), .sl false 1 (a1c4.map row_i64), .sl false 1 (a1c5.map row_i64)])] (Eo (.bool r) [.junk, .junk]) := by
 intro a0 a1c0 a1c1 a1c2 a1c3 a1c4 a1c5 r hr
 apply pF 7 [] [] [] [.tmp 3] hr cl74 Tryz.func74
 intro Φ hΦ hF g
 unfold F_impl_mergeHeads_1_ at hF
 try simp [go_sem, g]
 refine pw_wk ?_
 try simp [go_sem, g]
 refine pC hF [.sh, .sh] c_impl_sameHead (fun z1 hF => ?_)
 cases hΦ _ (Rn_some hF)
 try simp [go_sem, g]
 refine pw_wk ?_
 try simp [go_sem, g]
noncomputable def F_slices_IndexFunc_impl_Head_impl_Head__impl_mergeHeads_1 (a0 : (List Head)) (a1u0c0 : Int) (a1u0c1 : Int) (a1u0c2 : Int) (a1u0c3 : (List Int)) (a1u0c4 : (List Int)) (a1u0c5 : (List Int)) : Option (Int) :=
 ((rloop (σ := Unit) (fun i5 s4 =>
 (ix a0 i5).bind fun x11 =>
 (F_impl_mergeHeads_1_ x11 a1u0c0 a1u0c1 a1u0c2 a1u0c3 a1u0c4 a1u0c5).bind fun z12 =>
 if z12 = true then (
 some (.out (.inr i5))) else (
 some (.go ()))) (fun s4 => .inl ()) (a0.length) 0 () : Option (Unit ⊕ Int)).bind (Sum.elim (fun x3 =>
 some (-1)) some))
theorem c_slices_IndexFunc_impl_Head_impl_Head__impl_mergeHeads_1 : ∀ {a0} {a1u0c0} {a1u0c1} {a1u0c2} {a1u0c3} {a1u0c4} {a1u0c5} {r}, F_slices_IndexFunc_impl_Head_impl_Head__impl_mergeHeads_1 a0 a1u0c0 a1u0c1 a1u0c2 a1u0c3 a1u0c4 a1u0c5 = some r → PCalls Tryz.prog 94 [(.sh, .sl false 6 (a0.map row_Head)), (.sh, .func (.func 74) [] [.fp [.int .i64 a1u0c0, .int .i64 a1u0c1, .int .i64 a1u0c2, .sl false 1 (a1u0c3.map row_i64), .sl false 1 (a1u0c4.map row_i64), .sl false 1 (a1u0c5.map row_i64)]])] (Eo (.int .i64 r) [.junk, .junk]) := by
 intro a0 a1u0c0 a1u0c1 a1u0c2 a1u0c3 a1u0c4 a1u0c5 r hr
 apply pF 19 [] [] [] [.tmp 4] hr cl94 Tryz.func94
 intro Φ hΦ hF g
 unfold F_slices_IndexFunc_impl_Head_impl_Head__impl_mergeHeads_1 at hF
 iterate 2 (try simp [go_sem, g]; try intros; refine pw_wk ?_)
 repeat rw [sq]
 refine pJs hF (fun x3 => []) (fun x3 hF => ?_) fun _ hj1 hr2 hF => ?_
 ·cases hΦ _ (Rn_some hF)
  try simp [go_sem, g]
  refine pw_wk ?_
  try simp [go_sem, g]
 ·repeat rw [sq]
  rw [pw_block]
  obtain ⟨b14, hb15, hψ8⟩ := hF
  refine pR hb15 (fun i5 s4 => [(0, .v (.sl false 6 (a0.map row_Head))), (1, .v (.func (.func 74) [] [.fp [.int .i64 a1u0c0, .int .i64 a1u0c1, .int .i64 a1u0c2, .sl false 1 (a1u0c3.map row_i64), .sl false 1 (a1u0c4.map row_i64), .sl false 1 (a1u0c5.map row_i64)]])), (7, .v (.int .i64 (a0.length : Int))), (8, .v (.int .i64 i5))]) (fun s4 _ hN16 => ?_) (fun i5 s4 _ _ hi9 hi10 ho6 hg7 hF => ?_)
  ·subst hN16
   try simp [go_sem]
   refine pw_wk ?_
   repeat rw [sq]
   refine pw_cond_f (by simp [go_sem]) ?_
   try simp [go_sem]
   exact pT (hj1 ()) hψ8 (by simp [go_sem])
  ·try simp [go_sem, g]
   refine pw_wk ?_
   repeat rw [sq]
   refine pw_cond_t (by simp [go_sem, g, hi9, hi10]) ?_
   try simp [go_sem, g]
   refine pw_wk ?_
   repeat rw [sq]
   rw [pw_block]
   obtain ⟨x11, g, hF⟩ := Rx g hF
   try simp [go_sem, g]
   refine pw_wk ?_
   try simp [go_sem, g]
   refine pC hF [.sh] c_impl_mergeHeads_1_ (fun z12 hF => ?_)
   try simp [go_sem, g]
   refine pw_wkK [0, 1, 5, 7, 8, 16] (by simp [go_sem, g]; rfl) ?_
   repeat rw [sq]
   refine pI hF (fun h13 hF => ?_) (fun h13 hF => ?_)
   ·cases ho6 _ (Rn_some hF)
    cases hΦ _ (hr2 _ hψ8)
    try simp [go_sem, g]
    refine pw_wk ?_
    try simp [go_sem, g]
   ·try simp [go_sem, g]
    refine pw_wk ?_
    try simp [go_sem, g]
    exact pT (hg7 ()) (Rn_some hF) (by simp [go_sem, g, wr_i hi9 hi10 (by assumption)])
noncomputable def F_slices_ContainsFunc_impl_Head_impl_Head__impl_mergeHeads_1 (a0 : (List Head)) (a1u0c0 : Int) (a1u0c1 : Int) (a1u0c2 : Int) (a1u0c3 : (List Int)) (a1u0c4 : (List Int)) (a1u0c5 : (List Int)) : Option (Bool) :=
 (F_slices_IndexFunc_impl_Head_impl_Head__impl_mergeHeads_1 a0 a1u0c0 a1u0c1 a1u0c2 a1u0c3 a1u0c4 a1u0c5).bind fun z1 =>
 some (decide (0 ≤ z1))
theorem c_slices_ContainsFunc_impl_Head_impl_Head__impl_mergeHeads_1 : ∀ {a0} {a1u0c0} {a1u0c1} {a1u0c2} {a1u0c3} {a1u0c4} {a1u0c5} {r}, F_slices_ContainsFunc_impl_Head_impl_Head__impl_mergeHeads_1 a0 a1u0c0 a1u0c1 a1u0c2 a1u0c3 a1u0c4 a1u0c5 = some r → PCalls Tryz.prog 61 [(.sh, .sl false 6 (a0.map row_Head)), (.sh, .func (.func 74) [] [.fp [.int .i64 a1u0c0, .int .i64 a1u0c1, .int .i64 a1u0c2, .sl false 1 (a1u0c3.map row_i64), .sl false 1 (a1u0c4.map row_i64), .sl false 1 (a1u0c5.map row_i64)]])] (Eo (.bool r) [.junk, .junk]) := by
 intro a0 a1u0c0 a1u0c1 a1u0c2 a1u0c3 a1u0c4 a1u0c5 r hr
 apply pF 9 [] [] [] [.tmp 4] hr cl61 Tryz.func61
 intro Φ hΦ hF g
 unfold F_slices_ContainsFunc_impl_Head_impl_Head__impl_mergeHeads_1 at hF
 try simp [go_sem, g]
 refine pw_wk ?_
 try simp [go_sem, g]
 refine pC hF [.sh, .sh] c_slices_IndexFunc_impl_Head_impl_Head__impl_mergeHeads_1 (fun z1 hF => ?_)
 cases hΦ _ (Rn_some hF)
 try simp [go_sem, g]
 refine pw_wk ?_
 try simp [go_sem, g]
noncomputable def F_impl_mergeHeads (a0 : (List Head)) (a1 : (List Head)) : Option ((List Head) × Bool) :=
 ((rloop (σ := (List Head)) (fun i14 s13 =>
 (ix a0 i14).bind fun x20 =>
 (F_impl_copyHead x20).bind fun z21 =>
 gd ((s13.length + 1) * 96 ≤ 140737488355328 ∧ s13.length + 1 ≤ 4611686018427387904) <|
 some (.go (s13 ++ [z21]))) (fun s13 => s13) (a0.length) 0 [] : Option ((List Head))).bind fun x3 =>
 ((rloop (σ := (List Head)) (fun i30 s29 =>
 (((ix a1 i30).bind fun x39 =>
 (F_slices_ContainsFunc_impl_Head_impl_Head__impl_mergeHeads_1 s29 x39.Author x39.Size x39.Root x39.Sign.Commits x39.Sign.Challenges x39.Sign.Responses).bind fun z40 =>
 if (!z40) = true then (
 (F_impl_copyHead x39).bind fun z42 =>
 gd ((s29.length + 1) * 96 ≤ 140737488355328 ∧ s29.length + 1 ≤ 4611686018427387904) <|
 some (s29 ++ [z42])) else (
 some s29) : Option ((List Head))).bind fun x38 =>
 some (.go x38))) (fun s29 => s29) (a1.length) 0 x3 : Option ((List Head))).bind fun x28 =>
 if decide (20 < (x28.length : Int)) = true then (
 some ([], false)) else (
 some (x28, true))))
theorem c_impl_mergeHeads : ∀ {a0} {a1} {r}, F_impl_mergeHeads a0 a1 = some r → PCalls Tryz.prog 40 [(.sh, .sl false 6 (a0.map row_Head)), (.sh, .sl false 6 (a1.map row_Head))] (Eo (.tup [.sl true 6 (r.1.map row_Head_ooo), .bool r.2]) [.junk, .junk]) := by
 intro a0 a1 r hr
 apply pF 44 [] [] [1000000] [.tmp 4, .tmp 5] hr cl40 Tryz.func40
 intro Φ hΦ hF g
 unfold F_impl_mergeHeads at hF
 iterate 3 (try simp [go_sem, g]; try intros; refine pw_wk ?_)
 repeat rw [sq]
 refine pJ hF (fun x3 => [(1, .v (.sl false 6 (a1.map row_Head))), (6, .v (.sl true 6 (x3.map row_Head_ooo)))]) (fun x3 hF => ?_) fun _ hj1 hF => ?_
 ·try simp [go_sem, g]
  try intros
  refine pw_wkK [6, 24, 25, 26] (by simp [go_sem, g]; rfl) ?_
  repeat rw [sq]
  refine pJ hF (fun x28 => [(6, .v (.sl true 6 (x28.map row_Head_ooo)))]) (fun x28 hF => ?_) fun _ hj26 hF => ?_
  ·try simp [go_sem, g]
   try intros
   refine pw_wk ?_
   repeat rw [sq]
   refine pI hF (fun h47 hF => ?_) (fun h47 hF => ?_)
   ·cases hΦ _ (Rn_some hF)
    try simp [go_sem, g]
    refine pw_wk ?_
    try simp [go_sem, g]
   ·cases hΦ _ (Rn_some hF)
    iterate 2 (try simp [go_sem, g]; refine pw_wk ?_)
    try simp [go_sem, g]
  ·repeat rw [sq]
   rw [pw_block]
   obtain ⟨b43, hb44, hψ33⟩ := hF
   refine pR hb44 (fun i30 s29 => [(6, .v (.sl true 6 (s29.map row_Head_ooo))), (24, .v (.sl false 6 (a1.map row_Head))), (25, .v (.int .i64 (a1.length : Int))), (26, .v (.int .i64 i30))]) (fun s29 _ hN45 => ?_) (fun i30 s29 _ _ hi34 hi35 ho31 hg32 hF => ?_)
   ·subst hN45
    try simp [go_sem]
    refine pw_wk ?_
    repeat rw [sq]
    refine pw_cond_f (by simp [go_sem]) ?_
    try simp [go_sem]
    exact pT (hj26 s29) hψ33 (by simp [go_sem])
   ·try simp [go_sem, g]
    refine pw_wk ?_
    repeat rw [sq]
    refine pw_cond_t (by simp [go_sem, g, hi34, hi35]) ?_
    try simp [go_sem, g]
    refine pw_wk ?_
    repeat rw [sq]
    refine pJ hF (fun x38 => [(6, .v (.sl true 6 (x38.map row_Head_ooo))), (24, .v (.sl false 6 (a1.map row_Head))), (25, .v (.int .i64 (a1.length : Int))), (26, .v (.int .i64 i30))]) (fun x38 hF => ?_) fun _ hj36 hF => ?_
    ·try simp [go_sem, g]
     exact pT (hg32 x38) (Rn_some hF) (by simp [go_sem, g, wr_i hi34 hi35 (by assumption)])
    ·repeat rw [sq]
     rw [pw_block]
     obtain ⟨x39, g, hF⟩ := Rx g hF
     try simp [go_sem, g]
     refine pw_wk ?_
     try simp [go_sem, g]
     refine pC hF [.sh, .sh] c_slices_ContainsFunc_impl_Head_impl_Head__impl_mergeHeads_1 (fun z40 hF => ?_)
     try simp [go_sem, g]
     refine pw_wk ?_
     repeat rw [sq]
     refine pI hF (fun h41 hF => ?_) (fun h41 hF => ?_)
     ·try simp [go_sem, g]
      refine pC hF [.sh] c_impl_copyHead (fun z42 hF => ?_)
      obtain ⟨g, hF⟩ := Rg g hF
      try simp [go_sem, g]
      exact pT (hj36 (s29 ++ [z42])) (Rn_some hF)
     ·try simp [go_sem, g]
      first | exact pT (hj36 s29) (Rn_some hF) | exact pT (hj36 _) (Rn_some hF)
 ·repeat rw [sq]
  rw [pw_block]
  obtain ⟨b22, hb23, hψ17⟩ := hF
  refine pR hb23 (fun i14 s13 => [(1, .v (.sl false 6 (a1.map row_Head))), (6, .v (.sl true 6 (s13.map row_Head_ooo))), (12, .v (.sl false 6 (a0.map row_Head))), (13, .v (.int .i64 (a0.length : Int))), (14, .v (.int .i64 i14))]) (fun s13 _ hN24 => ?_) (fun i14 s13 _ _ hi18 hi19 ho15 hg16 hF => ?_)
  ·subst hN24
   try simp [go_sem]
   refine pw_wk ?_
   repeat rw [sq]
   refine pw_cond_f (by simp [go_sem]) ?_
   try simp [go_sem]
   exact pT (hj1 s13) hψ17 (by simp [go_sem])
  ·try simp [go_sem, g]
   refine pw_wk ?_
   repeat rw [sq]
   refine pw_cond_t (by simp [go_sem, g, hi18, hi19]) ?_
   try simp [go_sem, g]
   refine pw_wk ?_
   repeat rw [sq]
   rw [pw_block]
   obtain ⟨x20, g, hF⟩ := Rx g hF
   try simp [go_sem, g]
   refine pw_wkK [1, 6, 8, 12, 13, 14] (by simp [go_sem, g]; rfl) ?_
   try simp [go_sem, g]
   refine pC hF [.sh] c_impl_copyHead (fun z21 hF => ?_)
   obtain ⟨g, hF⟩ := Rg g hF
   try simp [go_sem, g]
   refine pw_wk ?_
   try simp [go_sem, g]
   exact pT (hg16 (s13 ++ [z21])) (Rn_some hF) (by simp [go_sem, g, wr_i hi18 hi19 (by assumption)])
noncomputable def F_impl_MergeHeads (a0 : (List Head)) (a1 : (List Head)) : Option ((List Head) × Bool) :=
 (((F_impl_areHeads a0).bind fun z4 =>
 if (!z4) = true then (
 some true) else (
 (F_impl_areHeads a1).bind fun z6 =>
 some (!z6)) : Option (Bool)).bind fun x3 =>
 if x3 = true then (
 some ([], false)) else (
 (F_impl_mergeHeads a0 a1).bind fun z8 =>
 some (z8.1, z8.2)))
theorem c_impl_MergeHeads : ∀ {a0} {a1} {r}, F_impl_MergeHeads a0 a1 = some r → PCalls Tryz.prog 12 [(.sh, .sl false 6 (a0.map row_Head)), (.sh, .sl false 6 (a1.map row_Head))] (Eo (.tup [.sl true 6 (r.1.map row_Head_ooo), .bool r.2]) [.junk, .junk]) := by
 intro a0 a1 r hr
 apply pF 19 [] [] [] [.tmp 4, .tmp 5] hr cl12 Tryz.func12
 intro Φ hΦ hF g
 unfold F_impl_MergeHeads at hF
 try simp [go_sem, g]
 refine pw_wk ?_
 repeat rw [sq]
 refine pJ hF (fun x3 => [(0, .v (.sl false 6 (a0.map row_Head))), (1, .v (.sl false 6 (a1.map row_Head))), (13, .v (.bool x3))]) (fun x3 hF => ?_) fun _ hj1 hF => ?_
 ·repeat rw [sq]
  refine pI hF (fun h7 hF => ?_) (fun h7 hF => ?_)
  ·cases hΦ _ (Rn_some hF)
   try simp [go_sem, g]
   refine pw_wk ?_
   try simp [go_sem, g]
  ·try simp [go_sem, g]
   refine pw_wk ?_
   try simp [go_sem, g]
   refine pC hF [.sh, .sh] c_impl_mergeHeads (fun z8 hF => ?_)
   cases hΦ _ (Rn_some hF)
   try simp [go_sem, g]
   refine pw_wk ?_
   try simp [go_sem, g]
 ·try simp [go_sem, g]
  refine pC hF [.sh] c_impl_areHeads (fun z4 hF => ?_)
  try simp [go_sem, g]
  refine pwg_F hF (fun h5 hF => ?_) fun h5 hF => ?_
  ·try simp [go_sem, g, h5]
   exact pT (hj1 true) (Rn_some hF)
  ·try simp [go_sem, g, h5]
   refine pC hF [.sh] c_impl_areHeads (fun z6 hF => ?_)
   try simp [go_sem, g, h5]
   exact pT (hj1 (!z6)) (Rn_some hF)
def D126_6 : List DE := [d0 0 [0], d0 1 [5], d0 2 [16, 17], d0 3 [18], d0 4 [1], d0 5 [5], d0 6 [20, 21], d0 7 [22], d0 8 [19, 23]]
noncomputable def F_spec_l1Same (a0 : (List Int)) (a1 : (List Int)) : Option (Bool) :=
 if ((a0.length : Int) != (a1.length : Int)) = true then (
 some false) else (
 ((rloop (σ := Unit) (fun i6 s5 =>
 (ix a0 i6).bind fun x12 =>
 (ix a1 i6).bind fun x13 =>
 if (x12 != x13) = true then (
 some (.out (.inr false))) else (
 some (.go ()))) (fun s5 => .inl ()) (a0.length) 0 () : Option (Unit ⊕ Bool)).bind (Sum.elim (fun x4 =>
 some true) some)))
theorem c_spec_l1Same : ∀ {a0} {a1} {r}, F_spec_l1Same a0 a1 = some r → PCalls Tryz.prog 126 [(.sh, .sl false 1 (a0.map row_i64)), (.sh, .sl false 1 (a1.map row_i64))] (Eo (.bool r) [.junk, .junk]) := by
 intro a0 a1 r hr
 apply pF 26 [] [] [] [.tmp 4] hr cl126 Tryz.func126
 intro Φ hΦ hF g
 unfold F_spec_l1Same at hF
 iterate 2 (try simp [go_sem, g]; try intros; refine pw_wk ?_)
 repeat rw [sq]
 refine pI hF (fun h1 hF => ?_) (fun h1 hF => ?_)
 ·cases hΦ _ (Rn_some hF)
  try simp [go_sem, g]
  refine pw_wk ?_
  try simp [go_sem, g]
 ·iterate 2 (try simp [go_sem, g]; try intros; refine pw_wk ?_)
  repeat rw [sq]
  refine pJs hF (fun x4 => []) (fun x4 hF => ?_) fun _ hj2 hr3 hF => ?_
  ·try simp [go_sem, g]
   refine pw_wkK [4] (by simp [go_sem, g]; rfl) ?_
   cases hΦ _ (Rn_some hF)
   try simp [go_sem, g]
  ·repeat rw [sq]
   rw [pw_block]
   obtain ⟨b15, hb16, hψ9⟩ := hF
   refine pR hb16 (fun i6 s5 => [(0, .v (.sl false 1 (a0.map row_i64))), (1, .v (.sl false 1 (a1.map row_i64))), (12, .v (.int .i64 (a0.length : Int))), (13, .v (.int .i64 i6))]) (fun s5 _ hN17 => ?_) (fun i6 s5 _ _ hi10 hi11 ho7 hg8 hF => ?_)
   ·subst hN17
    try simp [go_sem]
    refine pw_wk ?_
    repeat rw [sq]
    refine pw_cond_f (by simp [go_sem]) ?_
    try simp [go_sem]
    exact pT (hj2 ()) hψ9 (by simp [go_sem])
   ·try simp [go_sem, g]
    refine pw_wkK [0, 1, 12, 13, 14] (by simp [go_sem, g]; rfl) ?_
    repeat rw [sq]
    refine pw_cond_t (by simp [go_sem, g, hi10, hi11]) ?_
    try simp [go_sem, g]
    refine pw_wk ?_
    repeat rw [sq]
    rw [pw_block]
    try simp [go_sem, g]
    refine pw_wk ?_
    repeat rw [sq]
    refine pw_draw D126_6 follows (by kernel_rfl) rfl ?_
    try simp only [go_sem, D126_6]
    obtain ⟨x12, g, hF⟩ := Rx g hF
    obtain ⟨x13, g, hF⟩ := Rx g hF
    try simp [go_sem, g]
    refine pw_wkK [0, 1, 12, 13, 24] (by simp [go_sem, g]; rfl) ?_
    repeat rw [sq]
    refine pI hF (fun h14 hF => ?_) (fun h14 hF => ?_)
    ·cases ho7 _ (Rn_some hF)
     cases hΦ _ (hr3 _ hψ9)
     try simp [go_sem, g]
     refine pw_wk ?_
     try simp [go_sem, g]
    ·try simp [go_sem, g]
     refine pw_wk ?_
     try simp [go_sem, g]
     exact pT (hg8 ()) (Rn_some hF) (by simp [go_sem, g, wr_i hi10 hi11 (by assumption)])
noncomputable def F_spec_oSameProof (a0 : Proof) (a1 : Proof) : Option (Bool) :=
 (((F_spec_l1Same a0.Commits a1.Commits).bind fun z4 =>
 if z4 = true then (
 (F_spec_l1Same a0.Challenges a1.Challenges).bind fun z6 =>
 if z6 = true then (
 (F_spec_l1Same a0.Responses a1.Responses).bind fun z8 =>
 some z8) else (
 some false)) else (
 some false) : Option (Bool)).bind fun x3 =>
 some x3)
theorem c_spec_oSameProof : ∀ {a0} {a1} {r}, F_spec_oSameProof a0 a1 = some r → PCalls Tryz.prog 105 [(.sh, .agg [.sl false 1 (a0.Commits.map row_i64), .sl false 1 (a0.Challenges.map row_i64), .sl false 1 (a0.Responses.map row_i64)]), (.sh, .agg [.sl false 1 (a1.Commits.map row_i64), .sl false 1 (a1.Challenges.map row_i64), .sl false 1 (a1.Responses.map row_i64)])] (Eo (.bool r) [.junk, .junk]) := by
 intro a0 a1 r hr
 apply pF 24 [] [] [] [.tmp 4] hr cl105 Tryz.func105
 intro Φ hΦ hF g
 unfold F_spec_oSameProof at hF
 try simp [go_sem, g]
 refine pw_wk ?_
 repeat rw [sq]
 refine pJ hF (fun x3 => [(4, .v (.bool x3))]) (fun x3 hF => ?_) fun _ hj1 hF => ?_
 ·cases hΦ _ (Rn_some hF)
  try simp [go_sem, g]
 ·try simp [go_sem, g]
  refine pC hF [.sh, .sh] c_spec_l1Same (fun z4 hF => ?_)
  try simp [go_sem, g]
  refine pwg_F hF (fun h5 hF => ?_) fun h5 hF => ?_
  ·try simp [go_sem, g, h5]
   refine pC hF [.sh, .sh] c_spec_l1Same (fun z6 hF => ?_)
   try simp [go_sem, g, h5]
   refine pwg_F hF (fun h7 hF => ?_) fun h7 hF => ?_
   ·try simp [go_sem, g, h7]
    refine pC hF [.sh, .sh] c_spec_l1Same (fun z8 hF => ?_)
    try simp [go_sem, g, h7]
    exact pT (hj1 z8) (Rn_some hF)
   ·try simp [go_sem, g, h7]
    exact pT (hj1 false) (Rn_some hF)
  ·try simp [go_sem, g, h5]
   exact pT (hj1 false) (Rn_some hF)
noncomputable def F_spec_fSame (a0 : Head) (a1 : Head) : Option (Bool) :=
 ((if (a0.Author == a1.Author) = true then (
 if (a0.Size == a1.Size) = true then (
 if (a0.Root == a1.Root) = true then (
 (F_spec_oSameProof a0.Sign a1.Sign).bind fun z7 =>
 some z7) else (
 some false)) else (
 some false)) else (
 some false) : Option (Bool)).bind fun x3 =>
 some x3)
theorem c_spec_fSame : ∀ {a0} {a1} {r}, F_spec_fSame a0 a1 = some r → PCalls Tryz.prog 76 [(.sh, .agg [.int .i64 a0.Author, .int .i64 a0.Size, .int .i64 a0.Root, .sl false 1 (a0.Sign.Commits.map row_i64), .sl false 1 (a0.Sign.Challenges.map row_i64), .sl false 1 (a0.Sign.Responses.map row_i64)]), (.sh, .agg [.int .i64 a1.Author, .int .i64 a1.Size, .int .i64 a1.Root, .sl false 1 (a1.Sign.Commits.map row_i64), .sl false 1 (a1.Sign.Challenges.map row_i64), .sl false 1 (a1.Sign.Responses.map row_i64)])] (Eo (.bool r) [.junk, .junk]) := by
 intro a0 a1 r hr
 apply pF 31 [] [] [] [.tmp 4] hr cl76 Tryz.func76
 intro Φ hΦ hF g
 unfold F_spec_fSame at hF
 try simp [go_sem, g]
 refine pw_wk ?_
 repeat rw [sq]
 refine pJ hF (fun x3 => [(4, .v (.bool x3))]) (fun x3 hF => ?_) fun _ hj1 hF => ?_
 ·cases hΦ _ (Rn_some hF)
  try simp [go_sem, g]
 ·try simp [go_sem, g]
  refine pwg_F hF (fun h4 hF => ?_) fun h4 hF => ?_
  ·try simp [go_sem, g, h4]
   refine pwg_F hF (fun h5 hF => ?_) fun h5 hF => ?_
   ·try simp [go_sem, g, h5]
    refine pwg_F hF (fun h6 hF => ?_) fun h6 hF => ?_
    ·try simp [go_sem, g, h6]
     refine pC hF [.sh, .sh] c_spec_oSameProof (fun z7 hF => ?_)
     try simp [go_sem, g, h6]
     exact pT (hj1 z7) (Rn_some hF)
    ·try simp [go_sem, g, h6]
     exact pT (hj1 false) (Rn_some hF)
   ·try simp [go_sem, g, h5]
    exact pT (hj1 false) (Rn_some hF)
  ·try simp [go_sem, g, h4]
   exact pT (hj1 false) (Rn_some hF)
noncomputable def F_spec_fMerge (a0 : (List Head)) (a1 : (List Head)) : Option ((List Head) × Bool) :=
 ((rloop (σ := (List Head)) (fun i5 s4 =>
 (ix a0 i5).bind fun x11 =>
 (F_spec_fOwn x11).bind fun z12 =>
 gd ((s4.length + 1) * 96 ≤ 140737488355328 ∧ s4.length + 1 ≤ 4611686018427387904) <|
 some (.go (s4 ++ [z12]))) (fun s4 => s4) (a0.length) 0 [] : Option ((List Head))).bind fun x3 =>
 ((rloop (σ := (List Head)) (fun i21 s20 =>
 (((ix a1 i21).bind fun x30 =>
 ((rloop (σ := Bool) (fun i35 s34 =>
 (((ix s20 i35).bind fun x44 =>
 if s34 = true then (
 some true) else (
 (F_spec_fSame x44 x30).bind fun z46 =>
 some z46) : Option (Bool)).bind fun x43 =>
 some (.go x43))) (fun s34 => s34) (s20.length) 0 false : Option (Bool)).bind fun x33 =>
 if (!x33) = true then (
 (F_spec_fOwn x30).bind fun z52 =>
 gd ((s20.length + 1) * 96 ≤ 140737488355328 ∧ s20.length + 1 ≤ 4611686018427387904) <|
 some (s20 ++ [z52])) else (
 some s20)) : Option ((List Head))).bind fun x29 =>
 some (.go x29))) (fun s20 => s20) (a1.length) 0 x3 : Option ((List Head))).bind fun x19 =>
 some (x19, decide ((x19.length : Int) ≤ 20))))
theorem c_spec_fMerge : ∀ {a0} {a1} {r}, F_spec_fMerge a0 a1 = some r → PCalls Tryz.prog 41 [(.sh, .sl false 6 (a0.map row_Head)), (.sh, .sl false 6 (a1.map row_Head))] (Eo (.tup [.sl true 6 (r.1.map row_Head), .bool r.2]) [.junk, .junk]) := by
 intro a0 a1 r hr
 apply pF 57 [] [22, 49] [] [.tmp 4, .tmp 5] hr cl41 Tryz.func41
 intro Φ hΦ hF g
 unfold F_spec_fMerge at hF
 iterate 3 (try simp [go_sem, g]; try intros; refine pw_wk ?_)
 repeat rw [sq]
 refine pJ hF (fun x3 => [(1, .v (.sl false 6 (a1.map row_Head))), (6, .v (.sl true 6 (x3.map row_Head)))]) (fun x3 hF => ?_) fun _ hj1 hF => ?_
 ·try simp [go_sem, g]
  try intros
  refine pw_wk ?_
  repeat rw [sq]
  refine pJ hF (fun x19 => [(6, .v (.sl true 6 (x19.map row_Head)))]) (fun x19 hF => ?_) fun _ hj17 hF => ?_
  ·try simp [go_sem, g]
   try intros
   refine pw_wkK [4, 5] (by simp [go_sem, g]; rfl) ?_
   cases hΦ _ (Rn_some hF)
   try simp [go_sem, g]
  ·repeat rw [sq]
   rw [pw_block]
   obtain ⟨b53, hb54, hψ24⟩ := hF
   refine pR hb54 (fun i21 s20 => [(6, .v (.sl true 6 (s20.map row_Head))), (26, .v (.sl false 6 (a1.map row_Head))), (27, .v (.int .i64 (a1.length : Int))), (28, .v (.int .i64 i21))]) (fun s20 _ hN55 => ?_) (fun i21 s20 _ _ hi25 hi26 ho22 hg23 hF => ?_)
   ·subst hN55
    try simp [go_sem]
    refine pw_wk ?_
    repeat rw [sq]
    refine pw_cond_f (by simp [go_sem]) ?_
    try simp [go_sem]
    exact pT (hj17 s20) hψ24 (by simp [go_sem])
   ·try simp [go_sem, g]
    refine pw_wkK [6, 26, 27, 28, 29] (by simp [go_sem, g]; rfl) ?_
    repeat rw [sq]
    refine pw_cond_t (by simp [go_sem, g, hi25, hi26]) ?_
    try simp [go_sem, g]
    refine pw_wk ?_
    repeat rw [sq]
    refine pJ hF (fun x29 => [(6, .v (.sl true 6 (x29.map row_Head))), (26, .v (.sl false 6 (a1.map row_Head))), (27, .v (.int .i64 (a1.length : Int))), (28, .v (.int .i64 i21))]) (fun x29 hF => ?_) fun _ hj27 hF => ?_
    ·try simp [go_sem, g]
     exact pT (hg23 x29) (Rn_some hF) (by simp [go_sem, g, wr_i hi25 hi26 (by assumption)])
    ·repeat rw [sq]
     rw [pw_block]
     obtain ⟨x30, g, hF⟩ := Rx g hF
     iterate 3 (try simp [go_sem, g]; try intros; refine pw_wk ?_)
     repeat rw [sq]
     refine pJ hF (fun x33 => [(6, .v (.sl true 6 (s20.map row_Head))), (10, .bl [.int .i64 x30.Author, .int .i64 x30.Size, .int .i64 x30.Root, .sl false 1 (x30.Sign.Commits.map row_i64), .sl false 1 (x30.Sign.Challenges.map row_i64), .sl false 1 (x30.Sign.Responses.map row_i64)]), (11, .v (.bool x33)), (26, .v (.sl false 6 (a1.map row_Head))), (27, .v (.int .i64 (a1.length : Int))), (28, .v (.int .i64 i21))]) (fun x33 hF => ?_) fun _ hj31 hF => ?_
     ·try simp [go_sem, g]
      refine pw_wkK [6, 10, 26, 27, 28, 46] (by simp [go_sem, g]; rfl) ?_
      repeat rw [sq]
      refine pI hF (fun h51 hF => ?_) (fun h51 hF => ?_)
      ·try simp [go_sem, g]
       refine pC hF [.sh] c_spec_fOwn (fun z52 hF => ?_)
       obtain ⟨g, hF⟩ := Rg g hF
       try simp [go_sem, g]
       exact pT (hj27 (s20 ++ [z52])) (Rn_some hF)
      ·try simp [go_sem, g]
       first | exact pT (hj27 s20) (Rn_some hF) | exact pT (hj27 _) (Rn_some hF)
     ·repeat rw [sq]
      rw [pw_block]
      obtain ⟨b47, hb48, hψ38⟩ := hF
      refine pR hb48 (fun i35 s34 => [(6, .v (.sl true 6 (s20.map row_Head))), (10, .bl [.int .i64 x30.Author, .int .i64 x30.Size, .int .i64 x30.Root, .sl false 1 (x30.Sign.Commits.map row_i64), .sl false 1 (x30.Sign.Challenges.map row_i64), .sl false 1 (x30.Sign.Responses.map row_i64)]), (11, .v (.bool s34)), (26, .v (.sl false 6 (a1.map row_Head))), (27, .v (.int .i64 (a1.length : Int))), (28, .v (.int .i64 i21)), (32, .rf 6 []), (33, .v (.int .i64 (s20.length : Int))), (34, .v (.int .i64 i35))]) (fun s34 _ hN49 => ?_) (fun i35 s34 _ _ hi39 hi40 ho36 hg37 hF => ?_)
      ·subst hN49
       try simp [go_sem]
       refine pw_wk ?_
       repeat rw [sq]
       refine pw_cond_f (by simp [go_sem]) ?_
       try simp [go_sem]
       exact pT (hj31 s34) hψ38 (by simp [go_sem])
      ·try simp [go_sem, g]
       refine pw_wk ?_
       repeat rw [sq]
       refine pw_cond_t (by simp [go_sem, g, hi39, hi40]) ?_
       try simp [go_sem, g]
       refine pw_wk ?_
       repeat rw [sq]
       refine pJ hF (fun x43 => [(6, .v (.sl true 6 (s20.map row_Head))), (10, .bl [.int .i64 x30.Author, .int .i64 x30.Size, .int .i64 x30.Root, .sl false 1 (x30.Sign.Commits.map row_i64), .sl false 1 (x30.Sign.Challenges.map row_i64), .sl false 1 (x30.Sign.Responses.map row_i64)]), (11, .v (.bool x43)), (26, .v (.sl false 6 (a1.map row_Head))), (27, .v (.int .i64 (a1.length : Int))), (28, .v (.int .i64 i21)), (32, .rf 6 []), (33, .v (.int .i64 (s20.length : Int))), (34, .v (.int .i64 i35))]) (fun x43 hF => ?_) fun _ hj41 hF => ?_
       ·try simp [go_sem, g]
        exact pT (hg37 x43) (Rn_some hF) (by simp [go_sem, g, wr_i hi39 hi40 (by assumption)])
       ·repeat rw [sq]
        rw [pw_block]
        obtain ⟨x44, g, hF⟩ := Rx g hF
        try simp [go_sem, g]
        refine pw_wkK [6, 10, 11, 13, 26, 27, 28, 32, 33, 34] (by simp [go_sem, g]; rfl) ?_
        try simp [go_sem, g]
        refine pwg_F hF (fun h45 hF => ?_) fun h45 hF => ?_
        ·try simp [go_sem, g, h45]
         exact pT (hj41 true) (Rn_some hF)
        ·try simp [go_sem, g, h45]
         refine pC hF [.sh, .sh] c_spec_fSame (fun z46 hF => ?_)
         try simp [go_sem, g, h45]
         exact pT (hj41 z46) (Rn_some hF)
 ·repeat rw [sq]
  rw [pw_block]
  obtain ⟨b13, hb14, hψ8⟩ := hF
  refine pR hb14 (fun i5 s4 => [(1, .v (.sl false 6 (a1.map row_Head))), (6, .v (.sl true 6 (s4.map row_Head))), (14, .v (.sl false 6 (a0.map row_Head))), (15, .v (.int .i64 (a0.length : Int))), (16, .v (.int .i64 i5))]) (fun s4 _ hN15 => ?_) (fun i5 s4 _ _ hi9 hi10 ho6 hg7 hF => ?_)
  ·subst hN15
   try simp [go_sem]
   refine pw_wk ?_
   repeat rw [sq]
   refine pw_cond_f (by simp [go_sem]) ?_
   try simp [go_sem]
   exact pT (hj1 s4) hψ8 (by simp [go_sem])
  ·try simp [go_sem, g]
   refine pw_wk ?_
   repeat rw [sq]
   refine pw_cond_t (by simp [go_sem, g, hi9, hi10]) ?_
   try simp [go_sem, g]
   refine pw_wk ?_
   repeat rw [sq]
   rw [pw_block]
   obtain ⟨x11, g, hF⟩ := Rx g hF
   try simp [go_sem, g]
   refine pw_wkK [1, 6, 8, 14, 15, 16] (by simp [go_sem, g]; rfl) ?_
   try simp [go_sem, g]
   refine pC hF [.sh] c_spec_fOwn (fun z12 hF => ?_)
   obtain ⟨g, hF⟩ := Rg g hF
   try simp [go_sem, g]
   refine pw_wk ?_
   try simp [go_sem, g]
   exact pT (hg7 (s4 ++ [z12])) (Rn_some hF) (by simp [go_sem, g, wr_i hi9 hi10 (by assumption)])
noncomputable def F_spec_MergeHeads (a0 : (List Head)) (a1 : (List Head)) : Option ((List Head) × Bool) :=
 (((F_spec_fHeads a0).bind fun z4 =>
 if (!z4) = true then (
 some true) else (
 (F_spec_fHeads a1).bind fun z6 =>
 some (!z6)) : Option (Bool)).bind fun x3 =>
 if x3 = true then (
 some ([], false)) else (
 (F_spec_fMerge a0 a1).bind fun z8 =>
 if (!z8.2) = true then (
 some ([], false)) else (
 some (z8.1, true))))
theorem c_spec_MergeHeads : ∀ {a0} {a1} {r}, F_spec_MergeHeads a0 a1 = some r → PCalls Tryz.prog 13 [(.sh, .sl false 6 (a0.map row_Head)), (.sh, .sl false 6 (a1.map row_Head))] (Eo (.tup [.sl true 6 (r.1.map row_Head), .bool r.2]) [.junk, .junk]) := by
 intro a0 a1 r hr
 apply pF 25 [] [] [] [.tmp 4, .tmp 5] hr cl13 Tryz.func13
 intro Φ hΦ hF g
 unfold F_spec_MergeHeads at hF
 try simp [go_sem, g]
 refine pw_wk ?_
 repeat rw [sq]
 refine pJ hF (fun x3 => [(0, .v (.sl false 6 (a0.map row_Head))), (1, .v (.sl false 6 (a1.map row_Head))), (15, .v (.bool x3))]) (fun x3 hF => ?_) fun _ hj1 hF => ?_
 ·repeat rw [sq]
  refine pI hF (fun h7 hF => ?_) (fun h7 hF => ?_)
  ·cases hΦ _ (Rn_some hF)
   try simp [go_sem, g]
   refine pw_wk ?_
   try simp [go_sem, g]
  ·try simp [go_sem, g]
   refine pw_wk ?_
   try simp [go_sem, g]
   refine pC hF [.sh, .sh] c_spec_fMerge (fun z8 hF => ?_)
   try simp [go_sem, g]
   refine pw_wkK [6, 7] (by simp [go_sem, g]; rfl) ?_
   try simp [go_sem, g]
   refine pw_wk ?_
   repeat rw [sq]
   refine pI hF (fun h9 hF => ?_) (fun h9 hF => ?_)
   ·cases hΦ _ (Rn_some hF)
    try simp [go_sem, g]
    refine pw_wk ?_
    try simp [go_sem, g]
   ·cases hΦ _ (Rn_some hF)
    iterate 2 (try simp [go_sem, g]; refine pw_wk ?_)
    try simp [go_sem, g]
 ·try simp [go_sem, g]
  refine pC hF [.sh] c_spec_fHeads (fun z4 hF => ?_)
  try simp [go_sem, g]
  refine pwg_F hF (fun h5 hF => ?_) fun h5 hF => ?_
  ·try simp [go_sem, g, h5]
   exact pT (hj1 true) (Rn_some hF)
  ·try simp [go_sem, g, h5]
   refine pC hF [.sh] c_spec_fHeads (fun z6 hF => ?_)
   try simp [go_sem, g, h5]
   exact pT (hj1 (!z6)) (Rn_some hF)
noncomputable def F_laws_FnForks (a0 : (List Int)) (a1 : (List Int)) : Option (Bool) :=
 (F_laws_big a0 a1).bind fun z1 =>
 if z1 = true then (
 some true) else (
 (F_spec_DrawFindFork a0).bind fun z3 =>
 (F_impl_FindFork z3.1 z3.2.1 z3.2.2).bind fun z4 =>
 (F_spec_FindFork z3.1 z3.2.1 z3.2.2).bind fun z5 =>
 if (z4.2 != z5.2) = true then (
 some false) else (
 ((if z4.2 = true then (
 (F_impl_IsForkEvidence z3.1 z3.2.1 z4.1).bind fun z11 =>
 (F_impl_IsForkEvidence z3.1 z3.2.1 (ForkEvidence.mk z4.1.Second z4.1.First)).bind fun z12 =>
 (F_impl_CompareHeads z4.1.First z4.1.Second []).bind fun z13 =>
 ((if (!z11.2) = true then (
 some true) else (
 if (!z11.1) = true then (
 some true) else (
 if (!z12.2) = true then (
 some true) else (
 if (!z12.1) = true then (
 some true) else (
 if (!z13.2) = true then (
 some true) else (
 some (z13.1 != 2)))))) : Option (Bool)).bind fun x16 =>
 if x16 = true then (
 some (.inr false)) else (
 some (.inl ())))) else (
 some (.inl ())) : Option (Unit ⊕ Bool)).bind (Sum.elim (fun x9 =>
 (F_spec_DrawMergeHeads a1).bind fun z23 =>
 (F_impl_MergeHeads z23.1 z23.2).bind fun z24 =>
 (F_spec_MergeHeads z23.1 z23.2).bind fun z25 =>
 ((if (z24.2 != z25.2) = true then (
 some true) else (
 some ((z24.1.length : Int) != (z25.1.length : Int))) : Option (Bool)).bind fun x28 =>
 if x28 = true then (
 some false) else (
 if z24.2 = true then (
 (F_impl_MergeHeads z24.1 z23.2).bind fun z32 =>
 ((if z32.2 = true then (
 if ((z32.1.length : Int) == (z24.1.length : Int)) = true then (
 some (decide ((z23.1.length : Int) ≤ (z24.1.length : Int)))) else (
 some false)) else (
 some false) : Option (Bool)).bind fun x35 =>
 some x35)) else (
 some true)))) some))))
theorem c_laws_FnForks : ∀ {a0} {a1} {r}, F_laws_FnForks a0 a1 = some r → PCalls Tryz.prog 3 [(.sh, .sl false 1 (a0.map row_u8)), (.sh, .sl false 1 (a1.map row_u8))] (Eo (.bool r) [.junk, .junk]) := by
 intro a0 a1 r hr
 apply pF 150 [] [64, 66, 113, 114] [] [.tmp 4] hr cl3 Tryz.func3
 intro Φ hΦ hF g
 unfold F_laws_FnForks at hF
 try simp [go_sem, g]
 refine pw_wk ?_
 try simp [go_sem, g]
 refine pC hF [.sh, .sh] c_laws_big (fun z1 hF => ?_)
 try simp [go_sem, g]
 refine pw_wk ?_
 repeat rw [sq]
 refine pI hF (fun h2 hF => ?_) (fun h2 hF => ?_)
 ·cases hΦ _ (Rn_some hF)
  try simp [go_sem, g]
  refine pw_wk ?_
  try simp [go_sem, g]
 ·try simp [go_sem, g]
  refine pw_wk ?_
  try simp [go_sem, g]
  refine pC hF [.sh] c_spec_DrawFindFork (fun z3 hF => ?_)
  try simp [go_sem, g]
  refine pw_wkK [1, 5, 6, 7] (by simp [go_sem, g]; rfl) ?_
  try simp [go_sem, g]
  refine pC hF [.sh, .sh, .sh] c_impl_FindFork (fun z4 hF => ?_)
  try simp [go_sem, g]
  refine pw_wkK [1, 5, 6, 7, 8, 9] (by simp [go_sem, g]; rfl) ?_
  try simp [go_sem, g]
  refine pC hF [.sh, .sh, .sh] c_spec_FindFork (fun z5 hF => ?_)
  try simp [go_sem, g]
  refine pw_wkK [1, 5, 6, 8, 9, 11] (by simp [go_sem, g]; rfl) ?_
  try simp [go_sem, g]
  refine pw_wk ?_
  repeat rw [sq]
  refine pI hF (fun h6 hF => ?_) (fun h6 hF => ?_)
  ·cases hΦ _ (Rn_some hF)
   try simp [go_sem, g]
   refine pw_wk ?_
   try simp [go_sem, g]
  ·iterate 2 (try simp [go_sem, g]; refine pw_wk ?_)
   repeat rw [sq]
   refine pJs hF (fun x9 => [(1, .v (.sl false 1 (a1.map row_u8)))]) (fun x9 hF => ?_) fun _ hj7 hr8 hF => ?_
   ·try simp [go_sem, g]
    refine pC hF [.sh] c_spec_DrawMergeHeads (fun z23 hF => ?_)
    try simp [go_sem, g]
    refine pw_wkK [18, 19] (by simp [go_sem, g]; rfl) ?_
    try simp [go_sem, g]
    refine pC hF [.sh, .sh] c_impl_MergeHeads (fun z24 hF => ?_)
    try simp [go_sem, g]
    refine pw_wk ?_
    try simp [go_sem, g]
    refine pC hF [.sh, .sh] c_spec_MergeHeads (fun z25 hF => ?_)
    try simp [go_sem, g]
    refine pw_wkK [18, 19, 20, 21, 22, 23] (by simp [go_sem, g]; rfl) ?_
    repeat rw [sq]
    refine pJ hF (fun x28 => [(18, .v (.sl false 6 (z23.1.map row_Head))), (19, .v (.sl false 6 (z23.2.map row_Head))), (20, .v (.sl true 6 (z24.1.map row_Head_ooo))), (21, .v (.bool z24.2)), (127, .v (.bool x28))]) (fun x28 hF => ?_) fun _ hj26 hF => ?_
    ·repeat rw [sq]
     refine pI hF (fun h30 hF => ?_) (fun h30 hF => ?_)
     ·cases hΦ _ (Rn_some hF)
      try simp [go_sem, g]
      refine pw_wk ?_
      try simp [go_sem, g]
     ·iterate 2 (try simp [go_sem, g]; refine pw_wk ?_)
      repeat rw [sq]
      refine pI hF (fun h31 hF => ?_) (fun h31 hF => ?_)
      ·try simp [go_sem, g]
       refine pC hF [.sh, .sh] c_impl_MergeHeads (fun z32 hF => ?_)
       try simp [go_sem, g]
       refine pw_wk ?_
       repeat rw [sq]
       refine pJ hF (fun x35 => [(4, .v (.bool x35))]) (fun x35 hF => ?_) fun _ hj33 hF => ?_
       ·cases hΦ _ (Rn_some hF)
        try simp [go_sem, g]
       ·try simp [go_sem, g]
        refine pwg_F hF (fun h36 hF => ?_) fun h36 hF => ?_
        ·try simp [go_sem, g, h36]
         try intros
         refine pwg_F hF (fun h37 hF => ?_) fun h37 hF => ?_
         ·try simp [go_sem, g, h37]
          try intros
          exact pT (hj33 (decide ((z23.1.length : Int) ≤ (z24.1.length : Int)))) (Rn_some hF)
         ·try simp [go_sem, g, h37]
          exact pT (hj33 false) (Rn_some hF)
        ·try simp [go_sem, g, h36]
         exact pT (hj33 false) (Rn_some hF)
      ·cases hΦ _ (Rn_some hF)
       iterate 2 (try simp [go_sem, g]; refine pw_wk ?_)
       try simp [go_sem, g]
    ·try simp [go_sem, g]
     refine pwg_F hF (fun h29 hF => ?_) fun h29 hF => ?_
     ·try simp [go_sem, g, h29]
      exact pT (hj26 true) (Rn_some hF)
     ·try simp [go_sem, g, h29]
      try intros
      exact pT (hj26 ((z24.1.length : Int) != (z25.1.length : Int))) (Rn_some hF)
   ·repeat rw [sq]
    refine pI hF (fun h10 hF => ?_) (fun h10 hF => ?_)
    ·try simp [go_sem, g]
     refine pC hF [.sh, .sh, .sh] c_impl_IsForkEvidence (fun z11 hF => ?_)
     try simp [go_sem, g]
     refine pw_wkK [1, 5, 6, 8, 12, 13] (by simp [go_sem, g]; rfl) ?_
     try simp [go_sem, g]
     refine pC hF [.sh, .sh, .sh] c_impl_IsForkEvidence (fun z12 hF => ?_)
     try simp [go_sem, g]
     refine pw_wkK [1, 8, 12, 13, 14, 15] (by simp [go_sem, g]; rfl) ?_
     try simp [go_sem, g]
     refine pC hF [.sh, .sh, .sh] c_impl_CompareHeads (fun z13 hF => ?_)
     try simp [go_sem, g]
     refine pw_wkK [1, 12, 13, 14, 15, 16, 17] (by simp [go_sem, g]; rfl) ?_
     repeat rw [sq]
     refine pJ hF (fun x16 => [(1, .v (.sl false 1 (a1.map row_u8))), (100, .v (.bool x16))]) (fun x16 hF => ?_) fun _ hj14 hF => ?_
     ·repeat rw [sq]
      refine pI hF (fun h22 hF => ?_) (fun h22 hF => ?_)
      ·cases hΦ _ (hr8 _ (Rn_some hF))
       try simp [go_sem, g]
       refine pw_wk ?_
       try simp [go_sem, g]
      ·try simp [go_sem, g]
       exact pT (hj7 ()) (Rn_some hF)
     ·try simp [go_sem, g]
      refine pwg_F hF (fun h17 hF => ?_) fun h17 hF => ?_
      ·try simp [go_sem, g, h17]
       exact pT (hj14 true) (Rn_some hF)
      ·try simp [go_sem, g, h17]
       refine pwg_F hF (fun h18 hF => ?_) fun h18 hF => ?_
       ·try simp [go_sem, g, h18]
        exact pT (hj14 true) (Rn_some hF)
       ·try simp [go_sem, g, h18]
        refine pwg_F hF (fun h19 hF => ?_) fun h19 hF => ?_
        ·try simp [go_sem, g, h19]
         exact pT (hj14 true) (Rn_some hF)
        ·try simp [go_sem, g, h19]
         refine pwg_F hF (fun h20 hF => ?_) fun h20 hF => ?_
         ·try simp [go_sem, g, h20]
          exact pT (hj14 true) (Rn_some hF)
         ·try simp [go_sem, g, h20]
          refine pwg_F hF (fun h21 hF => ?_) fun h21 hF => ?_
          ·try simp [go_sem, g, h21]
           exact pT (hj14 true) (Rn_some hF)
          ·try simp [go_sem, g, h21]
           exact pT (hj14 (z13.1 != 2)) (Rn_some hF)
    ·try simp [go_sem, g]
     exact pT (hj7 ()) (Rn_some hF)
end Go.Pm
