/-
  Plain functions and their walks. Written by wip/tools/lift.py.
-/
import Derived.Test.YtanpbcjcbfhflaaGreatM19
namespace Go.Pm
open Go.Am IntKind
open Go.Proofs
set_option maxRecDepth 100000
attribute [local irreducible] pw pwx pw1 pwg qv qz qf
attribute [-simp] List.map_set
set_option linter.unusedSimpArgs false
set_option linter.unusedVariables false
theorem c_impl_Contest_greatest : ∀ {a0} {r}, F_impl_Contest_greatest a0 = some r → PCalls Tryz.prog 104 [(.sh, .agg [.int .i64 a0.Kind, .int .i64 a0.Options, .int .i64 a0.Least, .int .i64 a0.Most, .int .i64 a0.Points])] (Eo (.int .i64 r) [.junk]) := by
 intro a0 r hr
 apply pF 89 [] [] [] [.tmp 2] hr cl104 Tryz.func104
 intro Φ hΦ hF g
 unfold F_impl_Contest_greatest at hF
 iterate 3 (try simp [go_sem, g]; refine pw_wk ?_)
 repeat rw [sq]
 refine pJ hF (fun x3 => [(1, .bl [.int .i64 a0.Kind, .int .i64 a0.Options, .int .i64 a0.Least, .int .i64 a0.Most, .int .i64 a0.Points]), (3, .v (.sl true 1 (x3.map row_i64)))]) (fun x3 hF => ?_) fun _ hj1 hF => ?_
 ·try simp [go_sem, g]
  refine pC hF [.sh] c_impl_Contest_base (fun z56 hF => ?_)
  try simp [go_sem, g]
  refine pC hF [.sh, .sh] c_impl_codeOf (fun z57 hF => ?_)
  try simp [go_sem, g]
  refine pw_wkK [2] (by simp [go_sem, g]; rfl) ?_
  cases hΦ _ (Rn_some hF)
  try simp [go_sem, g]
 ·repeat rw [sq]
  rw [pw_block]
  try simp [go_sem, g]
  refine pw_wk ?_
  repeat rw [sq]
  refine pI hF (fun h4 hF => ?_) (fun h4 hF => ?_)
  ·try simp [go_sem, g]
   refine pw_wkK [1, 3, 23, 24] (by simp [go_sem, g]; rfl) ?_
   repeat rw [sq]
   rw [pw_block]
   obtain ⟨b15, hb16, hψ9⟩ := hF
   refine pL hb16 (fun s5 => [(1, .bl [.int .i64 a0.Kind, .int .i64 a0.Options, .int .i64 a0.Least, .int .i64 a0.Most, .int .i64 a0.Points]), (3, .v (.sl true 1 (s5.1.map row_i64))), (23, .v (.int .i64 a0.Options)), (24, .v (.int .i64 s5.2))]) (fun s5 _ _ ho7 hg8 hF => ?_)
   try simp [go_sem, g]
   refine pw_wk ?_
   repeat rw [sq]
   refine pI hF (fun h10 hF => ?_) (fun h10 hF => ?_)
   ·try simp [go_sem, g]
    refine pw_wk ?_
    repeat rw [sq]
    rw [pw_block]
    iterate 2 (try simp [go_sem, g]; refine pw_wk ?_)
    try simp [go_sem, g]
    refine pw_wkK [1, 3, 5, 23, 24, 33] (by simp [go_sem, g]; rfl) ?_
    repeat rw [sq]
    refine pJ hF (fun x13 => [(1, .bl [.int .i64 a0.Kind, .int .i64 a0.Options, .int .i64 a0.Least, .int .i64 a0.Most, .int .i64 a0.Points]), (3, .v (.sl true 1 (s5.1.map row_i64))), (5, .v (.int .i64 x13)), (23, .v (.int .i64 a0.Options)), (24, .v (.int .i64 s5.2))]) (fun x13 hF => ?_) fun _ hj11 hF => ?_
    ·obtain ⟨g, hF⟩ := Rg g hF
     try simp [go_sem, g]
     refine pw_wk ?_
     try simp [go_sem, g]
     exact pT (hg8 (s5.1 ++ [x13], i64.wrap (s5.2 + 1))) (Rn_some hF)
    ·repeat rw [sq]
     refine pI hF (fun h14 hF => ?_) (fun h14 hF => ?_)
     ·try simp [go_sem, g]
      exact pT (hj11 1) (Rn_some hF)
     ·try simp [go_sem, g]
      exact pT (hj11 0) (Rn_some hF)
   ·try simp [go_sem, g]
    cases ho7 _ (Rn_some hF)
    exact pT (hj1 s5.1) hψ9
  ·try simp [go_sem, g]
   refine pw_wkK [1, 3, 11, 39] (by simp [go_sem, g]; rfl) ?_
   repeat rw [sq]
   refine pI hF (fun h17 hF => ?_) (fun h17 hF => ?_)
   ·obtain ⟨g, hF⟩ := Rg g hF
    obtain ⟨x18, e19, hF⟩ := Rn_bind hF
    have g20 : List.replicate a0.Options.toNat ([.int .i64 0] : List PV) = x18.map row_i64 := by injection e19 with e19; rw [← e19]; simp [go_sem]
    iterate 2 (try simp [go_sem, g, g20]; refine pw_wk ?_)
    try simp [go_sem, g, g20]
    refine pw_wkK [1, 3, 6, 7] (by simp [go_sem, g]; rfl) ?_
    repeat rw [sq]
    rw [pw_block]
    obtain ⟨b37, hb38, hψ33⟩ := hF
    refine pL hb38 (fun s29 => [(1, .bl [.int .i64 a0.Kind, .int .i64 a0.Options, .int .i64 a0.Least, .int .i64 a0.Most, .int .i64 a0.Points]), (3, .v (.sl true 1 (s29.1.map row_i64))), (6, .v (.int .i64 s29.2.1)), (7, .v (.int .i64 s29.2.2))]) (fun s29 _ _ ho31 hg32 hF => ?_)
    try simp [go_sem, g]
    refine pw_wk ?_
    repeat rw [sq]
    refine pI hF (fun h34 hF => ?_) (fun h34 hF => ?_)
    ·try simp [go_sem, g]
     refine pw_wk ?_
     repeat rw [sq]
     rw [pw_block]
     obtain ⟨x35, g, hF⟩ := Rx g hF
     try simp [go_sem, g]
     refine pw_wkK [1, 3, 6, 7] (by simp [go_sem, g]; rfl) ?_
     obtain ⟨x36, g, hF⟩ := Rx g hF
     try simp only [List.length_set] at g
     try simp [go_sem, g]
     refine pw_wk ?_
     try simp [go_sem, g]
     exact pT (hg32 (s29.1.set s29.2.2.toNat (if a0.Points < s29.2.1 then a0.Points else s29.2.1), i64.wrap (s29.2.1 - x36), i64.wrap (s29.2.2 - 1))) (Rn_some hF)
    ·try simp [go_sem, g]
     cases ho31 _ (Rn_some hF)
     exact pT (hj1 s29.1) hψ33
   ·try simp [go_sem, g]
    refine pw_wk ?_
    repeat rw [sq]
    refine pI hF (fun h39 hF => ?_) (fun h39 hF => ?_)
    ·try simp [go_sem, g]
     refine pw_wk ?_
     repeat rw [sq]
     rw [pw_block]
     obtain ⟨b46, hb47, hψ44⟩ := hF
     refine pL hb47 (fun s40 => [(1, .bl [.int .i64 a0.Kind, .int .i64 a0.Options, .int .i64 a0.Least, .int .i64 a0.Most, .int .i64 a0.Points]), (3, .v (.sl true 1 (s40.1.map row_i64))), (69, .v (.int .i64 a0.Most)), (70, .v (.int .i64 s40.2))]) (fun s40 _ _ ho42 hg43 hF => ?_)
     try simp [go_sem, g]
     refine pw_wk ?_
     repeat rw [sq]
     refine pI hF (fun h45 hF => ?_) (fun h45 hF => ?_)
     ·try simp [go_sem, g]
      refine pw_wk ?_
      repeat rw [sq]
      rw [pw_block]
      obtain ⟨g, hF⟩ := Rg g hF
      try simp [go_sem, g]
      refine pw_wk ?_
      try simp [go_sem, g]
      refine pw_wkK [1, 3, 69, 70] (by simp [go_sem, g]; rfl) ?_
      try simp [go_sem, g]
      exact pT (hg43 (s40.1 ++ [i64.wrap ((i64.wrap ((i64.wrap (a0.Options - a0.Most)) + 1)) + s40.2)], i64.wrap (s40.2 + 1))) (Rn_some hF)
     ·try simp [go_sem, g]
      cases ho42 _ (Rn_some hF)
      exact pT (hj1 s40.1) hψ44
    ·try simp [go_sem, g]
     refine pw_wk ?_
     repeat rw [sq]
     rw [pw_block]
     obtain ⟨b54, hb55, hψ52⟩ := hF
     refine pL hb55 (fun s48 => [(1, .bl [.int .i64 a0.Kind, .int .i64 a0.Options, .int .i64 a0.Least, .int .i64 a0.Most, .int .i64 a0.Points]), (3, .v (.sl true 1 (s48.1.map row_i64))), (13, .v (.int .i64 a0.Most)), (14, .v (.int .i64 s48.2))]) (fun s48 _ _ ho50 hg51 hF => ?_)
     try simp [go_sem, g]
     refine pw_wk ?_
     repeat rw [sq]
     refine pI hF (fun h53 hF => ?_) (fun h53 hF => ?_)
     ·try simp [go_sem, g]
      refine pw_wk ?_
      repeat rw [sq]
      rw [pw_block]
      obtain ⟨g, hF⟩ := Rg g hF
      try simp [go_sem, g]
      refine pw_wkK [1, 3, 13, 14] (by simp [go_sem, g]; rfl) ?_
      try simp [go_sem, g]
      exact pT (hg51 (s48.1 ++ [26], i64.wrap (s48.2 + 1))) (Rn_some hF)
     ·try simp [go_sem, g]
      cases ho50 _ (Rn_some hF)
      exact pT (hj1 s48.1) hψ52
noncomputable def F_impl_Contest_isForm (a0 : Contest) : Option (Bool) :=
 ((if (a0.Kind == 1) = true then (
 some true) else (
 some (a0.Kind == 2)) : Option (Bool)).bind fun x3 =>
 some x3)
theorem c_impl_Contest_isForm : ∀ {a0} {r}, F_impl_Contest_isForm a0 = some r → PCalls Tryz.prog 105 [(.sh, .agg [.int .i64 a0.Kind, .int .i64 a0.Options, .int .i64 a0.Least, .int .i64 a0.Most, .int .i64 a0.Points])] (Eo (.bool r) [.junk]) := by
 intro a0 r hr
 apply pF 11 [] [] [] [.tmp 2] hr cl105 Tryz.func105
 intro Φ hΦ hF g
 unfold F_impl_Contest_isForm at hF
 try simp [go_sem, g]
 refine pw_wk ?_
 repeat rw [sq]
 refine pJ hF (fun x3 => [(2, .v (.bool x3))]) (fun x3 hF => ?_) fun _ hj1 hF => ?_
 ·cases hΦ _ (Rn_some hF)
  try simp [go_sem, g]
 ·try simp [go_sem, g]
  refine pwg_F hF (fun h4 hF => ?_) fun h4 hF => ?_
  ·try simp [go_sem, g, h4]
   exact pT (hj1 true) (Rn_some hF)
  ·try simp [go_sem, g, h4]
   exact pT (hj1 (a0.Kind == 2)) (Rn_some hF)
def D36_1 : List DE := [d2 0 [2] 2 2, d3 1 [5], d0 2 [6], d0 3 [7], d2 4 [3, 8] 3 3, d3 5 [9, 8], d0 6 [10, 8], d0 7 [8, 11], d0 8 [12], d2 9 [3, 13] 3 3, d3 10 [14, 13], d0 11 [15, 13], d0 12 [13, 16], d0 13 [17], d2 14 [3, 18] 3 3, d1 16 [2, 18] 2, d2 17 [21, 18] 2 21, d3 15 [19, 18], d0 18 [20, 22, 18], d0 19 [18, 23]]
noncomputable def F_impl_IsSealable (a0 : Group) (a1 : Contest) : Option (Bool) :=
 (((F_impl_IsValidGroup a0).bind fun z4 =>
 if (!z4) = true then (
 some true) else (
 (F_impl_IsValidContest a1).bind fun z6 =>
 if (!z6) = true then (
 some true) else (
 (F_impl_Contest_greatest a1).bind fun z8 =>
 if decide (100000 < z8) = true then (
 some true) else (
 (F_impl_Contest_greatest a1).bind fun z10 =>
 some (decide (a0.Q ≤ z10))))) : Option (Bool)).bind fun x3 =>
 if x3 = true then (
 some false) else (
 (((F_impl_Contest_isForm a1).bind fun z15 =>
 if (!z15) = true then (
 some true) else (
 if decide ((i64.wrap (a1.Most - a1.Least)) < 8) = true then (
 some (decide (a1.Most < a0.Q))) else (
 some false)) : Option (Bool)).bind fun x14 =>
 some x14)))
theorem c_impl_IsSealable : ∀ {a0} {a1} {r}, F_impl_IsSealable a0 a1 = some r → PCalls Tryz.prog 36 [(.sh, .agg [.int .i64 a0.P, .int .i64 a0.Q, .int .i64 a0.G]), (.sh, .agg [.int .i64 a1.Kind, .int .i64 a1.Options, .int .i64 a1.Least, .int .i64 a1.Most, .int .i64 a1.Points])] (Eo (.bool r) [.junk, .junk]) := by
 intro a0 a1 r hr
 apply pF 43 [] [] [] [.tmp 4] hr cl36 Tryz.func36
 intro Φ hΦ hF g
 unfold F_impl_IsSealable at hF
 try simp [go_sem, g]
 refine pw_wk ?_
 repeat rw [sq]
 refine pJ hF (fun x3 => [(2, .bl [.int .i64 a0.P, .int .i64 a0.Q, .int .i64 a0.G]), (3, .bl [.int .i64 a1.Kind, .int .i64 a1.Options, .int .i64 a1.Least, .int .i64 a1.Most, .int .i64 a1.Points]), (24, .v (.bool x3))]) (fun x3 hF => ?_) fun _ hj1 hF => ?_
 ·repeat rw [sq]
  refine pI hF (fun h11 hF => ?_) (fun h11 hF => ?_)
  ·cases hΦ _ (Rn_some hF)
   try simp [go_sem, g]
   refine pw_wk ?_
   try simp [go_sem, g]
  ·try simp [go_sem, g]
   refine pw_wk ?_
   repeat rw [sq]
   refine pJ hF (fun x14 => [(4, .v (.bool x14))]) (fun x14 hF => ?_) fun _ hj12 hF => ?_
   ·cases hΦ _ (Rn_some hF)
    try simp [go_sem, g]
   ·try simp [go_sem, g]
    refine pC hF [.sh] c_impl_Contest_isForm (fun z15 hF => ?_)
    try simp [go_sem, g]
    refine pwg_F hF (fun h16 hF => ?_) fun h16 hF => ?_
    ·try simp [go_sem, g, h16]
     exact pT (hj12 true) (Rn_some hF)
    ·try simp [go_sem, g, h16]
     refine pwg_F hF (fun h17 hF => ?_) fun h17 hF => ?_
     ·try simp [go_sem, g, h17, h16]
      exact pT (hj12 (decide (a1.Most < a0.Q))) (Rn_some hF)
     ·try simp [go_sem, g, h17, h16]
      exact pT (hj12 false) (Rn_some hF)
 ·repeat rw [sq]
  refine pw_draw D36_1 follows (by kernel_rfl) rfl ?_
  try simp only [go_sem, D36_1]
  try simp [go_sem, g]
  refine pC hF [.sh] c_impl_IsValidGroup (fun z4 hF => ?_)
  try simp [go_sem, g]
  refine pwgD_F hF (fun h5 hF => ?_) fun h5 hF => ?_
  ·try simp [go_sem, g, h5]
   exact pT (hj1 true) (Rn_some hF)
  ·try simp [go_sem, g, h5]
   refine pC hF [.sh] c_impl_IsValidContest (fun z6 hF => ?_)
   try simp [go_sem, g, h5]
   refine pwgD_F hF (fun h7 hF => ?_) fun h7 hF => ?_
   ·try simp [go_sem, g, h7]
    exact pT (hj1 true) (Rn_some hF)
   ·try simp [go_sem, g, h7]
    refine pC hF [.sh] c_impl_Contest_greatest (fun z8 hF => ?_)
    try simp [go_sem, g, h7]
    refine pwgD_F hF (fun h9 hF => ?_) fun h9 hF => ?_
    ·try simp [go_sem, g, h9]
     exact pT (hj1 true) (Rn_some hF)
    ·try simp [go_sem, g, h9]
     refine pC hF [.sh] c_impl_Contest_greatest (fun z10 hF => ?_)
     try simp [go_sem, g, h9]
     exact pT (hj1 (decide (a0.Q ≤ z10))) (Rn_some hF)
noncomputable def F_impl_Contest_width (a0 : Contest) : Option (Int) :=
 (F_impl_Contest_isForm a0).bind fun z1 =>
 if z1 = true then (
 some a0.Options) else (
 some 1)
theorem c_impl_Contest_width : ∀ {a0} {r}, F_impl_Contest_width a0 = some r → PCalls Tryz.prog 37 [(.sh, .agg [.int .i64 a0.Kind, .int .i64 a0.Options, .int .i64 a0.Least, .int .i64 a0.Most, .int .i64 a0.Points])] (Eo (.int .i64 r) [.junk]) := by
 intro a0 r hr
 apply pF 7 [] [] [] [.tmp 2] hr cl37 Tryz.func37
 intro Φ hΦ hF g
 unfold F_impl_Contest_width at hF
 try simp [go_sem, g]
 refine pw_wk ?_
 try simp [go_sem, g]
 refine pC hF [.sh] c_impl_Contest_isForm (fun z1 hF => ?_)
 try simp [go_sem, g]
 refine pw_wk ?_
 repeat rw [sq]
 refine pI hF (fun h2 hF => ?_) (fun h2 hF => ?_)
 ·cases hΦ _ (Rn_some hF)
  try simp [go_sem, g]
  refine pw_wk ?_
  try simp [go_sem, g]
 ·cases hΦ _ (Rn_some hF)
  iterate 2 (try simp [go_sem, g]; refine pw_wk ?_)
  try simp [go_sem, g]
noncomputable def F_impl_Group_has (a0 : Group) (a1 : Int) : Option (Bool) :=
 (((F_impl_within a1 1 (i64.wrap (a0.P - 1))).bind fun z4 =>
 if z4 = true then (
 (F_impl_power a1 a0.Q a0.P).bind fun z6 =>
 some (z6 == 1)) else (
 some false) : Option (Bool)).bind fun x3 =>
 some x3)
theorem c_impl_Group_has : ∀ {a0} {a1} {r}, F_impl_Group_has a0 a1 = some r → PCalls Tryz.prog 74 [(.sh, .agg [.int .i64 a0.P, .int .i64 a0.Q, .int .i64 a0.G]), (.sh, .int .i64 a1)] (Eo (.bool r) [.junk, .junk]) := by
 intro a0 a1 r hr
 apply pF 19 [] [] [] [.tmp 4] hr cl74 Tryz.func74
 intro Φ hΦ hF g
 unfold F_impl_Group_has at hF
 try simp [go_sem, g]
 refine pw_wk ?_
 repeat rw [sq]
 refine pJ hF (fun x3 => [(4, .v (.bool x3))]) (fun x3 hF => ?_) fun _ hj1 hF => ?_
 ·cases hΦ _ (Rn_some hF)
  try simp [go_sem, g]
 ·try simp [go_sem, g]
  refine pC hF [.sh, .sh, .sh] c_impl_within (fun z4 hF => ?_)
  try simp [go_sem, g]
  refine pwg_F hF (fun h5 hF => ?_) fun h5 hF => ?_
  ·try simp [go_sem, g, h5]
   refine pC hF [.sh, .sh, .sh] c_impl_power (fun z6 hF => ?_)
   try simp [go_sem, g, h5]
   exact pT (hj1 (z6 == 1)) (Rn_some hF)
  ·try simp [go_sem, g, h5]
   exact pT (hj1 false) (Rn_some hF)
noncomputable def F_impl_Group_hasCipher (a0 : Group) (a1 : Cipher) : Option (Bool) :=
 (((F_impl_Group_has a0 a1.A).bind fun z4 =>
 if z4 = true then (
 (F_impl_Group_has a0 a1.B).bind fun z6 =>
 some z6) else (
 some false) : Option (Bool)).bind fun x3 =>
 some x3)
theorem c_impl_Group_hasCipher : ∀ {a0} {a1} {r}, F_impl_Group_hasCipher a0 a1 = some r → PCalls Tryz.prog 66 [(.sh, .agg [.int .i64 a0.P, .int .i64 a0.Q, .int .i64 a0.G]), (.sh, .agg [.int .i64 a1.A, .int .i64 a1.B])] (Eo (.bool r) [.junk, .junk]) := by
 intro a0 a1 r hr
 apply pF 15 [] [] [] [.tmp 4] hr cl66 Tryz.func66
 intro Φ hΦ hF g
 unfold F_impl_Group_hasCipher at hF
 try simp [go_sem, g]
 refine pw_wk ?_
 repeat rw [sq]
 refine pJ hF (fun x3 => [(4, .v (.bool x3))]) (fun x3 hF => ?_) fun _ hj1 hF => ?_
 ·cases hΦ _ (Rn_some hF)
  try simp [go_sem, g]
 ·try simp [go_sem, g]
  refine pC hF [.sh, .sh] c_impl_Group_has (fun z4 hF => ?_)
  try simp [go_sem, g]
  refine pwg_F hF (fun h5 hF => ?_) fun h5 hF => ?_
  ·try simp [go_sem, g, h5]
   refine pC hF [.sh, .sh] c_impl_Group_has (fun z6 hF => ?_)
   try simp [go_sem, g, h5]
   exact pT (hj1 z6) (Rn_some hF)
  ·try simp [go_sem, g, h5]
   exact pT (hj1 false) (Rn_some hF)
noncomputable def F_impl_Group_hasCiphers_1_ (a0 : Cipher) (a1c0 : Int) (a1c1 : Int) (a1c2 : Int) : Option (Bool) :=
 (F_impl_Group_hasCipher (Group.mk a1c0 a1c1 a1c2) a0).bind fun z1 =>
 some (!z1)
theorem c_impl_Group_hasCiphers_1_ : ∀ {a0} {a1c0} {a1c1} {a1c2} {r}, F_impl_Group_hasCiphers_1_ a0 a1c0 a1c1 a1c2 = some r → PCalls Tryz.prog 107 [(.sh, .agg [.int .i64 a0.A, .int .i64 a0.B]), (.sh, .fp [.int .i64 a1c0, .int .i64 a1c1, .int .i64 a1c2])] (Eo (.bool r) [.junk, .junk]) := by
 intro a0 a1c0 a1c1 a1c2 r hr
 apply pF 8 [] [] [] [.tmp 3] hr cl107 Tryz.func107
 intro Φ hΦ hF g
 unfold F_impl_Group_hasCiphers_1_ at hF
 try simp [go_sem, g]
 refine pw_wk ?_
 try simp [go_sem, g]
 refine pC hF [.sh, .sh] c_impl_Group_hasCipher (fun z1 hF => ?_)
 cases hΦ _ (Rn_some hF)
 try simp [go_sem, g]
 refine pw_wk ?_
 try simp [go_sem, g]
noncomputable def F_slices_IndexFunc_impl_Cipher_impl_Cipher__impl_Group_hasCiphers_1 (a0 : (List Cipher)) (a1u0c0 : Int) (a1u0c1 : Int) (a1u0c2 : Int) : Option (Int) :=
 ((rloop (σ := Unit) (fun i5 s4 =>
 (ix a0 i5).bind fun x11 =>
 (F_impl_Group_hasCiphers_1_ x11 a1u0c0 a1u0c1 a1u0c2).bind fun z12 =>
 if z12 = true then (
 some (.out (.inr i5))) else (
 some (.go ()))) (fun s4 => .inl ()) (a0.length) 0 () : Option (Unit ⊕ Int)).bind (Sum.elim (fun x3 =>
 some (-1)) some))
theorem c_slices_IndexFunc_impl_Cipher_impl_Cipher__impl_Group_hasCiphers_1 : ∀ {a0} {a1u0c0} {a1u0c1} {a1u0c2} {r}, F_slices_IndexFunc_impl_Cipher_impl_Cipher__impl_Group_hasCiphers_1 a0 a1u0c0 a1u0c1 a1u0c2 = some r → PCalls Tryz.prog 145 [(.sh, .sl false 2 (a0.map row_Cipher)), (.sh, .func (.func 107) [] [.fp [.int .i64 a1u0c0, .int .i64 a1u0c1, .int .i64 a1u0c2]])] (Eo (.int .i64 r) [.junk, .junk]) := by
 intro a0 a1u0c0 a1u0c1 a1u0c2 r hr
 apply pF 19 [] [] [] [.tmp 4] hr cl145 Tryz.func145
 intro Φ hΦ hF g
 unfold F_slices_IndexFunc_impl_Cipher_impl_Cipher__impl_Group_hasCiphers_1 at hF
 iterate 2 (try simp [go_sem, g]; try intros; refine pw_wk ?_)
 repeat rw [sq]
 refine pJs hF (fun x3 => []) (fun x3 hF => ?_) fun _ hj1 hr2 hF => ?_
 ·cases hΦ _ (Rn_some hF)
  try simp [go_sem, g]
  refine pw_wk ?_
  try simp [go_sem, g]
 ·repeat rw [sq]
  rw [pw_block]
  obtain ⟨b14, hb15, hψ8⟩ := hF
  refine pR hb15 (fun i5 s4 => [(0, .v (.sl false 2 (a0.map row_Cipher))), (1, .v (.func (.func 107) [] [.fp [.int .i64 a1u0c0, .int .i64 a1u0c1, .int .i64 a1u0c2]])), (7, .v (.int .i64 (a0.length : Int))), (8, .v (.int .i64 i5))]) (fun s4 _ hN16 => ?_) (fun i5 s4 _ _ hi9 hi10 ho6 hg7 hF => ?_)
  ·subst hN16
   try simp [go_sem]
   refine pw_wk ?_
   repeat rw [sq]
   refine pw_cond_f (by simp [go_sem]) ?_
   try simp [go_sem]
   exact pT (hj1 ()) hψ8 (by simp [go_sem])
  ·try simp [go_sem, g]
   refine pw_wk ?_
   repeat rw [sq]
   refine pw_cond_t (by simp [go_sem, g, hi9, hi10]) ?_
   try simp [go_sem, g]
   refine pw_wk ?_
   repeat rw [sq]
   rw [pw_block]
   obtain ⟨x11, g, hF⟩ := Rx g hF
   try simp [go_sem, g]
   refine pw_wk ?_
   try simp [go_sem, g]
   refine pC hF [.sh] c_impl_Group_hasCiphers_1_ (fun z12 hF => ?_)
   try simp [go_sem, g]
   refine pw_wkK [0, 1, 5, 7, 8, 16] (by simp [go_sem, g]; rfl) ?_
   repeat rw [sq]
   refine pI hF (fun h13 hF => ?_) (fun h13 hF => ?_)
   ·cases ho6 _ (Rn_some hF)
    cases hΦ _ (hr2 _ hψ8)
    try simp [go_sem, g]
    refine pw_wk ?_
    try simp [go_sem, g]
   ·try simp [go_sem, g]
    refine pw_wk ?_
    try simp [go_sem, g]
    exact pT (hg7 ()) (Rn_some hF) (by simp [go_sem, g, wr_i hi9 hi10 (by assumption)])
noncomputable def F_slices_ContainsFunc_impl_Cipher_impl_Cipher__impl_Group_hasCiphers_1 (a0 : (List Cipher)) (a1u0c0 : Int) (a1u0c1 : Int) (a1u0c2 : Int) : Option (Bool) :=
 (F_slices_IndexFunc_impl_Cipher_impl_Cipher__impl_Group_hasCiphers_1 a0 a1u0c0 a1u0c1 a1u0c2).bind fun z1 =>
 some (decide (0 ≤ z1))
theorem c_slices_ContainsFunc_impl_Cipher_impl_Cipher__impl_Group_hasCiphers_1 : ∀ {a0} {a1u0c0} {a1u0c1} {a1u0c2} {r}, F_slices_ContainsFunc_impl_Cipher_impl_Cipher__impl_Group_hasCiphers_1 a0 a1u0c0 a1u0c1 a1u0c2 = some r → PCalls Tryz.prog 106 [(.sh, .sl false 2 (a0.map row_Cipher)), (.sh, .func (.func 107) [] [.fp [.int .i64 a1u0c0, .int .i64 a1u0c1, .int .i64 a1u0c2]])] (Eo (.bool r) [.junk, .junk]) := by
 intro a0 a1u0c0 a1u0c1 a1u0c2 r hr
 apply pF 9 [] [] [] [.tmp 4] hr cl106 Tryz.func106
 intro Φ hΦ hF g
 unfold F_slices_ContainsFunc_impl_Cipher_impl_Cipher__impl_Group_hasCiphers_1 at hF
 try simp [go_sem, g]
 refine pw_wk ?_
 try simp [go_sem, g]
 refine pC hF [.sh, .sh] c_slices_IndexFunc_impl_Cipher_impl_Cipher__impl_Group_hasCiphers_1 (fun z1 hF => ?_)
 cases hΦ _ (Rn_some hF)
 try simp [go_sem, g]
 refine pw_wk ?_
 try simp [go_sem, g]
noncomputable def F_impl_Group_hasCiphers (a0 : Group) (a1 : (List Cipher)) : Option (Bool) :=
 ((if decide ((a1.length : Int) ≤ 24) = true then (
 (F_slices_ContainsFunc_impl_Cipher_impl_Cipher__impl_Group_hasCiphers_1 a1 a0.P a0.Q a0.G).bind fun z5 =>
 some (!z5)) else (
 some false) : Option (Bool)).bind fun x3 =>
 some x3)
theorem c_impl_Group_hasCiphers : ∀ {a0} {a1} {r}, F_impl_Group_hasCiphers a0 a1 = some r → PCalls Tryz.prog 38 [(.sh, .agg [.int .i64 a0.P, .int .i64 a0.Q, .int .i64 a0.G]), (.sh, .sl false 2 (a1.map row_Cipher))] (Eo (.bool r) [.junk, .junk]) := by
 intro a0 a1 r hr
 apply pF 14 [] [] [1000000] [.tmp 4] hr cl38 Tryz.func38
 intro Φ hΦ hF g
 unfold F_impl_Group_hasCiphers at hF
 try simp [go_sem, g]
 refine pw_wk ?_
 repeat rw [sq]
 refine pJ hF (fun x3 => [(4, .v (.bool x3))]) (fun x3 hF => ?_) fun _ hj1 hF => ?_
 ·cases hΦ _ (Rn_some hF)
  try simp [go_sem, g]
 ·try simp [go_sem, g]
  try intros
  refine pwg_F hF (fun h4 hF => ?_) fun h4 hF => ?_
  ·try simp [go_sem, g, h4]
   refine pC hF [.sh, .sh] c_slices_ContainsFunc_impl_Cipher_impl_Cipher__impl_Group_hasCiphers_1 (fun z5 hF => ?_)
   try simp [go_sem, g, h4]
   exact pT (hj1 (!z5)) (Rn_some hF)
  ·try simp [go_sem, g, h4]
   exact pT (hj1 false) (Rn_some hF)
noncomputable def F_impl_mod (a0 : Int) (a1 : Int) : Option (Int) :=
 gd (a1 ≠ 0) <|
 gd (a1 ≠ 0) <|
 some ((i64.wrap ((a0.tmod a1) + a1)).tmod a1)
theorem c_impl_mod : ∀ {a0} {a1} {r}, F_impl_mod a0 a1 = some r → PCalls Tryz.prog 108 [(.sh, .int .i64 a0), (.sh, .int .i64 a1)] (Eo (.int .i64 r) [.junk, .junk]) := by
 intro a0 a1 r hr
 apply pF 12 [] [] [] [.tmp 4] hr cl108 Tryz.func108
 intro Φ hΦ hF g
 unfold F_impl_mod at hF
 obtain ⟨g, hF⟩ := Rz g hF
 obtain ⟨g, hF⟩ := Rz g hF
 cases hΦ _ (Rn_some hF)
 iterate 2 (try simp [go_sem, g]; refine pw_wk ?_)
 try simp [go_sem, g]
def D77_1 : List DE := [d0 0 [1], d0 1 [2], d1 2 [3] 3, d2 3 [9] 3 9, d1 5 [3] 3, d2 6 [12] 3 12, d3 4 [8, 10], d3 7 [7, 11, 13], d0 8 [14]]
noncomputable def F_impl_Group_pow (a0 : Group) (a1 : Int) (a2 : Int) : Option (Int) :=
 (F_impl_mod a2 a0.Q).bind fun z1 =>
 (F_impl_power a1 z1 a0.P).bind fun z2 =>
 some z2
theorem c_impl_Group_pow : ∀ {a0} {a1} {a2} {r}, F_impl_Group_pow a0 a1 a2 = some r → PCalls Tryz.prog 77 [(.sh, .agg [.int .i64 a0.P, .int .i64 a0.Q, .int .i64 a0.G]), (.sh, .int .i64 a1), (.sh, .int .i64 a2)] (Eo (.int .i64 r) [.junk, .junk, .junk]) := by
 intro a0 a1 a2 r hr
 apply pF 15 [] [] [] [.tmp 6] hr cl77 Tryz.func77
 intro Φ hΦ hF g
 unfold F_impl_Group_pow at hF
 try simp [go_sem, g]
 refine pw_wk ?_
 repeat rw [sq]
 refine pw_draw D77_1 follows (by kernel_rfl) rfl ?_
 try simp only [go_sem, D77_1]
 try simp [go_sem, g]
 refine pC hF [.sh, .sh] c_impl_mod (fun z1 hF => ?_)
 try simp [go_sem, g]
 refine pC hF [.sh, .sh, .sh] c_impl_power (fun z2 hF => ?_)
 try simp [go_sem, g]
 refine pw_wkK [6] (by simp [go_sem, g]; rfl) ?_
 cases hΦ _ (Rn_some hF)
 try simp [go_sem, g]
def D40_1 : List DE := [d2 0 [3] 3 3, d1 1 [4] 4, d2 2 [8] 4 8, d0 3 [2], d2 5 [3] 3 3, d1 6 [4] 4, d2 7 [13] 4 13, d0 8 [2], d3 4 [7, 9, 10], d3 9 [12, 14, 15], d0 10 [11, 16], d2 11 [6, 17] 6 6]
noncomputable def F_impl_Group_powCipher (a0 : Group) (a1 : Cipher) (a2 : Int) : Option (Cipher) :=
 (F_impl_Group_pow a0 a1.A a2).bind fun z1 =>
 (F_impl_Group_pow a0 a1.B a2).bind fun z2 =>
 some (Cipher.mk z1 z2)
theorem c_impl_Group_powCipher : ∀ {a0} {a1} {a2} {r}, F_impl_Group_powCipher a0 a1 a2 = some r → PCalls Tryz.prog 40 [(.sh, .agg [.int .i64 a0.P, .int .i64 a0.Q, .int .i64 a0.G]), (.sh, .agg [.int .i64 a1.A, .int .i64 a1.B]), (.sh, .int .i64 a2)] (Eo (.agg [.int .i64 r.A, .int .i64 r.B]) [.junk, .junk, .junk]) := by
 intro a0 a1 a2 r hr
 apply pF 18 [] [] [] [.cell 6 42] hr cl40 Tryz.func40
 intro Φ hΦ hF g
 unfold F_impl_Group_powCipher at hF
 try simp [go_sem, g]
 refine pw_wk ?_
 repeat rw [sq]
 refine pw_draw D40_1 follows (by kernel_rfl) rfl ?_
 try simp only [go_sem, D40_1]
 try simp [go_sem, g]
 refine pC hF [.sh, .sh, .sh] c_impl_Group_pow (fun z1 hF => ?_)
 try simp [go_sem, g]
 refine pC hF [.sh, .sh, .sh] c_impl_Group_pow (fun z2 hF => ?_)
 try simp [go_sem, g]
 refine pw_wkK [6] (by simp [go_sem, g]; rfl) ?_
 cases hΦ _ (Rn_some hF)
 try simp [go_sem, g]
noncomputable def F_impl_Group_mul (a0 : Group) (a1 : (List Int)) : Option (Int) :=
 ((rloop (σ := Int) (fun i5 s4 =>
 (ix a1 i5).bind fun x11 =>
 gd (a0.P ≠ 0) <|
 some (.go ((i64.wrap (s4 * x11)).tmod a0.P))) (fun s4 => s4) (a1.length) 0 1 : Option (Int)).bind fun x3 =>
 some x3)
theorem c_impl_Group_mul : ∀ {a0} {a1} {r}, F_impl_Group_mul a0 a1 = some r → PCalls Tryz.prog 70 [(.sh, .agg [.int .i64 a0.P, .int .i64 a0.Q, .int .i64 a0.G]), (.sh, .sl false 1 (a1.map row_i64))] (Eo (.int .i64 r) [.junk, .junk]) := by
 intro a0 a1 r hr
 apply pF 22 [] [] [] [.tmp 4] hr cl70 Tryz.func70
 intro Φ hΦ hF g
 unfold F_impl_Group_mul at hF
 iterate 3 (try simp [go_sem, g]; try intros; refine pw_wk ?_)
 repeat rw [sq]
 refine pJ hF (fun x3 => [(5, .v (.int .i64 x3))]) (fun x3 hF => ?_) fun _ hj1 hF => ?_
 ·cases hΦ _ (Rn_some hF)
  try simp [go_sem, g]
  refine pw_wk ?_
  try simp [go_sem, g]
 ·repeat rw [sq]
  rw [pw_block]
  obtain ⟨b12, hb13, hψ8⟩ := hF
  refine pR hb13 (fun i5 s4 => [(2, .bl [.int .i64 a0.P, .int .i64 a0.Q, .int .i64 a0.G]), (5, .v (.int .i64 s4)), (8, .v (.sl false 1 (a1.map row_i64))), (9, .v (.int .i64 (a1.length : Int))), (10, .v (.int .i64 i5))]) (fun s4 _ hN14 => ?_) (fun i5 s4 _ _ hi9 hi10 ho6 hg7 hF => ?_)
  ·subst hN14
   try simp [go_sem]
   refine pw_wk ?_
   repeat rw [sq]
   refine pw_cond_f (by simp [go_sem]) ?_
   try simp [go_sem]
   exact pT (hj1 s4) hψ8 (by simp [go_sem])
  ·try simp [go_sem, g]
   refine pw_wk ?_
   repeat rw [sq]
   refine pw_cond_t (by simp [go_sem, g, hi9, hi10]) ?_
   try simp [go_sem, g]
   refine pw_wk ?_
   repeat rw [sq]
   rw [pw_block]
   obtain ⟨x11, g, hF⟩ := Rx g hF
   try simp [go_sem, g]
   refine pw_wkK [2, 5, 7, 8, 9, 10] (by simp [go_sem, g]; rfl) ?_
   obtain ⟨g, hF⟩ := Rz g hF
   try simp [go_sem, g]
   refine pw_wk ?_
   try simp [go_sem, g]
   exact pT (hg7 ((i64.wrap (s4 * x11)).tmod a0.P)) (Rn_some hF) (by simp [go_sem, g, wr_i hi9 hi10 (by assumption)])
def D39_1 : List DE := [d2 0 [3] 3 3, d1 1 [4] 4, d2 2 [8] 4 8, d1 3 [5] 5, d2 4 [10] 5 10, d0 5 [9, 11], d2 7 [3] 3 3, d1 8 [4] 4, d2 9 [15] 4 15, d1 10 [5] 5, d2 11 [17] 5 17, d0 12 [16, 18], ⟨6, [7, 12], [], none, true, true, true⟩, ⟨13, [14, 19], [], none, true, true, true⟩, d0 14 [13, 20], d2 15 [6, 21] 6 6]
noncomputable def F_impl_Group_mulTwo (a0 : Group) (a1 : Cipher) (a2 : Cipher) : Option (Cipher) :=
 (F_impl_Group_mul a0 [a1.A, a2.A]).bind fun z1 =>
 (F_impl_Group_mul a0 [a1.B, a2.B]).bind fun z2 =>
 some (Cipher.mk z1 z2)
theorem c_impl_Group_mulTwo : ∀ {a0} {a1} {a2} {r}, F_impl_Group_mulTwo a0 a1 a2 = some r → PCalls Tryz.prog 39 [(.sh, .agg [.int .i64 a0.P, .int .i64 a0.Q, .int .i64 a0.G]), (.sh, .agg [.int .i64 a1.A, .int .i64 a1.B]), (.sh, .agg [.int .i64 a2.A, .int .i64 a2.B])] (Eo (.agg [.int .i64 r.A, .int .i64 r.B]) [.junk, .junk, .junk]) := by
 intro a0 a1 a2 r hr
 apply pF 22 [] [] [] [.cell 6 42] hr cl39 Tryz.func39
 intro Φ hΦ hF g
 unfold F_impl_Group_mulTwo at hF
 try simp [go_sem, g]
 refine pw_wk ?_
 repeat rw [sq]
 refine pw_draw D39_1 follows (by kernel_rfl) rfl ?_
 try simp only [go_sem, D39_1]
 try simp [go_sem, g]
 refine pC hF [.sh, .sh] c_impl_Group_mul (fun z1 hF => ?_)
 try simp [go_sem, g]
 refine pC hF [.sh, .sh] c_impl_Group_mul (fun z2 hF => ?_)
 try simp [go_sem, g]
 refine pw_wkK [6] (by simp [go_sem, g]; rfl) ?_
 cases hΦ _ (Rn_some hF)
 try simp [go_sem, g]
noncomputable def F_impl_Contest_most (a0 : Contest) : Option (Int) :=
 if (a0.Kind == 2) = true then (
 some a0.Points) else (
 some 1)
theorem c_impl_Contest_most : ∀ {a0} {r}, F_impl_Contest_most a0 = some r → PCalls Tryz.prog 42 [(.sh, .agg [.int .i64 a0.Kind, .int .i64 a0.Options, .int .i64 a0.Least, .int .i64 a0.Most, .int .i64 a0.Points])] (Eo (.int .i64 r) [.junk]) := by
 intro a0 r hr
 apply pF 8 [] [] [] [.tmp 2] hr cl42 Tryz.func42
 intro Φ hΦ hF g
 unfold F_impl_Contest_most at hF
 iterate 2 (try simp [go_sem, g]; refine pw_wk ?_)
 repeat rw [sq]
 refine pI hF (fun h1 hF => ?_) (fun h1 hF => ?_)
 ·cases hΦ _ (Rn_some hF)
  try simp [go_sem, g]
  refine pw_wk ?_
  try simp [go_sem, g]
 ·cases hΦ _ (Rn_some hF)
  iterate 2 (try simp [go_sem, g]; refine pw_wk ?_)
  try simp [go_sem, g]
noncomputable def F_impl_Group_exp (a0 : Group) (a1 : Int) : Option (Int) :=
 (F_impl_mod a1 a0.Q).bind fun z1 =>
 some z1
theorem c_impl_Group_exp : ∀ {a0} {a1} {r}, F_impl_Group_exp a0 a1 = some r → PCalls Tryz.prog 41 [(.sh, .agg [.int .i64 a0.P, .int .i64 a0.Q, .int .i64 a0.G]), (.sh, .int .i64 a1)] (Eo (.int .i64 r) [.junk, .junk]) := by
 intro a0 a1 r hr
 apply pF 9 [] [] [] [.tmp 4] hr cl41 Tryz.func41
 intro Φ hΦ hF g
 unfold F_impl_Group_exp at hF
 try simp [go_sem, g]
 refine pw_wk ?_
 try simp [go_sem, g]
 refine pC hF [.sh, .sh] c_impl_mod (fun z1 hF => ?_)
 cases hΦ _ (Rn_some hF)
 try simp [go_sem, g]
 refine pw_wk ?_
 try simp [go_sem, g]
def D9_1 : List DE := [d2 0 [3] 3 3, d2 1 [4] 4 4, d3 2 [12, 13], d0 3 [14], d0 4 [15], d1 5 [5, 16] 5, d2 6 [17, 16] 5 17, d0 7 [18, 16], d2 8 [4, 16] 4 4, d3 9 [20, 16], d0 10 [19, 21, 16], d0 11 [16, 22], d0 12 [23], d2 13 [3, 24] 3 3, d1 14 [5, 24] 5, d2 15 [26, 24] 5 26, d3 16 [25, 27, 24], d0 17 [28, 24], d0 18 [24, 29]]
def D9_7 : List DE := [d2 0 [3] 3 3, d2 1 [8] 8 8, d2 2 [3] 3 3, d2 3 [11] 11 11, d0 4 [9], d2 7 [3] 3 3, d0 8 [9], d2 9 [4] 4 4, d3 5 [42, 43, 44], d3 6 [40, 41, 45], d3 10 [49], d0 11 [50], d0 12 [48, 51], d3 13 [47, 52], d2 14 [8, 46] 8 8, d0 15 [53]]
noncomputable def F_impl_MixCipher (a0 : Group) (a1 : Contest) (a2 : Sealed) : Option (Cipher × Bool) :=
 (((F_impl_IsSealable a0 a1).bind fun z4 =>
 if (!z4) = true then (
 some true) else (
 (F_impl_Contest_width a1).bind fun z6 =>
 if ((a2.Ciphers.length : Int) != z6) = true then (
 some true) else (
 (F_impl_Group_hasCiphers a0 a2.Ciphers).bind fun z8 =>
 some (!z8))) : Option (Bool)).bind fun x3 =>
 if x3 = true then (
 some ((Cipher.mk 0 0), false)) else (
 ((rloop (σ := Int × Int × Int) (fun i26 s25 =>
 (ix a2.Ciphers i26).bind fun x32 =>
 (F_impl_Group_powCipher a0 x32 s25.2.2).bind fun z33 =>
 (F_impl_Group_mulTwo a0 (Cipher.mk s25.1 s25.2.1) z33).bind fun z34 =>
 (F_impl_Contest_most a1).bind fun z35 =>
 (F_impl_Group_exp a0 (i64.wrap (s25.2.2 * (i64.wrap (z35 + 1))))).bind fun z36 =>
 some (.go (z34.A, z34.B, z36))) (fun s25 => (s25.1, s25.2.1)) (a2.Ciphers.length) 0 (1, 1, 1) : Option ((Int × Int))).bind fun x12 =>
 some ((Cipher.mk x12.1 x12.2), true))))
theorem c_impl_MixCipher : ∀ {a0} {a1} {a2} {r}, F_impl_MixCipher a0 a1 a2 = some r → PCalls Tryz.prog 9 [(.sh, .agg [.int .i64 a0.P, .int .i64 a0.Q, .int .i64 a0.G]), (.sh, .agg [.int .i64 a1.Kind, .int .i64 a1.Options, .int .i64 a1.Least, .int .i64 a1.Most, .int .i64 a1.Points]), (.sh, .agg [.int .i64 a2.Voter, .sl false 2 (a2.Ciphers.map row_Cipher), .sl false 3 (a2.Proofs.map row_Proof_zzz), .sl false 1 (a2.Sum.Commits.map row_i64), .sl false 1 (a2.Sum.Challenges.map row_i64), .sl false 1 (a2.Sum.Responses.map row_i64)])] (Eo (.tup [.agg [.int .i64 r.1.A, .int .i64 r.1.B], .bool r.2]) [.junk, .junk, .junk]) := by
 intro a0 a1 a2 r hr
 apply pF 56 [] [] [] [.cell 6 42, .tmp 7] hr cl9 Tryz.func9
 intro Φ hΦ hF g
 unfold F_impl_MixCipher at hF
 try simp [go_sem, g]
 refine pw_wk ?_
 repeat rw [sq]
 refine pJ hF (fun x3 => [(3, .bl [.int .i64 a0.P, .int .i64 a0.Q, .int .i64 a0.G]), (4, .bl [.int .i64 a1.Kind, .int .i64 a1.Options, .int .i64 a1.Least, .int .i64 a1.Most, .int .i64 a1.Points]), (5, .bl [.int .i64 a2.Voter, .sl false 2 (a2.Ciphers.map row_Cipher), .sl false 3 (a2.Proofs.map row_Proof_zzz), .sl false 1 (a2.Sum.Commits.map row_i64), .sl false 1 (a2.Sum.Challenges.map row_i64), .sl false 1 (a2.Sum.Responses.map row_i64)]), (6, .bl [.int .i64 0, .int .i64 0]), (30, .v (.bool x3))]) (fun x3 hF => ?_) fun _ hj1 hF => ?_
 ·repeat rw [sq]
  refine pI hF (fun h9 hF => ?_) (fun h9 hF => ?_)
  ·cases hΦ _ (Rn_some hF)
   try simp [go_sem, g]
   refine pw_wk ?_
   try simp [go_sem, g]
  ·iterate 2 (try simp [go_sem, g]; try intros; refine pw_wk ?_)
   try simp [go_sem, g]
   try intros
   refine pw_wkK [3, 4, 6, 8, 9, 34, 35, 36] (by simp [go_sem, g]; rfl) ?_
   repeat rw [sq]
   refine pJ hF (fun x12 => [(6, .bl [.int .i64 0, .int .i64 0]), (8, .bl [.int .i64 x12.1, .int .i64 x12.2])]) (fun x12 hF => ?_) fun _ hj10 hF => ?_
   ·cases hΦ _ (Rn_some hF)
    try simp [go_sem, g]
    refine pw_wk ?_
    try simp [go_sem, g]
   ·repeat rw [sq]
    rw [pw_block]
    obtain ⟨b37, hb38, hψ29⟩ := hF
    refine pR hb38 (fun i26 s25 => [(3, .bl [.int .i64 a0.P, .int .i64 a0.Q, .int .i64 a0.G]), (4, .bl [.int .i64 a1.Kind, .int .i64 a1.Options, .int .i64 a1.Least, .int .i64 a1.Most, .int .i64 a1.Points]), (6, .bl [.int .i64 0, .int .i64 0]), (8, .bl [.int .i64 s25.1, .int .i64 s25.2.1]), (9, .v (.int .i64 s25.2.2)), (34, .v (.sl false 2 (a2.Ciphers.map row_Cipher))), (35, .v (.int .i64 (a2.Ciphers.length : Int))), (36, .v (.int .i64 i26))]) (fun s25 _ hN39 => ?_) (fun i26 s25 _ _ hi30 hi31 ho27 hg28 hF => ?_)
    ·subst hN39
     try simp [go_sem]
     refine pw_wk ?_
     repeat rw [sq]
     refine pw_cond_f (by simp [go_sem]) ?_
     try simp [go_sem]
     exact pT (hj10 (s25.1, s25.2.1)) hψ29 (by simp [go_sem])
    ·try simp [go_sem, g]
     refine pw_wk ?_
     repeat rw [sq]
     refine pw_cond_t (by simp [go_sem, g, hi30, hi31]) ?_
     try simp [go_sem, g]
     refine pw_wk ?_
     repeat rw [sq]
     rw [pw_block]
     obtain ⟨x32, g, hF⟩ := Rx g hF
     try simp [go_sem, g]
     refine pw_wk ?_
     repeat rw [sq]
     refine pw_draw D9_7 follows (by kernel_rfl) rfl ?_
     try simp only [go_sem, D9_7]
     try simp [go_sem, g]
     refine pC hF [.sh, .sh, .sh] c_impl_Group_powCipher (fun z33 hF => ?_)
     try simp [go_sem, g]
     refine pC hF [.sh, .sh, .sh] c_impl_Group_mulTwo (fun z34 hF => ?_)
     try simp [go_sem, g]
     refine pC hF [.sh] c_impl_Contest_most (fun z35 hF => ?_)
     try simp [go_sem, g]
     refine pC hF [.sh, .sh] c_impl_Group_exp (fun z36 hF => ?_)
     try simp [go_sem, g]
     refine pw_wkK [3, 4, 6, 8, 9, 34, 35, 36] (by simp [go_sem, g]; rfl) ?_
     try simp [go_sem, g]
     exact pT (hg28 (z34.A, z34.B, z36)) (Rn_some hF) (by simp [go_sem, g, wr_i hi30 hi31 (by assumption)])
 ·repeat rw [sq]
  refine pw_draw D9_1 follows (by kernel_rfl) rfl ?_
  try simp only [go_sem, D9_1]
  try simp [go_sem, g]
  refine pC hF [.sh, .sh] c_impl_IsSealable (fun z4 hF => ?_)
  try simp [go_sem, g]
  refine pwgD_F hF (fun h5 hF => ?_) fun h5 hF => ?_
  ·try simp [go_sem, g, h5]
   exact pT (hj1 true) (Rn_some hF)
  ·try simp [go_sem, g, h5]
   try intros
   refine pC hF [.sh] c_impl_Contest_width (fun z6 hF => ?_)
   try simp [go_sem, g, h5]
   refine pwgD_F hF (fun h7 hF => ?_) fun h7 hF => ?_
   ·try simp [go_sem, g, h7]
    exact pT (hj1 true) (Rn_some hF)
   ·try simp [go_sem, g, h7]
    refine pC hF [.sh, .sh] c_impl_Group_hasCiphers (fun z8 hF => ?_)
    try simp [go_sem, g, h7]
    exact pT (hj1 (!z8)) (Rn_some hF)
noncomputable def F_spec_vGood (a0 : Contest) (a1 : (List Int)) : Option (Bool) :=
 (((F_spec_vContest a0).bind fun z4 =>
 if z4 = true then (
 (F_spec_vVote a0 a1).bind fun z6 =>
 some z6) else (
 some false) : Option (Bool)).bind fun x3 =>
 some x3)
theorem c_spec_vGood : ∀ {a0} {a1} {r}, F_spec_vGood a0 a1 = some r → PCalls Tryz.prog 43 [(.sh, .agg [.int .i64 a0.Kind, .int .i64 a0.Options, .int .i64 a0.Least, .int .i64 a0.Most, .int .i64 a0.Points]), (.sh, .sl false 1 (a1.map row_i64))] (Eo (.bool r) [.junk, .junk]) := by
 intro a0 a1 r hr
 apply pF 12 [] [] [] [.tmp 4] hr cl43 Tryz.func43
 intro Φ hΦ hF g
 unfold F_spec_vGood at hF
 try simp [go_sem, g]
 refine pw_wk ?_
 repeat rw [sq]
 refine pJ hF (fun x3 => [(4, .v (.bool x3))]) (fun x3 hF => ?_) fun _ hj1 hF => ?_
 ·cases hΦ _ (Rn_some hF)
  try simp [go_sem, g]
 ·try simp [go_sem, g]
  refine pC hF [.sh] c_spec_vContest (fun z4 hF => ?_)
  try simp [go_sem, g]
  refine pwg_F hF (fun h5 hF => ?_) fun h5 hF => ?_
  ·try simp [go_sem, g, h5]
   refine pC hF [.sh, .sh] c_spec_vVote (fun z6 hF => ?_)
   try simp [go_sem, g, h5]
   exact pT (hj1 z6) (Rn_some hF)
  ·try simp [go_sem, g, h5]
   exact pT (hj1 false) (Rn_some hF)
noncomputable def F_spec_CodeOf (a0 : Contest) (a1 : (List Int)) : Option (Int × Bool) :=
 (F_spec_vGood a0 a1).bind fun z1 =>
 if (!z1) = true then (
 some (0, false)) else (
 (F_spec_vCode a0 a1).bind fun z3 =>
 some (z3, true))
theorem c_spec_CodeOf : ∀ {a0} {a1} {r}, F_spec_CodeOf a0 a1 = some r → PCalls Tryz.prog 10 [(.sh, .agg [.int .i64 a0.Kind, .int .i64 a0.Options, .int .i64 a0.Least, .int .i64 a0.Most, .int .i64 a0.Points]), (.sh, .sl false 1 (a1.map row_i64))] (Eo (.tup [.int .i64 r.1, .bool r.2]) [.junk, .junk]) := by
 intro a0 a1 r hr
 apply pF 13 [] [] [] [.tmp 4, .tmp 5] hr cl10 Tryz.func10
 intro Φ hΦ hF g
 unfold F_spec_CodeOf at hF
 try simp [go_sem, g]
 refine pw_wk ?_
 try simp [go_sem, g]
 refine pC hF [.sh, .sh] c_spec_vGood (fun z1 hF => ?_)
 try simp [go_sem, g]
 refine pw_wk ?_
 repeat rw [sq]
 refine pI hF (fun h2 hF => ?_) (fun h2 hF => ?_)
 ·cases hΦ _ (Rn_some hF)
  try simp [go_sem, g]
  refine pw_wk ?_
  try simp [go_sem, g]
 ·try simp [go_sem, g]
  refine pw_wk ?_
  try simp [go_sem, g]
  refine pC hF [.sh, .sh] c_spec_vCode (fun z3 hF => ?_)
  try simp [go_sem, g]
  refine pw_wkK [4, 5] (by simp [go_sem, g]; rfl) ?_
  cases hΦ _ (Rn_some hF)
  try simp [go_sem, g]
noncomputable def F_spec_eGood (a0 : Group) (a1 : (List Cipher)) : Option (Bool) :=
 if decide (24 < (a1.length : Int)) = true then (
 some false) else (
 ((rloop (σ := Unit) (fun i6 s5 =>
 (ix a1 i6).bind fun x12 =>
 (F_spec_gIs a0 [x12.A, x12.B]).bind fun z13 =>
 if (!z13) = true then (
 some (.out (.inr false))) else (
 some (.go ()))) (fun s5 => .inl ()) (a1.length) 0 () : Option (Unit ⊕ Bool)).bind (Sum.elim (fun x4 =>
 some true) some)))
theorem c_spec_eGood : ∀ {a0} {a1} {r}, F_spec_eGood a0 a1 = some r → PCalls Tryz.prog 45 [(.sh, .agg [.int .i64 a0.P, .int .i64 a0.Q, .int .i64 a0.G]), (.sh, .sl false 2 (a1.map row_Cipher))] (Eo (.bool r) [.junk, .junk]) := by
 intro a0 a1 r hr
 apply pF 25 [] [] [] [.tmp 4] hr cl45 Tryz.func45
 intro Φ hΦ hF g
 unfold F_spec_eGood at hF
 iterate 2 (try simp [go_sem, g]; try intros; refine pw_wk ?_)
 repeat rw [sq]
 refine pI hF (fun h1 hF => ?_) (fun h1 hF => ?_)
 ·cases hΦ _ (Rn_some hF)
  try simp [go_sem, g]
  refine pw_wk ?_
  try simp [go_sem, g]
 ·iterate 2 (try simp [go_sem, g]; try intros; refine pw_wk ?_)
  repeat rw [sq]
  refine pJs hF (fun x4 => []) (fun x4 hF => ?_) fun _ hj2 hr3 hF => ?_
  ·cases hΦ _ (Rn_some hF)
   try simp [go_sem, g]
   refine pw_wk ?_
   try simp [go_sem, g]
  ·repeat rw [sq]
   rw [pw_block]
   obtain ⟨b15, hb16, hψ9⟩ := hF
   refine pR hb16 (fun i6 s5 => [(2, .bl [.int .i64 a0.P, .int .i64 a0.Q, .int .i64 a0.G]), (10, .v (.sl false 2 (a1.map row_Cipher))), (11, .v (.int .i64 (a1.length : Int))), (12, .v (.int .i64 i6))]) (fun s5 _ hN17 => ?_) (fun i6 s5 _ _ hi10 hi11 ho7 hg8 hF => ?_)
   ·subst hN17
    try simp [go_sem]
    refine pw_wk ?_
    repeat rw [sq]
    refine pw_cond_f (by simp [go_sem]) ?_
    try simp [go_sem]
    exact pT (hj2 ()) hψ9 (by simp [go_sem])
   ·try simp [go_sem, g]
    refine pw_wk ?_
    repeat rw [sq]
    refine pw_cond_t (by simp [go_sem, g, hi10, hi11]) ?_
    try simp [go_sem, g]
    refine pw_wk ?_
    repeat rw [sq]
    rw [pw_block]
    obtain ⟨x12, g, hF⟩ := Rx g hF
    try simp [go_sem, g]
    refine pw_wkK [2, 6, 10, 11, 12] (by simp [go_sem, g]; rfl) ?_
    try simp [go_sem, g]
    refine pC hF [.sh, .sh] c_spec_gIs (fun z13 hF => ?_)
    try simp [go_sem, g]
    refine pw_wk ?_
    repeat rw [sq]
    refine pI hF (fun h14 hF => ?_) (fun h14 hF => ?_)
    ·cases ho7 _ (Rn_some hF)
     cases hΦ _ (hr3 _ hψ9)
     try simp [go_sem, g]
     refine pw_wk ?_
     try simp [go_sem, g]
    ·try simp [go_sem, g]
     refine pw_wk ?_
     try simp [go_sem, g]
     exact pT (hg8 ()) (Rn_some hF) (by simp [go_sem, g, wr_i hi10 hi11 (by assumption)])
noncomputable def F_spec_gInv (a0 : Group) (a1 : Int) : Option (Int) :=
 (F_spec_nPower a1 (i64.wrap (a0.Q - 1)) a0.P).bind fun z1 =>
 some z1
theorem c_spec_gInv : ∀ {a0} {a1} {r}, F_spec_gInv a0 a1 = some r → PCalls Tryz.prog 112 [(.sh, .agg [.int .i64 a0.P, .int .i64 a0.Q, .int .i64 a0.G]), (.sh, .int .i64 a1)] (Eo (.int .i64 r) [.junk, .junk]) := by
 intro a0 a1 r hr
 apply pF 12 [] [] [] [.tmp 4] hr cl112 Tryz.func112
 intro Φ hΦ hF g
 unfold F_spec_gInv at hF
 try simp [go_sem, g]
 refine pw_wk ?_
 try simp [go_sem, g]
 refine pC hF [.sh, .sh, .sh] c_spec_nPower (fun z1 hF => ?_)
 try simp [go_sem, g]
 refine pw_wkK [4] (by simp [go_sem, g]; rfl) ?_
 cases hΦ _ (Rn_some hF)
 try simp [go_sem, g]
def D46_1 : List DE := [d2 0 [3] 3 3, d1 1 [5] 5, d2 2 [8] 5 8, d2 3 [3] 3 3, d2 4 [3] 3 3, d1 5 [5] 5, d2 6 [12] 5 12, d0 7 [1], d3 8 [11, 13, 14], d3 9 [10, 15], d0 10 [9, 16], ⟨11, [7, 17], [], none, true, true, true⟩, d0 12 [18]]
noncomputable def F_spec_eDec (a0 : Group) (a1 : Int) (a2 : Cipher) : Option (Int) :=
 (F_spec_gExp a0 a2.A a1).bind fun z1 =>
 (F_spec_gInv a0 z1).bind fun z2 =>
 (F_spec_gMul a0 [a2.B, z2]).bind fun z3 =>
 some z3
theorem c_spec_eDec : ∀ {a0} {a1} {a2} {r}, F_spec_eDec a0 a1 a2 = some r → PCalls Tryz.prog 46 [(.sh, .agg [.int .i64 a0.P, .int .i64 a0.Q, .int .i64 a0.G]), (.sh, .int .i64 a1), (.sh, .agg [.int .i64 a2.A, .int .i64 a2.B])] (Eo (.int .i64 r) [.junk, .junk, .junk]) := by
 intro a0 a1 a2 r hr
 apply pF 19 [] [] [] [.tmp 6] hr cl46 Tryz.func46
 intro Φ hΦ hF g
 unfold F_spec_eDec at hF
 try simp [go_sem, g]
 refine pw_wk ?_
 repeat rw [sq]
 refine pw_draw D46_1 follows (by kernel_rfl) rfl ?_
 try simp only [go_sem, D46_1]
 try simp [go_sem, g]
 refine pC hF [.sh, .sh, .sh] c_spec_gExp (fun z1 hF => ?_)
 try simp [go_sem, g]
 refine pC hF [.sh, .sh] c_spec_gInv (fun z2 hF => ?_)
 try simp [go_sem, g]
 refine pC hF [.sh, .sh] c_spec_gMul (fun z3 hF => ?_)
 try simp [go_sem, g]
 refine pw_wkK [6] (by simp [go_sem, g]; rfl) ?_
 cases hΦ _ (Rn_some hF)
 try simp [go_sem, g]
noncomputable def F_spec_DecryptElement (a0 : Group) (a1 : Int) (a2 : Cipher) : Option (Int × Bool) :=
 (((F_spec_l2Good a0).bind fun z4 =>
 if (!z4) = true then (
 some true) else (
 (F_spec_eGood a0 [a2]).bind fun z6 =>
 if (!z6) = true then (
 some true) else (
 (F_spec_gExps a0 [a1]).bind fun z8 =>
 some (!z8))) : Option (Bool)).bind fun x3 =>
 if x3 = true then (
 some (0, false)) else (
 (F_spec_eDec a0 a1 a2).bind fun z10 =>
 some (z10, true)))
theorem c_spec_DecryptElement : ∀ {a0} {a1} {a2} {r}, F_spec_DecryptElement a0 a1 a2 = some r → PCalls Tryz.prog 11 [(.sh, .agg [.int .i64 a0.P, .int .i64 a0.Q, .int .i64 a0.G]), (.sh, .int .i64 a1), (.sh, .agg [.int .i64 a2.A, .int .i64 a2.B])] (Eo (.tup [.int .i64 r.1, .bool r.2]) [.junk, .junk, .junk]) := by
 intro a0 a1 a2 r hr
 apply pF 29 [] [] [] [.tmp 6, .tmp 7] hr cl11 Tryz.func11
 intro Φ hΦ hF g
 unfold F_spec_DecryptElement at hF
 try simp [go_sem, g]
 refine pw_wk ?_
 repeat rw [sq]
 refine pJ hF (fun x3 => [(1, .v (.int .i64 a1)), (3, .bl [.int .i64 a0.P, .int .i64 a0.Q, .int .i64 a0.G]), (5, .bl [.int .i64 a2.A, .int .i64 a2.B]), (24, .v (.bool x3))]) (fun x3 hF => ?_) fun _ hj1 hF => ?_
 ·repeat rw [sq]
  refine pI hF (fun h9 hF => ?_) (fun h9 hF => ?_)
  ·cases hΦ _ (Rn_some hF)
   try simp [go_sem, g]
   refine pw_wk ?_
   try simp [go_sem, g]
  ·try simp [go_sem, g]
   refine pw_wk ?_
   try simp [go_sem, g]
   refine pC hF [.sh, .sh, .sh] c_spec_eDec (fun z10 hF => ?_)
   try simp [go_sem, g]
   refine pw_wkK [6, 7] (by simp [go_sem, g]; rfl) ?_
   cases hΦ _ (Rn_some hF)
   try simp [go_sem, g]
 ·try simp [go_sem, g]
  refine pC hF [.sh] c_spec_l2Good (fun z4 hF => ?_)
  try simp [go_sem, g]
  refine pwg_F hF (fun h5 hF => ?_) fun h5 hF => ?_
  ·try simp [go_sem, g, h5]
   exact pT (hj1 true) (Rn_some hF)
  ·try simp [go_sem, g, h5]
   refine pC hF [.sh, .sh] c_spec_eGood (fun z6 hF => ?_)
   try simp [go_sem, g, h5]
   refine pwg_F hF (fun h7 hF => ?_) fun h7 hF => ?_
   ·try simp [go_sem, g, h7]
    exact pT (hj1 true) (Rn_some hF)
   ·try simp [go_sem, g, h7]
    refine pC hF [.sh, .sh] c_spec_gExps (fun z8 hF => ?_)
    try simp [go_sem, g, h7]
    exact pT (hj1 (!z8)) (Rn_some hF)
noncomputable def F_spec_ExpOf (a0 : Group) (a1 : Int) (a2 : Int) : Option (Int × Bool) :=
 (((F_spec_l2Good a0).bind fun z4 =>
 if (!z4) = true then (
 some true) else (
 (F_spec_gIs a0 [a1]).bind fun z6 =>
 if (!z6) = true then (
 some true) else (
 (F_spec_gExps a0 [a2]).bind fun z8 =>
 some (!z8))) : Option (Bool)).bind fun x3 =>
 if x3 = true then (
 some (0, false)) else (
 (F_spec_gExp a0 a1 a2).bind fun z10 =>
 some (z10, true)))
theorem c_spec_ExpOf : ∀ {a0} {a1} {a2} {r}, F_spec_ExpOf a0 a1 a2 = some r → PCalls Tryz.prog 12 [(.sh, .agg [.int .i64 a0.P, .int .i64 a0.Q, .int .i64 a0.G]), (.sh, .int .i64 a1), (.sh, .int .i64 a2)] (Eo (.tup [.int .i64 r.1, .bool r.2]) [.junk, .junk, .junk]) := by
 intro a0 a1 a2 r hr
 apply pF 29 [] [] [] [.tmp 6, .tmp 7] hr cl12 Tryz.func12
 intro Φ hΦ hF g
 unfold F_spec_ExpOf at hF
 try simp [go_sem, g]
 refine pw_wk ?_
 repeat rw [sq]
 refine pJ hF (fun x3 => [(1, .v (.int .i64 a1)), (2, .v (.int .i64 a2)), (3, .bl [.int .i64 a0.P, .int .i64 a0.Q, .int .i64 a0.G]), (24, .v (.bool x3))]) (fun x3 hF => ?_) fun _ hj1 hF => ?_
 ·repeat rw [sq]
  refine pI hF (fun h9 hF => ?_) (fun h9 hF => ?_)
  ·cases hΦ _ (Rn_some hF)
   try simp [go_sem, g]
   refine pw_wk ?_
   try simp [go_sem, g]
  ·try simp [go_sem, g]
   refine pw_wk ?_
   try simp [go_sem, g]
   refine pC hF [.sh, .sh, .sh] c_spec_gExp (fun z10 hF => ?_)
   cases hΦ _ (Rn_some hF)
   try simp [go_sem, g]
   refine pw_wk ?_
   try simp [go_sem, g]
 ·try simp [go_sem, g]
  refine pC hF [.sh] c_spec_l2Good (fun z4 hF => ?_)
  try simp [go_sem, g]
  refine pwg_F hF (fun h5 hF => ?_) fun h5 hF => ?_
  ·try simp [go_sem, g, h5]
   exact pT (hj1 true) (Rn_some hF)
  ·try simp [go_sem, g, h5]
   refine pC hF [.sh, .sh] c_spec_gIs (fun z6 hF => ?_)
   try simp [go_sem, g, h5]
   refine pwg_F hF (fun h7 hF => ?_) fun h7 hF => ?_
   ·try simp [go_sem, g, h7]
    exact pT (hj1 true) (Rn_some hF)
   ·try simp [go_sem, g, h7]
    refine pC hF [.sh, .sh] c_spec_gExps (fun z8 hF => ?_)
    try simp [go_sem, g, h7]
    exact pT (hj1 (!z8)) (Rn_some hF)
noncomputable def F_laws_FnMixCodes (a0 : (List Int)) (a1 : (List Int)) : Option (Bool) :=
 (F_laws_big a0 a1).bind fun z1 =>
 if z1 = true then (
 some true) else (
 (F_spec_DrawSealVote a0).bind fun z3 =>
 (F_spec_KeyOf z3.1 1).bind fun z4 =>
 if (!z4.2) = true then (
 some true) else (
 (F_spec_SealVote z3.1 z4.1 z3.2.2.1 z3.2.2.2.1 z3.2.2.2.2.1 z3.2.2.2.2.2).bind fun z6 =>
 if (!z6.2) = true then (
 some true) else (
 (F_impl_MixCipher z3.1 z3.2.2.1 z6.1).bind fun z8 =>
 (F_spec_CodeOf z3.2.2.1 z3.2.2.2.2.1).bind fun z9 =>
 (F_spec_DecryptElement z3.1 1 z8.1).bind fun z10 =>
 (F_spec_ExpOf z3.1 z3.1.G z9.1).bind fun z11 =>
 ((if z8.2 = true then (
 if z9.2 = true then (
 if z10.2 = true then (
 if z11.2 = true then (
 some (z10.1 == z11.1)) else (
 some false)) else (
 some false)) else (
 some false)) else (
 some false) : Option (Bool)).bind fun x14 =>
 some x14))))
theorem c_laws_FnMixCodes : ∀ {a0} {a1} {r}, F_laws_FnMixCodes a0 a1 = some r → PCalls Tryz.prog 3 [(.sh, .sl false 1 (a0.map row_u8)), (.sh, .sl false 1 (a1.map row_u8))] (Eo (.bool r) [.junk, .junk]) := by
 intro a0 a1 r hr
 apply pF 96 [] [] [] [.tmp 4] hr cl3 Tryz.func3
 intro Φ hΦ hF g
 unfold F_laws_FnMixCodes at hF
 try simp [go_sem, g]
 refine pw_wk ?_
 try simp [go_sem, g]
 refine pC hF [.sh, .sh] c_laws_big (fun z1 hF => ?_)
 try simp [go_sem, g]
 refine pw_wk ?_
 repeat rw [sq]
 refine pI hF (fun h2 hF => ?_) (fun h2 hF => ?_)
 ·cases hΦ _ (Rn_some hF)
  try simp [go_sem, g]
  refine pw_wk ?_
  try simp [go_sem, g]
 ·try simp [go_sem, g]
  refine pw_wk ?_
  try simp [go_sem, g]
  refine pC hF [.sh] c_spec_DrawSealVote (fun z3 hF => ?_)
  try simp [go_sem, g]
  refine pw_wkK [5, 7, 8, 9, 10] (by simp [go_sem, g]; rfl) ?_
  try simp [go_sem, g]
  refine pC hF [.sh, .sh] c_spec_KeyOf (fun z4 hF => ?_)
  iterate 2 (try simp [go_sem, g]; refine pw_wk ?_)
  repeat rw [sq]
  refine pI hF (fun h5 hF => ?_) (fun h5 hF => ?_)
  ·try simp [go_sem, g]
   refine pw_wkK [4] (by simp [go_sem, g]; rfl) ?_
   cases hΦ _ (Rn_some hF)
   try simp [go_sem, g]
  ·try simp [go_sem, g]
   refine pw_wk ?_
   try simp [go_sem, g]
   refine pC hF [.sh, .sh, .sh, .sh, .sh, .sh] c_spec_SealVote (fun z6 hF => ?_)
   try simp [go_sem, g]
   refine pw_wkK [5, 7, 9, 13, 14] (by simp [go_sem, g]; rfl) ?_
   try simp [go_sem, g]
   refine pw_wk ?_
   repeat rw [sq]
   refine pI hF (fun h7 hF => ?_) (fun h7 hF => ?_)
   ·cases hΦ _ (Rn_some hF)
    try simp [go_sem, g]
    refine pw_wk ?_
    try simp [go_sem, g]
   ·try simp [go_sem, g]
    refine pw_wk ?_
    try simp [go_sem, g]
    refine pC hF [.sh, .sh, .sh] c_impl_MixCipher (fun z8 hF => ?_)
    try simp [go_sem, g]
    refine pw_wkK [5, 7, 9, 15, 16] (by simp [go_sem, g]; rfl) ?_
    try simp [go_sem, g]
    refine pC hF [.sh, .sh] c_spec_CodeOf (fun z9 hF => ?_)
    try simp [go_sem, g]
    refine pw_wk ?_
    try simp [go_sem, g]
    refine pC hF [.sh, .sh, .sh] c_spec_DecryptElement (fun z10 hF => ?_)
    try simp [go_sem, g]
    refine pw_wkK [5, 16, 17, 18, 19, 20] (by simp [go_sem, g]; rfl) ?_
    try simp [go_sem, g]
    refine pC hF [.sh, .sh, .sh] c_spec_ExpOf (fun z11 hF => ?_)
    try simp [go_sem, g]
    refine pw_wkK [16, 18, 19, 20, 21, 22] (by simp [go_sem, g]; rfl) ?_
    repeat rw [sq]
    refine pJ hF (fun x14 => [(4, .v (.bool x14))]) (fun x14 hF => ?_) fun _ hj12 hF => ?_
    ·cases hΦ _ (Rn_some hF)
     try simp [go_sem, g]
    ·try simp [go_sem, g]
     refine pwg_F hF (fun h15 hF => ?_) fun h15 hF => ?_
     ·try simp [go_sem, g, h15]
      refine pwg_F hF (fun h16 hF => ?_) fun h16 hF => ?_
      ·try simp [go_sem, g, h16]
       refine pwg_F hF (fun h17 hF => ?_) fun h17 hF => ?_
       ·try simp [go_sem, g, h17]
        refine pwg_F hF (fun h18 hF => ?_) fun h18 hF => ?_
        ·try simp [go_sem, g, h18]
         exact pT (hj12 (z10.1 == z11.1)) (Rn_some hF)
        ·try simp [go_sem, g, h18]
         exact pT (hj12 false) (Rn_some hF)
       ·try simp [go_sem, g, h17]
        exact pT (hj12 false) (Rn_some hF)
      ·try simp [go_sem, g, h16]
       exact pT (hj12 false) (Rn_some hF)
     ·try simp [go_sem, g, h15]
      exact pT (hj12 false) (Rn_some hF)
end Go.Pm
