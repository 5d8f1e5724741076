/-
  Plain functions and their walks. Written by wip/tools/lift.py.
-/
import Derived.Test.YtkoblnpbejjagaaGreatM25
namespace Go.Pm
open Go.Am IntKind
open Go.Proofs
set_option maxRecDepth 100000
attribute [local irreducible] pw pwx pw1 pwg qv qz qf
attribute [-simp] List.map_set
set_option linter.unusedSimpArgs false
set_option linter.unusedVariables false
noncomputable def F_impl_Group_isBoard (a0 : Group) (a1 : Board) : Option (Bool) :=
 (((F_impl_Group_areKeys a0 a1.Keys).bind fun z4 =>
 if (!z4) = true then (
 some true) else (
 some (decide (64 < (a1.Entries.length : Int)))) : Option (Bool)).bind fun x3 =>
 if x3 = true then (
 some false) else (
 ((rloop (σ := Unit) (fun i11 s10 =>
 (ix a1.Entries i11).bind fun x17 =>
 (((F_impl_within x17.Author 0 (i64.wrap ((a1.Keys.length : Int) - 1))).bind fun z21 =>
 if (!z21) = true then (
 some true) else (
 (ix a1.Keys x17.Author).bind fun x23 =>
 (F_impl_Group_isEntry a0 x23 i11 x17).bind fun z24 =>
 some (!z24)) : Option (Bool)).bind fun x20 =>
 if x20 = true then (
 some (.out (.inr false))) else (
 some (.go ())))) (fun s10 => .inl ()) (a1.Entries.length) 0 () : Option (Unit ⊕ Bool)).bind (Sum.elim (fun x9 =>
 some true) some))))
theorem c_impl_Group_isBoard : ∀ {a0} {a1} {r}, F_impl_Group_isBoard a0 a1 = some r → PCalls Tryz.prog 60 [(.sh, .agg [.int .i64 a0.P, .int .i64 a0.Q, .int .i64 a0.G]), (.sh, .agg [.sl false 1 (a1.Keys.map row_i64), .sl false 6 (a1.Entries.map row_Entry_z)])] (Eo (.bool r) [.junk, .junk]) := by
 intro a0 a1 r hr
 apply pF 48 [] [] [] [.tmp 4] hr cl60 Tryz.func60
 intro Φ hΦ hF g
 unfold F_impl_Group_isBoard at hF
 try simp [go_sem, g]
 refine pw_wk ?_
 repeat rw [sq]
 refine pJ hF (fun x3 => [(2, .bl [.int .i64 a0.P, .int .i64 a0.Q, .int .i64 a0.G]), (3, .bl [.sl false 1 (a1.Keys.map row_i64), .sl false 6 (a1.Entries.map row_Entry_z)]), (17, .v (.bool x3))]) (fun x3 hF => ?_) fun _ hj1 hF => ?_
 ·repeat rw [sq]
  refine pI hF (fun h6 hF => ?_) (fun h6 hF => ?_)
  ·cases hΦ _ (Rn_some hF)
   try simp [go_sem, g]
   refine pw_wk ?_
   try simp [go_sem, g]
  ·iterate 2 (try simp [go_sem, g]; try intros; refine pw_wk ?_)
   repeat rw [sq]
   refine pJs hF (fun x9 => []) (fun x9 hF => ?_) fun _ hj7 hr8 hF => ?_
   ·cases hΦ _ (Rn_some hF)
    try simp [go_sem, g]
    refine pw_wk ?_
    try simp [go_sem, g]
   ·repeat rw [sq]
    rw [pw_block]
    obtain ⟨b26, hb27, hψ14⟩ := hF
    refine pR hb27 (fun i11 s10 => [(2, .bl [.int .i64 a0.P, .int .i64 a0.Q, .int .i64 a0.G]), (3, .bl [.sl false 1 (a1.Keys.map row_i64), .sl false 6 (a1.Entries.map row_Entry_z)]), (19, .v (.sl false 6 (a1.Entries.map row_Entry_z))), (20, .v (.int .i64 (a1.Entries.length : Int))), (21, .v (.int .i64 i11))]) (fun s10 _ hN28 => ?_) (fun i11 s10 _ _ hi15 hi16 ho12 hg13 hF => ?_)
    ·subst hN28
     try simp [go_sem]
     refine pw_wk ?_
     repeat rw [sq]
     refine pw_cond_f (by simp [go_sem]) ?_
     try simp [go_sem]
     exact pT (hj7 ()) hψ14 (by simp [go_sem])
    ·try simp [go_sem, g]
     refine pw_wk ?_
     repeat rw [sq]
     refine pw_cond_t (by simp [go_sem, g, hi15, hi16]) ?_
     try simp [go_sem, g]
     refine pw_wk ?_
     repeat rw [sq]
     rw [pw_block]
     obtain ⟨x17, g, hF⟩ := Rx g hF
     try simp [go_sem, g]
     refine pw_wkK [2, 3, 5, 6, 19, 20, 21] (by simp [go_sem, g]; rfl) ?_
     repeat rw [sq]
     refine pJ hF (fun x20 => [(2, .bl [.int .i64 a0.P, .int .i64 a0.Q, .int .i64 a0.G]), (3, .bl [.sl false 1 (a1.Keys.map row_i64), .sl false 6 (a1.Entries.map row_Entry_z)]), (19, .v (.sl false 6 (a1.Entries.map row_Entry_z))), (20, .v (.int .i64 (a1.Entries.length : Int))), (21, .v (.int .i64 i11)), (46, .v (.bool x20))]) (fun x20 hF => ?_) fun _ hj18 hF => ?_
     ·repeat rw [sq]
      refine pI hF (fun h25 hF => ?_) (fun h25 hF => ?_)
      ·cases ho12 _ (Rn_some hF)
       cases hΦ _ (hr8 _ hψ14)
       try simp [go_sem, g]
       refine pw_wk ?_
       try simp [go_sem, g]
      ·try simp [go_sem, g]
       refine pw_wk ?_
       try simp [go_sem, g]
       exact pT (hg13 ()) (Rn_some hF) (by simp [go_sem, g, wr_i hi15 hi16 (by assumption)])
     ·repeat rw [sq]
      refine pw_draw D60_6 follows (by kernel_rfl) rfl ?_
      try simp only [go_sem, D60_6]
      try simp [go_sem, g]
      try intros
      refine pC hF [.sh, .sh, .sh] c_impl_within (fun z21 hF => ?_)
      try simp [go_sem, g]
      refine pwgD_F hF (fun h22 hF => ?_) fun h22 hF => ?_
      ·try simp [go_sem, g, h22]
       exact pT (hj18 true) (Rn_some hF)
      ·obtain ⟨x23, g, hF⟩ := Rx g hF
       try simp [go_sem, g, h22]
       refine pC hF [.sh, .sh, .sh, .sh] c_impl_Group_isEntry (fun z24 hF => ?_)
       try simp [go_sem, g, h22]
       exact pT (hj18 (!z24)) (Rn_some hF)
 ·try simp [go_sem, g]
  refine pC hF [.sh, .sh] c_impl_Group_areKeys (fun z4 hF => ?_)
  try simp [go_sem, g]
  refine pwg_F hF (fun h5 hF => ?_) fun h5 hF => ?_
  ·try simp [go_sem, g, h5]
   exact pT (hj1 true) (Rn_some hF)
  ·try simp [go_sem, g, h5]
   try intros
   exact pT (hj1 (decide (64 < (a1.Entries.length : Int)))) (Rn_some hF)
noncomputable def F_impl_areBoard (a0 : Group) (a1 : Board) : Option (Bool) :=
 (((F_impl_IsValidGroup a0).bind fun z4 =>
 if z4 = true then (
 (F_impl_Group_isBoard a0 a1).bind fun z6 =>
 some z6) else (
 some false) : Option (Bool)).bind fun x3 =>
 some x3)
theorem c_impl_areBoard : ∀ {a0} {a1} {r}, F_impl_areBoard a0 a1 = some r → PCalls Tryz.prog 57 [(.sh, .agg [.int .i64 a0.P, .int .i64 a0.Q, .int .i64 a0.G]), (.sh, .agg [.sl false 1 (a1.Keys.map row_i64), .sl false 6 (a1.Entries.map row_Entry_z)])] (Eo (.bool r) [.junk, .junk]) := by
 intro a0 a1 r hr
 apply pF 12 [] [] [] [.tmp 4] hr cl57 Tryz.func57
 intro Φ hΦ hF g
 unfold F_impl_areBoard at hF
 try simp [go_sem, g]
 refine pw_wk ?_
 repeat rw [sq]
 refine pJ hF (fun x3 => [(4, .v (.bool x3))]) (fun x3 hF => ?_) fun _ hj1 hF => ?_
 ·cases hΦ _ (Rn_some hF)
  try simp [go_sem, g]
 ·try simp [go_sem, g]
  refine pC hF [.sh] c_impl_IsValidGroup (fun z4 hF => ?_)
  try simp [go_sem, g]
  refine pwg_F hF (fun h5 hF => ?_) fun h5 hF => ?_
  ·try simp [go_sem, g, h5]
   refine pC hF [.sh, .sh] c_impl_Group_isBoard (fun z6 hF => ?_)
   try simp [go_sem, g, h5]
   exact pT (hj1 z6) (Rn_some hF)
  ·try simp [go_sem, g, h5]
   exact pT (hj1 false) (Rn_some hF)
noncomputable def F_impl_isPlainHead (a0 : Int) (a1 : Int) (a2 : Int) : Option (Bool) :=
 (((F_impl_within a0 0 39).bind fun z4 =>
 if z4 = true then (
 (F_impl_within a1 0 64).bind fun z6 =>
 if z6 = true then (
 (F_impl_isDigest a2).bind fun z8 =>
 some z8) else (
 some false)) else (
 some false) : Option (Bool)).bind fun x3 =>
 some x3)
theorem c_impl_isPlainHead : ∀ {a0} {a1} {a2} {r}, F_impl_isPlainHead a0 a1 a2 = some r → PCalls Tryz.prog 85 [(.sh, .int .i64 a0), (.sh, .int .i64 a1), (.sh, .int .i64 a2)] (Eo (.bool r) [.junk, .junk, .junk]) := by
 intro a0 a1 a2 r hr
 apply pF 17 [] [] [] [.tmp 6] hr cl85 Tryz.func85
 intro Φ hΦ hF g
 unfold F_impl_isPlainHead at hF
 try simp [go_sem, g]
 refine pw_wk ?_
 repeat rw [sq]
 refine pJ hF (fun x3 => [(6, .v (.bool x3))]) (fun x3 hF => ?_) fun _ hj1 hF => ?_
 ·cases hΦ _ (Rn_some hF)
  try simp [go_sem, g]
 ·try simp [go_sem, g]
  refine pC hF [.sh, .sh, .sh] c_impl_within (fun z4 hF => ?_)
  try simp [go_sem, g]
  refine pwg_F hF (fun h5 hF => ?_) fun h5 hF => ?_
  ·try simp [go_sem, g, h5]
   refine pC hF [.sh, .sh, .sh] c_impl_within (fun z6 hF => ?_)
   try simp [go_sem, g, h5]
   refine pwg_F hF (fun h7 hF => ?_) fun h7 hF => ?_
   ·try simp [go_sem, g, h7]
    refine pC hF [.sh] c_impl_isDigest (fun z8 hF => ?_)
    try simp [go_sem, g, h7]
    exact pT (hj1 z8) (Rn_some hF)
   ·try simp [go_sem, g, h7]
    exact pT (hj1 false) (Rn_some hF)
  ·try simp [go_sem, g, h5]
   exact pT (hj1 false) (Rn_some hF)
noncomputable def F_impl_headLabel (a0 : Int) (a1 : Int) (a2 : Int) : Option (ByteArray) :=
 (F_impl_HashLabelled (⟨#[104, 101, 97, 100]⟩ : ByteArray) [a0, a1, a2]).bind fun z1 =>
 (F_impl_signLabel (⟨#[104, 101, 97, 100, 32]⟩ : ByteArray) z1.1).bind fun z2 =>
 some z2
theorem c_impl_headLabel : ∀ {a0} {a1} {a2} {r}, F_impl_headLabel a0 a1 a2 = some r → PCalls Tryz.prog 86 [(.sh, .int .i64 a0), (.sh, .int .i64 a1), (.sh, .int .i64 a2)] (Eo (.str r) [.junk, .junk, .junk]) := by
 intro a0 a1 a2 r hr
 apply pF 19 [] [] [] [.tmp 6] hr cl86 Tryz.func86
 intro Φ hΦ hF g
 unfold F_impl_headLabel at hF
 try simp [go_sem, g]
 refine pw_wk ?_
 try simp [go_sem, g]
 refine pC hF [.sh, .sh] c_impl_HashLabelled (fun z1 hF => ?_)
 try simp [go_sem, g]
 refine pw_wkK [7] (by simp [go_sem, g]; rfl) ?_
 try simp [go_sem, g]
 refine pC hF [.sh, .sh] c_impl_signLabel (fun z2 hF => ?_)
 cases hΦ _ (Rn_some hF)
 try simp [go_sem, g]
 refine pw_wk ?_
 try simp [go_sem, g]
def D90_1 : List DE := [d1 0 [5] 5, d2 1 [7] 5 7, d1 2 [5] 5, d2 3 [9] 5 9, d1 4 [5] 5, d2 5 [11] 5 11, d3 6 [8, 10, 12], d0 7 [13], d2 8 [3, 14] 3 3, d1 9 [5, 14] 5, d2 10 [16, 14] 5 16, d1 11 [5, 14] 5, d2 12 [18, 14] 5 18, d1 13 [5, 14] 5, d2 14 [20, 14] 5 20, d0 16 [1, 14], d1 17 [5, 14] 5, d2 18 [24, 14] 5 24, d3 15 [17, 19, 21, 14], d3 19 [15, 22, 23, 25, 14], d0 20 [14, 26], d0 21 [27]]
noncomputable def F_impl_Group_isHead (a0 : Group) (a1 : Int) (a2 : Head) : Option (Bool) :=
 (((F_impl_isPlainHead a2.Author a2.Size a2.Root).bind fun z4 =>
 if z4 = true then (
 (F_impl_headLabel a2.Author a2.Size a2.Root).bind fun z6 =>
 (F_impl_Group_isSigned a0 z6 a1 a2.Sign).bind fun z7 =>
 some z7) else (
 some false) : Option (Bool)).bind fun x3 =>
 some x3)
theorem c_impl_Group_isHead : ∀ {a0} {a1} {a2} {r}, F_impl_Group_isHead a0 a1 a2 = some r → PCalls Tryz.prog 90 [(.sh, .agg [.int .i64 a0.P, .int .i64 a0.Q, .int .i64 a0.G]), (.sh, .int .i64 a1), (.sh, .agg [.int .i64 a2.Author, .int .i64 a2.Size, .int .i64 a2.Root, .sl false 1 (a2.Sign.Commits.map row_i64), .sl false 1 (a2.Sign.Challenges.map row_i64), .sl false 1 (a2.Sign.Responses.map row_i64)])] (Eo (.bool r) [.junk, .junk, .junk]) := by
 intro a0 a1 a2 r hr
 apply pF 28 [] [] [] [.tmp 6] hr cl90 Tryz.func90
 intro Φ hΦ hF g
 unfold F_impl_Group_isHead at hF
 try simp [go_sem, g]
 refine pw_wk ?_
 repeat rw [sq]
 refine pJ hF (fun x3 => [(6, .v (.bool x3))]) (fun x3 hF => ?_) fun _ hj1 hF => ?_
 ·cases hΦ _ (Rn_some hF)
  try simp [go_sem, g]
 ·repeat rw [sq]
  refine pw_draw D90_1 follows (by kernel_rfl) rfl ?_
  try simp only [go_sem, D90_1]
  try simp [go_sem, g]
  refine pC hF [.sh, .sh, .sh] c_impl_isPlainHead (fun z4 hF => ?_)
  try simp [go_sem, g]
  refine pwgD_F hF (fun h5 hF => ?_) fun h5 hF => ?_
  ·try simp [go_sem, g, h5]
   refine pC hF [.sh, .sh, .sh] c_impl_headLabel (fun z6 hF => ?_)
   try simp [go_sem, g, h5]
   refine pC hF [.sh, .sh, .sh, .sh] c_impl_Group_isSigned (fun z7 hF => ?_)
   try simp [go_sem, g, h5]
   exact pT (hj1 z7) (Rn_some hF)
  ·try simp [go_sem, g, h5]
   exact pT (hj1 false) (Rn_some hF)
noncomputable def F_impl_counted (a0 : (List Int)) : Option ((List Int)) :=
 gd (([(a0.length : Int)].length + a0.length) * 8 ≤ 140737488355328 ∧ [(a0.length : Int)].length + a0.length ≤ 4611686018427387904) <|
 some ([(a0.length : Int)] ++ a0)
theorem c_impl_counted : ∀ {a0} {r}, F_impl_counted a0 = some r → PCalls Tryz.prog 156 [(.sh, .sl false 1 (a0.map row_i64))] (Eo (.sl true 1 (r.map row_i64)) [.junk]) := by
 intro a0 r hr
 apply pF 8 [] [] [] [.tmp 2] hr cl156 Tryz.func156
 intro Φ hΦ hF g
 unfold F_impl_counted at hF
 obtain ⟨g, hF⟩ := Rg g hF
 cases hΦ _ (Rn_some hF)
 iterate 2 (try simp [go_sem, g]; try intros; refine pw_wk ?_)
 try simp [go_sem, g]
 try intros
noncomputable def F_impl_isRecord (a0 : (List Int)) : Option (Bool) :=
 ((if decide ((a0.length : Int) ≤ 400) = true then (
 (F_impl_areAll__impl_isDigest a0).bind fun z5 =>
 some z5) else (
 some false) : Option (Bool)).bind fun x3 =>
 some x3)
theorem c_impl_isRecord : ∀ {a0} {r}, F_impl_isRecord a0 = some r → PCalls Tryz.prog 180 [(.sh, .sl false 1 (a0.map row_i64))] (Eo (.bool r) [.junk]) := by
 intro a0 r hr
 apply pF 10 [] [] [] [.tmp 2] hr cl180 Tryz.func180
 intro Φ hΦ hF g
 unfold F_impl_isRecord at hF
 try simp [go_sem, g]
 refine pw_wk ?_
 repeat rw [sq]
 refine pJ hF (fun x3 => [(2, .v (.bool x3))]) (fun x3 hF => ?_) fun _ hj1 hF => ?_
 ·cases hΦ _ (Rn_some hF)
  try simp [go_sem, g]
 ·try simp [go_sem, g]
  try intros
  refine pwg_F hF (fun h4 hF => ?_) fun h4 hF => ?_
  ·try simp [go_sem, g, h4]
   refine pC hF [.sh, .sh] c_impl_areAll__impl_isDigest (fun z5 hF => ?_)
   try simp [go_sem, g, h4]
   exact pT (hj1 z5) (Rn_some hF)
  ·try simp [go_sem, g, h4]
   exact pT (hj1 false) (Rn_some hF)
noncomputable def F_impl_record (a0 : (List Int)) : Option ((List Int) × Bool) :=
 (F_impl_isRecord a0).bind fun z1 =>
 if (!z1) = true then (
 some ([], false)) else (
 some (a0, true))
theorem c_impl_record : ∀ {a0} {r}, F_impl_record a0 = some r → PCalls Tryz.prog 154 [(.sh, .sl false 1 (a0.map row_i64))] (Eo (.tup [.sl false 1 (r.1.map row_i64), .bool r.2]) [.junk]) := by
 intro a0 r hr
 apply pF 8 [] [2] [] [.tmp 2, .tmp 3] hr cl154 Tryz.func154
 intro Φ hΦ hF g
 unfold F_impl_record at hF
 try simp [go_sem, g]
 refine pw_wk ?_
 try simp [go_sem, g]
 refine pC hF [.sh] c_impl_isRecord (fun z1 hF => ?_)
 try simp [go_sem, g]
 refine pw_wk ?_
 repeat rw [sq]
 refine pI hF (fun h2 hF => ?_) (fun h2 hF => ?_)
 ·cases hΦ _ (Rn_some hF)
  try simp [go_sem, g]
  refine pw_wk ?_
  try simp [go_sem, g]
 ·cases hΦ _ (Rn_some hF)
  iterate 2 (try simp [go_sem, g]; refine pw_wk ?_)
  try simp [go_sem, g]
def D120_1 : List DE := [d1 0 [1] 1, d2 1 [4] 1 4, d1 3 [1] 1, d2 4 [7] 1 7, d1 6 [1] 1, d2 7 [10] 1 10, d3 2 [5], d3 5 [8], d3 8 [11], d0 9 [6, 9, 12], ⟨10, [13], [], none, true, true, true⟩, d3 11 [14], d0 12 [15], d0 13 [15], d0 14 [16], d0 15 [17]]
noncomputable def F_impl_EncodeProof (a0 : Proof) : Option ((List Int) × Bool) :=
 (F_impl_counted a0.Commits).bind fun z1 =>
 (F_impl_counted a0.Challenges).bind fun z2 =>
 (F_impl_counted a0.Responses).bind fun z3 =>
 (F_slices_Concat_int_int [z1, z2, z3]).bind fun z4 =>
 (F_impl_record z4).bind fun z5 =>
 some (z5.1, z5.2)
theorem c_impl_EncodeProof : ∀ {a0} {r}, F_impl_EncodeProof a0 = some r → PCalls Tryz.prog 120 [(.sh, .agg [.sl false 1 (a0.Commits.map row_i64), .sl false 1 (a0.Challenges.map row_i64), .sl false 1 (a0.Responses.map row_i64)])] (Eo (.tup [.sl false 1 (r.1.map row_i64), .bool r.2]) [.junk]) := by
 intro a0 r hr
 apply pF 18 [] [14] [] [.tmp 2, .tmp 3] hr cl120 Tryz.func120
 intro Φ hΦ hF g
 unfold F_impl_EncodeProof at hF
 try simp [go_sem, g]
 refine pw_wk ?_
 repeat rw [sq]
 refine pw_draw D120_1 follows (by kernel_rfl) rfl ?_
 try simp only [go_sem, D120_1]
 try simp [go_sem, g]
 refine pC hF [.sh] c_impl_counted (fun z1 hF => ?_)
 try simp [go_sem, g]
 refine pC hF [.sh] c_impl_counted (fun z2 hF => ?_)
 try simp [go_sem, g]
 refine pC hF [.sh] c_impl_counted (fun z3 hF => ?_)
 try simp [go_sem, g]
 refine pC hF [.sh] c_slices_Concat_int_int (fun z4 hF => ?_)
 try simp [go_sem, g]
 refine pC hF [.sh] c_impl_record (fun z5 hF => ?_)
 try simp [go_sem, g]
 refine pw_wkK [2, 3] (by simp [go_sem, g]; rfl) ?_
 cases hΦ _ (Rn_some hF)
 try simp [go_sem, g]
noncomputable def F_impl_LeafDigest (a0 : (List Int)) : Option (Int × Bool) :=
 (F_impl_HashLabelled (⟨#[108, 101, 97, 102]⟩ : ByteArray) a0).bind fun z1 =>
 some (z1.1, z1.2)
theorem c_impl_LeafDigest : ∀ {a0} {r}, F_impl_LeafDigest a0 = some r → PCalls Tryz.prog 121 [(.sh, .sl false 1 (a0.map row_i64))] (Eo (.tup [.int .i64 r.1, .bool r.2]) [.junk]) := by
 intro a0 r hr
 apply pF 8 [] [] [] [.tmp 2, .tmp 3] hr cl121 Tryz.func121
 intro Φ hΦ hF g
 unfold F_impl_LeafDigest at hF
 try simp [go_sem, g]
 refine pw_wk ?_
 try simp [go_sem, g]
 refine pC hF [.sh, .sh] c_impl_HashLabelled (fun z1 hF => ?_)
 cases hΦ _ (Rn_some hF)
 try simp [go_sem, g]
 refine pw_wk ?_
 try simp [go_sem, g]
noncomputable def F_impl_boardLeaves (a0 : Board) : Option ((List Int)) :=
 ((rloop (σ := (List Int)) (fun i5 s4 =>
 (ix a0.Entries i5).bind fun x11 =>
 (F_impl_EntryDigest x11.Kind x11.Author i5 x11.Data).bind fun z12 =>
 (F_impl_EncodeProof x11.Sign).bind fun z13 =>
 gd (([z12.1].length + z13.1.length) * 8 ≤ 140737488355328 ∧ [z12.1].length + z13.1.length ≤ 4611686018427387904) <|
 (F_impl_LeafDigest ([z12.1] ++ z13.1)).bind fun z14 =>
 gd ((s4.length + 1) * 8 ≤ 140737488355328 ∧ s4.length + 1 ≤ 4611686018427387904) <|
 some (.go (s4 ++ [z14.1]))) (fun s4 => s4) (a0.Entries.length) 0 [] : Option ((List Int))).bind fun x3 =>
 some x3)
theorem c_impl_boardLeaves : ∀ {a0} {r}, F_impl_boardLeaves a0 = some r → PCalls Tryz.prog 65 [(.sh, .agg [.sl false 1 (a0.Keys.map row_i64), .sl false 6 (a0.Entries.map row_Entry_z)])] (Eo (.sl true 1 (r.map row_i64)) [.junk]) := by
 intro a0 r hr
 apply pF 52 [] [] [] [.tmp 2] hr cl65 Tryz.func65
 intro Φ hΦ hF g
 unfold F_impl_boardLeaves at hF
 iterate 3 (try simp [go_sem, g]; try intros; refine pw_wk ?_)
 repeat rw [sq]
 refine pJ hF (fun x3 => [(3, .v (.sl true 1 (x3.map row_i64)))]) (fun x3 hF => ?_) fun _ hj1 hF => ?_
 ·try simp [go_sem, g]
  refine pw_wkK [2] (by simp [go_sem, g]; rfl) ?_
  cases hΦ _ (Rn_some hF)
  try simp [go_sem, g]
 ·repeat rw [sq]
  rw [pw_block]
  obtain ⟨b15, hb16, hψ8⟩ := hF
  refine pR hb16 (fun i5 s4 => [(3, .v (.sl true 1 (s4.map row_i64))), (14, .v (.sl false 6 (a0.Entries.map row_Entry_z))), (15, .v (.int .i64 (a0.Entries.length : Int))), (16, .v (.int .i64 i5))]) (fun s4 _ hN17 => ?_) (fun i5 s4 _ _ hi9 hi10 ho6 hg7 hF => ?_)
  ·subst hN17
   try simp [go_sem]
   refine pw_wk ?_
   repeat rw [sq]
   refine pw_cond_f (by simp [go_sem]) ?_
   try simp [go_sem]
   exact pT (hj1 s4) hψ8 (by simp [go_sem])
  ·try simp [go_sem, g]
   refine pw_wk ?_
   repeat rw [sq]
   refine pw_cond_t (by simp [go_sem, g, hi9, hi10]) ?_
   try simp [go_sem, g]
   refine pw_wk ?_
   repeat rw [sq]
   rw [pw_block]
   obtain ⟨x11, g, hF⟩ := Rx g hF
   try simp [go_sem, g]
   refine pw_wkK [3, 4, 5, 14, 15, 16] (by simp [go_sem, g]; rfl) ?_
   try simp [go_sem, g]
   refine pC hF [.sh, .sh, .sh, .sh] c_impl_EntryDigest (fun z12 hF => ?_)
   try simp [go_sem, g]
   refine pw_wkK [3, 5, 6, 14, 15, 16] (by simp [go_sem, g]; rfl) ?_
   try simp [go_sem, g]
   refine pC hF [.sh] c_impl_EncodeProof (fun z13 hF => ?_)
   obtain ⟨g, hF⟩ := Rg g hF
   try simp [go_sem, g]
   refine pw_wk ?_
   try simp [go_sem, g]
   refine pC hF [.sh] c_impl_LeafDigest (fun z14 hF => ?_)
   try simp [go_sem, g]
   refine pw_wkK [3, 10, 14, 15, 16] (by simp [go_sem, g]; rfl) ?_
   obtain ⟨g, hF⟩ := Rg g hF
   try simp [go_sem, g]
   refine pw_wk ?_
   try simp [go_sem, g]
   exact pT (hg7 (s4 ++ [z14.1])) (Rn_some hF) (by simp [go_sem, g, wr_i hi9 hi10 (by assumption)])
noncomputable def F_math_bits_Len64 (a0 : Int) : Option (Int) :=
 ((if decide (4294967296 ≤ a0) = true then (
 some (a0.fdiv 4294967296, 32)) else (
 some (a0, 0)) : Option ((Int × Int))).bind fun x3 =>
 ((if decide (65536 ≤ x3.1) = true then (
 some (x3.1.fdiv 65536, i64.wrap (x3.2 + 16))) else (
 some (x3.1, x3.2)) : Option ((Int × Int))).bind fun x7 =>
 ((if decide (256 ≤ x7.1) = true then (
 some (x7.1.fdiv 256, i64.wrap (x7.2 + 8))) else (
 some (x7.1, x7.2)) : Option ((Int × Int))).bind fun x11 =>
 (ixs (⟨#[0, 1, 2, 2, 3, 3, 3, 3, 4, 4, 4, 4, 4, 4, 4, 4, 5, 5, 5, 5, 5, 5, 5, 5, 5, 5, 5, 5, 5, 5, 5, 5, 6, 6, 6, 6, 6, 6, 6, 6, 6, 6, 6, 6, 6, 6, 6, 6, 6, 6, 6, 6, 6, 6, 6, 6, 6, 6, 6, 6, 6, 6, 6, 6, 7, 7, 7, 7, 7, 7, 7, 7, 7, 7, 7, 7, 7, 7, 7, 7, 7, 7, 7, 7, 7, 7, 7, 7, 7, 7, 7, 7, 7, 7, 7, 7, 7, 7, 7, 7, 7, 7, 7, 7, 7, 7, 7, 7, 7, 7, 7, 7, 7, 7, 7, 7, 7, 7, 7, 7, 7, 7, 7, 7, 7, 7, 7, 7, 8, 8, 8, 8, 8, 8, 8, 8, 8, 8, 8, 8, 8, 8, 8, 8, 8, 8, 8, 8, 8, 8, 8, 8, 8, 8, 8, 8, 8, 8, 8, 8, 8, 8, 8, 8, 8, 8, 8, 8, 8, 8, 8, 8, 8, 8, 8, 8, 8, 8, 8, 8, 8, 8, 8, 8, 8, 8, 8, 8, 8, 8, 8, 8, 8, 8, 8, 8, 8, 8, 8, 8, 8, 8, 8, 8, 8, 8, 8, 8, 8, 8, 8, 8, 8, 8, 8, 8, 8, 8, 8, 8, 8, 8, 8, 8, 8, 8, 8, 8, 8, 8, 8, 8, 8, 8, 8, 8, 8, 8, 8, 8, 8, 8, 8, 8, 8, 8, 8, 8, 8, 8, 8, 8, 8, 8, 8, 8]⟩ : ByteArray) (u8.wrap x11.1)).bind fun x13 =>
 some (i64.wrap (x11.2 + (i64.wrap x13))))))
theorem c_math_bits_Len64 : ∀ {a0} {r}, F_math_bits_Len64 a0 = some r → PCalls Tryz.prog 179 [(.sh, .int .u64 a0)] (Eo (.int .i64 r) [.junk]) := by
 intro a0 r hr
 apply pF 25 [] [] [] [.tmp 2] hr cl179 Tryz.func179
 intro Φ hΦ hF g
 unfold F_math_bits_Len64 at hF
 iterate 2 (try simp [go_sem, g]; refine pw_wk ?_)
 repeat rw [sq]
 refine pJ hF (fun x3 => [(0, .v (.int .u64 x3.1)), (2, .v (.int .i64 x3.2))]) (fun x3 hF => ?_) fun _ hj1 hF => ?_
 ·try simp [go_sem, g]
  refine pw_wk ?_
  repeat rw [sq]
  refine pJ hF (fun x7 => [(0, .v (.int .u64 x7.1)), (2, .v (.int .i64 x7.2))]) (fun x7 hF => ?_) fun _ hj5 hF => ?_
  ·try simp [go_sem, g]
   refine pw_wk ?_
   repeat rw [sq]
   refine pJ hF (fun x11 => [(0, .v (.int .u64 x11.1)), (2, .v (.int .i64 x11.2))]) (fun x11 hF => ?_) fun _ hj9 hF => ?_
   ·obtain ⟨x13, g, hF⟩ := Rxs g hF
    try simp [go_sem, g]
    refine pw_wkK [2] (by simp [go_sem, g]; rfl) ?_
    cases hΦ _ (Rn_some hF)
    try simp [go_sem, g]
   ·repeat rw [sq]
    refine pI hF (fun h12 hF => ?_) (fun h12 hF => ?_)
    ·have g := Ls g 8
     try simp [go_sem, g]
     refine pw_wkK [0, 2] (by simp [go_sem, g]; rfl) ?_
     try simp [go_sem, g]
     exact pT (hj9 (x7.1.fdiv 256, i64.wrap (x7.2 + 8))) (Rn_some hF)
    ·try simp [go_sem, g]
     exact pT (hj9 (x7.1, x7.2)) (Rn_some hF)
  ·repeat rw [sq]
   refine pI hF (fun h8 hF => ?_) (fun h8 hF => ?_)
   ·have g := Ls g 16
    try simp [go_sem, g]
    refine pw_wk ?_
    try simp [go_sem, g]
    exact pT (hj5 (x3.1.fdiv 65536, i64.wrap (x3.2 + 16))) (Rn_some hF)
   ·try simp [go_sem, g]
    exact pT (hj5 (x3.1, x3.2)) (Rn_some hF)
 ·repeat rw [sq]
  refine pI hF (fun h4 hF => ?_) (fun h4 hF => ?_)
  ·have g := Ls g 32
   try simp [go_sem, g]
   refine pw_wk ?_
   try simp [go_sem, g]
   exact pT (hj1 (a0.fdiv 4294967296, 32)) (Rn_some hF)
  ·try simp [go_sem, g]
   exact pT (hj1 (a0, 0)) (Rn_some hF)
noncomputable def F_math_bits_Len (a0 : Int) : Option (Int) :=
 (F_math_bits_Len64 a0).bind fun z1 =>
 some z1
theorem c_math_bits_Len : ∀ {a0} {r}, F_math_bits_Len a0 = some r → PCalls Tryz.prog 153 [(.sh, .int .u64 a0)] (Eo (.int .i64 r) [.junk]) := by
 intro a0 r hr
 apply pF 8 [] [] [] [.tmp 2] hr cl153 Tryz.func153
 intro Φ hΦ hF g
 unfold F_math_bits_Len at hF
 try simp [go_sem, g]
 refine pw_wk ?_
 repeat rw [sq]
 refine pw_cond_f (by simp [go_sem, g]) ?_
 try simp [go_sem, g]
 refine pw_wk ?_
 try simp [go_sem, g]
 refine pC hF [.sh] c_math_bits_Len64 (fun z1 hF => ?_)
 cases hΦ _ (Rn_some hF)
 try simp [go_sem, g]
 refine pw_wk ?_
 try simp [go_sem, g]
noncomputable def F_impl_half (a0 : Int) : Option (Int) :=
 (F_math_bits_Len (u64.wrap (i64.wrap (a0 - 1)))).bind fun z1 =>
 gd (0 ≤ (u64.wrap (i64.wrap (z1 - 1)))) <|
 some (i64.wrap (1 * 2 ^ min (u64.wrap (i64.wrap (z1 - 1))).toNat i64.bits))
theorem c_impl_half : ∀ {a0} {r}, F_impl_half a0 = some r → PCalls Tryz.prog 119 [(.sh, .int .i64 a0)] (Eo (.int .i64 r) [.junk]) := by
 intro a0 r hr
 apply pF 10 [] [] [] [.tmp 2] hr cl119 Tryz.func119
 intro Φ hΦ hF g
 unfold F_impl_half at hF
 try simp [go_sem, g]
 refine pw_wk ?_
 try simp [go_sem, g]
 refine pC hF [.sh] c_math_bits_Len (fun z1 hF => ?_)
 obtain ⟨g, hF⟩ := Rsh g hF
 cases hΦ _ (Rn_some hF)
 try simp [go_sem, g]
 refine pw_wk ?_
 try simp [go_sem, g]
noncomputable def F_impl_nodeOf (a0 : Int) (a1 : Int) : Option (Int) :=
 (F_impl_HashLabelled (⟨#[110, 111, 100, 101]⟩ : ByteArray) [a0, a1]).bind fun z1 =>
 some z1.1
theorem c_impl_nodeOf : ∀ {a0} {a1} {r}, F_impl_nodeOf a0 a1 = some r → PCalls Tryz.prog 152 [(.sh, .int .i64 a0), (.sh, .int .i64 a1)] (Eo (.int .i64 r) [.junk, .junk]) := by
 intro a0 a1 r hr
 apply pF 15 [] [] [] [.tmp 4] hr cl152 Tryz.func152
 intro Φ hΦ hF g
 unfold F_impl_nodeOf at hF
 try simp [go_sem, g]
 refine pw_wk ?_
 try simp [go_sem, g]
 refine pC hF [.sh, .sh] c_impl_HashLabelled (fun z1 hF => ?_)
 try simp [go_sem, g]
 refine pw_wkK [5] (by simp [go_sem, g]; rfl) ?_
 cases hΦ _ (Rn_some hF)
 try simp [go_sem, g]
 refine pw_wk ?_
 try simp [go_sem, g]
noncomputable def F_impl_rootOf_r : Nat → (List Int) → Option (Int)
 | 0, _ => none
 | n_ + 1, a0 =>
 if ((a0.length : Int) == 0) = true then (
 (F_impl_HashLabelled (⟨#[101, 109, 112, 116, 121]⟩ : ByteArray) []).bind fun z2 =>
 some z2.1) else (
 if ((a0.length : Int) == 1) = true then (
 (ix a0 0).bind fun x4 =>
 some x4) else (
 (F_impl_half (a0.length : Int)).bind fun z5 =>
 gd (0 ≤ z5) <|
 gd (0 ≤ z5.toNat ∧ z5.toNat ≤ a0.length) <|
 (F_impl_rootOf_r n_ ((a0.take z5.toNat).drop 0)).bind fun z6 =>
 (F_impl_half (a0.length : Int)).bind fun z7 =>
 gd (0 ≤ z7) <|
 gd (z7.toNat ≤ a0.length ∧ a0.length ≤ a0.length) <|
 (F_impl_rootOf_r n_ ((a0.take a0.length).drop z7.toNat)).bind fun z8 =>
 (F_impl_nodeOf z6 z8).bind fun z9 =>
 some z9))
noncomputable def F_impl_rootOf (a0 : (List Int)) : Option (Int) := frec fun n_ => F_impl_rootOf_r n_ a0
theorem c_impl_rootOf_r : ∀ {n_ : Nat} {a0 : (List Int)} {r : Int} (hr : F_impl_rootOf_r n_ a0 = some r), PCalls Tryz.prog 118 [(.sh, .sl false 1 (a0.map row_i64))] (Eo (.int .i64 r) [.junk]) := by
 intro n_
 induction n_ with
 | zero => intro a0 r hr; cases hr
 | succ n_ ih =>
  intro a0 r hr
  apply pF 32 [] [] [] [.tmp 2] hr cl118 Tryz.func118
  intro Φ hΦ hF g
  simp only [F_impl_rootOf_r] at hF
  iterate 3 (try simp [go_sem, g]; try intros; refine pw_wk ?_)
  repeat rw [sq]
  rw [pw_block]
  try simp [go_sem, g]
  refine pw_wk ?_
  repeat rw [sq]
  refine pI hF (fun h1 hF => ?_) (fun h1 hF => ?_)
  ·try simp [go_sem, g]
   refine pC hF [.sh, .sh] c_impl_HashLabelled (fun z2 hF => ?_)
   try simp [go_sem, g]
   refine pw_wkK [4] (by simp [go_sem, g]; rfl) ?_
   cases hΦ _ (Rn_some hF)
   try simp [go_sem, g]
   refine pw_wk ?_
   try simp [go_sem, g]
  ·try simp [go_sem, g]
   refine pw_wk ?_
   repeat rw [sq]
   refine pI hF (fun h3 hF => ?_) (fun h3 hF => ?_)
   ·obtain ⟨x4, g, hF⟩ := Rxn g 0 hF
    try simp [go_sem, g]
    refine pw_wkK [2] (by simp [go_sem, g]; rfl) ?_
    cases hΦ _ (Rn_some hF)
    try simp [go_sem, g]
   ·try simp [go_sem, g]
    refine pC hF [.sh] c_impl_half (fun z5 hF => ?_)
    obtain ⟨g, hF⟩ := Rg g hF
    obtain ⟨g, hF⟩ := Rg g hF
    try simp [go_sem, g]
    refine pC hF [.sh] ih (fun z6 hF => ?_)
    try simp [go_sem, g]
    refine pC hF [.sh] c_impl_half (fun z7 hF => ?_)
    obtain ⟨g, hF⟩ := Rg g hF
    obtain ⟨g, hF⟩ := Rg g hF
    try simp [go_sem, g]
    refine pC hF [.sh] ih (fun z8 hF => ?_)
    try simp [go_sem, g]
    refine pC hF [.sh, .sh] c_impl_nodeOf (fun z9 hF => ?_)
    try simp [go_sem, g]
    refine pw_wkK [2] (by simp [go_sem, g]; rfl) ?_
    cases hΦ _ (Rn_some hF)
    try simp [go_sem, g]
theorem c_impl_rootOf {a0 : (List Int)} {r : Int} (hr : F_impl_rootOf a0 = some r) : PCalls Tryz.prog 118 [(.sh, .sl false 1 (a0.map row_i64))] (Eo (.int .i64 r) [.junk]) := by
 obtain ⟨n_, hn⟩ := frec_some hr
 exact c_impl_rootOf_r hn
def D63_1 : List DE := [d1 0 [5] 5, d2 1 [7] 5 7, d1 2 [4] 4, d2 3 [9] 4 9, d0 4 [10], d0 5 [11], d3 6 [8, 12], d0 7 [13], d2 8 [3, 14] 3 3, d1 9 [4, 14] 4, d2 10 [16, 14] 4 16, d1 11 [5, 14] 5, d2 12 [18, 14] 5 18, d0 13 [17, 19, 14], d0 14 [20, 14], d2 15 [5, 14] 5 5, d3 16 [15, 21, 22, 14], d0 17 [14, 23], d0 18 [24], d1 19 [5, 25] 5, d2 20 [26, 25] 5 26, d1 21 [4, 25] 4, d2 22 [28, 25] 4 28, d0 23 [29, 25], d0 24 [27, 30, 25], d0 25 [25, 31], d0 26 [32], d1 27 [5, 33] 5, d2 28 [34, 33] 5 34, d2 29 [4, 33] 4 4, d1 31 [5, 33] 5, d2 32 [38, 33] 5 38, d3 30 [36, 33], d0 33 [37, 39, 33], d3 34 [40, 33], d0 35 [35, 41, 33], d0 36 [33, 42], d0 37 [43]]
noncomputable def F_impl_Group_fits (a0 : Group) (a1 : Board) (a2 : Head) : Option (Bool) :=
 (((F_impl_within a2.Author 0 (i64.wrap ((a1.Keys.length : Int) - 1))).bind fun z4 =>
 if z4 = true then (
 (ix a1.Keys a2.Author).bind fun x6 =>
 (F_impl_Group_isHead a0 x6 a2).bind fun z7 =>
 if z7 = true then (
 if decide (a2.Size ≤ (a1.Entries.length : Int)) = true then (
 (F_impl_boardLeaves a1).bind fun z10 =>
 gd (0 ≤ a2.Size) <|
 gd (0 ≤ a2.Size.toNat ∧ a2.Size.toNat ≤ z10.length) <|
 (F_impl_rootOf ((z10.take a2.Size.toNat).drop 0)).bind fun z11 =>
 some (a2.Root == z11)) else (
 some false)) else (
 some false)) else (
 some false) : Option (Bool)).bind fun x3 =>
 some x3)
theorem c_impl_Group_fits : ∀ {a0} {a1} {a2} {r}, F_impl_Group_fits a0 a1 a2 = some r → PCalls Tryz.prog 63 [(.sh, .agg [.int .i64 a0.P, .int .i64 a0.Q, .int .i64 a0.G]), (.sh, .agg [.sl false 1 (a1.Keys.map row_i64), .sl false 6 (a1.Entries.map row_Entry_z)]), (.sh, .agg [.int .i64 a2.Author, .int .i64 a2.Size, .int .i64 a2.Root, .sl false 1 (a2.Sign.Commits.map row_i64), .sl false 1 (a2.Sign.Challenges.map row_i64), .sl false 1 (a2.Sign.Responses.map row_i64)])] (Eo (.bool r) [.junk, .junk, .junk]) := by
 intro a0 a1 a2 r hr
 apply pF 44 [] [] [] [.tmp 6] hr cl63 Tryz.func63
 intro Φ hΦ hF g
 unfold F_impl_Group_fits at hF
 try simp [go_sem, g]
 refine pw_wk ?_
 repeat rw [sq]
 refine pJ hF (fun x3 => [(6, .v (.bool x3))]) (fun x3 hF => ?_) fun _ hj1 hF => ?_
 ·cases hΦ _ (Rn_some hF)
  try simp [go_sem, g]
 ·repeat rw [sq]
  refine pw_draw D63_1 follows (by kernel_rfl) rfl ?_
  try simp only [go_sem, D63_1]
  try simp [go_sem, g]
  try intros
  refine pC hF [.sh, .sh, .sh] c_impl_within (fun z4 hF => ?_)
  try simp [go_sem, g]
  refine pwgD_F hF (fun h5 hF => ?_) fun h5 hF => ?_
  ·obtain ⟨x6, g, hF⟩ := Rx g hF
   try simp [go_sem, g, h5]
   refine pC hF [.sh, .sh, .sh] c_impl_Group_isHead (fun z7 hF => ?_)
   try simp [go_sem, g, h5]
   refine pwgD_F hF (fun h8 hF => ?_) fun h8 hF => ?_
   ·try simp [go_sem, g, h8]
    try intros
    refine pwgD_F hF (fun h9 hF => ?_) fun h9 hF => ?_
    ·try simp [go_sem, g, h9]
     refine pC hF [.sh] c_impl_boardLeaves (fun z10 hF => ?_)
     obtain ⟨g, hF⟩ := Rg g hF
     obtain ⟨g, hF⟩ := Rg g hF
     try simp [go_sem, g, h9]
     refine pC hF [.sh] c_impl_rootOf (fun z11 hF => ?_)
     try simp [go_sem, g, h9]
     exact pT (hj1 (a2.Root == z11)) (Rn_some hF)
    ·try simp [go_sem, g, h9]
     exact pT (hj1 false) (Rn_some hF)
   ·try simp [go_sem, g, h8]
    exact pT (hj1 false) (Rn_some hF)
  ·try simp [go_sem, g, h5]
   exact pT (hj1 false) (Rn_some hF)
def D64_8 : List DE := [d0 0 [0], d0 1 [1], d0 2 [8], d0 3 [24, 25], d0 4 [2], d0 6 [1], d0 7 [8], d0 8 [29, 30], d3 5 [23, 26, 27], d3 9 [31], d0 10 [32], ⟨11, [28, 33], [], none, true, false, false⟩, d0 12 [34]]
def D64_9 : List DE := [d0 0 [0], d0 1 [8], d0 2 [35, 36], d0 3 [1], d0 4 [8], d0 5 [38, 39], d0 7 [1], d0 8 [8], d0 9 [42, 43], d3 6 [37, 40], d3 10 [44], d0 11 [45], ⟨12, [41, 46], [], none, true, false, false⟩, d0 13 [47]]
noncomputable def F_impl_prefixPath_r : Nat → Int → (List Int) → Bool → Option ((List Int))
 | 0, _, _, _ => none
 | n_ + 1, a0, a1, a2 =>
 if (a0 == (a1.length : Int)) = true then (
 if a2 = true then (
 some []) else (
 (F_impl_rootOf a1).bind fun z3 =>
 some [z3])) else (
 (F_impl_half (a1.length : Int)).bind fun z4 =>
 if decide (a0 ≤ z4) = true then (
 gd (0 ≤ z4) <|
 gd (0 ≤ z4.toNat ∧ z4.toNat ≤ a1.length) <|
 gd (0 ≤ z4) <|
 gd (z4.toNat ≤ a1.length ∧ a1.length ≤ a1.length) <|
 (F_impl_prefixPath_r n_ a0 ((a1.take z4.toNat).drop 0) a2).bind fun z6 =>
 (F_impl_rootOf ((a1.take a1.length).drop z4.toNat)).bind fun z7 =>
 gd ((z6.length + 1) * 8 ≤ 140737488355328 ∧ z6.length + 1 ≤ 4611686018427387904) <|
 some (z6 ++ [z7])) else (
 gd (0 ≤ z4) <|
 gd (z4.toNat ≤ a1.length ∧ a1.length ≤ a1.length) <|
 gd (0 ≤ z4) <|
 gd (0 ≤ z4.toNat ∧ z4.toNat ≤ a1.length) <|
 (F_impl_prefixPath_r n_ (i64.wrap (a0 - z4)) ((a1.take a1.length).drop z4.toNat) false).bind fun z8 =>
 (F_impl_rootOf ((a1.take z4.toNat).drop 0)).bind fun z9 =>
 gd ((z8.length + 1) * 8 ≤ 140737488355328 ∧ z8.length + 1 ≤ 4611686018427387904) <|
 some (z8 ++ [z9])))
noncomputable def F_impl_prefixPath (a0 : Int) (a1 : (List Int)) (a2 : Bool) : Option ((List Int)) := frec fun n_ => F_impl_prefixPath_r n_ a0 a1 a2
theorem c_impl_prefixPath_r : ∀ {n_ : Nat} {a0 : Int} {a1 : (List Int)} {a2 : Bool} {r : (List Int)} (hr : F_impl_prefixPath_r n_ a0 a1 a2 = some r), PCalls Tryz.prog 64 [(.sh, .int .i64 a0), (.sh, .sl false 1 (a1.map row_i64)), (.sh, .bool a2)] (Eo (.sl true 1 (r.map row_i64)) [.junk, .junk, .junk]) := by
 intro n_
 induction n_ with
 | zero => intro a0 a1 a2 r hr; cases hr
 | succ n_ ih =>
  intro a0 a1 a2 r hr
  apply pF 48 [] [] [] [.tmp 6] hr cl64 Tryz.func64
  intro Φ hΦ hF g
  simp only [F_impl_prefixPath_r] at hF
  iterate 3 (try simp [go_sem, g]; try intros; refine pw_wk ?_)
  repeat rw [sq]
  refine pI hF (fun h1 hF => ?_) (fun h1 hF => ?_)
  ·try simp [go_sem, g]
   refine pw_wk ?_
   repeat rw [sq]
   refine pI hF (fun h2 hF => ?_) (fun h2 hF => ?_)
   ·cases hΦ _ (Rn_some hF)
    try simp [go_sem, g]
    refine pw_wk ?_
    try simp [go_sem, g]
   ·try simp [go_sem, g]
    refine pw_wk ?_
    try simp [go_sem, g]
    refine pC hF [.sh] c_impl_rootOf (fun z3 hF => ?_)
    try simp [go_sem, g]
    refine pw_wkK [6] (by simp [go_sem, g]; rfl) ?_
    cases hΦ _ (Rn_some hF)
    try simp [go_sem, g]
  ·try simp [go_sem, g]
   refine pw_wk ?_
   try simp [go_sem, g]
   refine pC hF [.sh] c_impl_half (fun z4 hF => ?_)
   try simp [go_sem, g]
   refine pw_wkK [0, 1, 2, 8] (by simp [go_sem, g]; rfl) ?_
   try simp [go_sem, g]
   refine pw_wk ?_
   repeat rw [sq]
   refine pI hF (fun h5 hF => ?_) (fun h5 hF => ?_)
   ·repeat rw [sq]
    refine pw_draw D64_8 follows (by kernel_rfl) rfl ?_
    try simp only [go_sem, D64_8]
    obtain ⟨g, hF⟩ := Rg g hF
    obtain ⟨g, hF⟩ := Rg g hF
    obtain ⟨g, hF⟩ := Rg g hF
    obtain ⟨g, hF⟩ := Rg g hF
    try simp [go_sem, g]
    refine pC hF [.sh, .sh, .sh] ih (fun z6 hF => ?_)
    try simp [go_sem, g]
    refine pC hF [.sh] c_impl_rootOf (fun z7 hF => ?_)
    obtain ⟨g, hF⟩ := Rg g hF
    try simp [go_sem, g]
    refine pw_wkK [6] (by simp [go_sem, g]; rfl) ?_
    cases hΦ _ (Rn_some hF)
    try simp [go_sem, g]
   ·try simp [go_sem, g]
    refine pw_wk ?_
    repeat rw [sq]
    refine pw_draw D64_9 follows (by kernel_rfl) rfl ?_
    try simp only [go_sem, D64_9]
    obtain ⟨g, hF⟩ := Rg g hF
    obtain ⟨g, hF⟩ := Rg g hF
    obtain ⟨g, hF⟩ := Rg g hF
    obtain ⟨g, hF⟩ := Rg g hF
    try simp [go_sem, g]
    refine pC hF [.sh, .sh, .sh] ih (fun z8 hF => ?_)
    try simp [go_sem, g]
    refine pC hF [.sh] c_impl_rootOf (fun z9 hF => ?_)
    obtain ⟨g, hF⟩ := Rg g hF
    try simp [go_sem, g]
    refine pw_wkK [6] (by simp [go_sem, g]; rfl) ?_
    cases hΦ _ (Rn_some hF)
    try simp [go_sem, g]
theorem c_impl_prefixPath {a0 : Int} {a1 : (List Int)} {a2 : Bool} {r : (List Int)} (hr : F_impl_prefixPath a0 a1 a2 = some r) : PCalls Tryz.prog 64 [(.sh, .int .i64 a0), (.sh, .sl false 1 (a1.map row_i64)), (.sh, .bool a2)] (Eo (.sl true 1 (r.map row_i64)) [.junk, .junk, .junk]) := by
 obtain ⟨n_, hn⟩ := frec_some hr
 exact c_impl_prefixPath_r hn
def D20_3 : List DE := [d1 0 [6] 6, d2 1 [36] 6 36, d2 2 [5] 5 5, d1 4 [7] 7, d2 5 [40] 7 40, d3 3 [38], d0 6 [39, 41], d3 7 [37, 42], d0 8 [43], d0 9 []]
noncomputable def F_impl_ProvenPrefix (a0 : Group) (a1 : Board) (a2 : Head) (a3 : Head) : Option ((List Int) × Bool) :=
 (((F_impl_areBoard a0 a1).bind fun z4 =>
 if (!z4) = true then (
 some true) else (
 (F_impl_Group_fits a0 a1 a2).bind fun z6 =>
 if (!z6) = true then (
 some true) else (
 (F_impl_Group_fits a0 a1 a3).bind fun z8 =>
 if (!z8) = true then (
 some true) else (
 (F_impl_within a2.Size 1 a3.Size).bind fun z10 =>
 some (!z10)))) : Option (Bool)).bind fun x3 =>
 if x3 = true then (
 some ([], false)) else (
 (F_impl_boardLeaves a1).bind fun z12 =>
 gd (0 ≤ a3.Size) <|
 gd (0 ≤ a3.Size.toNat ∧ a3.Size.toNat ≤ z12.length) <|
 (F_impl_prefixPath a2.Size ((z12.take a3.Size.toNat).drop 0) true).bind fun z13 =>
 some (z13, true)))
theorem c_impl_ProvenPrefix : ∀ {a0} {a1} {a2} {a3} {r}, F_impl_ProvenPrefix a0 a1 a2 a3 = some r → PCalls Tryz.prog 20 [(.sh, .agg [.int .i64 a0.P, .int .i64 a0.Q, .int .i64 a0.G]), (.sh, .agg [.sl false 1 (a1.Keys.map row_i64), .sl false 6 (a1.Entries.map row_Entry_z)]), (.sh, .agg [.int .i64 a2.Author, .int .i64 a2.Size, .int .i64 a2.Root, .sl false 1 (a2.Sign.Commits.map row_i64), .sl false 1 (a2.Sign.Challenges.map row_i64), .sl false 1 (a2.Sign.Responses.map row_i64)]), (.sh, .agg [.int .i64 a3.Author, .int .i64 a3.Size, .int .i64 a3.Root, .sl false 1 (a3.Sign.Commits.map row_i64), .sl false 1 (a3.Sign.Challenges.map row_i64), .sl false 1 (a3.Sign.Responses.map row_i64)])] (Eo (.tup [.sl true 1 (r.1.map row_i64), .bool r.2]) [.junk, .junk, .junk, .junk]) := by
 intro a0 a1 a2 a3 r hr
 apply pF 44 [] [] [] [.tmp 8, .tmp 9] hr cl20 Tryz.func20
 intro Φ hΦ hF g
 unfold F_impl_ProvenPrefix at hF
 try simp [go_sem, g]
 refine pw_wk ?_
 repeat rw [sq]
 refine pJ hF (fun x3 => [(5, .bl [.sl false 1 (a1.Keys.map row_i64), .sl false 6 (a1.Entries.map row_Entry_z)]), (6, .bl [.int .i64 a2.Author, .int .i64 a2.Size, .int .i64 a2.Root, .sl false 1 (a2.Sign.Commits.map row_i64), .sl false 1 (a2.Sign.Challenges.map row_i64), .sl false 1 (a2.Sign.Responses.map row_i64)]), (7, .bl [.int .i64 a3.Author, .int .i64 a3.Size, .int .i64 a3.Root, .sl false 1 (a3.Sign.Commits.map row_i64), .sl false 1 (a3.Sign.Challenges.map row_i64), .sl false 1 (a3.Sign.Responses.map row_i64)]), (35, .v (.bool x3))]) (fun x3 hF => ?_) fun _ hj1 hF => ?_
 ·repeat rw [sq]
  refine pI hF (fun h11 hF => ?_) (fun h11 hF => ?_)
  ·cases hΦ _ (Rn_some hF)
   try simp [go_sem, g]
   refine pw_wk ?_
   try simp [go_sem, g]
  ·try simp [go_sem, g]
   refine pw_wk ?_
   repeat rw [sq]
   refine pw_draw D20_3 follows (by kernel_rfl) rfl ?_
   try simp only [go_sem, D20_3]
   try simp [go_sem, g]
   refine pC hF [.sh] c_impl_boardLeaves (fun z12 hF => ?_)
   obtain ⟨g, hF⟩ := Rg g hF
   obtain ⟨g, hF⟩ := Rg g hF
   try simp [go_sem, g]
   refine pC hF [.sh, .sh, .sh] c_impl_prefixPath (fun z13 hF => ?_)
   try simp [go_sem, g]
   refine pw_wkK [8, 9] (by simp [go_sem, g]; rfl) ?_
   cases hΦ _ (Rn_some hF)
   try simp [go_sem, g]
 ·try simp [go_sem, g]
  refine pC hF [.sh, .sh] c_impl_areBoard (fun z4 hF => ?_)
  try simp [go_sem, g]
  refine pwg_F hF (fun h5 hF => ?_) fun h5 hF => ?_
  ·try simp [go_sem, g, h5]
   exact pT (hj1 true) (Rn_some hF)
  ·try simp [go_sem, g, h5]
   refine pC hF [.sh, .sh, .sh] c_impl_Group_fits (fun z6 hF => ?_)
   try simp [go_sem, g, h5]
   refine pwg_F hF (fun h7 hF => ?_) fun h7 hF => ?_
   ·try simp [go_sem, g, h7]
    exact pT (hj1 true) (Rn_some hF)
   ·try simp [go_sem, g, h7]
    refine pC hF [.sh, .sh, .sh] c_impl_Group_fits (fun z8 hF => ?_)
    try simp [go_sem, g, h7]
    refine pwg_F hF (fun h9 hF => ?_) fun h9 hF => ?_
    ·try simp [go_sem, g, h9]
     exact pT (hj1 true) (Rn_some hF)
    ·try simp [go_sem, g, h9]
     refine pC hF [.sh, .sh, .sh] c_impl_within (fun z10 hF => ?_)
     try simp [go_sem, g, h9]
     exact pT (hj1 (!z10)) (Rn_some hF)
noncomputable def F_spec_gIs (a0 : Group) (a1 : (List Int)) : Option (Bool) :=
 ((rloop (σ := Unit) (fun i5 s4 =>
 (ix a1 i5).bind fun x11 =>
 (((F_spec_l1In x11 1 (i64.wrap (a0.P - 1))).bind fun z15 =>
 if (!z15) = true then (
 some true) else (
 (F_spec_nPower x11 a0.Q a0.P).bind fun z17 =>
 some (z17 != 1)) : Option (Bool)).bind fun x14 =>
 if x14 = true then (
 some (.out (.inr false))) else (
 some (.go ())))) (fun s4 => .inl ()) (a1.length) 0 () : Option (Unit ⊕ Bool)).bind (Sum.elim (fun x3 =>
 some true) some))
theorem c_spec_gIs : ∀ {a0} {a1} {r}, F_spec_gIs a0 a1 = some r → PCalls Tryz.prog 115 [(.sh, .agg [.int .i64 a0.P, .int .i64 a0.Q, .int .i64 a0.G]), (.sh, .sl false 1 (a1.map row_i64))] (Eo (.bool r) [.junk, .junk]) := by
 intro a0 a1 r hr
 apply pF 29 [] [] [] [.tmp 4] hr cl115 Tryz.func115
 intro Φ hΦ hF g
 unfold F_spec_gIs at hF
 iterate 2 (try simp [go_sem, g]; try intros; refine pw_wk ?_)
 repeat rw [sq]
 refine pJs hF (fun x3 => []) (fun x3 hF => ?_) fun _ hj1 hr2 hF => ?_
 ·cases hΦ _ (Rn_some hF)
  try simp [go_sem, g]
  refine pw_wk ?_
  try simp [go_sem, g]
 ·repeat rw [sq]
  rw [pw_block]
  obtain ⟨b19, hb20, hψ8⟩ := hF
  refine pR hb20 (fun i5 s4 => [(2, .bl [.int .i64 a0.P, .int .i64 a0.Q, .int .i64 a0.G]), (7, .v (.sl false 1 (a1.map row_i64))), (8, .v (.int .i64 (a1.length : Int))), (9, .v (.int .i64 i5))]) (fun s4 _ hN21 => ?_) (fun i5 s4 _ _ hi9 hi10 ho6 hg7 hF => ?_)
  ·subst hN21
   try simp [go_sem]
   refine pw_wk ?_
   repeat rw [sq]
   refine pw_cond_f (by simp [go_sem]) ?_
   try simp [go_sem]
   exact pT (hj1 ()) hψ8 (by simp [go_sem])
  ·try simp [go_sem, g]
   refine pw_wk ?_
   repeat rw [sq]
   refine pw_cond_t (by simp [go_sem, g, hi9, hi10]) ?_
   try simp [go_sem, g]
   refine pw_wk ?_
   repeat rw [sq]
   rw [pw_block]
   obtain ⟨x11, g, hF⟩ := Rx g hF
   try simp [go_sem, g]
   refine pw_wk ?_
   repeat rw [sq]
   refine pJ hF (fun x14 => [(2, .bl [.int .i64 a0.P, .int .i64 a0.Q, .int .i64 a0.G]), (7, .v (.sl false 1 (a1.map row_i64))), (8, .v (.int .i64 (a1.length : Int))), (9, .v (.int .i64 i5)), (27, .v (.bool x14))]) (fun x14 hF => ?_) fun _ hj12 hF => ?_
   ·repeat rw [sq]
    refine pI hF (fun h18 hF => ?_) (fun h18 hF => ?_)
    ·try simp [go_sem, g]
     refine pw_wkK [4] (by simp [go_sem, g]; rfl) ?_
     cases ho6 _ (Rn_some hF)
     cases hΦ _ (hr2 _ hψ8)
     try simp [go_sem, g]
    ·try simp [go_sem, g]
     refine pw_wk ?_
     try simp [go_sem, g]
     exact pT (hg7 ()) (Rn_some hF) (by simp [go_sem, g, wr_i hi9 hi10 (by assumption)])
   ·try simp [go_sem, g]
    refine pC hF [.sh, .sh, .sh] c_spec_l1In (fun z15 hF => ?_)
    try simp [go_sem, g]
    refine pwg_F hF (fun h16 hF => ?_) fun h16 hF => ?_
    ·try simp [go_sem, g, h16]
     exact pT (hj12 true) (Rn_some hF)
    ·try simp [go_sem, g, h16]
     refine pC hF [.sh, .sh, .sh] c_spec_nPower (fun z17 hF => ?_)
     try simp [go_sem, g, h16]
     exact pT (hj12 (z17 != 1)) (Rn_some hF)
noncomputable def F_spec_oPlain (a0 : Entry) : Option (Bool) :=
 (((F_spec_l1In a0.Kind 1 9).bind fun z4 =>
 if z4 = true then (
 (F_spec_l1In a0.Author 0 39).bind fun z6 =>
 if z6 = true then (
 if decide ((a0.Data.length : Int) ≤ 380) = true then (
 (F_spec_l1All a0.Data 0 4611686018427387903).bind fun z9 =>
 some z9) else (
 some false)) else (
 some false)) else (
 some false) : Option (Bool)).bind fun x3 =>
 some x3)
theorem c_spec_oPlain : ∀ {a0} {r}, F_spec_oPlain a0 = some r → PCalls Tryz.prog 99 [(.sh, .agg [.int .i64 a0.Kind, .int .i64 a0.Author, .sl false 1 (a0.Data.map row_i64), .sl false 1 (a0.Sign.Commits.map row_i64), .sl false 1 (a0.Sign.Challenges.map row_i64), .sl false 1 (a0.Sign.Responses.map row_i64)])] (Eo (.bool r) [.junk]) := by
 intro a0 r hr
 apply pF 22 [] [] [] [.tmp 2] hr cl99 Tryz.func99
 intro Φ hΦ hF g
 unfold F_spec_oPlain at hF
 try simp [go_sem, g]
 refine pw_wk ?_
 repeat rw [sq]
 refine pJ hF (fun x3 => [(2, .v (.bool x3))]) (fun x3 hF => ?_) fun _ hj1 hF => ?_
 ·cases hΦ _ (Rn_some hF)
  try simp [go_sem, g]
 ·try simp [go_sem, g]
  refine pC hF [.sh, .sh, .sh] c_spec_l1In (fun z4 hF => ?_)
  try simp [go_sem, g]
  refine pwg_F hF (fun h5 hF => ?_) fun h5 hF => ?_
  ·try simp [go_sem, g, h5]
   refine pC hF [.sh, .sh, .sh] c_spec_l1In (fun z6 hF => ?_)
   try simp [go_sem, g, h5]
   refine pwg_F hF (fun h7 hF => ?_) fun h7 hF => ?_
   ·try simp [go_sem, g, h7]
    try intros
    refine pwg_F hF (fun h8 hF => ?_) fun h8 hF => ?_
    ·try simp [go_sem, g, h8]
     refine pC hF [.sh, .sh, .sh] c_spec_l1All (fun z9 hF => ?_)
     try simp [go_sem, g, h8]
     exact pT (hj1 z9) (Rn_some hF)
    ·try simp [go_sem, g, h8]
     exact pT (hj1 false) (Rn_some hF)
   ·try simp [go_sem, g, h7]
    exact pT (hj1 false) (Rn_some hF)
  ·try simp [go_sem, g, h5]
   exact pT (hj1 false) (Rn_some hF)
noncomputable def F_spec_gMul (a0 : Group) (a1 : (List Int)) : Option (Int) :=
 ((rloop (σ := Int) (fun i5 s4 =>
 (ix a1 i5).bind fun x11 =>
 gd (a0.P ≠ 0) <|
 some (.go ((i64.wrap (s4 * x11)).tmod a0.P))) (fun s4 => s4) (a1.length) 0 1 : Option (Int)).bind fun x3 =>
 some x3)
theorem c_spec_gMul : ∀ {a0} {a1} {r}, F_spec_gMul a0 a1 = some r → PCalls Tryz.prog 186 [(.sh, .agg [.int .i64 a0.P, .int .i64 a0.Q, .int .i64 a0.G]), (.sh, .sl false 1 (a1.map row_i64))] (Eo (.int .i64 r) [.junk, .junk]) := by
 intro a0 a1 r hr
 apply pF 22 [] [] [] [.tmp 4] hr cl186 Tryz.func186
 intro Φ hΦ hF g
 unfold F_spec_gMul at hF
 iterate 3 (try simp [go_sem, g]; try intros; refine pw_wk ?_)
 repeat rw [sq]
 refine pJ hF (fun x3 => [(5, .v (.int .i64 x3))]) (fun x3 hF => ?_) fun _ hj1 hF => ?_
 ·cases hΦ _ (Rn_some hF)
  try simp [go_sem, g]
  refine pw_wk ?_
  try simp [go_sem, g]
 ·repeat rw [sq]
  rw [pw_block]
  obtain ⟨b12, hb13, hψ8⟩ := hF
  refine pR hb13 (fun i5 s4 => [(2, .bl [.int .i64 a0.P, .int .i64 a0.Q, .int .i64 a0.G]), (5, .v (.int .i64 s4)), (8, .v (.sl false 1 (a1.map row_i64))), (9, .v (.int .i64 (a1.length : Int))), (10, .v (.int .i64 i5))]) (fun s4 _ hN14 => ?_) (fun i5 s4 _ _ hi9 hi10 ho6 hg7 hF => ?_)
  ·subst hN14
   try simp [go_sem]
   refine pw_wk ?_
   repeat rw [sq]
   refine pw_cond_f (by simp [go_sem]) ?_
   try simp [go_sem]
   exact pT (hj1 s4) hψ8 (by simp [go_sem])
  ·try simp [go_sem, g]
   refine pw_wk ?_
   repeat rw [sq]
   refine pw_cond_t (by simp [go_sem, g, hi9, hi10]) ?_
   try simp [go_sem, g]
   refine pw_wk ?_
   repeat rw [sq]
   rw [pw_block]
   obtain ⟨x11, g, hF⟩ := Rx g hF
   try simp [go_sem, g]
   refine pw_wkK [2, 5, 7, 8, 9, 10] (by simp [go_sem, g]; rfl) ?_
   obtain ⟨g, hF⟩ := Rz g hF
   try simp [go_sem, g]
   refine pw_wk ?_
   try simp [go_sem, g]
   exact pT (hg7 ((i64.wrap (s4 * x11)).tmod a0.P)) (Rn_some hF) (by simp [go_sem, g, wr_i hi9 hi10 (by assumption)])
def D177_1 : List DE := [d1 0 [9] 9, d2 1 [14] 9 14, d0 2 [15], d0 3 [2], d0 4 [17], d0 5 [16, 18], d0 6 [19], d1 7 [9, 20] 9, d2 8 [21, 20] 9 21, d0 9 [22, 20], d0 10 [23, 20], d0 11 [20, 24], d0 12 [25], d1 13 [9, 26] 9, d2 14 [27, 26] 9 27, d0 15 [28, 26], d0 16 [2, 26], d0 17 [30, 26], d0 18 [31, 26], d0 19 [32, 26], d0 20 [29, 33, 26], d0 21 [26, 34], d0 22 [35], d2 23 [5, 36] 5 5, d1 24 [9, 36] 9, d2 25 [38, 36] 9 38, d3 26 [37, 39, 36], d0 27 [40, 36], d0 28 [36, 41], d0 29 [42], d2 30 [5, 43] 5 5, d1 31 [9, 43] 9, d2 32 [45, 43] 9 45, d3 33 [44, 46, 43], d0 34 [47, 43], d0 35 [43, 48]]
def D177_4 : List DE := [d0 0 [11], d2 1 [5] 5 5, d0 2 [1], d0 3 [2], d0 4 [3], d1 5 [9] 9, d2 6 [59] 9 59, d3 7 [57, 58, 60], d3 8 [55, 56, 61], d0 9 [54, 62]]
def D177_9 : List DE := [d2 0 [5] 5 5, d0 1 [13], d1 2 [9] 9, d2 3 [73] 9 73, d2 5 [5] 5 5, d1 6 [9] 9, d2 7 [77] 9 77, d0 8 [12], d0 9 [78, 79], d0 10 [80], d2 11 [5] 5 5, d0 12 [3], d0 13 [12], d0 14 [83, 84], d0 15 [85], d0 16 [11], ⟨4, [71, 72, 74], [], none, false, true, false⟩, ⟨17, [82, 86, 87], [], none, false, true, false⟩, d0 18 [81, 88], ⟨19, [76, 89], [], none, true, true, true⟩, d0 20 [75, 90]]
noncomputable def F_spec_sVerify (a0 : Group) (a1 : ByteArray) (a2 : (List (List Int))) (a3 : (List Int)) (a4 : Proof) : Option (Bool) :=
 ((if ((a4.Commits.length : Int) != (a2.length : Int)) = true then (
 some true) else (
 if ((a4.Challenges.length : Int) != 1) = true then (
 some true) else (
 (ix a2 0).bind fun x6 =>
 if ((a4.Responses.length : Int) != (x6.length : Int)) = true then (
 some true) else (
 (F_spec_gIs a0 a4.Commits).bind fun z8 =>
 if (!z8) = true then (
 some true) else (
 (F_spec_gExps a0 a4.Responses).bind fun z10 =>
 some (!z10))))) : Option (Bool)).bind fun x3 =>
 if x3 = true then (
 some false) else (
 (ix a4.Challenges 0).bind fun x12 =>
 (F_spec_sStatement a2 a3 a4.Commits).bind fun z13 =>
 (F_spec_hChallenge a0 a1 z13).bind fun z14 =>
 if (x12 != z14) = true then (
 some false) else (
 ((rloop (σ := Unit) (fun i20 s19 =>
 (ix a2 i20).bind fun x26 =>
 (ix a4.Commits i20).bind fun x27 =>
 (ix a3 i20).bind fun x28 =>
 (F_spec_gProd a0 x26 a4.Responses).bind fun z29 =>
 (F_spec_gExp a0 x28 x12).bind fun z30 =>
 (F_spec_gMul a0 [x27, z30]).bind fun z31 =>
 if (z29 != z31) = true then (
 some (.out (.inr false))) else (
 some (.go ()))) (fun s19 => .inl ()) (a2.length) 0 () : Option (Unit ⊕ Bool)).bind (Sum.elim (fun x18 =>
 some true) some)))))
theorem c_spec_sVerify : ∀ {a0} {a1} {a2} {a3} {a4} {r}, F_spec_sVerify a0 a1 a2 a3 a4 = some r → PCalls Tryz.prog 177 [(.sh, .agg [.int .i64 a0.P, .int .i64 a0.Q, .int .i64 a0.G]), (.sh, .str a1), (.sh, .sl false 1 (a2.map row_zi64)), (.sh, .sl false 1 (a3.map row_i64)), (.sh, .agg [.sl false 1 (a4.Commits.map row_i64), .sl false 1 (a4.Challenges.map row_i64), .sl false 1 (a4.Responses.map row_i64)])] (Eo (.bool r) [.junk, .junk, .junk, .junk, .junk]) := by
 intro a0 a1 a2 a3 a4 r hr
 apply pF 93 [] [] [] [.tmp 10] hr cl177 Tryz.func177
 intro Φ hΦ hF g
 unfold F_spec_sVerify at hF
 try simp [go_sem, g]
 refine pw_wk ?_
 repeat rw [sq]
 refine pJ hF (fun x3 => [(1, .v (.str a1)), (2, .v (.sl false 1 (a2.map row_zi64))), (3, .v (.sl false 1 (a3.map row_i64))), (5, .bl [.int .i64 a0.P, .int .i64 a0.Q, .int .i64 a0.G]), (9, .bl [.sl false 1 (a4.Commits.map row_i64), .sl false 1 (a4.Challenges.map row_i64), .sl false 1 (a4.Responses.map row_i64)]), (49, .v (.bool x3))]) (fun x3 hF => ?_) fun _ hj1 hF => ?_
 ·repeat rw [sq]
  refine pI hF (fun h11 hF => ?_) (fun h11 hF => ?_)
  ·cases hΦ _ (Rn_some hF)
   try simp [go_sem, g]
   refine pw_wk ?_
   try simp [go_sem, g]
  ·obtain ⟨x12, g, hF⟩ := Rxn g 0 hF
   iterate 2 (try simp [go_sem, g]; refine pw_wk ?_)
   repeat rw [sq]
   refine pw_draw D177_4 follows (by kernel_rfl) rfl ?_
   try simp only [go_sem, D177_4]
   try simp [go_sem, g]
   refine pC hF [.sh, .sh, .sh] c_spec_sStatement (fun z13 hF => ?_)
   try simp [go_sem, g]
   refine pC hF [.sh, .sh, .sh] c_spec_hChallenge (fun z14 hF => ?_)
   try simp [go_sem, g]
   refine pw_wkK [2, 3, 5, 9, 11, 63] (by simp [go_sem, g]; rfl) ?_
   repeat rw [sq]
   refine pI hF (fun h15 hF => ?_) (fun h15 hF => ?_)
   ·cases hΦ _ (Rn_some hF)
    try simp [go_sem, g]
    refine pw_wk ?_
    try simp [go_sem, g]
   ·iterate 2 (try simp [go_sem, g]; try intros; refine pw_wk ?_)
    repeat rw [sq]
    refine pJs hF (fun x18 => []) (fun x18 hF => ?_) fun _ hj16 hr17 hF => ?_
    ·cases hΦ _ (Rn_some hF)
     try simp [go_sem, g]
     refine pw_wk ?_
     try simp [go_sem, g]
    ·repeat rw [sq]
     rw [pw_block]
     obtain ⟨b33, hb34, hψ23⟩ := hF
     refine pR hb34 (fun i20 s19 => [(3, .v (.sl false 1 (a3.map row_i64))), (5, .bl [.int .i64 a0.P, .int .i64 a0.Q, .int .i64 a0.G]), (9, .bl [.sl false 1 (a4.Commits.map row_i64), .sl false 1 (a4.Challenges.map row_i64), .sl false 1 (a4.Responses.map row_i64)]), (11, .v (.int .i64 x12)), (64, .v (.sl false 1 (a2.map row_zi64))), (65, .v (.int .i64 (a2.length : Int))), (66, .v (.int .i64 i20))]) (fun s19 _ hN35 => ?_) (fun i20 s19 _ _ hi24 hi25 ho21 hg22 hF => ?_)
     ·subst hN35
      try simp [go_sem]
      refine pw_wk ?_
      repeat rw [sq]
      refine pw_cond_f (by simp [go_sem]) ?_
      try simp [go_sem]
      exact pT (hj16 ()) hψ23 (by simp [go_sem])
     ·try simp [go_sem, g]
      refine pw_wk ?_
      repeat rw [sq]
      refine pw_cond_t (by simp [go_sem, g, hi24, hi25]) ?_
      try simp [go_sem, g]
      refine pw_wk ?_
      repeat rw [sq]
      rw [pw_block]
      obtain ⟨x26, g, hF⟩ := Rx g hF
      try simp [go_sem, g]
      refine pw_wk ?_
      repeat rw [sq]
      refine pw_draw D177_9 follows (by kernel_rfl) rfl ?_
      try simp only [go_sem, D177_9]
      obtain ⟨x27, g, hF⟩ := Rx g hF
      obtain ⟨x28, g, hF⟩ := Rx g hF
      try simp [go_sem, g]
      refine pCD hF c_spec_gProd (fun z29 hF => ?_)
      try simp [go_sem, g]
      refine pCD hF c_spec_gExp (fun z30 hF => ?_)
      try simp [go_sem, g]
      refine pC hF [.sh, .sh] c_spec_gMul (fun z31 hF => ?_)
      try simp [go_sem, g]
      refine pw_wkK [3, 5, 9, 11, 64, 65, 66, 91] (by simp [go_sem, g]; rfl) ?_
      repeat rw [sq]
      refine pI hF (fun h32 hF => ?_) (fun h32 hF => ?_)
      ·cases ho21 _ (Rn_some hF)
       cases hΦ _ (hr17 _ hψ23)
       try simp [go_sem, g]
       refine pw_wk ?_
       try simp [go_sem, g]
      ·try simp [go_sem, g]
       refine pw_wk ?_
       try simp [go_sem, g]
       exact pT (hg22 ()) (Rn_some hF) (by simp [go_sem, g, wr_i hi24 hi25 (by assumption)])
 ·repeat rw [sq]
  refine pw_draw D177_1 follows (by kernel_rfl) rfl ?_
  try simp only [go_sem, D177_1]
  try simp [go_sem, g]
  try intros
  refine pwgD_F hF (fun h4 hF => ?_) fun h4 hF => ?_
  ·try simp [go_sem, g, h4]
   exact pT (hj1 true) (Rn_some hF)
  ·try simp [go_sem, g, h4]
   try intros
   refine pwgD_F hF (fun h5 hF => ?_) fun h5 hF => ?_
   ·try simp [go_sem, g, h5]
    exact pT (hj1 true) (Rn_some hF)
   ·obtain ⟨x6, g, hF⟩ := Rxn g 0 hF
    try simp [go_sem, g, h5]
    try intros
    refine pwgD_F hF (fun h7 hF => ?_) fun h7 hF => ?_
    ·try simp [go_sem, g, h7]
     exact pT (hj1 true) (Rn_some hF)
    ·try simp [go_sem, g, h7]
     refine pC hF [.sh, .sh] c_spec_gIs (fun z8 hF => ?_)
     try simp [go_sem, g, h7]
     refine pwgD_F hF (fun h9 hF => ?_) fun h9 hF => ?_
     ·try simp [go_sem, g, h9]
      exact pT (hj1 true) (Rn_some hF)
     ·try simp [go_sem, g, h9]
      refine pC hF [.sh, .sh] c_spec_gExps (fun z10 hF => ?_)
      try simp [go_sem, g, h9]
      exact pT (hj1 (!z10)) (Rn_some hF)
noncomputable def F_spec_oSigned (a0 : Group) (a1 : ByteArray) (a2 : Int) (a3 : Proof) : Option (Bool) :=
 (F_spec_sVerify a0 a1 [[a0.G]] [a2] a3).bind fun z1 =>
 some z1
theorem c_spec_oSigned : ∀ {a0} {a1} {a2} {a3} {r}, F_spec_oSigned a0 a1 a2 a3 = some r → PCalls Tryz.prog 150 [(.sh, .agg [.int .i64 a0.P, .int .i64 a0.Q, .int .i64 a0.G]), (.sh, .str a1), (.sh, .int .i64 a2), (.sh, .agg [.sl false 1 (a3.Commits.map row_i64), .sl false 1 (a3.Challenges.map row_i64), .sl false 1 (a3.Responses.map row_i64)])] (Eo (.bool r) [.junk, .junk, .junk, .junk]) := by
 intro a0 a1 a2 a3 r hr
 apply pF 19 [] [] [] [.tmp 8] hr cl150 Tryz.func150
 intro Φ hΦ hF g
 unfold F_spec_oSigned at hF
 try simp [go_sem, g]
 refine pw_wk ?_
 try simp [go_sem, g]
 refine pC hF [.sh, .sh, .sh, .sh, .sh] c_spec_sVerify (fun z1 hF => ?_)
 try simp [go_sem, g]
 refine pw_wkK [8] (by simp [go_sem, g]; rfl) ?_
 cases hΦ _ (Rn_some hF)
 try simp [go_sem, g]
def D116_1 : List DE := [d2 0 [7] 7 7, d3 1 [9], d0 2 [10], d2 3 [4, 11] 4 4, d2 4 [7, 11] 7 7, d0 5 [2, 11], d0 7 [1, 11], d1 8 [7, 11] 7, d2 9 [17, 11] 7 17, d3 6 [13, 14, 11], d3 10 [12, 15, 16, 18, 11], d0 11 [11, 19], d0 12 [20]]
noncomputable def F_spec_oAccepts (a0 : Group) (a1 : Int) (a2 : Int) (a3 : Entry) : Option (Bool) :=
 (((F_spec_oPlain a3).bind fun z4 =>
 if z4 = true then (
 (F_spec_oLabel a3 a2).bind fun z6 =>
 (F_spec_oSigned a0 z6 a1 a3.Sign).bind fun z7 =>
 some z7) else (
 some false) : Option (Bool)).bind fun x3 =>
 some x3)
theorem c_spec_oAccepts : ∀ {a0} {a1} {a2} {a3} {r}, F_spec_oAccepts a0 a1 a2 a3 = some r → PCalls Tryz.prog 116 [(.sh, .agg [.int .i64 a0.P, .int .i64 a0.Q, .int .i64 a0.G]), (.sh, .int .i64 a1), (.sh, .int .i64 a2), (.sh, .agg [.int .i64 a3.Kind, .int .i64 a3.Author, .sl false 1 (a3.Data.map row_i64), .sl false 1 (a3.Sign.Commits.map row_i64), .sl false 1 (a3.Sign.Challenges.map row_i64), .sl false 1 (a3.Sign.Responses.map row_i64)])] (Eo (.bool r) [.junk, .junk, .junk, .junk]) := by
 intro a0 a1 a2 a3 r hr
 apply pF 21 [] [] [] [.tmp 8] hr cl116 Tryz.func116
 intro Φ hΦ hF g
 unfold F_spec_oAccepts at hF
 try simp [go_sem, g]
 refine pw_wk ?_
 repeat rw [sq]
 refine pJ hF (fun x3 => [(8, .v (.bool x3))]) (fun x3 hF => ?_) fun _ hj1 hF => ?_
 ·cases hΦ _ (Rn_some hF)
  try simp [go_sem, g]
 ·repeat rw [sq]
  refine pw_draw D116_1 follows (by kernel_rfl) rfl ?_
  try simp only [go_sem, D116_1]
  try simp [go_sem, g]
  refine pC hF [.sh] c_spec_oPlain (fun z4 hF => ?_)
  try simp [go_sem, g]
  refine pwgD_F hF (fun h5 hF => ?_) fun h5 hF => ?_
  ·try simp [go_sem, g, h5]
   refine pC hF [.sh, .sh] c_spec_oLabel (fun z6 hF => ?_)
   try simp [go_sem, g, h5]
   refine pC hF [.sh, .sh, .sh, .sh] c_spec_oSigned (fun z7 hF => ?_)
   try simp [go_sem, g, h5]
   exact pT (hj1 z7) (Rn_some hF)
  ·try simp [go_sem, g, h5]
   exact pT (hj1 false) (Rn_some hF)
def D59_6 : List DE := [d1 0 [6] 6, d2 1 [32] 6 32, d1 2 [3] 3, d2 3 [34] 3 34, d0 4 [35], d0 5 [36], d3 6 [33, 37], d0 7 [38], d0 8 [39], d2 9 [2, 40] 2 2, d1 10 [3, 40] 3, d2 11 [42, 40] 3 42, d1 12 [6, 40] 6, d2 13 [44, 40] 6 44, d0 14 [43, 45, 40], d0 15 [46, 40], d0 16 [5, 40], d2 17 [6, 40] 6 6, d3 18 [41, 47, 48, 49, 40], d0 19 [50, 40], d0 20 [40, 51]]
noncomputable def F_spec_oBoard (a0 : Group) (a1 : Board) : Option (Bool) :=
 ((if decide (40 < (a1.Keys.length : Int)) = true then (
 some true) else (
 (F_spec_gIs a0 a1.Keys).bind fun z5 =>
 if (!z5) = true then (
 some true) else (
 some (decide (64 < (a1.Entries.length : Int))))) : Option (Bool)).bind fun x3 =>
 if x3 = true then (
 some false) else (
 ((rloop (σ := Unit) (fun i12 s11 =>
 (ix a1.Entries i12).bind fun x18 =>
 (((F_spec_l1In x18.Author 0 (i64.wrap ((a1.Keys.length : Int) - 1))).bind fun z22 =>
 if (!z22) = true then (
 some true) else (
 (ix a1.Keys x18.Author).bind fun x24 =>
 (F_spec_oAccepts a0 x24 i12 x18).bind fun z25 =>
 some (!z25)) : Option (Bool)).bind fun x21 =>
 if x21 = true then (
 some (.out (.inr false))) else (
 some (.go ())))) (fun s11 => .inl ()) (a1.Entries.length) 0 () : Option (Unit ⊕ Bool)).bind (Sum.elim (fun x10 =>
 some true) some))))
theorem c_spec_oBoard : ∀ {a0} {a1} {r}, F_spec_oBoard a0 a1 = some r → PCalls Tryz.prog 59 [(.sh, .agg [.int .i64 a0.P, .int .i64 a0.Q, .int .i64 a0.G]), (.sh, .agg [.sl false 1 (a1.Keys.map row_i64), .sl false 6 (a1.Entries.map row_Entry_z)])] (Eo (.bool r) [.junk, .junk]) := by
 intro a0 a1 r hr
 apply pF 54 [] [] [] [.tmp 4] hr cl59 Tryz.func59
 intro Φ hΦ hF g
 unfold F_spec_oBoard at hF
 try simp [go_sem, g]
 refine pw_wk ?_
 repeat rw [sq]
 refine pJ hF (fun x3 => [(2, .bl [.int .i64 a0.P, .int .i64 a0.Q, .int .i64 a0.G]), (3, .bl [.sl false 1 (a1.Keys.map row_i64), .sl false 6 (a1.Entries.map row_Entry_z)]), (23, .v (.bool x3))]) (fun x3 hF => ?_) fun _ hj1 hF => ?_
 ·repeat rw [sq]
  refine pI hF (fun h7 hF => ?_) (fun h7 hF => ?_)
  ·cases hΦ _ (Rn_some hF)
   try simp [go_sem, g]
   refine pw_wk ?_
   try simp [go_sem, g]
  ·iterate 2 (try simp [go_sem, g]; try intros; refine pw_wk ?_)
   repeat rw [sq]
   refine pJs hF (fun x10 => []) (fun x10 hF => ?_) fun _ hj8 hr9 hF => ?_
   ·cases hΦ _ (Rn_some hF)
    try simp [go_sem, g]
    refine pw_wk ?_
    try simp [go_sem, g]
   ·repeat rw [sq]
    rw [pw_block]
    obtain ⟨b27, hb28, hψ15⟩ := hF
    refine pR hb28 (fun i12 s11 => [(2, .bl [.int .i64 a0.P, .int .i64 a0.Q, .int .i64 a0.G]), (3, .bl [.sl false 1 (a1.Keys.map row_i64), .sl false 6 (a1.Entries.map row_Entry_z)]), (25, .v (.sl false 6 (a1.Entries.map row_Entry_z))), (26, .v (.int .i64 (a1.Entries.length : Int))), (27, .v (.int .i64 i12))]) (fun s11 _ hN29 => ?_) (fun i12 s11 _ _ hi16 hi17 ho13 hg14 hF => ?_)
    ·subst hN29
     try simp [go_sem]
     refine pw_wk ?_
     repeat rw [sq]
     refine pw_cond_f (by simp [go_sem]) ?_
     try simp [go_sem]
     exact pT (hj8 ()) hψ15 (by simp [go_sem])
    ·try simp [go_sem, g]
     refine pw_wk ?_
     repeat rw [sq]
     refine pw_cond_t (by simp [go_sem, g, hi16, hi17]) ?_
     try simp [go_sem, g]
     refine pw_wk ?_
     repeat rw [sq]
     rw [pw_block]
     obtain ⟨x18, g, hF⟩ := Rx g hF
     try simp [go_sem, g]
     refine pw_wkK [2, 3, 5, 6, 25, 26, 27] (by simp [go_sem, g]; rfl) ?_
     repeat rw [sq]
     refine pJ hF (fun x21 => [(2, .bl [.int .i64 a0.P, .int .i64 a0.Q, .int .i64 a0.G]), (3, .bl [.sl false 1 (a1.Keys.map row_i64), .sl false 6 (a1.Entries.map row_Entry_z)]), (25, .v (.sl false 6 (a1.Entries.map row_Entry_z))), (26, .v (.int .i64 (a1.Entries.length : Int))), (27, .v (.int .i64 i12)), (52, .v (.bool x21))]) (fun x21 hF => ?_) fun _ hj19 hF => ?_
     ·repeat rw [sq]
      refine pI hF (fun h26 hF => ?_) (fun h26 hF => ?_)
      ·cases ho13 _ (Rn_some hF)
       cases hΦ _ (hr9 _ hψ15)
       try simp [go_sem, g]
       refine pw_wk ?_
       try simp [go_sem, g]
      ·try simp [go_sem, g]
       refine pw_wk ?_
       try simp [go_sem, g]
       exact pT (hg14 ()) (Rn_some hF) (by simp [go_sem, g, wr_i hi16 hi17 (by assumption)])
     ·repeat rw [sq]
      refine pw_draw D59_6 follows (by kernel_rfl) rfl ?_
      try simp only [go_sem, D59_6]
      try simp [go_sem, g]
      try intros
      refine pC hF [.sh, .sh, .sh] c_spec_l1In (fun z22 hF => ?_)
      try simp [go_sem, g]
      refine pwgD_F hF (fun h23 hF => ?_) fun h23 hF => ?_
      ·try simp [go_sem, g, h23]
       exact pT (hj19 true) (Rn_some hF)
      ·obtain ⟨x24, g, hF⟩ := Rx g hF
       try simp [go_sem, g, h23]
       refine pC hF [.sh, .sh, .sh, .sh] c_spec_oAccepts (fun z25 hF => ?_)
       try simp [go_sem, g, h23]
       exact pT (hj19 (!z25)) (Rn_some hF)
 ·try simp [go_sem, g]
  try intros
  refine pwg_F hF (fun h4 hF => ?_) fun h4 hF => ?_
  ·try simp [go_sem, g, h4]
   exact pT (hj1 true) (Rn_some hF)
  ·try simp [go_sem, g, h4]
   refine pC hF [.sh, .sh] c_spec_gIs (fun z5 hF => ?_)
   try simp [go_sem, g, h4]
   refine pwg_F hF (fun h6 hF => ?_) fun h6 hF => ?_
   ·try simp [go_sem, g, h6]
    exact pT (hj1 true) (Rn_some hF)
   ·try simp [go_sem, g, h6]
    try intros
    exact pT (hj1 (decide (64 < (a1.Entries.length : Int)))) (Rn_some hF)
def D122_1 : List DE := [d2 0 [5] 5 5, d3 1 [7], d0 2 [8], d2 3 [3, 9] 3 3, d2 4 [5, 9] 5 5, d0 6 [1, 9], d1 7 [5, 9] 5, d2 8 [14, 9] 5 14, d3 5 [11, 9], d3 9 [10, 12, 13, 15, 9], d0 10 [9, 16], d0 11 [17]]
noncomputable def F_spec_oHeadBy (a0 : Group) (a1 : Int) (a2 : Head) : Option (Bool) :=
 (((F_spec_oHead a2).bind fun z4 =>
 if z4 = true then (
 (F_spec_oHeadLabel a2).bind fun z6 =>
 (F_spec_oSigned a0 z6 a1 a2.Sign).bind fun z7 =>
 some z7) else (
 some false) : Option (Bool)).bind fun x3 =>
 some x3)
theorem c_spec_oHeadBy : ∀ {a0} {a1} {a2} {r}, F_spec_oHeadBy a0 a1 a2 = some r → PCalls Tryz.prog 122 [(.sh, .agg [.int .i64 a0.P, .int .i64 a0.Q, .int .i64 a0.G]), (.sh, .int .i64 a1), (.sh, .agg [.int .i64 a2.Author, .int .i64 a2.Size, .int .i64 a2.Root, .sl false 1 (a2.Sign.Commits.map row_i64), .sl false 1 (a2.Sign.Challenges.map row_i64), .sl false 1 (a2.Sign.Responses.map row_i64)])] (Eo (.bool r) [.junk, .junk, .junk]) := by
 intro a0 a1 a2 r hr
 apply pF 18 [] [] [] [.tmp 6] hr cl122 Tryz.func122
 intro Φ hΦ hF g
 unfold F_spec_oHeadBy at hF
 try simp [go_sem, g]
 refine pw_wk ?_
 repeat rw [sq]
 refine pJ hF (fun x3 => [(6, .v (.bool x3))]) (fun x3 hF => ?_) fun _ hj1 hF => ?_
 ·cases hΦ _ (Rn_some hF)
  try simp [go_sem, g]
 ·repeat rw [sq]
  refine pw_draw D122_1 follows (by kernel_rfl) rfl ?_
  try simp only [go_sem, D122_1]
  try simp [go_sem, g]
  refine pC hF [.sh] c_spec_oHead (fun z4 hF => ?_)
  try simp [go_sem, g]
  refine pwgD_F hF (fun h5 hF => ?_) fun h5 hF => ?_
  ·try simp [go_sem, g, h5]
   refine pC hF [.sh] c_spec_oHeadLabel (fun z6 hF => ?_)
   try simp [go_sem, g, h5]
   refine pC hF [.sh, .sh, .sh, .sh] c_spec_oSigned (fun z7 hF => ?_)
   try simp [go_sem, g, h5]
   exact pT (hj1 z7) (Rn_some hF)
  ·try simp [go_sem, g, h5]
   exact pT (hj1 false) (Rn_some hF)
def D66_1 : List DE := [d1 0 [5] 5, d2 1 [7] 5 7, d1 2 [4] 4, d2 3 [9] 4 9, d0 4 [10], d0 5 [11], d3 6 [8, 12], d0 7 [13], d0 8 [14], d2 9 [3, 15] 3 3, d1 10 [4, 15] 4, d2 11 [17, 15] 4 17, d1 12 [5, 15] 5, d2 13 [19, 15] 5 19, d0 14 [18, 20, 15], d0 15 [21, 15], d2 16 [5, 15] 5 5, d3 17 [16, 22, 23, 15], d0 18 [24, 15], d0 19 [15, 25], d0 20 [26], d1 21 [5, 27] 5, d2 22 [28, 27] 5 28, d1 23 [4, 27] 4, d2 24 [30, 27] 4 30, d0 25 [31, 27], d0 26 [29, 32, 27], d0 27 [27, 33]]
def D66_3 : List DE := [d2 0 [4] 4 4, d1 2 [5] 5, d2 3 [37] 5 37, d1 6 [5] 5, d2 7 [41] 5 41, d3 1 [35], d0 4 [36, 38], d3 5 [39], d0 8 [40, 42], d0 9 [43]]
noncomputable def F_spec_oChecks (a0 : Group) (a1 : Board) (a2 : Head) : Option (Bool) :=
 (((F_spec_l1In a2.Author 0 (i64.wrap ((a1.Keys.length : Int) - 1))).bind fun z4 =>
 if (!z4) = true then (
 some true) else (
 (ix a1.Keys a2.Author).bind fun x6 =>
 (F_spec_oHeadBy a0 x6 a2).bind fun z7 =>
 if (!z7) = true then (
 some true) else (
 some (decide ((a1.Entries.length : Int) < a2.Size)))) : Option (Bool)).bind fun x3 =>
 if x3 = true then (
 some false) else (
 (F_spec_oLeaves a1).bind fun z10 =>
 gd (0 ≤ a2.Size) <|
 gd (0 ≤ a2.Size.toNat ∧ a2.Size.toNat ≤ z10.length) <|
 (F_spec_kRoot ((z10.take a2.Size.toNat).drop 0)).bind fun z11 =>
 some (z11 == a2.Root)))
theorem c_spec_oChecks : ∀ {a0} {a1} {a2} {r}, F_spec_oChecks a0 a1 a2 = some r → PCalls Tryz.prog 66 [(.sh, .agg [.int .i64 a0.P, .int .i64 a0.Q, .int .i64 a0.G]), (.sh, .agg [.sl false 1 (a1.Keys.map row_i64), .sl false 6 (a1.Entries.map row_Entry_z)]), (.sh, .agg [.int .i64 a2.Author, .int .i64 a2.Size, .int .i64 a2.Root, .sl false 1 (a2.Sign.Commits.map row_i64), .sl false 1 (a2.Sign.Challenges.map row_i64), .sl false 1 (a2.Sign.Responses.map row_i64)])] (Eo (.bool r) [.junk, .junk, .junk]) := by
 intro a0 a1 a2 r hr
 apply pF 44 [] [] [] [.tmp 6] hr cl66 Tryz.func66
 intro Φ hΦ hF g
 unfold F_spec_oChecks at hF
 try simp [go_sem, g]
 refine pw_wk ?_
 repeat rw [sq]
 refine pJ hF (fun x3 => [(4, .bl [.sl false 1 (a1.Keys.map row_i64), .sl false 6 (a1.Entries.map row_Entry_z)]), (5, .bl [.int .i64 a2.Author, .int .i64 a2.Size, .int .i64 a2.Root, .sl false 1 (a2.Sign.Commits.map row_i64), .sl false 1 (a2.Sign.Challenges.map row_i64), .sl false 1 (a2.Sign.Responses.map row_i64)]), (34, .v (.bool x3))]) (fun x3 hF => ?_) fun _ hj1 hF => ?_
 ·repeat rw [sq]
  refine pI hF (fun h9 hF => ?_) (fun h9 hF => ?_)
  ·cases hΦ _ (Rn_some hF)
   try simp [go_sem, g]
   refine pw_wk ?_
   try simp [go_sem, g]
  ·try simp [go_sem, g]
   refine pw_wk ?_
   repeat rw [sq]
   refine pw_draw D66_3 follows (by kernel_rfl) rfl ?_
   try simp only [go_sem, D66_3]
   try simp [go_sem, g]
   refine pC hF [.sh] c_spec_oLeaves (fun z10 hF => ?_)
   obtain ⟨g, hF⟩ := Rg g hF
   obtain ⟨g, hF⟩ := Rg g hF
   try simp [go_sem, g]
   refine pC hF [.sh] c_spec_kRoot (fun z11 hF => ?_)
   try simp [go_sem, g]
   refine pw_wkK [6] (by simp [go_sem, g]; rfl) ?_
   cases hΦ _ (Rn_some hF)
   try simp [go_sem, g]
 ·repeat rw [sq]
  refine pw_draw D66_1 follows (by kernel_rfl) rfl ?_
  try simp only [go_sem, D66_1]
  try simp [go_sem, g]
  try intros
  refine pC hF [.sh, .sh, .sh] c_spec_l1In (fun z4 hF => ?_)
  try simp [go_sem, g]
  refine pwgD_F hF (fun h5 hF => ?_) fun h5 hF => ?_
  ·try simp [go_sem, g, h5]
   exact pT (hj1 true) (Rn_some hF)
  ·obtain ⟨x6, g, hF⟩ := Rx g hF
   try simp [go_sem, g, h5]
   refine pC hF [.sh, .sh, .sh] c_spec_oHeadBy (fun z7 hF => ?_)
   try simp [go_sem, g, h5]
   refine pwgD_F hF (fun h8 hF => ?_) fun h8 hF => ?_
   ·try simp [go_sem, g, h8]
    exact pT (hj1 true) (Rn_some hF)
   ·try simp [go_sem, g, h8]
    try intros
    exact pT (hj1 (decide ((a1.Entries.length : Int) < a2.Size))) (Rn_some hF)
def D68_8 : List DE := [d0 0 [0], d0 1 [1], d0 2 [8], d0 3 [24, 25], d0 4 [2], d0 6 [1], d0 7 [8], d0 8 [29, 30], d3 5 [23, 26, 27], d3 9 [31], d0 10 [32], ⟨11, [28, 33], [], none, true, false, false⟩, d0 12 [34]]
def D68_9 : List DE := [d0 0 [0], d0 1 [8], d0 2 [35, 36], d0 3 [1], d0 4 [8], d0 5 [38, 39], d0 7 [1], d0 8 [8], d0 9 [42, 43], d3 6 [37, 40], d3 10 [44], d0 11 [45], ⟨12, [41, 46], [], none, true, false, false⟩, d0 13 [47]]
noncomputable def F_spec_kConsistency_r : Nat → Int → (List Int) → Bool → Option ((List Int))
 | 0, _, _, _ => none
 | n_ + 1, a0, a1, a2 =>
 if (a0 == (a1.length : Int)) = true then (
 if a2 = true then (
 some []) else (
 (F_spec_kRoot a1).bind fun z3 =>
 some [z3])) else (
 (F_spec_kSplit (a1.length : Int)).bind fun z4 =>
 if decide (a0 ≤ z4) = true then (
 gd (0 ≤ z4) <|
 gd (0 ≤ z4.toNat ∧ z4.toNat ≤ a1.length) <|
 gd (0 ≤ z4) <|
 gd (z4.toNat ≤ a1.length ∧ a1.length ≤ a1.length) <|
 (F_spec_kConsistency_r n_ a0 ((a1.take z4.toNat).drop 0) a2).bind fun z6 =>
 (F_spec_kRoot ((a1.take a1.length).drop z4.toNat)).bind fun z7 =>
 gd ((z6.length + 1) * 8 ≤ 140737488355328 ∧ z6.length + 1 ≤ 4611686018427387904) <|
 some (z6 ++ [z7])) else (
 gd (0 ≤ z4) <|
 gd (z4.toNat ≤ a1.length ∧ a1.length ≤ a1.length) <|
 gd (0 ≤ z4) <|
 gd (0 ≤ z4.toNat ∧ z4.toNat ≤ a1.length) <|
 (F_spec_kConsistency_r n_ (i64.wrap (a0 - z4)) ((a1.take a1.length).drop z4.toNat) false).bind fun z8 =>
 (F_spec_kRoot ((a1.take z4.toNat).drop 0)).bind fun z9 =>
 gd ((z8.length + 1) * 8 ≤ 140737488355328 ∧ z8.length + 1 ≤ 4611686018427387904) <|
 some (z8 ++ [z9])))
noncomputable def F_spec_kConsistency (a0 : Int) (a1 : (List Int)) (a2 : Bool) : Option ((List Int)) := frec fun n_ => F_spec_kConsistency_r n_ a0 a1 a2
theorem c_spec_kConsistency_r : ∀ {n_ : Nat} {a0 : Int} {a1 : (List Int)} {a2 : Bool} {r : (List Int)} (hr : F_spec_kConsistency_r n_ a0 a1 a2 = some r), PCalls Tryz.prog 68 [(.sh, .int .i64 a0), (.sh, .sl false 1 (a1.map row_i64)), (.sh, .bool a2)] (Eo (.sl true 1 (r.map row_i64)) [.junk, .junk, .junk]) := by
 intro n_
 induction n_ with
 | zero => intro a0 a1 a2 r hr; cases hr
 | succ n_ ih =>
  intro a0 a1 a2 r hr
  apply pF 48 [] [] [] [.tmp 6] hr cl68 Tryz.func68
  intro Φ hΦ hF g
  simp only [F_spec_kConsistency_r] at hF
  iterate 3 (try simp [go_sem, g]; try intros; refine pw_wk ?_)
  repeat rw [sq]
  refine pI hF (fun h1 hF => ?_) (fun h1 hF => ?_)
  ·try simp [go_sem, g]
   refine pw_wk ?_
   repeat rw [sq]
   refine pI hF (fun h2 hF => ?_) (fun h2 hF => ?_)
   ·cases hΦ _ (Rn_some hF)
    try simp [go_sem, g]
    refine pw_wk ?_
    try simp [go_sem, g]
   ·try simp [go_sem, g]
    refine pw_wk ?_
    try simp [go_sem, g]
    refine pC hF [.sh] c_spec_kRoot (fun z3 hF => ?_)
    try simp [go_sem, g]
    refine pw_wkK [6] (by simp [go_sem, g]; rfl) ?_
    cases hΦ _ (Rn_some hF)
    try simp [go_sem, g]
  ·try simp [go_sem, g]
   refine pw_wk ?_
   try simp [go_sem, g]
   refine pC hF [.sh] c_spec_kSplit (fun z4 hF => ?_)
   try simp [go_sem, g]
   refine pw_wkK [0, 1, 2, 8] (by simp [go_sem, g]; rfl) ?_
   try simp [go_sem, g]
   refine pw_wk ?_
   repeat rw [sq]
   refine pI hF (fun h5 hF => ?_) (fun h5 hF => ?_)
   ·repeat rw [sq]
    refine pw_draw D68_8 follows (by kernel_rfl) rfl ?_
    try simp only [go_sem, D68_8]
    obtain ⟨g, hF⟩ := Rg g hF
    obtain ⟨g, hF⟩ := Rg g hF
    obtain ⟨g, hF⟩ := Rg g hF
    obtain ⟨g, hF⟩ := Rg g hF
    try simp [go_sem, g]
    refine pC hF [.sh, .sh, .sh] ih (fun z6 hF => ?_)
    try simp [go_sem, g]
    refine pC hF [.sh] c_spec_kRoot (fun z7 hF => ?_)
    obtain ⟨g, hF⟩ := Rg g hF
    try simp [go_sem, g]
    refine pw_wkK [6] (by simp [go_sem, g]; rfl) ?_
    cases hΦ _ (Rn_some hF)
    try simp [go_sem, g]
   ·try simp [go_sem, g]
    refine pw_wk ?_
    repeat rw [sq]
    refine pw_draw D68_9 follows (by kernel_rfl) rfl ?_
    try simp only [go_sem, D68_9]
    obtain ⟨g, hF⟩ := Rg g hF
    obtain ⟨g, hF⟩ := Rg g hF
    obtain ⟨g, hF⟩ := Rg g hF
    obtain ⟨g, hF⟩ := Rg g hF
    try simp [go_sem, g]
    refine pC hF [.sh, .sh, .sh] ih (fun z8 hF => ?_)
    try simp [go_sem, g]
    refine pC hF [.sh] c_spec_kRoot (fun z9 hF => ?_)
    obtain ⟨g, hF⟩ := Rg g hF
    try simp [go_sem, g]
    refine pw_wkK [6] (by simp [go_sem, g]; rfl) ?_
    cases hΦ _ (Rn_some hF)
    try simp [go_sem, g]
theorem c_spec_kConsistency {a0 : Int} {a1 : (List Int)} {a2 : Bool} {r : (List Int)} (hr : F_spec_kConsistency a0 a1 a2 = some r) : PCalls Tryz.prog 68 [(.sh, .int .i64 a0), (.sh, .sl false 1 (a1.map row_i64)), (.sh, .bool a2)] (Eo (.sl true 1 (r.map row_i64)) [.junk, .junk, .junk]) := by
 obtain ⟨n_, hn⟩ := frec_some hr
 exact c_spec_kConsistency_r hn
def D21_3 : List DE := [d1 0 [6] 6, d2 1 [41] 6 41, d2 2 [5] 5 5, d1 4 [7] 7, d2 5 [45] 7 45, d3 3 [43], d0 6 [44, 46], d3 7 [42, 47], d0 8 [48], d0 9 []]
noncomputable def F_spec_ProvenPrefix (a0 : Group) (a1 : Board) (a2 : Head) (a3 : Head) : Option ((List Int) × Bool) :=
 (((F_spec_l2Good a0).bind fun z4 =>
 if (!z4) = true then (
 some true) else (
 (F_spec_oBoard a0 a1).bind fun z6 =>
 if (!z6) = true then (
 some true) else (
 (F_spec_oChecks a0 a1 a2).bind fun z8 =>
 if (!z8) = true then (
 some true) else (
 (F_spec_oChecks a0 a1 a3).bind fun z10 =>
 if (!z10) = true then (
 some true) else (
 (F_spec_l1In a2.Size 1 a3.Size).bind fun z12 =>
 some (!z12))))) : Option (Bool)).bind fun x3 =>
 if x3 = true then (
 some ([], false)) else (
 (F_spec_oLeaves a1).bind fun z14 =>
 gd (0 ≤ a3.Size) <|
 gd (0 ≤ a3.Size.toNat ∧ a3.Size.toNat ≤ z14.length) <|
 (F_spec_kConsistency a2.Size ((z14.take a3.Size.toNat).drop 0) true).bind fun z15 =>
 some (z15, true)))
theorem c_spec_ProvenPrefix : ∀ {a0} {a1} {a2} {a3} {r}, F_spec_ProvenPrefix a0 a1 a2 a3 = some r → PCalls Tryz.prog 21 [(.sh, .agg [.int .i64 a0.P, .int .i64 a0.Q, .int .i64 a0.G]), (.sh, .agg [.sl false 1 (a1.Keys.map row_i64), .sl false 6 (a1.Entries.map row_Entry_z)]), (.sh, .agg [.int .i64 a2.Author, .int .i64 a2.Size, .int .i64 a2.Root, .sl false 1 (a2.Sign.Commits.map row_i64), .sl false 1 (a2.Sign.Challenges.map row_i64), .sl false 1 (a2.Sign.Responses.map row_i64)]), (.sh, .agg [.int .i64 a3.Author, .int .i64 a3.Size, .int .i64 a3.Root, .sl false 1 (a3.Sign.Commits.map row_i64), .sl false 1 (a3.Sign.Challenges.map row_i64), .sl false 1 (a3.Sign.Responses.map row_i64)])] (Eo (.tup [.sl true 1 (r.1.map row_i64), .bool r.2]) [.junk, .junk, .junk, .junk]) := by
 intro a0 a1 a2 a3 r hr
 apply pF 49 [] [] [] [.tmp 8, .tmp 9] hr cl21 Tryz.func21
 intro Φ hΦ hF g
 unfold F_spec_ProvenPrefix at hF
 try simp [go_sem, g]
 refine pw_wk ?_
 repeat rw [sq]
 refine pJ hF (fun x3 => [(5, .bl [.sl false 1 (a1.Keys.map row_i64), .sl false 6 (a1.Entries.map row_Entry_z)]), (6, .bl [.int .i64 a2.Author, .int .i64 a2.Size, .int .i64 a2.Root, .sl false 1 (a2.Sign.Commits.map row_i64), .sl false 1 (a2.Sign.Challenges.map row_i64), .sl false 1 (a2.Sign.Responses.map row_i64)]), (7, .bl [.int .i64 a3.Author, .int .i64 a3.Size, .int .i64 a3.Root, .sl false 1 (a3.Sign.Commits.map row_i64), .sl false 1 (a3.Sign.Challenges.map row_i64), .sl false 1 (a3.Sign.Responses.map row_i64)]), (40, .v (.bool x3))]) (fun x3 hF => ?_) fun _ hj1 hF => ?_
 ·repeat rw [sq]
  refine pI hF (fun h13 hF => ?_) (fun h13 hF => ?_)
  ·cases hΦ _ (Rn_some hF)
   try simp [go_sem, g]
   refine pw_wk ?_
   try simp [go_sem, g]
  ·try simp [go_sem, g]
   refine pw_wk ?_
   repeat rw [sq]
   refine pw_draw D21_3 follows (by kernel_rfl) rfl ?_
   try simp only [go_sem, D21_3]
   try simp [go_sem, g]
   refine pC hF [.sh] c_spec_oLeaves (fun z14 hF => ?_)
   obtain ⟨g, hF⟩ := Rg g hF
   obtain ⟨g, hF⟩ := Rg g hF
   try simp [go_sem, g]
   refine pC hF [.sh, .sh, .sh] c_spec_kConsistency (fun z15 hF => ?_)
   try simp [go_sem, g]
   refine pw_wkK [8, 9] (by simp [go_sem, g]; rfl) ?_
   cases hΦ _ (Rn_some hF)
   try simp [go_sem, g]
 ·try simp [go_sem, g]
  refine pC hF [.sh] c_spec_l2Good (fun z4 hF => ?_)
  try simp [go_sem, g]
  refine pwg_F hF (fun h5 hF => ?_) fun h5 hF => ?_
  ·try simp [go_sem, g, h5]
   exact pT (hj1 true) (Rn_some hF)
  ·try simp [go_sem, g, h5]
   refine pC hF [.sh, .sh] c_spec_oBoard (fun z6 hF => ?_)
   try simp [go_sem, g, h5]
   refine pwg_F hF (fun h7 hF => ?_) fun h7 hF => ?_
   ·try simp [go_sem, g, h7]
    exact pT (hj1 true) (Rn_some hF)
   ·try simp [go_sem, g, h7]
    refine pC hF [.sh, .sh, .sh] c_spec_oChecks (fun z8 hF => ?_)
    try simp [go_sem, g, h7]
    refine pwg_F hF (fun h9 hF => ?_) fun h9 hF => ?_
    ·try simp [go_sem, g, h9]
     exact pT (hj1 true) (Rn_some hF)
    ·try simp [go_sem, g, h9]
     refine pC hF [.sh, .sh, .sh] c_spec_oChecks (fun z10 hF => ?_)
     try simp [go_sem, g, h9]
     refine pwg_F hF (fun h11 hF => ?_) fun h11 hF => ?_
     ·try simp [go_sem, g, h11]
      exact pT (hj1 true) (Rn_some hF)
     ·try simp [go_sem, g, h11]
      refine pC hF [.sh, .sh, .sh] c_spec_l1In (fun z12 hF => ?_)
      try simp [go_sem, g, h11]
      exact pT (hj1 (!z12)) (Rn_some hF)
def D22_6 : List DE := [d0 0 [0], d0 1 [5], d0 2 [16, 17], d0 3 [18], d0 4 [1], d0 5 [5], d0 6 [20, 21], d0 7 [22], d0 8 [19, 23]]
noncomputable def F_laws_sameInts (a0 : (List Int)) (a1 : (List Int)) : Option (Bool) :=
 if ((a0.length : Int) != (a1.length : Int)) = true then (
 some false) else (
 ((rloop (σ := Unit) (fun i6 s5 =>
 (ix a0 i6).bind fun x12 =>
 (ix a1 i6).bind fun x13 =>
 if (x12 != x13) = true then (
 some (.out (.inr false))) else (
 some (.go ()))) (fun s5 => .inl ()) (a0.length) 0 () : Option (Unit ⊕ Bool)).bind (Sum.elim (fun x4 =>
 some true) some)))
theorem c_laws_sameInts : ∀ {a0} {a1} {r}, F_laws_sameInts a0 a1 = some r → PCalls Tryz.prog 22 [(.sh, .sl false 1 (a0.map row_i64)), (.sh, .sl false 1 (a1.map row_i64))] (Eo (.bool r) [.junk, .junk]) := by
 intro a0 a1 r hr
 apply pF 26 [] [] [] [.tmp 4] hr cl22 Tryz.func22
 intro Φ hΦ hF g
 unfold F_laws_sameInts at hF
 iterate 2 (try simp [go_sem, g]; try intros; refine pw_wk ?_)
 repeat rw [sq]
 refine pI hF (fun h1 hF => ?_) (fun h1 hF => ?_)
 ·cases hΦ _ (Rn_some hF)
  try simp [go_sem, g]
  refine pw_wk ?_
  try simp [go_sem, g]
 ·iterate 2 (try simp [go_sem, g]; try intros; refine pw_wk ?_)
  repeat rw [sq]
  refine pJs hF (fun x4 => []) (fun x4 hF => ?_) fun _ hj2 hr3 hF => ?_
  ·try simp [go_sem, g]
   refine pw_wkK [4] (by simp [go_sem, g]; rfl) ?_
   cases hΦ _ (Rn_some hF)
   try simp [go_sem, g]
  ·repeat rw [sq]
   rw [pw_block]
   obtain ⟨b15, hb16, hψ9⟩ := hF
   refine pR hb16 (fun i6 s5 => [(0, .v (.sl false 1 (a0.map row_i64))), (1, .v (.sl false 1 (a1.map row_i64))), (12, .v (.int .i64 (a0.length : Int))), (13, .v (.int .i64 i6))]) (fun s5 _ hN17 => ?_) (fun i6 s5 _ _ hi10 hi11 ho7 hg8 hF => ?_)
   ·subst hN17
    try simp [go_sem]
    refine pw_wk ?_
    repeat rw [sq]
    refine pw_cond_f (by simp [go_sem]) ?_
    try simp [go_sem]
    exact pT (hj2 ()) hψ9 (by simp [go_sem])
   ·try simp [go_sem, g]
    refine pw_wkK [0, 1, 12, 13, 14] (by simp [go_sem, g]; rfl) ?_
    repeat rw [sq]
    refine pw_cond_t (by simp [go_sem, g, hi10, hi11]) ?_
    try simp [go_sem, g]
    refine pw_wk ?_
    repeat rw [sq]
    rw [pw_block]
    try simp [go_sem, g]
    refine pw_wk ?_
    repeat rw [sq]
    refine pw_draw D22_6 follows (by kernel_rfl) rfl ?_
    try simp only [go_sem, D22_6]
    obtain ⟨x12, g, hF⟩ := Rx g hF
    obtain ⟨x13, g, hF⟩ := Rx g hF
    try simp [go_sem, g]
    refine pw_wkK [0, 1, 12, 13, 24] (by simp [go_sem, g]; rfl) ?_
    repeat rw [sq]
    refine pI hF (fun h14 hF => ?_) (fun h14 hF => ?_)
    ·cases ho7 _ (Rn_some hF)
     cases hΦ _ (hr3 _ hψ9)
     try simp [go_sem, g]
     refine pw_wk ?_
     try simp [go_sem, g]
    ·try simp [go_sem, g]
     refine pw_wk ?_
     try simp [go_sem, g]
     exact pT (hg8 ()) (Rn_some hF) (by simp [go_sem, g, wr_i hi10 hi11 (by assumption)])
noncomputable def F_impl_Head_isPlain (a0 : Head) : Option (Bool) :=
 (F_impl_isPlainHead a0.Author a0.Size a0.Root).bind fun z1 =>
 some z1
theorem c_impl_Head_isPlain : ∀ {a0} {r}, F_impl_Head_isPlain a0 = some r → PCalls Tryz.prog 70 [(.sh, .agg [.int .i64 a0.Author, .int .i64 a0.Size, .int .i64 a0.Root, .sl false 1 (a0.Sign.Commits.map row_i64), .sl false 1 (a0.Sign.Challenges.map row_i64), .sl false 1 (a0.Sign.Responses.map row_i64)])] (Eo (.bool r) [.junk]) := by
 intro a0 r hr
 apply pF 10 [] [] [] [.tmp 2] hr cl70 Tryz.func70
 intro Φ hΦ hF g
 unfold F_impl_Head_isPlain at hF
 try simp [go_sem, g]
 refine pw_wk ?_
 try simp [go_sem, g]
 refine pC hF [.sh, .sh, .sh] c_impl_isPlainHead (fun z1 hF => ?_)
 try simp [go_sem, g]
 refine pw_wkK [2] (by simp [go_sem, g]; rfl) ?_
 cases hΦ _ (Rn_some hF)
 try simp [go_sem, g]
def D128_15 : List DE := [d0 0 [4], d0 1 [13], d0 2 [82, 83], d0 3 [84], d0 4 [18], d0 6 [4], d0 7 [13], d0 8 [88, 89], d0 9 [90], d0 10 [19], d0 12 [20], ⟨5, [85, 86], [], none, false, true, false⟩, d3 11 [91, 92], d0 13 [87], d0 14 [93], d0 15 [94]]
def D128_7 : List DE := [d0 0 [4], d0 1 [34], d0 2 [35], d0 3 [4], d0 4 [37], d0 5 [38], d0 6 [36], d0 7 [39], d0 8 []]
noncomputable def F_impl_consistent_r : Nat → Int → Int → Int → Bool → (List Int) → Option (Int × Int × Bool)
 | 0, _, _, _, _, _ => none
 | n_ + 1, a0, a1, a2, a3, a4 =>
 if (a0 == a1) = true then (
 if a3 = true then (
 some (a2, a2, decide ((i64.wrap ((a4.length : Int) - 1)) < 0))) else (
 if ((i64.wrap ((a4.length : Int) - 1)) != 0) = true then (
 some (0, 0, false)) else (
 (ix a4 0).bind fun x4 =>
 some (x4, x4, true)))) else (
 if decide ((i64.wrap ((a4.length : Int) - 1)) < 0) = true then (
 some (0, 0, false)) else (
 (F_impl_half a1).bind fun z6 =>
 if decide (a0 ≤ z6) = true then (
 gd (0 ≤ (i64.wrap ((a4.length : Int) - 1))) <|
 gd (0 ≤ (i64.wrap ((a4.length : Int) - 1)).toNat ∧ (i64.wrap ((a4.length : Int) - 1)).toNat ≤ a4.length) <|
 (F_impl_consistent_r n_ a0 z6 a2 a3 ((a4.take ((i64.wrap ((a4.length : Int) - 1)).toNat)).drop 0)).bind fun z8 =>
 (ix a4 (i64.wrap ((a4.length : Int) - 1))).bind fun x9 =>
 (F_impl_nodeOf z8.2.1 x9).bind fun z10 =>
 some (z8.1, z10, z8.2.2)) else (
 gd (0 ≤ (i64.wrap ((a4.length : Int) - 1))) <|
 gd (0 ≤ (i64.wrap ((a4.length : Int) - 1)).toNat ∧ (i64.wrap ((a4.length : Int) - 1)).toNat ≤ a4.length) <|
 (F_impl_consistent_r n_ (i64.wrap (a0 - z6)) (i64.wrap (a1 - z6)) a2 false ((a4.take ((i64.wrap ((a4.length : Int) - 1)).toNat)).drop 0)).bind fun z11 =>
 (ix a4 (i64.wrap ((a4.length : Int) - 1))).bind fun x12 =>
 (F_impl_nodeOf x12 z11.1).bind fun z13 =>
 (F_impl_nodeOf x12 z11.2.1).bind fun z14 =>
 some (z13, z14, z11.2.2))))
noncomputable def F_impl_consistent (a0 : Int) (a1 : Int) (a2 : Int) (a3 : Bool) (a4 : (List Int)) : Option (Int × Int × Bool) := frec fun n_ => F_impl_consistent_r n_ a0 a1 a2 a3 a4
theorem c_impl_consistent_r : ∀ {n_ : Nat} {a0 : Int} {a1 : Int} {a2 : Int} {a3 : Bool} {a4 : (List Int)} {r : Int × Int × Bool} (hr : F_impl_consistent_r n_ a0 a1 a2 a3 a4 = some r), PCalls Tryz.prog 128 [(.sh, .int .i64 a0), (.sh, .int .i64 a1), (.sh, .int .i64 a2), (.sh, .bool a3), (.sh, .sl false 1 (a4.map row_i64))] (Eo (.tup [.int .i64 r.1, .int .i64 r.2.1, .bool r.2.2]) [.junk, .junk, .junk, .junk, .junk]) := by
 intro n_
 induction n_ with
 | zero => intro a0 a1 a2 a3 a4 r hr; cases hr
 | succ n_ ih =>
  intro a0 a1 a2 a3 a4 r hr
  apply pF 95 [] [] [] [.tmp 10, .tmp 11, .tmp 12] hr cl128 Tryz.func128
  intro Φ hΦ hF g
  simp only [F_impl_consistent_r] at hF
  iterate 2 (try simp [go_sem, g]; try intros; refine pw_wk ?_)
  try simp [go_sem, g]
  try intros
  refine pw_wkK [0, 1, 2, 3, 4, 13, 26] (by simp [go_sem, g]; rfl) ?_
  repeat rw [sq]
  refine pI hF (fun h1 hF => ?_) (fun h1 hF => ?_)
  ·try simp [go_sem, g]
   refine pw_wk ?_
   repeat rw [sq]
   refine pI hF (fun h2 hF => ?_) (fun h2 hF => ?_)
   ·cases hΦ _ (Rn_some hF)
    try simp [go_sem, g]
    refine pw_wk ?_
    try simp [go_sem, g]
   ·iterate 2 (try simp [go_sem, g]; refine pw_wk ?_)
    repeat rw [sq]
    refine pI hF (fun h3 hF => ?_) (fun h3 hF => ?_)
    ·cases hΦ _ (Rn_some hF)
     try simp [go_sem, g]
     refine pw_wk ?_
     try simp [go_sem, g]
    ·try simp [go_sem, g]
     refine pw_wk ?_
     repeat rw [sq]
     refine pw_draw D128_7 follows (by kernel_rfl) rfl ?_
     try simp only [go_sem, D128_7]
     obtain ⟨x4, g, hF⟩ := Rxn g 0 hF
     try simp [go_sem, g]
     refine pw_wkK [10, 11, 12] (by simp [go_sem, g]; rfl) ?_
     cases hΦ _ (Rn_some hF)
     try simp [go_sem, g]
  ·iterate 2 (try simp [go_sem, g]; refine pw_wk ?_)
   repeat rw [sq]
   refine pI hF (fun h5 hF => ?_) (fun h5 hF => ?_)
   ·cases hΦ _ (Rn_some hF)
    try simp [go_sem, g]
    refine pw_wk ?_
    try simp [go_sem, g]
   ·try simp [go_sem, g]
    refine pw_wk ?_
    try simp [go_sem, g]
    refine pC hF [.sh] c_impl_half (fun z6 hF => ?_)
    iterate 2 (try simp [go_sem, g]; refine pw_wk ?_)
    repeat rw [sq]
    refine pI hF (fun h7 hF => ?_) (fun h7 hF => ?_)
    ·obtain ⟨g, hF⟩ := Rg g hF
     obtain ⟨g, hF⟩ := Rg g hF
     try simp [go_sem, g]
     refine pC hF [.sh, .sh, .sh, .sh, .sh] ih (fun z8 hF => ?_)
     try simp [go_sem, g]
     refine pw_wkK [4, 13, 15, 16, 17] (by simp [go_sem, g]; rfl) ?_
     obtain ⟨x9, g, hF⟩ := Rx g hF
     try simp [go_sem, g]
     refine pC hF [.sh, .sh] c_impl_nodeOf (fun z10 hF => ?_)
     try simp [go_sem, g]
     refine pw_wkK [10, 11, 12] (by simp [go_sem, g]; rfl) ?_
     cases hΦ _ (Rn_some hF)
     try simp [go_sem, g]
    ·obtain ⟨g, hF⟩ := Rg g hF
     obtain ⟨g, hF⟩ := Rg g hF
     try simp [go_sem, g]
     refine pw_wk ?_
     try simp [go_sem, g]
     refine pC hF [.sh, .sh, .sh, .sh, .sh] ih (fun z11 hF => ?_)
     try simp [go_sem, g]
     refine pw_wkK [4, 13, 18, 19, 20] (by simp [go_sem, g]; rfl) ?_
     repeat rw [sq]
     refine pw_draw D128_15 follows (by kernel_rfl) rfl ?_
     try simp only [go_sem, D128_15]
     obtain ⟨x12, g, hF⟩ := Rx g hF
     try simp [go_sem, g]
     refine pCD hF c_impl_nodeOf (fun z13 hF => ?_)
     try simp [go_sem, g]
     refine pC hF [.sh, .sh] c_impl_nodeOf (fun z14 hF => ?_)
     try simp [go_sem, g]
     refine pw_wkK [10, 11, 12] (by simp [go_sem, g]; rfl) ?_
     cases hΦ _ (Rn_some hF)
     try simp [go_sem, g]
theorem c_impl_consistent {a0 : Int} {a1 : Int} {a2 : Int} {a3 : Bool} {a4 : (List Int)} {r : Int × Int × Bool} (hr : F_impl_consistent a0 a1 a2 a3 a4 = some r) : PCalls Tryz.prog 128 [(.sh, .int .i64 a0), (.sh, .int .i64 a1), (.sh, .int .i64 a2), (.sh, .bool a3), (.sh, .sl false 1 (a4.map row_i64))] (Eo (.tup [.int .i64 r.1, .int .i64 r.2.1, .bool r.2.2]) [.junk, .junk, .junk, .junk, .junk]) := by
 obtain ⟨n_, hn⟩ := frec_some hr
 exact c_impl_consistent_r hn
noncomputable def F_impl_VerifyConsistency (a0 : Int) (a1 : Int) (a2 : Int) (a3 : Int) (a4 : (List Int)) : Option (Bool × Bool) :=
 (((F_impl_within a1 1 64).bind fun z4 =>
 if (!z4) = true then (
 some true) else (
 (F_impl_within a0 1 a1).bind fun z6 =>
 if (!z6) = true then (
 some true) else (
 (F_impl_isDigest a2).bind fun z8 =>
 if (!z8) = true then (
 some true) else (
 (F_impl_isDigest a3).bind fun z10 =>
 if (!z10) = true then (
 some true) else (
 (F_impl_areAll__impl_isDigest a4).bind fun z12 =>
 some (!z12))))) : Option (Bool)).bind fun x3 =>
 if x3 = true then (
 some (false, false)) else (
 (F_impl_consistent a0 a1 a2 true a4).bind fun z14 =>
 ((if z14.2.2 = true then (
 if (z14.1 == a2) = true then (
 some (z14.2.1 == a3)) else (
 some false)) else (
 some false) : Option (Bool)).bind fun x17 =>
 some (x17, true))))
theorem c_impl_VerifyConsistency : ∀ {a0} {a1} {a2} {a3} {a4} {r}, F_impl_VerifyConsistency a0 a1 a2 a3 a4 = some r → PCalls Tryz.prog 73 [(.sh, .int .i64 a0), (.sh, .int .i64 a1), (.sh, .int .i64 a2), (.sh, .int .i64 a3), (.sh, .sl false 1 (a4.map row_i64))] (Eo (.tup [.bool r.1, .bool r.2]) [.junk, .junk, .junk, .junk, .junk]) := by
 intro a0 a1 a2 a3 a4 r hr
 apply pF 59 [] [] [] [.tmp 10, .tmp 11] hr cl73 Tryz.func73
 intro Φ hΦ hF g
 unfold F_impl_VerifyConsistency at hF
 try simp [go_sem, g]
 refine pw_wk ?_
 repeat rw [sq]
 refine pJ hF (fun x3 => [(0, .v (.int .i64 a0)), (1, .v (.int .i64 a1)), (2, .v (.int .i64 a2)), (3, .v (.int .i64 a3)), (4, .v (.sl false 1 (a4.map row_i64))), (38, .v (.bool x3))]) (fun x3 hF => ?_) fun _ hj1 hF => ?_
 ·repeat rw [sq]
  refine pI hF (fun h13 hF => ?_) (fun h13 hF => ?_)
  ·cases hΦ _ (Rn_some hF)
   try simp [go_sem, g]
   refine pw_wk ?_
   try simp [go_sem, g]
  ·try simp [go_sem, g]
   refine pw_wk ?_
   try simp [go_sem, g]
   refine pC hF [.sh, .sh, .sh, .sh, .sh] c_impl_consistent (fun z14 hF => ?_)
   try simp [go_sem, g]
   refine pw_wkK [2, 3, 12, 13, 14] (by simp [go_sem, g]; rfl) ?_
   repeat rw [sq]
   refine pJ hF (fun x17 => [(10, .v (.bool x17)), (11, .v (.bool true))]) (fun x17 hF => ?_) fun _ hj15 hF => ?_
   ·cases hΦ _ (Rn_some hF)
    try simp [go_sem, g]
   ·try simp [go_sem, g]
    refine pwg_F hF (fun h18 hF => ?_) fun h18 hF => ?_
    ·try simp [go_sem, g, h18]
     refine pwg_F hF (fun h19 hF => ?_) fun h19 hF => ?_
     ·try simp [go_sem, g, h19]
      exact pT (hj15 (z14.2.1 == a3)) (Rn_some hF)
     ·try simp [go_sem, g, h19]
      exact pT (hj15 false) (Rn_some hF)
    ·try simp [go_sem, g, h18]
     exact pT (hj15 false) (Rn_some hF)
 ·try simp [go_sem, g]
  refine pC hF [.sh, .sh, .sh] c_impl_within (fun z4 hF => ?_)
  try simp [go_sem, g]
  refine pwg_F hF (fun h5 hF => ?_) fun h5 hF => ?_
  ·try simp [go_sem, g, h5]
   exact pT (hj1 true) (Rn_some hF)
  ·try simp [go_sem, g, h5]
   refine pC hF [.sh, .sh, .sh] c_impl_within (fun z6 hF => ?_)
   try simp [go_sem, g, h5]
   refine pwg_F hF (fun h7 hF => ?_) fun h7 hF => ?_
   ·try simp [go_sem, g, h7]
    exact pT (hj1 true) (Rn_some hF)
   ·try simp [go_sem, g, h7]
    refine pC hF [.sh] c_impl_isDigest (fun z8 hF => ?_)
    try simp [go_sem, g, h7]
    refine pwg_F hF (fun h9 hF => ?_) fun h9 hF => ?_
    ·try simp [go_sem, g, h9]
     exact pT (hj1 true) (Rn_some hF)
    ·try simp [go_sem, g, h9]
     refine pC hF [.sh] c_impl_isDigest (fun z10 hF => ?_)
     try simp [go_sem, g, h9]
     refine pwg_F hF (fun h11 hF => ?_) fun h11 hF => ?_
     ·try simp [go_sem, g, h11]
      exact pT (hj1 true) (Rn_some hF)
     ·try simp [go_sem, g, h11]
      refine pC hF [.sh, .sh] c_impl_areAll__impl_isDigest (fun z12 hF => ?_)
      try simp [go_sem, g, h11]
      exact pT (hj1 (!z12)) (Rn_some hF)
noncomputable def F_impl_CompareHeads (a0 : Head) (a1 : Head) (a2 : (List Int)) : Option (Int × Bool) :=
 (((F_impl_Head_isPlain a0).bind fun z4 =>
 if (!z4) = true then (
 some true) else (
 (F_impl_Head_isPlain a1).bind fun z6 =>
 if (!z6) = true then (
 some true) else (
 if decide (20 < (a2.length : Int)) = true then (
 some true) else (
 (F_impl_areAll__impl_isDigest a2).bind fun z9 =>
 some (!z9)))) : Option (Bool)).bind fun x3 =>
 if x3 = true then (
 some (0, false)) else (
 ((if (a0.Size == a1.Size) = true then (
 some (a0.Root == a1.Root)) else (
 some false) : Option (Bool)).bind fun x13 =>
 if x13 = true then (
 some (0, true)) else (
 if (a0.Size == a1.Size) = true then (
 some (2, true)) else (
 ((if decide (1 ≤ a0.Size) = true then (
 some (decide (a0.Size < a1.Size))) else (
 some false) : Option (Bool)).bind fun x19 =>
 ((if x19 = true then (
 (F_impl_VerifyConsistency a0.Size a1.Size a0.Root a1.Root a2).bind fun z25 =>
 ((if z25.1 = true then (
 some z25.2) else (
 some false) : Option (Bool)).bind fun x28 =>
 if x28 = true then (
 some (.inr (1, true))) else (
 some (.inl ())))) else (
 some (.inl ())) : Option (Unit ⊕ (Int × Bool))).bind (Sum.elim (fun x23 =>
 some (3, true)) some))))))))
theorem c_impl_CompareHeads : ∀ {a0} {a1} {a2} {r}, F_impl_CompareHeads a0 a1 a2 = some r → PCalls Tryz.prog 23 [(.sh, .agg [.int .i64 a0.Author, .int .i64 a0.Size, .int .i64 a0.Root, .sl false 1 (a0.Sign.Commits.map row_i64), .sl false 1 (a0.Sign.Challenges.map row_i64), .sl false 1 (a0.Sign.Responses.map row_i64)]), (.sh, .agg [.int .i64 a1.Author, .int .i64 a1.Size, .int .i64 a1.Root, .sl false 1 (a1.Sign.Commits.map row_i64), .sl false 1 (a1.Sign.Challenges.map row_i64), .sl false 1 (a1.Sign.Responses.map row_i64)]), (.sh, .sl false 1 (a2.map row_i64))] (Eo (.tup [.int .i64 r.1, .bool r.2]) [.junk, .junk, .junk]) := by
 intro a0 a1 a2 r hr
 apply pF 74 [] [] [] [.tmp 6, .tmp 7] hr cl23 Tryz.func23
 intro Φ hΦ hF g
 unfold F_impl_CompareHeads at hF
 try simp [go_sem, g]
 refine pw_wk ?_
 repeat rw [sq]
 refine pJ hF (fun x3 => [(2, .v (.sl false 1 (a2.map row_i64))), (3, .bl [.int .i64 a0.Author, .int .i64 a0.Size, .int .i64 a0.Root, .sl false 1 (a0.Sign.Commits.map row_i64), .sl false 1 (a0.Sign.Challenges.map row_i64), .sl false 1 (a0.Sign.Responses.map row_i64)]), (4, .bl [.int .i64 a1.Author, .int .i64 a1.Size, .int .i64 a1.Root, .sl false 1 (a1.Sign.Commits.map row_i64), .sl false 1 (a1.Sign.Challenges.map row_i64), .sl false 1 (a1.Sign.Responses.map row_i64)]), (27, .v (.bool x3))]) (fun x3 hF => ?_) fun _ hj1 hF => ?_
 ·repeat rw [sq]
  refine pI hF (fun h10 hF => ?_) (fun h10 hF => ?_)
  ·cases hΦ _ (Rn_some hF)
   try simp [go_sem, g]
   refine pw_wk ?_
   try simp [go_sem, g]
  ·try simp [go_sem, g]
   refine pw_wk ?_
   repeat rw [sq]
   rw [pw_block]
   repeat rw [sq]
   refine pJ hF (fun x13 => [(2, .v (.sl false 1 (a2.map row_i64))), (3, .bl [.int .i64 a0.Author, .int .i64 a0.Size, .int .i64 a0.Root, .sl false 1 (a0.Sign.Commits.map row_i64), .sl false 1 (a0.Sign.Challenges.map row_i64), .sl false 1 (a0.Sign.Responses.map row_i64)]), (4, .bl [.int .i64 a1.Author, .int .i64 a1.Size, .int .i64 a1.Root, .sl false 1 (a1.Sign.Commits.map row_i64), .sl false 1 (a1.Sign.Challenges.map row_i64), .sl false 1 (a1.Sign.Responses.map row_i64)]), (28, .v (.bool x13))]) (fun x13 hF => ?_) fun _ hj11 hF => ?_
   ·repeat rw [sq]
    refine pI hF (fun h15 hF => ?_) (fun h15 hF => ?_)
    ·cases hΦ _ (Rn_some hF)
     try simp [go_sem, g]
     refine pw_wk ?_
     try simp [go_sem, g]
    ·try simp [go_sem, g]
     refine pw_wkK [2, 3, 4, 41] (by simp [go_sem, g]; rfl) ?_
     repeat rw [sq]
     refine pI hF (fun h16 hF => ?_) (fun h16 hF => ?_)
     ·cases hΦ _ (Rn_some hF)
      try simp [go_sem, g]
      refine pw_wk ?_
      try simp [go_sem, g]
     ·try simp [go_sem, g]
      refine pw_wk ?_
      repeat rw [sq]
      refine pJ hF (fun x19 => [(2, .v (.sl false 1 (a2.map row_i64))), (3, .bl [.int .i64 a0.Author, .int .i64 a0.Size, .int .i64 a0.Root, .sl false 1 (a0.Sign.Commits.map row_i64), .sl false 1 (a0.Sign.Challenges.map row_i64), .sl false 1 (a0.Sign.Responses.map row_i64)]), (4, .bl [.int .i64 a1.Author, .int .i64 a1.Size, .int .i64 a1.Root, .sl false 1 (a1.Sign.Commits.map row_i64), .sl false 1 (a1.Sign.Challenges.map row_i64), .sl false 1 (a1.Sign.Responses.map row_i64)]), (56, .v (.bool x19))]) (fun x19 hF => ?_) fun _ hj17 hF => ?_
      ·repeat rw [sq]
       refine pJs hF (fun x23 => []) (fun x23 hF => ?_) fun _ hj21 hr22 hF => ?_
       ·cases hΦ _ (Rn_some hF)
        try simp [go_sem, g]
        refine pw_wk ?_
        try simp [go_sem, g]
       ·repeat rw [sq]
        refine pI hF (fun h24 hF => ?_) (fun h24 hF => ?_)
        ·try simp [go_sem, g]
         refine pC hF [.sh, .sh, .sh, .sh, .sh] c_impl_VerifyConsistency (fun z25 hF => ?_)
         try simp [go_sem, g]
         refine pw_wkK [8, 9] (by simp [go_sem, g]; rfl) ?_
         repeat rw [sq]
         refine pJ hF (fun x28 => [(73, .v (.bool x28))]) (fun x28 hF => ?_) fun _ hj26 hF => ?_
         ·repeat rw [sq]
          refine pI hF (fun h30 hF => ?_) (fun h30 hF => ?_)
          ·cases hΦ _ (hr22 _ (Rn_some hF))
           try simp [go_sem, g]
           refine pw_wk ?_
           try simp [go_sem, g]
          ·try simp [go_sem, g]
           exact pT (hj21 ()) (Rn_some hF)
         ·try simp [go_sem, g]
          refine pwg_F hF (fun h29 hF => ?_) fun h29 hF => ?_
          ·try simp [go_sem, g, h29]
           exact pT (hj26 z25.2) (Rn_some hF)
          ·try simp [go_sem, g, h29]
           exact pT (hj26 false) (Rn_some hF)
        ·try simp [go_sem, g]
         exact pT (hj21 ()) (Rn_some hF)
      ·try simp [go_sem, g]
       refine pwg_F hF (fun h20 hF => ?_) fun h20 hF => ?_
       ·try simp [go_sem, g, h20]
        exact pT (hj17 (decide (a0.Size < a1.Size))) (Rn_some hF)
       ·try simp [go_sem, g, h20]
        exact pT (hj17 false) (Rn_some hF)
   ·try simp [go_sem, g]
    refine pwg_F hF (fun h14 hF => ?_) fun h14 hF => ?_
    ·try simp [go_sem, g, h14]
     exact pT (hj11 (a0.Root == a1.Root)) (Rn_some hF)
    ·try simp [go_sem, g, h14]
     exact pT (hj11 false) (Rn_some hF)
 ·try simp [go_sem, g]
  refine pC hF [.sh] c_impl_Head_isPlain (fun z4 hF => ?_)
  try simp [go_sem, g]
  refine pwg_F hF (fun h5 hF => ?_) fun h5 hF => ?_
  ·try simp [go_sem, g, h5]
   exact pT (hj1 true) (Rn_some hF)
  ·try simp [go_sem, g, h5]
   refine pC hF [.sh] c_impl_Head_isPlain (fun z6 hF => ?_)
   try simp [go_sem, g, h5]
   refine pwg_F hF (fun h7 hF => ?_) fun h7 hF => ?_
   ·try simp [go_sem, g, h7]
    exact pT (hj1 true) (Rn_some hF)
   ·try simp [go_sem, g, h7]
    try intros
    refine pwg_F hF (fun h8 hF => ?_) fun h8 hF => ?_
    ·try simp [go_sem, g, h8]
     exact pT (hj1 true) (Rn_some hF)
    ·try simp [go_sem, g, h8]
     refine pC hF [.sh, .sh] c_impl_areAll__impl_isDigest (fun z9 hF => ?_)
     try simp [go_sem, g, h8]
     exact pT (hj1 (!z9)) (Rn_some hF)
noncomputable def F_impl_areHeads_1 (a0 : Head) : Option (Bool) :=
 (F_impl_Head_isPlain a0).bind fun z1 =>
 some (!z1)
theorem c_impl_areHeads_1 : ∀ {a0} {r}, F_impl_areHeads_1 a0 = some r → PCalls Tryz.prog 135 [(.sh, .agg [.int .i64 a0.Author, .int .i64 a0.Size, .int .i64 a0.Root, .sl false 1 (a0.Sign.Commits.map row_i64), .sl false 1 (a0.Sign.Challenges.map row_i64), .sl false 1 (a0.Sign.Responses.map row_i64)])] (Eo (.bool r) [.junk]) := by
 intro a0 r hr
 apply pF 6 [] [] [] [.tmp 2] hr cl135 Tryz.func135
 intro Φ hΦ hF g
 unfold F_impl_areHeads_1 at hF
 try simp [go_sem, g]
 refine pw_wk ?_
 try simp [go_sem, g]
 refine pC hF [.sh] c_impl_Head_isPlain (fun z1 hF => ?_)
 cases hΦ _ (Rn_some hF)
 try simp [go_sem, g]
 refine pw_wk ?_
 try simp [go_sem, g]
noncomputable def F_slices_IndexFunc_impl_Head_impl_Head__impl_areHeads_1 (a0 : (List Head)) : Option (Int) :=
 ((rloop (σ := Unit) (fun i5 s4 =>
 (ix a0 i5).bind fun x11 =>
 (F_impl_areHeads_1 x11).bind fun z12 =>
 if z12 = true then (
 some (.out (.inr i5))) else (
 some (.go ()))) (fun s4 => .inl ()) (a0.length) 0 () : Option (Unit ⊕ Int)).bind (Sum.elim (fun x3 =>
 some (-1)) some))
theorem c_slices_IndexFunc_impl_Head_impl_Head__impl_areHeads_1 : ∀ {a0} {r}, F_slices_IndexFunc_impl_Head_impl_Head__impl_areHeads_1 a0 = some r → PCalls Tryz.prog 161 [(.sh, .sl false 6 (a0.map row_Head)), (.sh, .func (.func 135) [] [])] (Eo (.int .i64 r) [.junk, .junk]) := by
 intro a0 r hr
 apply pF 19 [] [] [] [.tmp 4] hr cl161 Tryz.func161
 intro Φ hΦ hF g
 unfold F_slices_IndexFunc_impl_Head_impl_Head__impl_areHeads_1 at hF
 iterate 2 (try simp [go_sem, g]; try intros; refine pw_wk ?_)
 repeat rw [sq]
 refine pJs hF (fun x3 => []) (fun x3 hF => ?_) fun _ hj1 hr2 hF => ?_
 ·cases hΦ _ (Rn_some hF)
  try simp [go_sem, g]
  refine pw_wk ?_
  try simp [go_sem, g]
 ·repeat rw [sq]
  rw [pw_block]
  obtain ⟨b14, hb15, hψ8⟩ := hF
  refine pR hb15 (fun i5 s4 => [(0, .v (.sl false 6 (a0.map row_Head))), (1, .v (.func (.func 135) [] [])), (7, .v (.int .i64 (a0.length : Int))), (8, .v (.int .i64 i5))]) (fun s4 _ hN16 => ?_) (fun i5 s4 _ _ hi9 hi10 ho6 hg7 hF => ?_)
  ·subst hN16
   try simp [go_sem]
   refine pw_wk ?_
   repeat rw [sq]
   refine pw_cond_f (by simp [go_sem]) ?_
   try simp [go_sem]
   exact pT (hj1 ()) hψ8 (by simp [go_sem])
  ·try simp [go_sem, g]
   refine pw_wk ?_
   repeat rw [sq]
   refine pw_cond_t (by simp [go_sem, g, hi9, hi10]) ?_
   try simp [go_sem, g]
   refine pw_wk ?_
   repeat rw [sq]
   rw [pw_block]
   obtain ⟨x11, g, hF⟩ := Rx g hF
   try simp [go_sem, g]
   refine pw_wk ?_
   try simp [go_sem, g]
   refine pC hF [.sh] c_impl_areHeads_1 (fun z12 hF => ?_)
   try simp [go_sem, g]
   refine pw_wkK [0, 1, 5, 7, 8, 16] (by simp [go_sem, g]; rfl) ?_
   repeat rw [sq]
   refine pI hF (fun h13 hF => ?_) (fun h13 hF => ?_)
   ·cases ho6 _ (Rn_some hF)
    cases hΦ _ (hr2 _ hψ8)
    try simp [go_sem, g]
    refine pw_wk ?_
    try simp [go_sem, g]
   ·try simp [go_sem, g]
    refine pw_wk ?_
    try simp [go_sem, g]
    exact pT (hg7 ()) (Rn_some hF) (by simp [go_sem, g, wr_i hi9 hi10 (by assumption)])
noncomputable def F_slices_ContainsFunc_impl_Head_impl_Head__impl_areHeads_1 (a0 : (List Head)) : Option (Bool) :=
 (F_slices_IndexFunc_impl_Head_impl_Head__impl_areHeads_1 a0).bind fun z1 =>
 some (decide (0 ≤ z1))
theorem c_slices_ContainsFunc_impl_Head_impl_Head__impl_areHeads_1 : ∀ {a0} {r}, F_slices_ContainsFunc_impl_Head_impl_Head__impl_areHeads_1 a0 = some r → PCalls Tryz.prog 134 [(.sh, .sl false 6 (a0.map row_Head)), (.sh, .func (.func 135) [] [])] (Eo (.bool r) [.junk, .junk]) := by
 intro a0 r hr
 apply pF 9 [] [] [] [.tmp 4] hr cl134 Tryz.func134
 intro Φ hΦ hF g
 unfold F_slices_ContainsFunc_impl_Head_impl_Head__impl_areHeads_1 at hF
 try simp [go_sem, g]
 refine pw_wk ?_
 try simp [go_sem, g]
 refine pC hF [.sh, .sh] c_slices_IndexFunc_impl_Head_impl_Head__impl_areHeads_1 (fun z1 hF => ?_)
 cases hΦ _ (Rn_some hF)
 try simp [go_sem, g]
 refine pw_wk ?_
 try simp [go_sem, g]
noncomputable def F_impl_areHeads (a0 : (List Head)) : Option (Bool) :=
 ((if decide ((a0.length : Int) ≤ 20) = true then (
 (F_slices_ContainsFunc_impl_Head_impl_Head__impl_areHeads_1 a0).bind fun z5 =>
 some (!z5)) else (
 some false) : Option (Bool)).bind fun x3 =>
 some x3)
theorem c_impl_areHeads : ∀ {a0} {r}, F_impl_areHeads a0 = some r → PCalls Tryz.prog 81 [(.sh, .sl false 6 (a0.map row_Head))] (Eo (.bool r) [.junk]) := by
 intro a0 r hr
 apply pF 11 [] [] [] [.tmp 2] hr cl81 Tryz.func81
 intro Φ hΦ hF g
 unfold F_impl_areHeads at hF
 try simp [go_sem, g]
 refine pw_wk ?_
 repeat rw [sq]
 refine pJ hF (fun x3 => [(2, .v (.bool x3))]) (fun x3 hF => ?_) fun _ hj1 hF => ?_
 ·cases hΦ _ (Rn_some hF)
  try simp [go_sem, g]
 ·try simp [go_sem, g]
  try intros
  refine pwg_F hF (fun h4 hF => ?_) fun h4 hF => ?_
  ·try simp [go_sem, g, h4]
   refine pC hF [.sh, .sh] c_slices_ContainsFunc_impl_Head_impl_Head__impl_areHeads_1 (fun z5 hF => ?_)
   try simp [go_sem, g, h4]
   exact pT (hj1 (!z5)) (Rn_some hF)
  ·try simp [go_sem, g, h4]
   exact pT (hj1 false) (Rn_some hF)
noncomputable def F_impl_FirstWrongHead (a0 : Group) (a1 : Board) (a2 : (List Head)) : Option (Int × Bool) :=
 (((F_impl_areBoard a0 a1).bind fun z4 =>
 if (!z4) = true then (
 some true) else (
 (F_impl_areHeads a2).bind fun z6 =>
 some (!z6)) : Option (Bool)).bind fun x3 =>
 if x3 = true then (
 some (0, false)) else (
 ((rloop (σ := Unit) (fun i12 s11 =>
 (ix a2 i12).bind fun x18 =>
 (F_impl_Group_fits a0 a1 x18).bind fun z19 =>
 if (!z19) = true then (
 some (.out (.inr (i12, true)))) else (
 some (.go ()))) (fun s11 => .inl ()) (a2.length) 0 () : Option (Unit ⊕ (Int × Bool))).bind (Sum.elim (fun x10 =>
 some ((a2.length : Int), true)) some))))
theorem c_impl_FirstWrongHead : ∀ {a0} {a1} {a2} {r}, F_impl_FirstWrongHead a0 a1 a2 = some r → PCalls Tryz.prog 25 [(.sh, .agg [.int .i64 a0.P, .int .i64 a0.Q, .int .i64 a0.G]), (.sh, .agg [.sl false 1 (a1.Keys.map row_i64), .sl false 6 (a1.Entries.map row_Entry_z)]), (.sh, .sl false 6 (a2.map row_Head))] (Eo (.tup [.int .i64 r.1, .bool r.2]) [.junk, .junk, .junk]) := by
 intro a0 a1 a2 r hr
 apply pF 35 [] [] [] [.tmp 6, .tmp 7] hr cl25 Tryz.func25
 intro Φ hΦ hF g
 unfold F_impl_FirstWrongHead at hF
 try simp [go_sem, g]
 refine pw_wk ?_
 repeat rw [sq]
 refine pJ hF (fun x3 => [(2, .v (.sl false 6 (a2.map row_Head))), (3, .bl [.int .i64 a0.P, .int .i64 a0.Q, .int .i64 a0.G]), (4, .bl [.sl false 1 (a1.Keys.map row_i64), .sl false 6 (a1.Entries.map row_Entry_z)]), (18, .v (.bool x3))]) (fun x3 hF => ?_) fun _ hj1 hF => ?_
 ·repeat rw [sq]
  refine pI hF (fun h7 hF => ?_) (fun h7 hF => ?_)
  ·cases hΦ _ (Rn_some hF)
   try simp [go_sem, g]
   refine pw_wk ?_
   try simp [go_sem, g]
  ·iterate 2 (try simp [go_sem, g]; try intros; refine pw_wk ?_)
   repeat rw [sq]
   refine pJs hF (fun x10 => [(2, .v (.sl false 6 (a2.map row_Head)))]) (fun x10 hF => ?_) fun _ hj8 hr9 hF => ?_
   ·try simp [go_sem, g]
    try intros
    refine pw_wkK [6, 7] (by simp [go_sem, g]; rfl) ?_
    cases hΦ _ (Rn_some hF)
    try simp [go_sem, g]
   ·repeat rw [sq]
    rw [pw_block]
    obtain ⟨b21, hb22, hψ15⟩ := hF
    refine pR hb22 (fun i12 s11 => [(2, .v (.sl false 6 (a2.map row_Head))), (3, .bl [.int .i64 a0.P, .int .i64 a0.Q, .int .i64 a0.G]), (4, .bl [.sl false 1 (a1.Keys.map row_i64), .sl false 6 (a1.Entries.map row_Entry_z)]), (19, .v (.sl false 6 (a2.map row_Head))), (20, .v (.int .i64 (a2.length : Int))), (21, .v (.int .i64 i12))]) (fun s11 _ hN23 => ?_) (fun i12 s11 _ _ hi16 hi17 ho13 hg14 hF => ?_)
    ·subst hN23
     try simp [go_sem]
     refine pw_wk ?_
     repeat rw [sq]
     refine pw_cond_f (by simp [go_sem]) ?_
     try simp [go_sem]
     exact pT (hj8 ()) hψ15 (by simp [go_sem])
    ·try simp [go_sem, g]
     refine pw_wk ?_
     repeat rw [sq]
     refine pw_cond_t (by simp [go_sem, g, hi16, hi17]) ?_
     try simp [go_sem, g]
     refine pw_wk ?_
     repeat rw [sq]
     rw [pw_block]
     obtain ⟨x18, g, hF⟩ := Rx g hF
     try simp [go_sem, g]
     refine pw_wkK [2, 3, 4, 8, 9, 19, 20, 21] (by simp [go_sem, g]; rfl) ?_
     try simp [go_sem, g]
     refine pC hF [.sh, .sh, .sh] c_impl_Group_fits (fun z19 hF => ?_)
     try simp [go_sem, g]
     refine pw_wk ?_
     repeat rw [sq]
     refine pI hF (fun h20 hF => ?_) (fun h20 hF => ?_)
     ·cases ho13 _ (Rn_some hF)
      cases hΦ _ (hr9 _ hψ15)
      try simp [go_sem, g]
      refine pw_wk ?_
      try simp [go_sem, g]
     ·try simp [go_sem, g]
      refine pw_wk ?_
      try simp [go_sem, g]
      exact pT (hg14 ()) (Rn_some hF) (by simp [go_sem, g, wr_i hi16 hi17 (by assumption)])
 ·try simp [go_sem, g]
  refine pC hF [.sh, .sh] c_impl_areBoard (fun z4 hF => ?_)
  try simp [go_sem, g]
  refine pwg_F hF (fun h5 hF => ?_) fun h5 hF => ?_
  ·try simp [go_sem, g, h5]
   exact pT (hj1 true) (Rn_some hF)
  ·try simp [go_sem, g, h5]
   refine pC hF [.sh] c_impl_areHeads (fun z6 hF => ?_)
   try simp [go_sem, g, h5]
   exact pT (hj1 (!z6)) (Rn_some hF)
noncomputable def F_spec_fHeads (a0 : (List Head)) : Option (Bool) :=
 ((rloop (σ := Unit) (fun i5 s4 =>
 (ix a0 i5).bind fun x11 =>
 (F_spec_oHead x11).bind fun z12 =>
 if (!z12) = true then (
 some (.out (.inr false))) else (
 some (.go ()))) (fun s4 => .inl ()) (a0.length) 0 () : Option (Unit ⊕ Bool)).bind (Sum.elim (fun x3 =>
 some (decide ((a0.length : Int) ≤ 20))) some))
theorem c_spec_fHeads : ∀ {a0} {r}, F_spec_fHeads a0 = some r → PCalls Tryz.prog 82 [(.sh, .sl false 6 (a0.map row_Head))] (Eo (.bool r) [.junk]) := by
 intro a0 r hr
 apply pF 18 [] [] [] [.tmp 2] hr cl82 Tryz.func82
 intro Φ hΦ hF g
 unfold F_spec_fHeads at hF
 iterate 2 (try simp [go_sem, g]; try intros; refine pw_wk ?_)
 repeat rw [sq]
 refine pJs hF (fun x3 => [(0, .v (.sl false 6 (a0.map row_Head)))]) (fun x3 hF => ?_) fun _ hj1 hr2 hF => ?_
 ·cases hΦ _ (Rn_some hF)
  try simp [go_sem, g]
  try intros
  refine pw_wk ?_
  try simp [go_sem, g]
  try intros
 ·repeat rw [sq]
  rw [pw_block]
  obtain ⟨b14, hb15, hψ8⟩ := hF
  refine pR hb15 (fun i5 s4 => [(0, .v (.sl false 6 (a0.map row_Head))), (5, .v (.sl false 6 (a0.map row_Head))), (6, .v (.int .i64 (a0.length : Int))), (7, .v (.int .i64 i5))]) (fun s4 _ hN16 => ?_) (fun i5 s4 _ _ hi9 hi10 ho6 hg7 hF => ?_)
  ·subst hN16
   try simp [go_sem]
   refine pw_wk ?_
   repeat rw [sq]
   refine pw_cond_f (by simp [go_sem]) ?_
   try simp [go_sem]
   exact pT (hj1 ()) hψ8 (by simp [go_sem])
  ·try simp [go_sem, g]
   refine pw_wk ?_
   repeat rw [sq]
   refine pw_cond_t (by simp [go_sem, g, hi9, hi10]) ?_
   try simp [go_sem, g]
   refine pw_wk ?_
   repeat rw [sq]
   rw [pw_block]
   obtain ⟨x11, g, hF⟩ := Rx g hF
   try simp [go_sem, g]
   refine pw_wk ?_
   try simp [go_sem, g]
   refine pC hF [.sh] c_spec_oHead (fun z12 hF => ?_)
   try simp [go_sem, g]
   refine pw_wkK [0, 5, 6, 7, 13] (by simp [go_sem, g]; rfl) ?_
   repeat rw [sq]
   refine pI hF (fun h13 hF => ?_) (fun h13 hF => ?_)
   ·cases ho6 _ (Rn_some hF)
    cases hΦ _ (hr2 _ hψ8)
    try simp [go_sem, g]
    refine pw_wk ?_
    try simp [go_sem, g]
   ·try simp [go_sem, g]
    refine pw_wk ?_
    try simp [go_sem, g]
    exact pT (hg7 ()) (Rn_some hF) (by simp [go_sem, g, wr_i hi9 hi10 (by assumption)])
noncomputable def F_spec_FirstWrongHead (a0 : Group) (a1 : Board) (a2 : (List Head)) : Option (Int × Bool) :=
 (((F_spec_l2Good a0).bind fun z4 =>
 if (!z4) = true then (
 some true) else (
 (F_spec_oBoard a0 a1).bind fun z6 =>
 if (!z6) = true then (
 some true) else (
 (F_spec_fHeads a2).bind fun z8 =>
 some (!z8))) : Option (Bool)).bind fun x3 =>
 if x3 = true then (
 some (0, false)) else (
 ((rloop (σ := Unit) (fun i14 s13 =>
 (ix a2 i14).bind fun x20 =>
 (F_spec_oChecks a0 a1 x20).bind fun z21 =>
 if (!z21) = true then (
 some (.out (.inr (i14, true)))) else (
 some (.go ()))) (fun s13 => .inl ()) (a2.length) 0 () : Option (Unit ⊕ (Int × Bool))).bind (Sum.elim (fun x12 =>
 some ((a2.length : Int), true)) some))))
theorem c_spec_FirstWrongHead : ∀ {a0} {a1} {a2} {r}, F_spec_FirstWrongHead a0 a1 a2 = some r → PCalls Tryz.prog 26 [(.sh, .agg [.int .i64 a0.P, .int .i64 a0.Q, .int .i64 a0.G]), (.sh, .agg [.sl false 1 (a1.Keys.map row_i64), .sl false 6 (a1.Entries.map row_Entry_z)]), (.sh, .sl false 6 (a2.map row_Head))] (Eo (.tup [.int .i64 r.1, .bool r.2]) [.junk, .junk, .junk]) := by
 intro a0 a1 a2 r hr
 apply pF 40 [] [] [] [.tmp 6, .tmp 7] hr cl26 Tryz.func26
 intro Φ hΦ hF g
 unfold F_spec_FirstWrongHead at hF
 try simp [go_sem, g]
 refine pw_wk ?_
 repeat rw [sq]
 refine pJ hF (fun x3 => [(2, .v (.sl false 6 (a2.map row_Head))), (3, .bl [.int .i64 a0.P, .int .i64 a0.Q, .int .i64 a0.G]), (4, .bl [.sl false 1 (a1.Keys.map row_i64), .sl false 6 (a1.Entries.map row_Entry_z)]), (23, .v (.bool x3))]) (fun x3 hF => ?_) fun _ hj1 hF => ?_
 ·repeat rw [sq]
  refine pI hF (fun h9 hF => ?_) (fun h9 hF => ?_)
  ·cases hΦ _ (Rn_some hF)
   try simp [go_sem, g]
   refine pw_wk ?_
   try simp [go_sem, g]
  ·iterate 2 (try simp [go_sem, g]; try intros; refine pw_wk ?_)
   repeat rw [sq]
   refine pJs hF (fun x12 => [(2, .v (.sl false 6 (a2.map row_Head)))]) (fun x12 hF => ?_) fun _ hj10 hr11 hF => ?_
   ·try simp [go_sem, g]
    try intros
    refine pw_wkK [6, 7] (by simp [go_sem, g]; rfl) ?_
    cases hΦ _ (Rn_some hF)
    try simp [go_sem, g]
   ·repeat rw [sq]
    rw [pw_block]
    obtain ⟨b23, hb24, hψ17⟩ := hF
    refine pR hb24 (fun i14 s13 => [(2, .v (.sl false 6 (a2.map row_Head))), (3, .bl [.int .i64 a0.P, .int .i64 a0.Q, .int .i64 a0.G]), (4, .bl [.sl false 1 (a1.Keys.map row_i64), .sl false 6 (a1.Entries.map row_Entry_z)]), (24, .v (.sl false 6 (a2.map row_Head))), (25, .v (.int .i64 (a2.length : Int))), (26, .v (.int .i64 i14))]) (fun s13 _ hN25 => ?_) (fun i14 s13 _ _ hi18 hi19 ho15 hg16 hF => ?_)
    ·subst hN25
     try simp [go_sem]
     refine pw_wk ?_
     repeat rw [sq]
     refine pw_cond_f (by simp [go_sem]) ?_
     try simp [go_sem]
     exact pT (hj10 ()) hψ17 (by simp [go_sem])
    ·try simp [go_sem, g]
     refine pw_wk ?_
     repeat rw [sq]
     refine pw_cond_t (by simp [go_sem, g, hi18, hi19]) ?_
     try simp [go_sem, g]
     refine pw_wk ?_
     repeat rw [sq]
     rw [pw_block]
     obtain ⟨x20, g, hF⟩ := Rx g hF
     try simp [go_sem, g]
     refine pw_wkK [2, 3, 4, 8, 9, 24, 25, 26] (by simp [go_sem, g]; rfl) ?_
     try simp [go_sem, g]
     refine pC hF [.sh, .sh, .sh] c_spec_oChecks (fun z21 hF => ?_)
     try simp [go_sem, g]
     refine pw_wk ?_
     repeat rw [sq]
     refine pI hF (fun h22 hF => ?_) (fun h22 hF => ?_)
     ·cases ho15 _ (Rn_some hF)
      cases hΦ _ (hr11 _ hψ17)
      try simp [go_sem, g]
      refine pw_wk ?_
      try simp [go_sem, g]
     ·try simp [go_sem, g]
      refine pw_wk ?_
      try simp [go_sem, g]
      exact pT (hg16 ()) (Rn_some hF) (by simp [go_sem, g, wr_i hi18 hi19 (by assumption)])
 ·try simp [go_sem, g]
  refine pC hF [.sh] c_spec_l2Good (fun z4 hF => ?_)
  try simp [go_sem, g]
  refine pwg_F hF (fun h5 hF => ?_) fun h5 hF => ?_
  ·try simp [go_sem, g, h5]
   exact pT (hj1 true) (Rn_some hF)
  ·try simp [go_sem, g, h5]
   refine pC hF [.sh, .sh] c_spec_oBoard (fun z6 hF => ?_)
   try simp [go_sem, g, h5]
   refine pwg_F hF (fun h7 hF => ?_) fun h7 hF => ?_
   ·try simp [go_sem, g, h7]
    exact pT (hj1 true) (Rn_some hF)
   ·try simp [go_sem, g, h7]
    refine pC hF [.sh] c_spec_fHeads (fun z8 hF => ?_)
    try simp [go_sem, g, h7]
    exact pT (hj1 (!z8)) (Rn_some hF)
noncomputable def F_laws_FnPrefixes (a0 : (List Int)) (a1 : (List Int)) : Option (Bool) :=
 (F_laws_big a0 a1).bind fun z1 =>
 if z1 = true then (
 some true) else (
 (F_spec_DrawProvenPrefix a0).bind fun z3 =>
 (F_impl_ProvenPrefix z3.1 z3.2.1 z3.2.2.1 z3.2.2.2).bind fun z4 =>
 (F_spec_ProvenPrefix z3.1 z3.2.1 z3.2.2.1 z3.2.2.2).bind fun z5 =>
 ((if (z4.2 != z5.2) = true then (
 some true) else (
 (F_laws_sameInts z4.1 z5.1).bind fun z10 =>
 some (!z10)) : Option (Bool)).bind fun x8 =>
 if x8 = true then (
 some false) else (
 ((if z4.2 = true then (
 (F_impl_CompareHeads z3.2.2.1 z3.2.2.2 z4.1).bind fun z16 =>
 ((if (!z16.2) = true then (
 some true) else (
 if decide (z3.2.2.1.Size < z3.2.2.2.Size) = true then (
 if (z16.1 != 1) = true then (
 some true) else (
 if (z3.2.2.1.Size == z3.2.2.2.Size) = true then (
 some (z16.1 != 0)) else (
 some false))) else (
 if (z3.2.2.1.Size == z3.2.2.2.Size) = true then (
 some (z16.1 != 0)) else (
 some false))) : Option (Bool)).bind fun x19 =>
 if x19 = true then (
 some (.inr false)) else (
 some (.inl ())))) else (
 some (.inl ())) : Option (Unit ⊕ Bool)).bind (Sum.elim (fun x14 =>
 (F_spec_DrawFirstWrongHead a1).bind fun z26 =>
 (F_impl_FirstWrongHead z26.1 z26.2.1 z26.2.2).bind fun z27 =>
 (F_spec_FirstWrongHead z26.1 z26.2.1 z26.2.2).bind fun z28 =>
 ((if (z27.2 == z28.2) = true then (
 some (z27.1 == z28.1)) else (
 some false) : Option (Bool)).bind fun x31 =>
 some x31)) some)))))
theorem c_laws_FnPrefixes : ∀ {a0} {a1} {r}, F_laws_FnPrefixes a0 a1 = some r → PCalls Tryz.prog 4 [(.sh, .sl false 1 (a0.map row_u8)), (.sh, .sl false 1 (a1.map row_u8))] (Eo (.bool r) [.junk, .junk]) := by
 intro a0 a1 r hr
 apply pF 117 [] [] [] [.tmp 4] hr cl4 Tryz.func4
 intro Φ hΦ hF g
 unfold F_laws_FnPrefixes at hF
 try simp [go_sem, g]
 refine pw_wk ?_
 try simp [go_sem, g]
 refine pC hF [.sh, .sh] c_laws_big (fun z1 hF => ?_)
 try simp [go_sem, g]
 refine pw_wk ?_
 repeat rw [sq]
 refine pI hF (fun h2 hF => ?_) (fun h2 hF => ?_)
 ·cases hΦ _ (Rn_some hF)
  try simp [go_sem, g]
  refine pw_wk ?_
  try simp [go_sem, g]
 ·try simp [go_sem, g]
  refine pw_wk ?_
  try simp [go_sem, g]
  refine pC hF [.sh] c_spec_DrawProvenPrefix (fun z3 hF => ?_)
  try simp [go_sem, g]
  refine pw_wkK [1, 5, 6, 7, 8] (by simp [go_sem, g]; rfl) ?_
  try simp [go_sem, g]
  refine pC hF [.sh, .sh, .sh, .sh] c_impl_ProvenPrefix (fun z4 hF => ?_)
  try simp [go_sem, g]
  refine pw_wkK [1, 5, 6, 7, 8, 9, 10] (by simp [go_sem, g]; rfl) ?_
  try simp [go_sem, g]
  refine pC hF [.sh, .sh, .sh, .sh] c_spec_ProvenPrefix (fun z5 hF => ?_)
  try simp [go_sem, g]
  refine pw_wkK [1, 7, 8, 9, 10, 11, 12] (by simp [go_sem, g]; rfl) ?_
  repeat rw [sq]
  refine pJ hF (fun x8 => [(1, .v (.sl false 1 (a1.map row_u8))), (7, .bl [.int .i64 z3.2.2.1.Author, .int .i64 z3.2.2.1.Size, .int .i64 z3.2.2.1.Root, .sl false 1 (z3.2.2.1.Sign.Commits.map row_i64), .sl false 1 (z3.2.2.1.Sign.Challenges.map row_i64), .sl false 1 (z3.2.2.1.Sign.Responses.map row_i64)]), (8, .bl [.int .i64 z3.2.2.2.Author, .int .i64 z3.2.2.2.Size, .int .i64 z3.2.2.2.Root, .sl false 1 (z3.2.2.2.Sign.Commits.map row_i64), .sl false 1 (z3.2.2.2.Sign.Challenges.map row_i64), .sl false 1 (z3.2.2.2.Sign.Responses.map row_i64)]), (9, .v (.sl true 1 (z4.1.map row_i64))), (10, .v (.bool z4.2)), (56, .v (.bool x8))]) (fun x8 hF => ?_) fun _ hj6 hF => ?_
  ·repeat rw [sq]
   refine pI hF (fun h11 hF => ?_) (fun h11 hF => ?_)
   ·cases hΦ _ (Rn_some hF)
    try simp [go_sem, g]
    refine pw_wk ?_
    try simp [go_sem, g]
   ·iterate 2 (try simp [go_sem, g]; refine pw_wk ?_)
    repeat rw [sq]
    refine pJs hF (fun x14 => [(1, .v (.sl false 1 (a1.map row_u8)))]) (fun x14 hF => ?_) fun _ hj12 hr13 hF => ?_
    ·try simp [go_sem, g]
     refine pC hF [.sh] c_spec_DrawFirstWrongHead (fun z26 hF => ?_)
     try simp [go_sem, g]
     refine pw_wkK [15, 16, 17] (by simp [go_sem, g]; rfl) ?_
     try simp [go_sem, g]
     refine pC hF [.sh, .sh, .sh] c_impl_FirstWrongHead (fun z27 hF => ?_)
     try simp [go_sem, g]
     refine pw_wk ?_
     try simp [go_sem, g]
     refine pC hF [.sh, .sh, .sh] c_spec_FirstWrongHead (fun z28 hF => ?_)
     try simp [go_sem, g]
     refine pw_wkK [18, 19, 20, 21] (by simp [go_sem, g]; rfl) ?_
     repeat rw [sq]
     refine pJ hF (fun x31 => [(4, .v (.bool x31))]) (fun x31 hF => ?_) fun _ hj29 hF => ?_
     ·cases hΦ _ (Rn_some hF)
      try simp [go_sem, g]
     ·try simp [go_sem, g]
      refine pwg_F hF (fun h32 hF => ?_) fun h32 hF => ?_
      ·try simp [go_sem, g, h32]
       exact pT (hj29 (z27.1 == z28.1)) (Rn_some hF)
      ·try simp [go_sem, g, h32]
       exact pT (hj29 false) (Rn_some hF)
    ·repeat rw [sq]
     refine pI hF (fun h15 hF => ?_) (fun h15 hF => ?_)
     ·try simp [go_sem, g]
      refine pC hF [.sh, .sh, .sh] c_impl_CompareHeads (fun z16 hF => ?_)
      try simp [go_sem, g]
      refine pw_wkK [1, 7, 8, 13, 14] (by simp [go_sem, g]; rfl) ?_
      repeat rw [sq]
      refine pJ hF (fun x19 => [(1, .v (.sl false 1 (a1.map row_u8))), (88, .v (.bool x19))]) (fun x19 hF => ?_) fun _ hj17 hF => ?_
      ·repeat rw [sq]
       refine pI hF (fun h25 hF => ?_) (fun h25 hF => ?_)
       ·cases hΦ _ (hr13 _ (Rn_some hF))
        try simp [go_sem, g]
        refine pw_wk ?_
        try simp [go_sem, g]
       ·try simp [go_sem, g]
        exact pT (hj12 ()) (Rn_some hF)
      ·try simp [go_sem, g]
       refine pwg_F hF (fun h20 hF => ?_) fun h20 hF => ?_
       ·try simp [go_sem, g, h20]
        exact pT (hj17 true) (Rn_some hF)
       ·try simp [go_sem, g, h20]
        refine pwg_F hF (fun h21 hF => ?_) fun h21 hF => ?_
        ·try simp [go_sem, g, h21, h20]
         refine pwg_F hF (fun h22 hF => ?_) fun h22 hF => ?_
         ·try simp [go_sem, g, h22]
          exact pT (hj17 true) (Rn_some hF)
         ·try simp [go_sem, g, h22]
          refine pwg_F hF (fun h23 hF => ?_) fun h23 hF => ?_
          ·try simp [go_sem, g, h23, h22]
           exact pT (hj17 (z16.1 != 0)) (Rn_some hF)
          ·try simp [go_sem, g, h23, h22]
           exact pT (hj17 false) (Rn_some hF)
        ·try simp [go_sem, g, h21, h20]
         refine pwg_F hF (fun h24 hF => ?_) fun h24 hF => ?_
         ·try simp [go_sem, g, h24]
          exact pT (hj17 (z16.1 != 0)) (Rn_some hF)
         ·try simp [go_sem, g, h24]
          exact pT (hj17 false) (Rn_some hF)
     ·try simp [go_sem, g]
      exact pT (hj12 ()) (Rn_some hF)
  ·try simp [go_sem, g]
   refine pwg_F hF (fun h9 hF => ?_) fun h9 hF => ?_
   ·try simp [go_sem, g, h9]
    exact pT (hj6 true) (Rn_some hF)
   ·try simp [go_sem, g, h9]
    refine pC hF [.sh, .sh] c_laws_sameInts (fun z10 hF => ?_)
    try simp [go_sem, g, h9]
    exact pT (hj6 (!z10)) (Rn_some hF)
end Go.Pm
