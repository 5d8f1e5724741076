/-
  Plain functions and their walks. Written by wip/tools/lift.py.
-/
import Derived.Test.YtloeipgajoimfaaGreatPS
namespace Go.Pm
open Go.Am IntKind
open Go.Proofs
set_option maxRecDepth 100000
attribute [local irreducible] pw pwx pw1 pwg qv qz qf
attribute [-simp] List.map_set
set_option linter.unusedSimpArgs false
set_option linter.unusedVariables false
structure Group where
  P : Int
  Q : Int
  G : Int
structure Proof where
  Commits : (List Int)
  Challenges : (List Int)
  Responses : (List Int)
structure Entry where
  Kind : Int
  Author : Int
  Data : (List Int)
  Sign : Proof
structure Board where
  Keys : (List Int)
  Entries : (List Entry)
structure Contest where
  Kind : Int
  Options : Int
  Least : Int
  Most : Int
  Points : Int
structure Plan where
  Gr : Group
  Ct : Contest
  Threshold : Int
  Trustees : Int
  Mixers : Int
  Voters : Int
  Seed : Int
structure uX where
  p : Plan
  commits : (List Int)
structure l3State where
  s : Int
  t : Int
structure Bases where
  H : Int
  Hs : (List Int)
structure Opening where
  Ct : Contest
  Threshold : Int
  Trustees : Int
  Mixers : Int
  Voters : Int
def row_i64 (x : Int) : List PV := [.int .i64 x]
@[go_sem] theorem row_i64_eq {x : Int} : row_i64 x = [.int .i64 x] := (rfl)
@[go_sem] theorem row_i64_drop {l : List Int} : List.map (List.map drop ∘ row_i64) l = l.map row_i64 := by refine List.map_congr_left fun x _ => ?_; simp [go_sem]
@[go_sem] theorem row_i64_drop' {l : List Int} : List.map (List.map drop) (l.map row_i64) = l.map row_i64 := by rw [List.map_map]; exact row_i64_drop
@[go_sem] theorem row_i64_set {l : List Int} {i : Nat} {a : Int} : (l.map row_i64).set i [.int .i64 a] = (l.set i a).map row_i64 := by rw [List.map_set]; rfl
def row_Entry_z (x : Entry) : List PV := [.int .i64 x.Kind, .int .i64 x.Author, .sl false 1 (x.Data.map row_i64), .sl false 1 (x.Sign.Commits.map row_i64), .sl false 1 (x.Sign.Challenges.map row_i64), .sl false 1 (x.Sign.Responses.map row_i64)]
@[go_sem] theorem row_Entry_z_eq {x : Entry} : row_Entry_z x = [.int .i64 x.Kind, .int .i64 x.Author, .sl false 1 (x.Data.map row_i64), .sl false 1 (x.Sign.Commits.map row_i64), .sl false 1 (x.Sign.Challenges.map row_i64), .sl false 1 (x.Sign.Responses.map row_i64)] := (rfl)
@[go_sem] theorem row_Entry_z_drop {l : List Entry} : List.map (List.map drop ∘ row_Entry_z) l = l.map row_Entry_z := by refine List.map_congr_left fun x _ => ?_; simp [go_sem]
@[go_sem] theorem row_Entry_z_drop' {l : List Entry} : List.map (List.map drop) (l.map row_Entry_z) = l.map row_Entry_z := by rw [List.map_map]; exact row_Entry_z_drop
@[go_sem] theorem row_Entry_z_setl {l : List Entry} {i : Nat} {Kind : Int} {Author : Int} {Data : (List Int)} {SignCommits : (List Int)} {SignChallenges : (List Int)} {SignResponses : (List Int)} : (l.map row_Entry_z).set i [.int .i64 Kind, .int .i64 Author, .sl false 1 (Data.map row_i64), .sl false 1 (SignCommits.map row_i64), .sl false 1 (SignChallenges.map row_i64), .sl false 1 (SignResponses.map row_i64)] = (l.set i (Entry.mk Kind Author Data (Proof.mk SignCommits SignChallenges SignResponses))).map row_Entry_z := by rw [List.map_set]; rfl
@[go_sem] theorem row_Entry_z_set {l : List Entry} {i : Nat} {Kind : Int} {Author : Int} {Data : (List Int)} {Sign : Proof} : (l.map row_Entry_z).set i [.int .i64 Kind, .int .i64 Author, .sl false 1 (Data.map row_i64), .sl false 1 (Sign.Commits.map row_i64), .sl false 1 (Sign.Challenges.map row_i64), .sl false 1 (Sign.Responses.map row_i64)] = (l.set i (Entry.mk Kind Author Data Sign)).map row_Entry_z := by rw [List.map_set]; rfl
def row_Entry_o (x : Entry) : List PV := [.int .i64 x.Kind, .int .i64 x.Author, .sl true 1 (x.Data.map row_i64), .sl true 1 (x.Sign.Commits.map row_i64), .sl true 1 (x.Sign.Challenges.map row_i64), .sl true 1 (x.Sign.Responses.map row_i64)]
@[go_sem] theorem row_Entry_o_eq {x : Entry} : row_Entry_o x = [.int .i64 x.Kind, .int .i64 x.Author, .sl true 1 (x.Data.map row_i64), .sl true 1 (x.Sign.Commits.map row_i64), .sl true 1 (x.Sign.Challenges.map row_i64), .sl true 1 (x.Sign.Responses.map row_i64)] := (rfl)
@[go_sem] theorem row_Entry_o_drop {l : List Entry} : List.map (List.map drop ∘ row_Entry_o) l = l.map row_Entry_z := by refine List.map_congr_left fun x _ => ?_; simp [go_sem]
@[go_sem] theorem row_Entry_o_drop' {l : List Entry} : List.map (List.map drop) (l.map row_Entry_o) = l.map row_Entry_z := by rw [List.map_map]; exact row_Entry_o_drop
@[go_sem] theorem row_Entry_o_setl {l : List Entry} {i : Nat} {Kind : Int} {Author : Int} {Data : (List Int)} {SignCommits : (List Int)} {SignChallenges : (List Int)} {SignResponses : (List Int)} : (l.map row_Entry_o).set i [.int .i64 Kind, .int .i64 Author, .sl true 1 (Data.map row_i64), .sl true 1 (SignCommits.map row_i64), .sl true 1 (SignChallenges.map row_i64), .sl true 1 (SignResponses.map row_i64)] = (l.set i (Entry.mk Kind Author Data (Proof.mk SignCommits SignChallenges SignResponses))).map row_Entry_o := by rw [List.map_set]; rfl
@[go_sem] theorem row_Entry_o_set {l : List Entry} {i : Nat} {Kind : Int} {Author : Int} {Data : (List Int)} {Sign : Proof} : (l.map row_Entry_o).set i [.int .i64 Kind, .int .i64 Author, .sl true 1 (Data.map row_i64), .sl true 1 (Sign.Commits.map row_i64), .sl true 1 (Sign.Challenges.map row_i64), .sl true 1 (Sign.Responses.map row_i64)] = (l.set i (Entry.mk Kind Author Data Sign)).map row_Entry_o := by rw [List.map_set]; rfl
def row_u8 (x : Int) : List PV := [.int .u8 x]
@[go_sem] theorem row_u8_eq {x : Int} : row_u8 x = [.int .u8 x] := (rfl)
@[go_sem] theorem row_u8_drop {l : List Int} : List.map (List.map drop ∘ row_u8) l = l.map row_u8 := by refine List.map_congr_left fun x _ => ?_; simp [go_sem]
@[go_sem] theorem row_u8_drop' {l : List Int} : List.map (List.map drop) (l.map row_u8) = l.map row_u8 := by rw [List.map_map]; exact row_u8_drop
@[go_sem] theorem row_u8_set {l : List Int} {i : Nat} {a : Int} : (l.map row_u8).set i [.int .u8 a] = (l.set i a).map row_u8 := by rw [List.map_set]; rfl
def row_zi64 (x : (List Int)) : List PV := [.sl false 1 (x.map row_i64)]
@[go_sem] theorem row_zi64_eq {x : (List Int)} : row_zi64 x = [.sl false 1 (x.map row_i64)] := (rfl)
@[go_sem] theorem row_zi64_drop {l : List (List Int)} : List.map (List.map drop ∘ row_zi64) l = l.map row_zi64 := by refine List.map_congr_left fun x _ => ?_; simp [go_sem]
@[go_sem] theorem row_zi64_drop' {l : List (List Int)} : List.map (List.map drop) (l.map row_zi64) = l.map row_zi64 := by rw [List.map_map]; exact row_zi64_drop
@[go_sem] theorem row_zi64_set {l : List (List Int)} {i : Nat} {a : (List Int)} : (l.map row_zi64).set i [.sl false 1 (a.map row_i64)] = (l.set i a).map row_zi64 := by rw [List.map_set]; rfl
noncomputable def F_laws_szIntS (a0 : (List Int)) (a1 : Int) : Option (Int) :=
  if decide ((i64.wrap (a1 - (a0.length : Int))) < 0) = true then (
  some (-1)) else (
  some (i64.wrap (a1 - (a0.length : Int))))
theorem c_laws_szIntS : ∀ {a0} {a1} {r}, F_laws_szIntS a0 a1 = some r → PCalls Tryz.prog 14 [(.sh, .sl false 1 (a0.map row_i64)), (.sh, .int .i64 a1)] (Eo (.int .i64 r) [.junk, .junk]) := by
  intro a0 a1 r hr
  apply pF 12 [] [] [] [.tmp 4] hr cl14 Tryz.func14
  intro Φ hΦ hF g
  unfold F_laws_szIntS at hF
  iterate 3 (try simp [go_sem, g]; try intros; refine pw_wk ?_)
  repeat rw [sq]
  refine pI hF (fun h1 hF => ?_) (fun h1 hF => ?_)
  ·cases hΦ _ (Rn_some hF)
   try simp [go_sem, g]
   refine pw_wk ?_
   try simp [go_sem, g]
  ·try simp [go_sem, g]
   refine pw_wk ?_
   try simp [go_sem, g]
   refine pw_wkK [4] (by simp [go_sem, g]; rfl) ?_
   cases hΦ _ (Rn_some hF)
   try simp [go_sem, g]
noncomputable def F_laws_szProof (a0 : Proof) (a1 : Int) : Option (Int) :=
  (F_laws_szIntS a0.Commits a1).bind fun z1 =>
  if decide (z1 < 0) = true then (
  some (-1)) else (
  (F_laws_szIntS a0.Challenges z1).bind fun z3 =>
  if decide (z3 < 0) = true then (
  some (-1)) else (
  (F_laws_szIntS a0.Responses z3).bind fun z5 =>
  if decide (z5 < 0) = true then (
  some (-1)) else (
  some z5)))
theorem c_laws_szProof : ∀ {a0} {a1} {r}, F_laws_szProof a0 a1 = some r → PCalls Tryz.prog 38 [(.sh, .agg [.sl false 1 (a0.Commits.map row_i64), .sl false 1 (a0.Challenges.map row_i64), .sl false 1 (a0.Responses.map row_i64)]), (.sh, .int .i64 a1)] (Eo (.int .i64 r) [.junk, .junk]) := by
  intro a0 a1 r hr
  apply pF 24 [] [] [] [.tmp 4] hr cl38 Tryz.func38
  intro Φ hΦ hF g
  unfold F_laws_szProof at hF
  try simp [go_sem, g]
  refine pw_wk ?_
  try simp [go_sem, g]
  refine pC hF [.sh, .sh] c_laws_szIntS (fun z1 hF => ?_)
  iterate 2 (try simp [go_sem, g]; refine pw_wk ?_)
  repeat rw [sq]
  refine pI hF (fun h2 hF => ?_) (fun h2 hF => ?_)
  ·try simp [go_sem, g]
   refine pw_wkK [4] (by simp [go_sem, g]; rfl) ?_
   cases hΦ _ (Rn_some hF)
   try simp [go_sem, g]
  ·try simp [go_sem, g]
   refine pw_wk ?_
   try simp [go_sem, g]
   refine pC hF [.sh, .sh] c_laws_szIntS (fun z3 hF => ?_)
   try simp [go_sem, g]
   refine pw_wkK [1, 2] (by simp [go_sem, g]; rfl) ?_
   try simp [go_sem, g]
   refine pw_wk ?_
   repeat rw [sq]
   refine pI hF (fun h4 hF => ?_) (fun h4 hF => ?_)
   ·cases hΦ _ (Rn_some hF)
    try simp [go_sem, g]
    refine pw_wk ?_
    try simp [go_sem, g]
   ·try simp [go_sem, g]
    refine pw_wk ?_
    try simp [go_sem, g]
    refine pC hF [.sh, .sh] c_laws_szIntS (fun z5 hF => ?_)
    iterate 2 (try simp [go_sem, g]; refine pw_wk ?_)
    repeat rw [sq]
    refine pI hF (fun h6 hF => ?_) (fun h6 hF => ?_)
    ·try simp [go_sem, g]
     refine pw_wkK [4] (by simp [go_sem, g]; rfl) ?_
     cases hΦ _ (Rn_some hF)
     try simp [go_sem, g]
    ·try simp [go_sem, g]
     refine pw_wk ?_
     try simp [go_sem, g]
     refine pw_wkK [4] (by simp [go_sem, g]; rfl) ?_
     cases hΦ _ (Rn_some hF)
     try simp [go_sem, g]
noncomputable def F_laws_szEntry (a0 : Entry) (a1 : Int) : Option (Int) :=
  (F_laws_szIntS a0.Data a1).bind fun z1 =>
  if decide (z1 < 0) = true then (
  some (-1)) else (
  (F_laws_szProof a0.Sign z1).bind fun z3 =>
  if decide (z3 < 0) = true then (
  some (-1)) else (
  some z3))
theorem c_laws_szEntry : ∀ {a0} {a1} {r}, F_laws_szEntry a0 a1 = some r → PCalls Tryz.prog 27 [(.sh, .agg [.int .i64 a0.Kind, .int .i64 a0.Author, .sl false 1 (a0.Data.map row_i64), .sl false 1 (a0.Sign.Commits.map row_i64), .sl false 1 (a0.Sign.Challenges.map row_i64), .sl false 1 (a0.Sign.Responses.map row_i64)]), (.sh, .int .i64 a1)] (Eo (.int .i64 r) [.junk, .junk]) := by
  intro a0 a1 r hr
  apply pF 18 [] [] [] [.tmp 4] hr cl27 Tryz.func27
  intro Φ hΦ hF g
  unfold F_laws_szEntry at hF
  try simp [go_sem, g]
  refine pw_wk ?_
  try simp [go_sem, g]
  refine pC hF [.sh, .sh] c_laws_szIntS (fun z1 hF => ?_)
  iterate 2 (try simp [go_sem, g]; refine pw_wk ?_)
  repeat rw [sq]
  refine pI hF (fun h2 hF => ?_) (fun h2 hF => ?_)
  ·try simp [go_sem, g]
   refine pw_wkK [4] (by simp [go_sem, g]; rfl) ?_
   cases hΦ _ (Rn_some hF)
   try simp [go_sem, g]
  ·try simp [go_sem, g]
   refine pw_wk ?_
   try simp [go_sem, g]
   refine pC hF [.sh, .sh] c_laws_szProof (fun z3 hF => ?_)
   try simp [go_sem, g]
   refine pw_wkK [1] (by simp [go_sem, g]; rfl) ?_
   try simp [go_sem, g]
   refine pw_wk ?_
   repeat rw [sq]
   refine pI hF (fun h4 hF => ?_) (fun h4 hF => ?_)
   ·cases hΦ _ (Rn_some hF)
    try simp [go_sem, g]
    refine pw_wk ?_
    try simp [go_sem, g]
   ·cases hΦ _ (Rn_some hF)
    iterate 2 (try simp [go_sem, g]; refine pw_wk ?_)
    try simp [go_sem, g]
noncomputable def F_laws_szEntryS (a0 : (List Entry)) (a1 : Int) : Option (Int) :=
  if decide ((i64.wrap (a1 - (a0.length : Int))) < 0) = true then (
  some (-1)) else (
  ((wloop (σ := Int × Int) (fun s5 =>
  if decide (s5.2 < (a0.length : Int)) = true then (
  (ix a0 s5.2).bind fun x11 =>
  (F_laws_szEntry x11 s5.1).bind fun z12 =>
  if decide (z12 < 0) = true then (
  some (.out (.inr (-1)))) else (
  some (.go (z12, i64.wrap (s5.2 + 1))))) else (
  some (.out (.inl s5.1)))) (i64.wrap (a1 - (a0.length : Int)), 0) : Option (Int ⊕ Int)).bind (Sum.elim (fun x4 =>
  some x4) some)))
theorem c_laws_szEntryS : ∀ {a0} {a1} {r}, F_laws_szEntryS a0 a1 = some r → PCalls Tryz.prog 15 [(.sh, .sl false 6 (a0.map row_Entry_z)), (.sh, .int .i64 a1)] (Eo (.int .i64 r) [.junk, .junk]) := by
  intro a0 a1 r hr
  apply pF 27 [] [] [] [.tmp 4] hr cl15 Tryz.func15
  intro Φ hΦ hF g
  unfold F_laws_szEntryS at hF
  iterate 3 (try simp [go_sem, g]; try intros; refine pw_wk ?_)
  repeat rw [sq]
  refine pI hF (fun h1 hF => ?_) (fun h1 hF => ?_)
  ·cases hΦ _ (Rn_some hF)
   try simp [go_sem, g]
   refine pw_wk ?_
   try simp [go_sem, g]
  ·iterate 2 (try simp [go_sem, g]; refine pw_wk ?_)
   repeat rw [sq]
   refine pJs hF (fun x4 => [(1, .v (.int .i64 x4))]) (fun x4 hF => ?_) fun _ hj2 hr3 hF => ?_
   ·try simp [go_sem, g]
    refine pw_wkK [4] (by simp [go_sem, g]; rfl) ?_
    cases hΦ _ (Rn_some hF)
    try simp [go_sem, g]
   ·repeat rw [sq]
    rw [pw_block]
    obtain ⟨b14, hb15, hψ9⟩ := hF
    refine pL hb15 (fun s5 => [(0, .v (.sl false 6 (a0.map row_Entry_z))), (1, .v (.int .i64 s5.1)), (5, .v (.int .i64 s5.2))]) (fun s5 _ _ ho7 hg8 hF => ?_)
    try simp [go_sem, g]
    try intros
    refine pw_wkK [0, 1, 5, 15] (by simp [go_sem, g]; rfl) ?_
    repeat rw [sq]
    refine pI hF (fun h10 hF => ?_) (fun h10 hF => ?_)
    ·try simp [go_sem, g]
     refine pw_wk ?_
     repeat rw [sq]
     rw [pw_block]
     obtain ⟨x11, g, hF⟩ := Rx g hF
     try simp [go_sem, g]
     refine pC hF [.sh, .sh] c_laws_szEntry (fun z12 hF => ?_)
     iterate 2 (try simp [go_sem, g]; refine pw_wk ?_)
     repeat rw [sq]
     refine pI hF (fun h13 hF => ?_) (fun h13 hF => ?_)
     ·try simp [go_sem, g]
      refine pw_wkK [4] (by simp [go_sem, g]; rfl) ?_
      cases ho7 _ (Rn_some hF)
      cases hΦ _ (hr3 _ hψ9)
      try simp [go_sem, g]
     ·try simp [go_sem, g]
      refine pw_wk ?_
      try simp [go_sem, g]
      exact pT (hg8 (z12, i64.wrap (s5.2 + 1))) (Rn_some hF)
    ·try simp [go_sem, g]
     cases ho7 _ (Rn_some hF)
     exact pT (hj2 s5.1) hψ9
noncomputable def F_laws_szBoard (a0 : Board) (a1 : Int) : Option (Int) :=
  (F_laws_szIntS a0.Keys a1).bind fun z1 =>
  if decide (z1 < 0) = true then (
  some (-1)) else (
  (F_laws_szEntryS a0.Entries z1).bind fun z3 =>
  if decide (z3 < 0) = true then (
  some (-1)) else (
  some z3))
theorem c_laws_szBoard : ∀ {a0} {a1} {r}, F_laws_szBoard a0 a1 = some r → PCalls Tryz.prog 4 [(.sh, .agg [.sl false 1 (a0.Keys.map row_i64), .sl false 6 (a0.Entries.map row_Entry_z)]), (.sh, .int .i64 a1)] (Eo (.int .i64 r) [.junk, .junk]) := by
  intro a0 a1 r hr
  apply pF 18 [] [] [] [.tmp 4] hr cl4 Tryz.func4
  intro Φ hΦ hF g
  unfold F_laws_szBoard at hF
  try simp [go_sem, g]
  refine pw_wk ?_
  try simp [go_sem, g]
  refine pC hF [.sh, .sh] c_laws_szIntS (fun z1 hF => ?_)
  iterate 2 (try simp [go_sem, g]; refine pw_wk ?_)
  repeat rw [sq]
  refine pI hF (fun h2 hF => ?_) (fun h2 hF => ?_)
  ·try simp [go_sem, g]
   refine pw_wkK [4] (by simp [go_sem, g]; rfl) ?_
   cases hΦ _ (Rn_some hF)
   try simp [go_sem, g]
  ·try simp [go_sem, g]
   refine pw_wk ?_
   try simp [go_sem, g]
   refine pC hF [.sh, .sh] c_laws_szEntryS (fun z3 hF => ?_)
   try simp [go_sem, g]
   refine pw_wkK [1] (by simp [go_sem, g]; rfl) ?_
   try simp [go_sem, g]
   refine pw_wk ?_
   repeat rw [sq]
   refine pI hF (fun h4 hF => ?_) (fun h4 hF => ?_)
   ·cases hΦ _ (Rn_some hF)
    try simp [go_sem, g]
    refine pw_wk ?_
    try simp [go_sem, g]
   ·cases hΦ _ (Rn_some hF)
    iterate 2 (try simp [go_sem, g]; refine pw_wk ?_)
    try simp [go_sem, g]
noncomputable def F_laws_toGroup (a0 : Group) : Option (Group) :=
  some a0
theorem c_laws_toGroup : ∀ {a0} {r}, F_laws_toGroup a0 = some r → PCalls Tryz.prog 6 [(.sh, .agg [.int .i64 a0.P, .int .i64 a0.Q, .int .i64 a0.G])] (Eo (.agg [.int .i64 r.P, .int .i64 r.Q, .int .i64 r.G]) [.junk]) := by
  intro a0 r hr
  apply pF 14 [] [] [] [.cell 2 31] hr cl6 Tryz.func6
  intro Φ hΦ hF g
  unfold F_laws_toGroup at hF
  iterate 3 (try simp [go_sem, g]; refine pw_wk ?_)
  try simp [go_sem, g]
  refine pw_wkK [1, 2, 3] (by simp [go_sem, g]; rfl) ?_
  cases hΦ _ (Rn_some hF)
  iterate 2 (try simp [go_sem, g]; refine pw_wk ?_)
  try simp [go_sem, g]
noncomputable def F_laws_toIntS (a0 : (List Int)) : Option ((List Int)) :=
  gd (0 ≤ (a0.length : Int) ∧ (a0.length : Int) ≤ (a0.length : Int) ∧ 8 * (a0.length : Int) ≤ 140737488355328 ∧ (a0.length : Int) ≤ 4611686018427387904) <|
  (some (List.replicate a0.length 0)).bind fun x1 =>
  ((wloop (σ := (List Int) × Int) (fun s15 =>
  if decide (s15.2 < (a0.length : Int)) = true then (
  (ix a0 s15.2).bind fun x21 =>
  (ix s15.1 s15.2).bind fun x22 =>
  some (.go (s15.1.set s15.2.toNat x21, i64.wrap (s15.2 + 1)))) else (
  some (.out s15.1))) (x1, 0) : Option ((List Int))).bind fun x6 =>
  some x6)
theorem c_laws_toIntS : ∀ {a0} {r}, F_laws_toIntS a0 = some r → PCalls Tryz.prog 17 [(.sh, .sl false 1 (a0.map row_i64))] (Eo (.sl true 1 (r.map row_i64)) [.junk]) := by
  intro a0 r hr
  apply pF 22 [] [] [] [.tmp 2] hr cl17 Tryz.func17
  intro Φ hΦ hF g
  unfold F_laws_toIntS at hF
  obtain ⟨g, hF⟩ := Rg g hF
  obtain ⟨x1, e2, hF⟩ := Rn_bind hF
  have g3 : List.replicate a0.length ([.int .i64 0] : List PV) = x1.map row_i64 := by injection e2 with e2; rw [← e2]; simp [go_sem]
  iterate 3 (try simp [go_sem, g, g3]; try intros; refine pw_wk ?_)
  repeat rw [sq]
  refine pJ hF (fun x6 => [(3, .v (.sl true 1 (x6.map row_i64)))]) (fun x6 hF => ?_) fun _ hj4 hF => ?_
  ·cases hΦ _ (Rn_some hF)
   try simp [go_sem, g]
   refine pw_wk ?_
   try simp [go_sem, g]
  ·repeat rw [sq]
   rw [pw_block]
   obtain ⟨b23, hb24, hψ19⟩ := hF
   refine pL hb24 (fun s15 => [(0, .v (.sl false 1 (a0.map row_i64))), (3, .v (.sl true 1 (s15.1.map row_i64))), (4, .v (.int .i64 s15.2))]) (fun s15 _ _ ho17 hg18 hF => ?_)
   try simp [go_sem, g]
   try intros
   refine pw_wkK [0, 3, 4, 11] (by simp [go_sem, g]; rfl) ?_
   repeat rw [sq]
   refine pI hF (fun h20 hF => ?_) (fun h20 hF => ?_)
   ·try simp [go_sem, g]
    refine pw_wk ?_
    repeat rw [sq]
    rw [pw_block]
    obtain ⟨x21, g, hF⟩ := Rx g hF
    obtain ⟨x22, g, hF⟩ := Rx g hF
    try simp [go_sem, g]
    refine pw_wk ?_
    try simp [go_sem, g]
    exact pT (hg18 (s15.1.set s15.2.toNat x21, i64.wrap (s15.2 + 1))) (Rn_some hF)
   ·try simp [go_sem, g]
    cases ho17 _ (Rn_some hF)
    exact pT (hj4 s15.1) hψ19
noncomputable def F_laws_toProof (a0 : Proof) : Option (Proof) :=
  (F_laws_toIntS a0.Commits).bind fun z1 =>
  (F_laws_toIntS a0.Challenges).bind fun z2 =>
  (F_laws_toIntS a0.Responses).bind fun z3 =>
  some (Proof.mk z1 z2 z3)
theorem c_laws_toProof : ∀ {a0} {r}, F_laws_toProof a0 = some r → PCalls Tryz.prog 47 [(.sh, .agg [.sl false 1 (a0.Commits.map row_i64), .sl false 1 (a0.Challenges.map row_i64), .sl false 1 (a0.Responses.map row_i64)])] (Eo (.agg [.sl true 1 (r.Commits.map row_i64), .sl true 1 (r.Challenges.map row_i64), .sl true 1 (r.Responses.map row_i64)]) [.junk]) := by
  intro a0 r hr
  apply pF 17 [] [] [] [.cell 2 59] hr cl47 Tryz.func47
  intro Φ hΦ hF g
  unfold F_laws_toProof at hF
  iterate 2 (try simp [go_sem, g]; refine pw_wk ?_)
  try simp [go_sem, g]
  refine pC hF [.sh] c_laws_toIntS (fun z1 hF => ?_)
  try simp [go_sem, g]
  refine pw_wk ?_
  try simp [go_sem, g]
  refine pC hF [.sh] c_laws_toIntS (fun z2 hF => ?_)
  try simp [go_sem, g]
  refine pw_wkK [1, 2, 3] (by simp [go_sem, g]; rfl) ?_
  try simp [go_sem, g]
  refine pC hF [.sh] c_laws_toIntS (fun z3 hF => ?_)
  cases hΦ _ (Rn_some hF)
  iterate 2 (try simp [go_sem, g]; refine pw_wk ?_)
  try simp [go_sem, g]
noncomputable def F_laws_toEntry (a0 : Entry) : Option (Entry) :=
  (F_laws_toIntS a0.Data).bind fun z1 =>
  (F_laws_toProof a0.Sign).bind fun z2 =>
  some (Entry.mk a0.Kind a0.Author z1 z2)
theorem c_laws_toEntry : ∀ {a0} {r}, F_laws_toEntry a0 = some r → PCalls Tryz.prog 30 [(.sh, .agg [.int .i64 a0.Kind, .int .i64 a0.Author, .sl false 1 (a0.Data.map row_i64), .sl false 1 (a0.Sign.Commits.map row_i64), .sl false 1 (a0.Sign.Challenges.map row_i64), .sl false 1 (a0.Sign.Responses.map row_i64)])] (Eo (.agg [.int .i64 r.Kind, .int .i64 r.Author, .sl true 1 (r.Data.map row_i64), .sl true 1 (r.Sign.Commits.map row_i64), .sl true 1 (r.Sign.Challenges.map row_i64), .sl true 1 (r.Sign.Responses.map row_i64)]) [.junk]) := by
  intro a0 r hr
  apply pF 19 [] [] [] [.cell 2 61] hr cl30 Tryz.func30
  intro Φ hΦ hF g
  unfold F_laws_toEntry at hF
  iterate 3 (try simp [go_sem, g]; refine pw_wk ?_)
  try simp [go_sem, g]
  refine pw_wkK [1, 2, 3] (by simp [go_sem, g]; rfl) ?_
  try simp [go_sem, g]
  refine pC hF [.sh] c_laws_toIntS (fun z1 hF => ?_)
  try simp [go_sem, g]
  refine pw_wk ?_
  try simp [go_sem, g]
  refine pC hF [.sh] c_laws_toProof (fun z2 hF => ?_)
  try simp [go_sem, g]
  refine pw_wkK [2, 3] (by simp [go_sem, g]; rfl) ?_
  cases hΦ _ (Rn_some hF)
  try simp [go_sem, g]
  refine pw_wk ?_
  try simp [go_sem, g]
noncomputable def F_laws_toEntryS (a0 : (List Entry)) : Option ((List Entry)) :=
  gd (0 ≤ (a0.length : Int) ∧ (a0.length : Int) ≤ (a0.length : Int) ∧ 112 * (a0.length : Int) ≤ 140737488355328 ∧ (a0.length : Int) ≤ 4611686018427387904) <|
  (some (List.replicate a0.length (Entry.mk 0 0 [] (Proof.mk [] [] [])))).bind fun x1 =>
  ((wloop (σ := (List Entry) × Int) (fun s16 =>
  if decide (s16.2 < (a0.length : Int)) = true then (
  (ix a0 s16.2).bind fun x22 =>
  (F_laws_toEntry x22).bind fun z23 =>
  (ix s16.1 s16.2).bind fun x24 =>
  some (.go (s16.1.set s16.2.toNat z23, i64.wrap (s16.2 + 1)))) else (
  some (.out s16.1))) (x1, 0) : Option ((List Entry))).bind fun x6 =>
  some x6)
theorem c_laws_toEntryS : ∀ {a0} {r}, F_laws_toEntryS a0 = some r → PCalls Tryz.prog 18 [(.sh, .sl false 6 (a0.map row_Entry_z))] (Eo (.sl true 6 (r.map row_Entry_o)) [.junk]) := by
  intro a0 r hr
  apply pF 23 [] [30] [] [.tmp 2] hr cl18 Tryz.func18
  intro Φ hΦ hF g
  unfold F_laws_toEntryS at hF
  obtain ⟨g, hF⟩ := Rg g hF
  obtain ⟨x1, e2, hF⟩ := Rn_bind hF
  have g3 : List.replicate a0.length ([.int .i64 0, .int .i64 0, .sl true 1 [], .sl true 1 [], .sl true 1 [], .sl true 1 []] : List PV) = x1.map row_Entry_o := by injection e2 with e2; rw [← e2]; simp [go_sem]
  iterate 3 (try simp [go_sem, g, g3]; try intros; refine pw_wk ?_)
  repeat rw [sq]
  refine pJ hF (fun x6 => [(3, .v (.sl true 6 (x6.map row_Entry_o)))]) (fun x6 hF => ?_) fun _ hj4 hF => ?_
  ·cases hΦ _ (Rn_some hF)
   try simp [go_sem, g]
   refine pw_wk ?_
   try simp [go_sem, g]
  ·repeat rw [sq]
   rw [pw_block]
   obtain ⟨b25, hb26, hψ20⟩ := hF
   refine pL hb26 (fun s16 => [(0, .v (.sl false 6 (a0.map row_Entry_z))), (3, .v (.sl true 6 (s16.1.map row_Entry_o))), (4, .v (.int .i64 s16.2))]) (fun s16 _ _ ho18 hg19 hF => ?_)
   try simp [go_sem, g]
   try intros
   refine pw_wkK [0, 3, 4, 11] (by simp [go_sem, g]; rfl) ?_
   repeat rw [sq]
   refine pI hF (fun h21 hF => ?_) (fun h21 hF => ?_)
   ·try simp [go_sem, g]
    refine pw_wk ?_
    repeat rw [sq]
    rw [pw_block]
    obtain ⟨x22, g, hF⟩ := Rx g hF
    try simp [go_sem, g]
    refine pC hF [.sh] c_laws_toEntry (fun z23 hF => ?_)
    obtain ⟨x24, g, hF⟩ := Rx g hF
    try simp [go_sem, g]
    refine pw_wk ?_
    try simp [go_sem, g]
    exact pT (hg19 (s16.1.set s16.2.toNat z23, i64.wrap (s16.2 + 1))) (Rn_some hF)
   ·try simp [go_sem, g]
    cases ho18 _ (Rn_some hF)
    exact pT (hj4 s16.1) hψ20
noncomputable def F_laws_toBoard (a0 : Board) : Option (Board) :=
  (F_laws_toIntS a0.Keys).bind fun z1 =>
  (F_laws_toEntryS a0.Entries).bind fun z2 =>
  some (Board.mk z1 z2)
theorem c_laws_toBoard : ∀ {a0} {r}, F_laws_toBoard a0 = some r → PCalls Tryz.prog 7 [(.sh, .agg [.sl false 1 (a0.Keys.map row_i64), .sl false 6 (a0.Entries.map row_Entry_z)])] (Eo (.agg [.sl true 1 (r.Keys.map row_i64), .sl true 6 (r.Entries.map row_Entry_o)]) [.junk]) := by
  intro a0 r hr
  apply pF 13 [] [] [] [.cell 2 35] hr cl7 Tryz.func7
  intro Φ hΦ hF g
  unfold F_laws_toBoard at hF
  iterate 2 (try simp [go_sem, g]; refine pw_wk ?_)
  try simp [go_sem, g]
  refine pC hF [.sh] c_laws_toIntS (fun z1 hF => ?_)
  try simp [go_sem, g]
  refine pw_wk ?_
  try simp [go_sem, g]
  refine pC hF [.sh] c_laws_toEntryS (fun z2 hF => ?_)
  try simp [go_sem, g]
  refine pw_wkK [2, 3] (by simp [go_sem, g]; rfl) ?_
  cases hΦ _ (Rn_some hF)
  try simp [go_sem, g]
  refine pw_wk ?_
  try simp [go_sem, g]
noncomputable def F_spec_l1In (a0 : Int) (a1 : Int) (a2 : Int) : Option (Bool) :=
  ((if decide (a1 ≤ a0) = true then (
  some (decide (a0 ≤ a2))) else (
  some false) : Option (Bool)).bind fun x3 =>
  some x3)
theorem c_spec_l1In : ∀ {a0} {a1} {a2} {r}, F_spec_l1In a0 a1 a2 = some r → PCalls Tryz.prog 60 [(.sh, .int .i64 a0), (.sh, .int .i64 a1), (.sh, .int .i64 a2)] (Eo (.bool r) [.junk, .junk, .junk]) := by
  intro a0 a1 a2 r hr
  apply pF 15 [] [] [] [.tmp 6] hr cl60 Tryz.func60
  intro Φ hΦ hF g
  unfold F_spec_l1In at hF
  try simp [go_sem, g]
  refine pw_wk ?_
  repeat rw [sq]
  refine pJ hF (fun x3 => [(6, .v (.bool x3))]) (fun x3 hF => ?_) fun _ hj1 hF => ?_
  ·cases hΦ _ (Rn_some hF)
   try simp [go_sem, g]
  ·try simp [go_sem, g]
   refine pwg_F hF (fun h4 hF => ?_) fun h4 hF => ?_
   ·try simp [go_sem, g, h4]
    exact pT (hj1 (decide (a0 ≤ a2))) (Rn_some hF)
   ·try simp [go_sem, g, h4]
    exact pT (hj1 false) (Rn_some hF)
noncomputable def F_spec_nPower (a0 : Int) (a1 : Int) (a2 : Int) : Option (Int) :=
  gd (a2 ≠ 0) <|
  ((wloop (σ := Int × Int × Int) (fun s4 =>
  if decide (0 < s4.2.1) = true then (
  ((if ((s4.2.1.tmod 2) == 1) = true then (
  gd (a2 ≠ 0) <|
  some ((i64.wrap (s4.2.2 * s4.1)).tmod a2)) else (
  some s4.2.2) : Option (Int)).bind fun x12 =>
  gd (a2 ≠ 0) <|
  some (.go ((i64.wrap (s4.1 * s4.1)).tmod a2, i64.wrap (s4.2.1.tdiv 2), x12)))) else (
  some (.out s4.2.2))) (a0, a1, (1 : Int).tmod a2) : Option (Int)).bind fun x3 =>
  some x3)
theorem c_spec_nPower : ∀ {a0} {a1} {a2} {r}, F_spec_nPower a0 a1 a2 = some r → PCalls Tryz.prog 61 [(.sh, .int .i64 a0), (.sh, .int .i64 a1), (.sh, .int .i64 a2)] (Eo (.int .i64 r) [.junk, .junk, .junk]) := by
  intro a0 a1 a2 r hr
  apply pF 28 [] [] [] [.tmp 6] hr cl61 Tryz.func61
  intro Φ hΦ hF g
  unfold F_spec_nPower at hF
  obtain ⟨g, hF⟩ := Rz g hF
  iterate 2 (try simp [go_sem, g]; refine pw_wk ?_)
  repeat rw [sq]
  refine pJ hF (fun x3 => [(7, .v (.int .i64 x3))]) (fun x3 hF => ?_) fun _ hj1 hF => ?_
  ·cases hΦ _ (Rn_some hF)
   try simp [go_sem, g]
   refine pw_wk ?_
   try simp [go_sem, g]
  ·repeat rw [sq]
   rw [pw_block]
   obtain ⟨b14, hb15, hψ8⟩ := hF
   refine pL hb15 (fun s4 => [(0, .v (.int .i64 s4.1)), (1, .v (.int .i64 s4.2.1)), (2, .v (.int .i64 a2)), (7, .v (.int .i64 s4.2.2))]) (fun s4 _ _ ho6 hg7 hF => ?_)
   try simp [go_sem, g]
   refine pw_wk ?_
   repeat rw [sq]
   refine pI hF (fun h9 hF => ?_) (fun h9 hF => ?_)
   ·try simp [go_sem, g]
    refine pw_wk ?_
    repeat rw [sq]
    rw [pw_block]
    have g := Ld g 2
    try simp [go_sem, g]
    refine pw_wk ?_
    repeat rw [sq]
    refine pJ hF (fun x12 => [(0, .v (.int .i64 s4.1)), (1, .v (.int .i64 s4.2.1)), (2, .v (.int .i64 a2)), (7, .v (.int .i64 x12))]) (fun x12 hF => ?_) fun _ hj10 hF => ?_
    ·obtain ⟨g, hF⟩ := Rz g hF
     try simp [go_sem, g]
     refine pw_wkK [0, 1, 2, 7] (by simp [go_sem, g]; rfl) ?_
     try simp [go_sem, g]
     exact pT (hg7 ((i64.wrap (s4.1 * s4.1)).tmod a2, i64.wrap (s4.2.1.tdiv 2), x12)) (Rn_some hF)
    ·repeat rw [sq]
     refine pI hF (fun h13 hF => ?_) (fun h13 hF => ?_)
     ·obtain ⟨g, hF⟩ := Rz g hF
      try simp [go_sem, g]
      exact pT (hj10 ((i64.wrap (s4.2.2 * s4.1)).tmod a2)) (Rn_some hF)
     ·try simp [go_sem, g]
      exact pT (hj10 s4.2.2) (Rn_some hF)
   ·try simp [go_sem, g]
    cases ho6 _ (Rn_some hF)
    exact pT (hj1 s4.2.2) hψ8
noncomputable def F_spec_nPrime (a0 : Int) : Option (Bool) :=
  if decide (a0 < 2) = true then (
  some false) else (
  ((wloop (σ := Int) (fun s5 =>
  if decide ((i64.wrap (s5 * s5)) ≤ a0) = true then (
  gd (s5 ≠ 0) <|
  if ((a0.tmod s5) == 0) = true then (
  some (.out (.inr false))) else (
  some (.go (i64.wrap (s5 + 1))))) else (
  some (.out (.inl ())))) 2 : Option (Unit ⊕ Bool)).bind (Sum.elim (fun x4 =>
  some true) some)))
theorem c_spec_nPrime : ∀ {a0} {r}, F_spec_nPrime a0 = some r → PCalls Tryz.prog 62 [(.sh, .int .i64 a0)] (Eo (.bool r) [.junk]) := by
  intro a0 r hr
  apply pF 17 [] [] [] [.tmp 2] hr cl62 Tryz.func62
  intro Φ hΦ hF g
  unfold F_spec_nPrime at hF
  iterate 2 (try simp [go_sem, g]; refine pw_wk ?_)
  repeat rw [sq]
  refine pI hF (fun h1 hF => ?_) (fun h1 hF => ?_)
  ·cases hΦ _ (Rn_some hF)
   try simp [go_sem, g]
   refine pw_wk ?_
   try simp [go_sem, g]
  ·iterate 2 (try simp [go_sem, g]; refine pw_wk ?_)
   repeat rw [sq]
   refine pJs hF (fun x4 => []) (fun x4 hF => ?_) fun _ hj2 hr3 hF => ?_
   ·cases hΦ _ (Rn_some hF)
    try simp [go_sem, g]
    refine pw_wk ?_
    try simp [go_sem, g]
   ·repeat rw [sq]
    rw [pw_block]
    obtain ⟨b12, hb13, hψ9⟩ := hF
    refine pL hb13 (fun s5 => [(0, .v (.int .i64 a0)), (3, .v (.int .i64 s5))]) (fun s5 _ _ ho7 hg8 hF => ?_)
    try simp [go_sem, g]
    refine pw_wk ?_
    repeat rw [sq]
    refine pI hF (fun h10 hF => ?_) (fun h10 hF => ?_)
    ·try simp [go_sem, g]
     refine pw_wk ?_
     repeat rw [sq]
     rw [pw_block]
     obtain ⟨g, hF⟩ := Rz g hF
     try simp [go_sem, g]
     refine pw_wkK [0, 3, 16] (by simp [go_sem, g]; rfl) ?_
     repeat rw [sq]
     refine pI hF (fun h11 hF => ?_) (fun h11 hF => ?_)
     ·cases ho7 _ (Rn_some hF)
      cases hΦ _ (hr3 _ hψ9)
      try simp [go_sem, g]
      refine pw_wk ?_
      try simp [go_sem, g]
     ·try simp [go_sem, g]
      refine pw_wk ?_
      try simp [go_sem, g]
      exact pT (hg8 (i64.wrap (s5 + 1))) (Rn_some hF)
    ·try simp [go_sem, g]
     cases ho7 _ (Rn_some hF)
     exact pT (hj2 ()) hψ9
noncomputable def F_spec_l2Good (a0 : Group) : Option (Bool) :=
  (((F_spec_l1In a0.P 3 2000000000).bind fun z4 =>
  if z4 = true then (
  (F_spec_l1In a0.Q 2 (i64.wrap (a0.P - 1))).bind fun z6 =>
  if z6 = true then (
  gd (a0.Q ≠ 0) <|
  if (((i64.wrap (a0.P - 1)).tmod a0.Q) == 0) = true then (
  (F_spec_l1In a0.G 2 (i64.wrap (a0.P - 1))).bind fun z9 =>
  if z9 = true then (
  (F_spec_nPower a0.G a0.Q a0.P).bind fun z11 =>
  if (z11 == 1) = true then (
  (F_spec_nPrime a0.Q).bind fun z13 =>
  if z13 = true then (
  (F_spec_nPrime a0.P).bind fun z15 =>
  some z15) else (
  some false)) else (
  some false)) else (
  some false)) else (
  some false)) else (
  some false)) else (
  some false) : Option (Bool)).bind fun x3 =>
  some x3)
theorem c_spec_l2Good : ∀ {a0} {r}, F_spec_l2Good a0 = some r → PCalls Tryz.prog 39 [(.sh, .agg [.int .i64 a0.P, .int .i64 a0.Q, .int .i64 a0.G])] (Eo (.bool r) [.junk]) := by
  intro a0 r hr
  apply pF 51 [] [] [] [.tmp 2] hr cl39 Tryz.func39
  intro Φ hΦ hF g
  unfold F_spec_l2Good at hF
  try simp [go_sem, g]
  refine pw_wk ?_
  repeat rw [sq]
  refine pJ hF (fun x3 => [(2, .v (.bool x3))]) (fun x3 hF => ?_) fun _ hj1 hF => ?_
  ·cases hΦ _ (Rn_some hF)
   try simp [go_sem, g]
  ·try simp [go_sem, g]
   refine pC hF [.sh, .sh, .sh] c_spec_l1In (fun z4 hF => ?_)
   try simp [go_sem, g]
   refine pwg_F hF (fun h5 hF => ?_) fun h5 hF => ?_
   ·try simp [go_sem, g, h5]
    refine pC hF [.sh, .sh, .sh] c_spec_l1In (fun z6 hF => ?_)
    try simp [go_sem, g, h5]
    refine pwg_F hF (fun h7 hF => ?_) fun h7 hF => ?_
    ·obtain ⟨g, hF⟩ := Rz g hF
     try simp [go_sem, g, h7]
     refine pwg_F hF (fun h8 hF => ?_) fun h8 hF => ?_
     ·try simp [go_sem, g, h8]
      refine pC hF [.sh, .sh, .sh] c_spec_l1In (fun z9 hF => ?_)
      try simp [go_sem, g, h8]
      refine pwg_F hF (fun h10 hF => ?_) fun h10 hF => ?_
      ·try simp [go_sem, g, h10]
       refine pC hF [.sh, .sh, .sh] c_spec_nPower (fun z11 hF => ?_)
       try simp [go_sem, g, h10]
       refine pwg_F hF (fun h12 hF => ?_) fun h12 hF => ?_
       ·try simp [go_sem, g, h12]
        refine pC hF [.sh] c_spec_nPrime (fun z13 hF => ?_)
        try simp [go_sem, g, h12]
        refine pwg_F hF (fun h14 hF => ?_) fun h14 hF => ?_
        ·try simp [go_sem, g, h14]
         refine pC hF [.sh] c_spec_nPrime (fun z15 hF => ?_)
         try simp [go_sem, g, h14]
         exact pT (hj1 z15) (Rn_some hF)
        ·try simp [go_sem, g, h14]
         exact pT (hj1 false) (Rn_some hF)
       ·try simp [go_sem, g, h12]
        exact pT (hj1 false) (Rn_some hF)
      ·try simp [go_sem, g, h10]
       exact pT (hj1 false) (Rn_some hF)
     ·try simp [go_sem, g, h8]
      exact pT (hj1 false) (Rn_some hF)
    ·try simp [go_sem, g, h7]
     exact pT (hj1 false) (Rn_some hF)
   ·try simp [go_sem, g, h5]
    exact pT (hj1 false) (Rn_some hF)
noncomputable def F_spec_gIs (a0 : Group) (a1 : (List Int)) : Option (Bool) :=
  ((rloop (σ := Unit) (fun i5 s4 =>
  (ix a1 i5).bind fun x11 =>
  (((F_spec_l1In x11 1 (i64.wrap (a0.P - 1))).bind fun z15 =>
  if (!z15) = true then (
  some true) else (
  (F_spec_nPower x11 a0.Q a0.P).bind fun z17 =>
  some (z17 != 1)) : Option (Bool)).bind fun x14 =>
  if x14 = true then (
  some (.out (.inr false))) else (
  some (.go ())))) (fun s4 => .inl ()) (a1.length) 0 () : Option (Unit ⊕ Bool)).bind (Sum.elim (fun x3 =>
  some true) some))
theorem c_spec_gIs : ∀ {a0} {a1} {r}, F_spec_gIs a0 a1 = some r → PCalls Tryz.prog 45 [(.sh, .agg [.int .i64 a0.P, .int .i64 a0.Q, .int .i64 a0.G]), (.sh, .sl false 1 (a1.map row_i64))] (Eo (.bool r) [.junk, .junk]) := by
  intro a0 a1 r hr
  apply pF 29 [] [] [] [.tmp 4] hr cl45 Tryz.func45
  intro Φ hΦ hF g
  unfold F_spec_gIs at hF
  iterate 2 (try simp [go_sem, g]; try intros; refine pw_wk ?_)
  repeat rw [sq]
  refine pJs hF (fun x3 => []) (fun x3 hF => ?_) fun _ hj1 hr2 hF => ?_
  ·cases hΦ _ (Rn_some hF)
   try simp [go_sem, g]
   refine pw_wk ?_
   try simp [go_sem, g]
  ·repeat rw [sq]
   rw [pw_block]
   obtain ⟨b19, hb20, hψ8⟩ := hF
   refine pR hb20 (fun i5 s4 => [(2, .bl [.int .i64 a0.P, .int .i64 a0.Q, .int .i64 a0.G]), (7, .v (.sl false 1 (a1.map row_i64))), (8, .v (.int .i64 (a1.length : Int))), (9, .v (.int .i64 i5))]) (fun s4 _ hN21 => ?_) (fun i5 s4 _ _ hi9 hi10 ho6 hg7 hF => ?_)
   ·subst hN21
    try simp [go_sem]
    refine pw_wk ?_
    repeat rw [sq]
    refine pw_cond_f (by simp [go_sem]) ?_
    try simp [go_sem]
    exact pT (hj1 ()) hψ8 (by simp [go_sem])
   ·try simp [go_sem, g]
    refine pw_wk ?_
    repeat rw [sq]
    refine pw_cond_t (by simp [go_sem, g, hi9, hi10]) ?_
    try simp [go_sem, g]
    refine pw_wk ?_
    repeat rw [sq]
    rw [pw_block]
    obtain ⟨x11, g, hF⟩ := Rx g hF
    try simp [go_sem, g]
    refine pw_wk ?_
    repeat rw [sq]
    refine pJ hF (fun x14 => [(2, .bl [.int .i64 a0.P, .int .i64 a0.Q, .int .i64 a0.G]), (7, .v (.sl false 1 (a1.map row_i64))), (8, .v (.int .i64 (a1.length : Int))), (9, .v (.int .i64 i5)), (27, .v (.bool x14))]) (fun x14 hF => ?_) fun _ hj12 hF => ?_
    ·repeat rw [sq]
     refine pI hF (fun h18 hF => ?_) (fun h18 hF => ?_)
     ·try simp [go_sem, g]
      refine pw_wkK [4] (by simp [go_sem, g]; rfl) ?_
      cases ho6 _ (Rn_some hF)
      cases hΦ _ (hr2 _ hψ8)
      try simp [go_sem, g]
     ·try simp [go_sem, g]
      refine pw_wk ?_
      try simp [go_sem, g]
      exact pT (hg7 ()) (Rn_some hF) (by simp [go_sem, g, wr_i hi9 hi10 (by assumption)])
    ·try simp [go_sem, g]
     refine pC hF [.sh, .sh, .sh] c_spec_l1In (fun z15 hF => ?_)
     try simp [go_sem, g]
     refine pwg_F hF (fun h16 hF => ?_) fun h16 hF => ?_
     ·try simp [go_sem, g, h16]
      exact pT (hj12 true) (Rn_some hF)
     ·try simp [go_sem, g, h16]
      refine pC hF [.sh, .sh, .sh] c_spec_nPower (fun z17 hF => ?_)
      try simp [go_sem, g, h16]
      exact pT (hj12 (z17 != 1)) (Rn_some hF)
noncomputable def F_spec_l1All (a0 : (List Int)) (a1 : Int) (a2 : Int) : Option (Bool) :=
  ((rloop (σ := Unit) (fun i5 s4 =>
  (ix a0 i5).bind fun x11 =>
  (F_spec_l1In x11 a1 a2).bind fun z12 =>
  if (!z12) = true then (
  some (.out (.inr false))) else (
  some (.go ()))) (fun s4 => .inl ()) (a0.length) 0 () : Option (Unit ⊕ Bool)).bind (Sum.elim (fun x3 =>
  some true) some))
theorem c_spec_l1All : ∀ {a0} {a1} {a2} {r}, F_spec_l1All a0 a1 a2 = some r → PCalls Tryz.prog 92 [(.sh, .sl false 1 (a0.map row_i64)), (.sh, .int .i64 a1), (.sh, .int .i64 a2)] (Eo (.bool r) [.junk, .junk, .junk]) := by
  intro a0 a1 a2 r hr
  apply pF 21 [] [] [] [.tmp 6] hr cl92 Tryz.func92
  intro Φ hΦ hF g
  unfold F_spec_l1All at hF
  iterate 2 (try simp [go_sem, g]; try intros; refine pw_wk ?_)
  repeat rw [sq]
  refine pJs hF (fun x3 => []) (fun x3 hF => ?_) fun _ hj1 hr2 hF => ?_
  ·cases hΦ _ (Rn_some hF)
   try simp [go_sem, g]
   refine pw_wk ?_
   try simp [go_sem, g]
  ·repeat rw [sq]
   rw [pw_block]
   obtain ⟨b14, hb15, hψ8⟩ := hF
   refine pR hb15 (fun i5 s4 => [(1, .v (.int .i64 a1)), (2, .v (.int .i64 a2)), (9, .v (.sl false 1 (a0.map row_i64))), (10, .v (.int .i64 (a0.length : Int))), (11, .v (.int .i64 i5))]) (fun s4 _ hN16 => ?_) (fun i5 s4 _ _ hi9 hi10 ho6 hg7 hF => ?_)
   ·subst hN16
    try simp [go_sem]
    refine pw_wk ?_
    repeat rw [sq]
    refine pw_cond_f (by simp [go_sem]) ?_
    try simp [go_sem]
    exact pT (hj1 ()) hψ8 (by simp [go_sem])
   ·try simp [go_sem, g]
    refine pw_wk ?_
    repeat rw [sq]
    refine pw_cond_t (by simp [go_sem, g, hi9, hi10]) ?_
    try simp [go_sem, g]
    refine pw_wk ?_
    repeat rw [sq]
    rw [pw_block]
    obtain ⟨x11, g, hF⟩ := Rx g hF
    try simp [go_sem, g]
    refine pw_wk ?_
    try simp [go_sem, g]
    refine pC hF [.sh, .sh, .sh] c_spec_l1In (fun z12 hF => ?_)
    try simp [go_sem, g]
    refine pw_wkK [1, 2, 9, 10, 11, 19] (by simp [go_sem, g]; rfl) ?_
    repeat rw [sq]
    refine pI hF (fun h13 hF => ?_) (fun h13 hF => ?_)
    ·cases ho6 _ (Rn_some hF)
     cases hΦ _ (hr2 _ hψ8)
     try simp [go_sem, g]
     refine pw_wk ?_
     try simp [go_sem, g]
    ·try simp [go_sem, g]
     refine pw_wk ?_
     try simp [go_sem, g]
     exact pT (hg7 ()) (Rn_some hF) (by simp [go_sem, g, wr_i hi9 hi10 (by assumption)])
noncomputable def F_spec_oPlain (a0 : Entry) : Option (Bool) :=
  (((F_spec_l1In a0.Kind 1 9).bind fun z4 =>
  if z4 = true then (
  (F_spec_l1In a0.Author 0 39).bind fun z6 =>
  if z6 = true then (
  if decide ((a0.Data.length : Int) ≤ 380) = true then (
  (F_spec_l1All a0.Data 0 4611686018427387903).bind fun z9 =>
  some z9) else (
  some false)) else (
  some false)) else (
  some false) : Option (Bool)).bind fun x3 =>
  some x3)
theorem c_spec_oPlain : ∀ {a0} {r}, F_spec_oPlain a0 = some r → PCalls Tryz.prog 80 [(.sh, .agg [.int .i64 a0.Kind, .int .i64 a0.Author, .sl false 1 (a0.Data.map row_i64), .sl false 1 (a0.Sign.Commits.map row_i64), .sl false 1 (a0.Sign.Challenges.map row_i64), .sl false 1 (a0.Sign.Responses.map row_i64)])] (Eo (.bool r) [.junk]) := by
  intro a0 r hr
  apply pF 22 [] [] [] [.tmp 2] hr cl80 Tryz.func80
  intro Φ hΦ hF g
  unfold F_spec_oPlain at hF
  try simp [go_sem, g]
  refine pw_wk ?_
  repeat rw [sq]
  refine pJ hF (fun x3 => [(2, .v (.bool x3))]) (fun x3 hF => ?_) fun _ hj1 hF => ?_
  ·cases hΦ _ (Rn_some hF)
   try simp [go_sem, g]
  ·try simp [go_sem, g]
   refine pC hF [.sh, .sh, .sh] c_spec_l1In (fun z4 hF => ?_)
   try simp [go_sem, g]
   refine pwg_F hF (fun h5 hF => ?_) fun h5 hF => ?_
   ·try simp [go_sem, g, h5]
    refine pC hF [.sh, .sh, .sh] c_spec_l1In (fun z6 hF => ?_)
    try simp [go_sem, g, h5]
    refine pwg_F hF (fun h7 hF => ?_) fun h7 hF => ?_
    ·try simp [go_sem, g, h7]
     try intros
     refine pwg_F hF (fun h8 hF => ?_) fun h8 hF => ?_
     ·try simp [go_sem, g, h8]
      refine pC hF [.sh, .sh, .sh] c_spec_l1All (fun z9 hF => ?_)
      try simp [go_sem, g, h8]
      exact pT (hj1 z9) (Rn_some hF)
     ·try simp [go_sem, g, h8]
      exact pT (hj1 false) (Rn_some hF)
    ·try simp [go_sem, g, h7]
     exact pT (hj1 false) (Rn_some hF)
   ·try simp [go_sem, g, h5]
    exact pT (hj1 false) (Rn_some hF)
noncomputable def F_spec_l3With (a0 : ByteArray) (a1 : (List Int)) : Option ((List Int)) :=
  ((wloop (σ := (List Int) × Int) (fun s4 =>
  if decide (s4.2 < (a0.size : Int)) = true then (
  (ixs a0 s4.2).bind fun x10 =>
  gd ((s4.1.length + 1) * 8 ≤ 140737488355328 ∧ s4.1.length + 1 ≤ 4611686018427387904) <|
  some (.go (s4.1 ++ [i64.wrap x10], i64.wrap (s4.2 + 1)))) else (
  some (.out s4.1))) ([(a0.size : Int)], 0) : Option ((List Int))).bind fun x3 =>
  gd ((x3.length + a1.length) * 8 ≤ 140737488355328 ∧ x3.length + a1.length ≤ 4611686018427387904) <|
  some (x3 ++ a1))
theorem c_spec_l3With : ∀ {a0} {a1} {r}, F_spec_l3With a0 a1 = some r → PCalls Tryz.prog 123 [(.sh, .str a0), (.sh, .sl false 1 (a1.map row_i64))] (Eo (.sl true 1 (r.map row_i64)) [.junk, .junk]) := by
  intro a0 a1 r hr
  apply pF 26 [] [] [] [.tmp 4] hr cl123 Tryz.func123
  intro Φ hΦ hF g
  unfold F_spec_l3With at hF
  iterate 3 (try simp [go_sem, g]; refine pw_wk ?_)
  repeat rw [sq]
  refine pJ hF (fun x3 => [(1, .v (.sl false 1 (a1.map row_i64))), (5, .v (.sl true 1 (x3.map row_i64)))]) (fun x3 hF => ?_) fun _ hj1 hF => ?_
  ·obtain ⟨g, hF⟩ := Rg g hF
   try simp [go_sem, g]
   refine pw_wkK [4] (by simp [go_sem, g]; rfl) ?_
   cases hΦ _ (Rn_some hF)
   try simp [go_sem, g]
  ·repeat rw [sq]
   rw [pw_block]
   obtain ⟨b11, hb12, hψ8⟩ := hF
   refine pL hb12 (fun s4 => [(0, .v (.str a0)), (1, .v (.sl false 1 (a1.map row_i64))), (5, .v (.sl true 1 (s4.1.map row_i64))), (6, .v (.int .i64 s4.2))]) (fun s4 _ _ ho6 hg7 hF => ?_)
   try simp [go_sem, g]
   refine pw_wkK [0, 1, 5, 6, 13] (by simp [go_sem, g]; rfl) ?_
   repeat rw [sq]
   refine pI hF (fun h9 hF => ?_) (fun h9 hF => ?_)
   ·try simp [go_sem, g]
    refine pw_wk ?_
    repeat rw [sq]
    rw [pw_block]
    obtain ⟨x10, g, hF⟩ := Rxs g hF
    obtain ⟨g, hF⟩ := Rg g hF
    try simp [go_sem, g]
    refine pw_wk ?_
    try simp [go_sem, g]
    exact pT (hg7 (s4.1 ++ [i64.wrap x10], i64.wrap (s4.2 + 1))) (Rn_some hF)
   ·try simp [go_sem, g]
    cases ho6 _ (Rn_some hF)
    exact pT (hj1 s4.1) hψ8
noncomputable def F_spec_l3State_absorb__io0 (a0c0 : Int) (a0c1 : Int) (a1 : Int) : Option ((Int × Int)) :=
  (some [a1.tmod 2147483648, i64.wrap (a1.tdiv 2147483648)]).bind fun x1 =>
  wloop (σ := (Int × Int) × Int) (fun s10 =>
  if decide (s10.2 < (x1.length : Int)) = true then (
  (ix x1 s10.2).bind fun x16 =>
  some (.go (((i64.wrap ((i64.wrap ((i64.wrap (48271 * s10.1.1)) + x16)) + 1)).tmod 2147483647, (i64.wrap ((i64.wrap ((i64.wrap (69621 * s10.1.2)) + x16)) + 1)).tmod 2147483647), i64.wrap (s10.2 + 1)))) else (
  some (.out (s10.1.1, s10.1.2)))) ((a0c0, a0c1), 0)
theorem c_spec_l3State_absorb__io0 : ∀ {a0c0} {a0c1} {a1} {r}, F_spec_l3State_absorb__io0 a0c0 a0c1 a1 = some r → PCalls Tryz.prog 130 [(.io, .bx [.int .i64 a0c0, .int .i64 a0c1]), (.sh, .int .i64 a1)] (Eo (.junk) [.bx [.int .i64 r.1, .int .i64 r.2], .junk]) := by
  intro a0c0 a0c1 a1 r hr
  apply pF 41 [0] [] [] [] hr cl130 Tryz.func130
  intro Φ hΦ hF g
  unfold F_spec_l3State_absorb__io0 at hF
  have g := Ld g 2147483648
  obtain ⟨x1, e2, hF⟩ := Rn_bind hF
  have g := And.intro g (show [[.int .i64 (a1.tmod 2147483648)], [.int .i64 (i64.wrap (a1.tdiv 2147483648))]] = x1.map row_i64 by injection e2 with e2; rw [← e2]; simp [go_sem])
  try simp [go_sem, g]
  try intros
  refine pw_wk ?_
  repeat rw [sq]
  rw [pw_block]
  obtain ⟨b17, hb18, hψ14⟩ := hF
  refine pL hb18 (fun s10 => [(0, .v (.bx [.int .i64 s10.1.1, .int .i64 s10.1.2])), (10, .v (.sl true 1 (x1.map row_i64))), (11, .v (.int .i64 (x1.length : Int))), (12, .v (.int .i64 s10.2))]) (fun s10 _ _ ho12 hg13 hF => ?_)
  try simp [go_sem, g]
  refine pw_wk ?_
  repeat rw [sq]
  refine pI hF (fun h15 hF => ?_) (fun h15 hF => ?_)
  ·try simp [go_sem, g]
   refine pw_wk ?_
   repeat rw [sq]
   rw [pw_block]
   obtain ⟨x16, g, hF⟩ := Rx g hF
   try simp [go_sem, g]
   refine pw_wkK [0, 5, 10, 11, 12] (by simp [go_sem, g]; rfl) ?_
   have g := Ld g 2147483647
   try simp [go_sem, g]
   refine pw_wkK [0, 5, 10, 11, 12] (by simp [go_sem, g]; rfl) ?_
   try simp [go_sem, g]
   refine pw_wkK [0, 10, 11, 12] (by simp [go_sem, g]; rfl) ?_
   try simp [go_sem, g]
   exact pT (hg13 (((i64.wrap ((i64.wrap ((i64.wrap (48271 * s10.1.1)) + x16)) + 1)).tmod 2147483647, (i64.wrap ((i64.wrap ((i64.wrap (69621 * s10.1.2)) + x16)) + 1)).tmod 2147483647), i64.wrap (s10.2 + 1))) (Rn_some hF)
  ·cases ho12 _ (Rn_some hF)
   cases hΦ _ hψ14
   try simp [go_sem, g]
def D122_8 : List DE := [d0 0 [3], d0 1 [22], d0 2 [23], d0 3 [24], d0 4 [25], d0 5 [3], d0 6 [27], d0 7 [28], d0 8 [29], d0 9 [26, 30], d0 10 [31]]
noncomputable def F_spec_hInts (a0 : (List Int)) : Option (Int) :=
  (F_spec_l3State_absorb__io0 1 2 (a0.length : Int)).bind fun z1 =>
  ((rloop (σ := (Int × Int)) (fun i15 s14 =>
  (ix a0 i15).bind fun x21 =>
  (F_spec_l3State_absorb__io0 s14.1 s14.2 x21).bind fun z22 =>
  some (.go (z22.1, z22.2))) (fun s14 => (s14.1, s14.2)) (a0.length) 0 (z1.1, z1.2) : Option ((Int × Int))).bind fun x4 =>
  some (i64.wrap ((i64.wrap (x4.1 * 2147483648)) + x4.2)))
theorem c_spec_hInts : ∀ {a0} {r}, F_spec_hInts a0 = some r → PCalls Tryz.prog 122 [(.sh, .sl false 1 (a0.map row_i64))] (Eo (.int .i64 r) [.junk]) := by
  intro a0 r hr
  apply pF 32 [] [] [7] [.tmp 2] hr cl122 Tryz.func122
  intro Φ hΦ hF g
  unfold F_spec_hInts at hF
  iterate 2 (try simp [go_sem, g]; try intros; refine pw_wk ?_)
  try simp [go_sem, g]
  try intros
  refine pC hF [.io, .sh] c_spec_l3State_absorb__io0 (fun z1 hF => ?_)
  try simp [go_sem, g]
  try intros
  refine pw_wk ?_
  try simp [go_sem, g]
  try intros
  refine pw_wkK [3, 12, 13, 14] (by simp [go_sem, g]; rfl) ?_
  repeat rw [sq]
  refine pJ hF (fun x4 => [(3, .v (.bx [.int .i64 x4.1, .int .i64 x4.2]))]) (fun x4 hF => ?_) fun _ hj2 hF => ?_
  ·repeat rw [sq]
   refine pw_draw D122_8 follows (by kernel_rfl) rfl ?_
   try simp only [go_sem, D122_8]
   try simp [go_sem, g]
   refine pw_wkK [2] (by simp [go_sem, g]; rfl) ?_
   cases hΦ _ (Rn_some hF)
   try simp [go_sem, g]
  ·repeat rw [sq]
   rw [pw_block]
   obtain ⟨b23, hb24, hψ18⟩ := hF
   refine pR hb24 (fun i15 s14 => [(3, .v (.bx [.int .i64 s14.1, .int .i64 s14.2])), (12, .v (.sl false 1 (a0.map row_i64))), (13, .v (.int .i64 (a0.length : Int))), (14, .v (.int .i64 i15))]) (fun s14 _ hN25 => ?_) (fun i15 s14 _ _ hi19 hi20 ho16 hg17 hF => ?_)
   ·subst hN25
    try simp [go_sem]
    refine pw_wk ?_
    repeat rw [sq]
    refine pw_cond_f (by simp [go_sem]) ?_
    try simp [go_sem]
    exact pT (hj2 (s14.1, s14.2)) hψ18 (by simp [go_sem])
   ·try simp [go_sem, g]
    refine pw_wk ?_
    repeat rw [sq]
    refine pw_cond_t (by simp [go_sem, g, hi19, hi20]) ?_
    try simp [go_sem, g]
    refine pw_wk ?_
    repeat rw [sq]
    rw [pw_block]
    obtain ⟨x21, g, hF⟩ := Rx g hF
    try simp [go_sem, g]
    refine pw_wk ?_
    try simp [go_sem, g]
    refine pC hF [.io, .sh] c_spec_l3State_absorb__io0 (fun z22 hF => ?_)
    try simp [go_sem, g]
    refine pw_wk ?_
    try simp [go_sem, g]
    exact pT (hg17 (z22.1, z22.2)) (Rn_some hF) (by simp [go_sem, g, wr_i hi19 hi20 (by assumption)])
noncomputable def F_spec_hLabelled (a0 : ByteArray) (a1 : (List Int)) : Option (Int) :=
  (F_spec_l3With a0 a1).bind fun z1 =>
  (F_spec_hInts z1).bind fun z2 =>
  some z2
theorem c_spec_hLabelled : ∀ {a0} {a1} {r}, F_spec_hLabelled a0 a1 = some r → PCalls Tryz.prog 111 [(.sh, .str a0), (.sh, .sl false 1 (a1.map row_i64))] (Eo (.int .i64 r) [.junk, .junk]) := by
  intro a0 a1 r hr
  apply pF 9 [] [] [] [.tmp 4] hr cl111 Tryz.func111
  intro Φ hΦ hF g
  unfold F_spec_hLabelled at hF
  try simp [go_sem, g]
  refine pw_wk ?_
  try simp [go_sem, g]
  refine pC hF [.sh, .sh] c_spec_l3With (fun z1 hF => ?_)
  try simp [go_sem, g]
  refine pC hF [.sh] c_spec_hInts (fun z2 hF => ?_)
  cases hΦ _ (Rn_some hF)
  try simp [go_sem, g]
  refine pw_wk ?_
  try simp [go_sem, g]
noncomputable def F_spec_oDigest (a0 : Entry) (a1 : Int) : Option (Int) :=
  gd (([a0.Kind, a0.Author, a1].length + a0.Data.length) * 8 ≤ 140737488355328 ∧ [a0.Kind, a0.Author, a1].length + a0.Data.length ≤ 4611686018427387904) <|
  (F_spec_hLabelled (⟨#[101, 110, 116, 114, 121]⟩ : ByteArray) ([a0.Kind, a0.Author, a1] ++ a0.Data)).bind fun z1 =>
  some z1
theorem c_spec_oDigest : ∀ {a0} {a1} {r}, F_spec_oDigest a0 a1 = some r → PCalls Tryz.prog 95 [(.sh, .agg [.int .i64 a0.Kind, .int .i64 a0.Author, .sl false 1 (a0.Data.map row_i64), .sl false 1 (a0.Sign.Commits.map row_i64), .sl false 1 (a0.Sign.Challenges.map row_i64), .sl false 1 (a0.Sign.Responses.map row_i64)]), (.sh, .int .i64 a1)] (Eo (.int .i64 r) [.junk, .junk]) := by
  intro a0 a1 r hr
  apply pF 15 [] [] [] [.tmp 4] hr cl95 Tryz.func95
  intro Φ hΦ hF g
  unfold F_spec_oDigest at hF
  obtain ⟨g, hF⟩ := Rg g hF
  try simp [go_sem, g]
  refine pw_wk ?_
  try simp [go_sem, g]
  refine pC hF [.sh, .sh] c_spec_hLabelled (fun z1 hF => ?_)
  try simp [go_sem, g]
  refine pw_wkK [4] (by simp [go_sem, g]; rfl) ?_
  cases hΦ _ (Rn_some hF)
  try simp [go_sem, g]
noncomputable def F_spec_l3Digest (a0 : Int) : Option (Bool) :=
  (F_spec_l1In a0 0 4611686018427387903).bind fun z1 =>
  some z1
theorem c_spec_l3Digest : ∀ {a0} {r}, F_spec_l3Digest a0 = some r → PCalls Tryz.prog 66 [(.sh, .int .i64 a0)] (Eo (.bool r) [.junk]) := by
  intro a0 r hr
  apply pF 5 [] [] [] [.tmp 2] hr cl66 Tryz.func66
  intro Φ hΦ hF g
  unfold F_spec_l3Digest at hF
  try simp [go_sem, g]
  refine pw_wk ?_
  try simp [go_sem, g]
  refine pC hF [.sh, .sh, .sh] c_spec_l1In (fun z1 hF => ?_)
  cases hΦ _ (Rn_some hF)
  try simp [go_sem, g]
  refine pw_wk ?_
  try simp [go_sem, g]
noncomputable def F_spec_DigestText (a0 : Int) : Option (ByteArray × Bool) :=
  (F_spec_l3Digest a0).bind fun z1 =>
  if (!z1) = true then (
  some ((⟨#[]⟩ : ByteArray), false)) else (
  gd (0 ≤ 16 ∧ 16 ≤ 16 ∧ 1 * 16 ≤ 140737488355328 ∧ 16 ≤ 4611686018427387904) <|
  (some (List.replicate 16 0)).bind fun x3 =>
  ((wloop (σ := Int × (List Int) × Int) (fun s17 =>
  if decide (0 ≤ s17.2.2) = true then (
  (ixs (⟨#[48, 49, 50, 51, 52, 53, 54, 55, 56, 57, 97, 98, 99, 100, 101, 102]⟩ : ByteArray) (s17.1.tmod 16)).bind fun x23 =>
  (ix s17.2.1 s17.2.2).bind fun x24 =>
  some (.go (i64.wrap (s17.1.tdiv 16), s17.2.1.set s17.2.2.toNat x23, i64.wrap (s17.2.2 - 1)))) else (
  some (.out s17.2.1))) (a0, x3, 15) : Option ((List Int))).bind fun x8 =>
  some ((bytesOf x8), true)))
theorem c_spec_DigestText : ∀ {a0} {r}, F_spec_DigestText a0 = some r → PCalls Tryz.prog 110 [(.sh, .int .i64 a0)] (Eo (.tup [.str r.1, .bool r.2]) [.junk]) := by
  intro a0 r hr
  apply pF 24 [] [] [1000000] [.tmp 2, .tmp 3] hr cl110 Tryz.func110
  intro Φ hΦ hF g
  unfold F_spec_DigestText at hF
  try simp [go_sem, g]
  refine pw_wk ?_
  try simp [go_sem, g]
  refine pC hF [.sh] c_spec_l3Digest (fun z1 hF => ?_)
  try simp [go_sem, g]
  refine pw_wk ?_
  repeat rw [sq]
  refine pI hF (fun h2 hF => ?_) (fun h2 hF => ?_)
  ·cases hΦ _ (Rn_some hF)
   try simp [go_sem, g]
   refine pw_wk ?_
   try simp [go_sem, g]
  ·obtain ⟨g, hF⟩ := Rg g hF
   obtain ⟨x3, e4, hF⟩ := Rn_bind hF
   have g5 : List.replicate 16 ([.int .u8 0] : List PV) = x3.map row_u8 := by injection e4 with e4; rw [← e4]; simp [go_sem]
   have g5b := g5
   try simp at g5b
   iterate 3 (try simp [go_sem, g, g5, g5b]; refine pw_wk ?_)
   repeat rw [sq]
   refine pJ hF (fun x8 => [(4, .v (.sl true 1 (x8.map row_u8)))]) (fun x8 hF => ?_) fun _ hj6 hF => ?_
   ·try simp [go_sem, g]
    refine pw_wkK [2, 3] (by simp [go_sem, g]; rfl) ?_
    cases hΦ _ (Rn_some hF)
    try simp [go_sem, g]
   ·repeat rw [sq]
    rw [pw_block]
    obtain ⟨b25, hb26, hψ21⟩ := hF
    refine pL hb26 (fun s17 => [(0, .v (.int .i64 s17.1)), (4, .v (.sl true 1 (s17.2.1.map row_u8))), (5, .v (.int .i64 s17.2.2))]) (fun s17 _ _ ho19 hg20 hF => ?_)
    try simp [go_sem, g]
    refine pw_wkK [0, 4, 5, 11] (by simp [go_sem, g]; rfl) ?_
    repeat rw [sq]
    refine pI hF (fun h22 hF => ?_) (fun h22 hF => ?_)
    ·try simp [go_sem, g]
     refine pw_wk ?_
     repeat rw [sq]
     rw [pw_block]
     have g := Ld g 16
     obtain ⟨x23, g, hF⟩ := Rxs g hF
     obtain ⟨x24, g, hF⟩ := Rx g hF
     try simp [go_sem, g]
     refine pw_wk ?_
     try simp [go_sem, g]
     refine pw_wkK [0, 4, 5] (by simp [go_sem, g]; rfl) ?_
     try simp [go_sem, g]
     exact pT (hg20 (i64.wrap (s17.1.tdiv 16), s17.2.1.set s17.2.2.toNat x23, i64.wrap (s17.2.2 - 1))) (Rn_some hF)
    ·try simp [go_sem, g]
     cases ho19 _ (Rn_some hF)
     exact pT (hj6 s17.2.1) hψ21
noncomputable def F_spec_oText (a0 : Int) : Option (ByteArray) :=
  (F_spec_DigestText a0).bind fun z1 =>
  some z1.1
theorem c_spec_oText : ∀ {a0} {r}, F_spec_oText a0 = some r → PCalls Tryz.prog 94 [(.sh, .int .i64 a0)] (Eo (.str r) [.junk]) := by
  intro a0 r hr
  apply pF 11 [] [] [] [.tmp 2] hr cl94 Tryz.func94
  intro Φ hΦ hF g
  unfold F_spec_oText at hF
  try simp [go_sem, g]
  refine pw_wk ?_
  try simp [go_sem, g]
  refine pC hF [.sh] c_spec_DigestText (fun z1 hF => ?_)
  try simp [go_sem, g]
  refine pw_wk ?_
  try simp [go_sem, g]
  refine pw_wkK [2] (by simp [go_sem, g]; rfl) ?_
  cases hΦ _ (Rn_some hF)
  try simp [go_sem, g]
noncomputable def F_spec_oLabel (a0 : Entry) (a1 : Int) : Option (ByteArray) :=
  (F_spec_oDigest a0 a1).bind fun z1 =>
  (F_spec_oText z1).bind fun z2 =>
  gd ((⟨#[101, 110, 116, 114, 121, 32]⟩ : ByteArray).size + z2.size ≤ 9223372036854775807) <|
  some ((⟨#[101, 110, 116, 114, 121, 32]⟩ : ByteArray) ++ z2)
theorem c_spec_oLabel : ∀ {a0} {a1} {r}, F_spec_oLabel a0 a1 = some r → PCalls Tryz.prog 82 [(.sh, .agg [.int .i64 a0.Kind, .int .i64 a0.Author, .sl false 1 (a0.Data.map row_i64), .sl false 1 (a0.Sign.Commits.map row_i64), .sl false 1 (a0.Sign.Challenges.map row_i64), .sl false 1 (a0.Sign.Responses.map row_i64)]), (.sh, .int .i64 a1)] (Eo (.str r) [.junk, .junk]) := by
  intro a0 a1 r hr
  apply pF 10 [] [] [] [.tmp 4] hr cl82 Tryz.func82
  intro Φ hΦ hF g
  unfold F_spec_oLabel at hF
  try simp [go_sem, g]
  refine pw_wk ?_
  try simp [go_sem, g]
  refine pC hF [.sh, .sh] c_spec_oDigest (fun z1 hF => ?_)
  try simp [go_sem, g]
  refine pC hF [.sh] c_spec_oText (fun z2 hF => ?_)
  obtain ⟨g, hF⟩ := Rsa g hF
  cases hΦ _ (Rn_some hF)
  try simp [go_sem, g]
  refine pw_wk ?_
  try simp [go_sem, g]
noncomputable def F_spec_gExps (a0 : Group) (a1 : (List Int)) : Option (Bool) :=
  (F_spec_l1All a1 0 (i64.wrap (a0.Q - 1))).bind fun z1 =>
  some z1
theorem c_spec_gExps : ∀ {a0} {a1} {r}, F_spec_gExps a0 a1 = some r → PCalls Tryz.prog 105 [(.sh, .agg [.int .i64 a0.P, .int .i64 a0.Q, .int .i64 a0.G]), (.sh, .sl false 1 (a1.map row_i64))] (Eo (.bool r) [.junk, .junk]) := by
  intro a0 a1 r hr
  apply pF 10 [] [] [] [.tmp 4] hr cl105 Tryz.func105
  intro Φ hΦ hF g
  unfold F_spec_gExps at hF
  try simp [go_sem, g]
  refine pw_wk ?_
  try simp [go_sem, g]
  refine pC hF [.sh, .sh, .sh] c_spec_l1All (fun z1 hF => ?_)
  cases hΦ _ (Rn_some hF)
  try simp [go_sem, g]
  refine pw_wk ?_
  try simp [go_sem, g]
noncomputable def F_spec_sStatement (a0 : (List (List Int))) (a1 : (List Int)) (a2 : (List Int)) : Option ((List Int)) :=
  ((rloop (σ := (List Int)) (fun i5 s4 =>
  (ix a0 i5).bind fun x11 =>
  gd ((s4.length + x11.length) * 8 ≤ 140737488355328 ∧ s4.length + x11.length ≤ 4611686018427387904) <|
  some (.go (s4 ++ x11))) (fun s4 => s4) (a0.length) 0 [] : Option ((List Int))).bind fun x3 =>
  gd ((x3.length + a1.length) * 8 ≤ 140737488355328 ∧ x3.length + a1.length ≤ 4611686018427387904) <|
  gd (((x3 ++ a1).length + a2.length) * 8 ≤ 140737488355328 ∧ (x3 ++ a1).length + a2.length ≤ 4611686018427387904) <|
  some (x3 ++ a1 ++ a2))
theorem c_spec_sStatement : ∀ {a0} {a1} {a2} {r}, F_spec_sStatement a0 a1 a2 = some r → PCalls Tryz.prog 107 [(.sh, .sl false 1 (a0.map row_zi64)), (.sh, .sl false 1 (a1.map row_i64)), (.sh, .sl false 1 (a2.map row_i64))] (Eo (.sl true 1 (r.map row_i64)) [.junk, .junk, .junk]) := by
  intro a0 a1 a2 r hr
  apply pF 25 [] [] [] [.tmp 6] hr cl107 Tryz.func107
  intro Φ hΦ hF g
  unfold F_spec_sStatement at hF
  iterate 3 (try simp [go_sem, g]; try intros; refine pw_wk ?_)
  repeat rw [sq]
  refine pJ hF (fun x3 => [(1, .v (.sl false 1 (a1.map row_i64))), (2, .v (.sl false 1 (a2.map row_i64))), (7, .v (.sl true 1 (x3.map row_i64)))]) (fun x3 hF => ?_) fun _ hj1 hF => ?_
  ·obtain ⟨g, hF⟩ := Rg g hF
   obtain ⟨g, hF⟩ := Rg g hF
   try simp [go_sem, g]
   refine pw_wkK [6] (by simp [go_sem, g]; rfl) ?_
   cases hΦ _ (Rn_some hF)
   try simp [go_sem, g]
  ·repeat rw [sq]
   rw [pw_block]
   obtain ⟨b12, hb13, hψ8⟩ := hF
   refine pR hb13 (fun i5 s4 => [(1, .v (.sl false 1 (a1.map row_i64))), (2, .v (.sl false 1 (a2.map row_i64))), (7, .v (.sl true 1 (s4.map row_i64))), (10, .v (.sl false 1 (a0.map row_zi64))), (11, .v (.int .i64 (a0.length : Int))), (12, .v (.int .i64 i5))]) (fun s4 _ hN14 => ?_) (fun i5 s4 _ _ hi9 hi10 ho6 hg7 hF => ?_)
   ·subst hN14
    try simp [go_sem]
    refine pw_wk ?_
    repeat rw [sq]
    refine pw_cond_f (by simp [go_sem]) ?_
    try simp [go_sem]
    exact pT (hj1 s4) hψ8 (by simp [go_sem])
   ·try simp [go_sem, g]
    refine pw_wk ?_
    repeat rw [sq]
    refine pw_cond_t (by simp [go_sem, g, hi9, hi10]) ?_
    try simp [go_sem, g]
    refine pw_wk ?_
    repeat rw [sq]
    rw [pw_block]
    obtain ⟨x11, g, hF⟩ := Rx g hF
    obtain ⟨g, hF⟩ := Rg g hF
    try simp [go_sem, g]
    refine pw_wk ?_
    try simp [go_sem, g]
    refine pw_wkK [1, 2, 7, 10, 11, 12] (by simp [go_sem, g]; rfl) ?_
    try simp [go_sem, g]
    exact pT (hg7 (s4 ++ x11)) (Rn_some hF) (by simp [go_sem, g, wr_i hi9 hi10 (by assumption)])
def D106_1 : List DE := [d0 0 [1], d1 1 [3] 3, d2 2 [8] 3 8, d1 3 [3] 3, d2 4 [10] 3 10, d1 5 [3] 3, d2 6 [12] 3 12, d0 7 [9, 11, 13], d0 8 [2], d1 11 [3] 3, d2 12 [18] 3 18, ⟨9, [14, 15], [], none, true, false, false⟩, d3 10 [7, 16], d0 13 [17, 19], d0 14 [20]]
noncomputable def F_spec_hChallenge (a0 : Group) (a1 : ByteArray) (a2 : (List Int)) : Option (Int) :=
  gd (([a0.P, a0.Q, a0.G].length + a2.length) * 8 ≤ 140737488355328 ∧ [a0.P, a0.Q, a0.G].length + a2.length ≤ 4611686018427387904) <|
  (F_spec_hLabelled a1 ([a0.P, a0.Q, a0.G] ++ a2)).bind fun z1 =>
  gd (a0.Q ≠ 0) <|
  some (z1.tmod a0.Q)
theorem c_spec_hChallenge : ∀ {a0} {a1} {a2} {r}, F_spec_hChallenge a0 a1 a2 = some r → PCalls Tryz.prog 106 [(.sh, .agg [.int .i64 a0.P, .int .i64 a0.Q, .int .i64 a0.G]), (.sh, .str a1), (.sh, .sl false 1 (a2.map row_i64))] (Eo (.int .i64 r) [.junk, .junk, .junk]) := by
  intro a0 a1 a2 r hr
  apply pF 21 [] [] [] [.tmp 6] hr cl106 Tryz.func106
  intro Φ hΦ hF g
  unfold F_spec_hChallenge at hF
  try simp [go_sem, g]
  refine pw_wk ?_
  repeat rw [sq]
  refine pw_draw D106_1 follows (by kernel_rfl) rfl ?_
  try simp only [go_sem, D106_1]
  obtain ⟨g, hF⟩ := Rg g hF
  try simp [go_sem, g]
  refine pC hF [.sh, .sh] c_spec_hLabelled (fun z1 hF => ?_)
  obtain ⟨g, hF⟩ := Rz g hF
  try simp [go_sem, g]
  refine pw_wkK [6] (by simp [go_sem, g]; rfl) ?_
  cases hΦ _ (Rn_some hF)
  try simp [go_sem, g]
noncomputable def F_spec_nMod (a0 : Int) (a1 : Int) : Option (Int) :=
  gd (a1 ≠ 0) <|
  gd (a1 ≠ 0) <|
  some ((i64.wrap ((a0.tmod a1) + a1)).tmod a1)
theorem c_spec_nMod : ∀ {a0} {a1} {r}, F_spec_nMod a0 a1 = some r → PCalls Tryz.prog 121 [(.sh, .int .i64 a0), (.sh, .int .i64 a1)] (Eo (.int .i64 r) [.junk, .junk]) := by
  intro a0 a1 r hr
  apply pF 12 [] [] [] [.tmp 4] hr cl121 Tryz.func121
  intro Φ hΦ hF g
  unfold F_spec_nMod at hF
  obtain ⟨g, hF⟩ := Rz g hF
  obtain ⟨g, hF⟩ := Rz g hF
  cases hΦ _ (Rn_some hF)
  iterate 2 (try simp [go_sem, g]; refine pw_wk ?_)
  try simp [go_sem, g]
def D109_1 : List DE := [d0 0 [1], d0 1 [2], d1 2 [3] 3, d2 3 [9] 3 9, d1 5 [3] 3, d2 6 [12] 3 12, d3 4 [8, 10], d3 7 [7, 11, 13], d0 8 [14]]
noncomputable def F_spec_gExp (a0 : Group) (a1 : Int) (a2 : Int) : Option (Int) :=
  (F_spec_nMod a2 a0.Q).bind fun z1 =>
  (F_spec_nPower a1 z1 a0.P).bind fun z2 =>
  some z2
theorem c_spec_gExp : ∀ {a0} {a1} {a2} {r}, F_spec_gExp a0 a1 a2 = some r → PCalls Tryz.prog 109 [(.sh, .agg [.int .i64 a0.P, .int .i64 a0.Q, .int .i64 a0.G]), (.sh, .int .i64 a1), (.sh, .int .i64 a2)] (Eo (.int .i64 r) [.junk, .junk, .junk]) := by
  intro a0 a1 a2 r hr
  apply pF 15 [] [] [] [.tmp 6] hr cl109 Tryz.func109
  intro Φ hΦ hF g
  unfold F_spec_gExp at hF
  try simp [go_sem, g]
  refine pw_wk ?_
  repeat rw [sq]
  refine pw_draw D109_1 follows (by kernel_rfl) rfl ?_
  try simp only [go_sem, D109_1]
  try simp [go_sem, g]
  refine pC hF [.sh, .sh] c_spec_nMod (fun z1 hF => ?_)
  try simp [go_sem, g]
  refine pC hF [.sh, .sh, .sh] c_spec_nPower (fun z2 hF => ?_)
  try simp [go_sem, g]
  refine pw_wkK [6] (by simp [go_sem, g]; rfl) ?_
  cases hΦ _ (Rn_some hF)
  try simp [go_sem, g]
def D108_5 : List DE := [d0 0 [7], d2 1 [3] 3 3, d0 2 [9], d0 3 [2], d0 4 [8], d0 5 [20, 21], d0 6 [22], d1 9 [3] 3, d2 10 [26] 3 26, d3 7 [18, 19, 23], d0 8 [17, 24], d0 11 [25, 27], d0 12 [28]]
noncomputable def F_spec_gProd (a0 : Group) (a1 : (List Int)) (a2 : (List Int)) : Option (Int) :=
  ((rloop (σ := Int) (fun i5 s4 =>
  (ix a1 i5).bind fun x11 =>
  (ix a2 i5).bind fun x12 =>
  (F_spec_gExp a0 x11 x12).bind fun z13 =>
  gd (a0.P ≠ 0) <|
  some (.go ((i64.wrap (s4 * z13)).tmod a0.P))) (fun s4 => s4) (a1.length) 0 1 : Option (Int)).bind fun x3 =>
  some x3)
theorem c_spec_gProd : ∀ {a0} {a1} {a2} {r}, F_spec_gProd a0 a1 a2 = some r → PCalls Tryz.prog 108 [(.sh, .agg [.int .i64 a0.P, .int .i64 a0.Q, .int .i64 a0.G]), (.sh, .sl false 1 (a1.map row_i64)), (.sh, .sl false 1 (a2.map row_i64))] (Eo (.int .i64 r) [.junk, .junk, .junk]) := by
  intro a0 a1 a2 r hr
  apply pF 31 [] [] [] [.tmp 6] hr cl108 Tryz.func108
  intro Φ hΦ hF g
  unfold F_spec_gProd at hF
  iterate 3 (try simp [go_sem, g]; try intros; refine pw_wk ?_)
  repeat rw [sq]
  refine pJ hF (fun x3 => [(7, .v (.int .i64 x3))]) (fun x3 hF => ?_) fun _ hj1 hF => ?_
  ·cases hΦ _ (Rn_some hF)
   try simp [go_sem, g]
   refine pw_wk ?_
   try simp [go_sem, g]
  ·repeat rw [sq]
   rw [pw_block]
   obtain ⟨b14, hb15, hψ8⟩ := hF
   refine pR hb15 (fun i5 s4 => [(2, .v (.sl false 1 (a2.map row_i64))), (3, .bl [.int .i64 a0.P, .int .i64 a0.Q, .int .i64 a0.G]), (7, .v (.int .i64 s4)), (10, .v (.sl false 1 (a1.map row_i64))), (11, .v (.int .i64 (a1.length : Int))), (12, .v (.int .i64 i5))]) (fun s4 _ hN16 => ?_) (fun i5 s4 _ _ hi9 hi10 ho6 hg7 hF => ?_)
   ·subst hN16
    try simp [go_sem]
    refine pw_wk ?_
    repeat rw [sq]
    refine pw_cond_f (by simp [go_sem]) ?_
    try simp [go_sem]
    exact pT (hj1 s4) hψ8 (by simp [go_sem])
   ·try simp [go_sem, g]
    refine pw_wk ?_
    repeat rw [sq]
    refine pw_cond_t (by simp [go_sem, g, hi9, hi10]) ?_
    try simp [go_sem, g]
    refine pw_wk ?_
    repeat rw [sq]
    rw [pw_block]
    obtain ⟨x11, g, hF⟩ := Rx g hF
    try simp [go_sem, g]
    refine pw_wkK [2, 3, 7, 8, 9, 10, 11, 12] (by simp [go_sem, g]; rfl) ?_
    repeat rw [sq]
    refine pw_draw D108_5 follows (by kernel_rfl) rfl ?_
    try simp only [go_sem, D108_5]
    obtain ⟨x12, g, hF⟩ := Rx g hF
    try simp [go_sem, g]
    refine pC hF [.sh, .sh, .sh] c_spec_gExp (fun z13 hF => ?_)
    obtain ⟨g, hF⟩ := Rz g hF
    try simp [go_sem, g]
    refine pw_wkK [2, 3, 7, 10, 11, 12] (by simp [go_sem, g]; rfl) ?_
    try simp [go_sem, g]
    exact pT (hg7 ((i64.wrap (s4 * z13)).tmod a0.P)) (Rn_some hF) (by simp [go_sem, g, wr_i hi9 hi10 (by assumption)])
noncomputable def F_spec_gMul (a0 : Group) (a1 : (List Int)) : Option (Int) :=
  ((rloop (σ := Int) (fun i5 s4 =>
  (ix a1 i5).bind fun x11 =>
  gd (a0.P ≠ 0) <|
  some (.go ((i64.wrap (s4 * x11)).tmod a0.P))) (fun s4 => s4) (a1.length) 0 1 : Option (Int)).bind fun x3 =>
  some x3)
theorem c_spec_gMul : ∀ {a0} {a1} {r}, F_spec_gMul a0 a1 = some r → PCalls Tryz.prog 46 [(.sh, .agg [.int .i64 a0.P, .int .i64 a0.Q, .int .i64 a0.G]), (.sh, .sl false 1 (a1.map row_i64))] (Eo (.int .i64 r) [.junk, .junk]) := by
  intro a0 a1 r hr
  apply pF 22 [] [] [] [.tmp 4] hr cl46 Tryz.func46
  intro Φ hΦ hF g
  unfold F_spec_gMul at hF
  iterate 3 (try simp [go_sem, g]; try intros; refine pw_wk ?_)
  repeat rw [sq]
  refine pJ hF (fun x3 => [(5, .v (.int .i64 x3))]) (fun x3 hF => ?_) fun _ hj1 hF => ?_
  ·cases hΦ _ (Rn_some hF)
   try simp [go_sem, g]
   refine pw_wk ?_
   try simp [go_sem, g]
  ·repeat rw [sq]
   rw [pw_block]
   obtain ⟨b12, hb13, hψ8⟩ := hF
   refine pR hb13 (fun i5 s4 => [(2, .bl [.int .i64 a0.P, .int .i64 a0.Q, .int .i64 a0.G]), (5, .v (.int .i64 s4)), (8, .v (.sl false 1 (a1.map row_i64))), (9, .v (.int .i64 (a1.length : Int))), (10, .v (.int .i64 i5))]) (fun s4 _ hN14 => ?_) (fun i5 s4 _ _ hi9 hi10 ho6 hg7 hF => ?_)
   ·subst hN14
    try simp [go_sem]
    refine pw_wk ?_
    repeat rw [sq]
    refine pw_cond_f (by simp [go_sem]) ?_
    try simp [go_sem]
    exact pT (hj1 s4) hψ8 (by simp [go_sem])
   ·try simp [go_sem, g]
    refine pw_wk ?_
    repeat rw [sq]
    refine pw_cond_t (by simp [go_sem, g, hi9, hi10]) ?_
    try simp [go_sem, g]
    refine pw_wk ?_
    repeat rw [sq]
    rw [pw_block]
    obtain ⟨x11, g, hF⟩ := Rx g hF
    try simp [go_sem, g]
    refine pw_wkK [2, 5, 7, 8, 9, 10] (by simp [go_sem, g]; rfl) ?_
    obtain ⟨g, hF⟩ := Rz g hF
    try simp [go_sem, g]
    refine pw_wk ?_
    try simp [go_sem, g]
    exact pT (hg7 ((i64.wrap (s4 * x11)).tmod a0.P)) (Rn_some hF) (by simp [go_sem, g, wr_i hi9 hi10 (by assumption)])
def D93_1 : List DE := [d1 0 [9] 9, d2 1 [14] 9 14, d0 2 [15], d0 3 [2], d0 4 [17], d0 5 [16, 18], d0 6 [19], d1 7 [9, 20] 9, d2 8 [21, 20] 9 21, d0 9 [22, 20], d0 10 [23, 20], d0 11 [20, 24], d0 12 [25], d1 13 [9, 26] 9, d2 14 [27, 26] 9 27, d0 15 [28, 26], d0 16 [2, 26], d0 17 [30, 26], d0 18 [31, 26], d0 19 [32, 26], d0 20 [29, 33, 26], d0 21 [26, 34], d0 22 [35], d2 23 [5, 36] 5 5, d1 24 [9, 36] 9, d2 25 [38, 36] 9 38, d3 26 [37, 39, 36], d0 27 [40, 36], d0 28 [36, 41], d0 29 [42], d2 30 [5, 43] 5 5, d1 31 [9, 43] 9, d2 32 [45, 43] 9 45, d3 33 [44, 46, 43], d0 34 [47, 43], d0 35 [43, 48]]
def D93_4 : List DE := [d0 0 [11], d2 1 [5] 5 5, d0 2 [1], d0 3 [2], d0 4 [3], d1 5 [9] 9, d2 6 [59] 9 59, d3 7 [57, 58, 60], d3 8 [55, 56, 61], d0 9 [54, 62]]
def D93_9 : List DE := [d2 0 [5] 5 5, d0 1 [13], d1 2 [9] 9, d2 3 [73] 9 73, d2 5 [5] 5 5, d1 6 [9] 9, d2 7 [77] 9 77, d0 8 [12], d0 9 [78, 79], d0 10 [80], d2 11 [5] 5 5, d0 12 [3], d0 13 [12], d0 14 [83, 84], d0 15 [85], d0 16 [11], ⟨4, [71, 72, 74], [], none, false, true, false⟩, ⟨17, [82, 86, 87], [], none, false, true, false⟩, d0 18 [81, 88], ⟨19, [76, 89], [], none, true, true, true⟩, d0 20 [75, 90]]
noncomputable def F_spec_sVerify (a0 : Group) (a1 : ByteArray) (a2 : (List (List Int))) (a3 : (List Int)) (a4 : Proof) : Option (Bool) :=
  ((if ((a4.Commits.length : Int) != (a2.length : Int)) = true then (
  some true) else (
  if ((a4.Challenges.length : Int) != 1) = true then (
  some true) else (
  (ix a2 0).bind fun x6 =>
  if ((a4.Responses.length : Int) != (x6.length : Int)) = true then (
  some true) else (
  (F_spec_gIs a0 a4.Commits).bind fun z8 =>
  if (!z8) = true then (
  some true) else (
  (F_spec_gExps a0 a4.Responses).bind fun z10 =>
  some (!z10))))) : Option (Bool)).bind fun x3 =>
  if x3 = true then (
  some false) else (
  (ix a4.Challenges 0).bind fun x12 =>
  (F_spec_sStatement a2 a3 a4.Commits).bind fun z13 =>
  (F_spec_hChallenge a0 a1 z13).bind fun z14 =>
  if (x12 != z14) = true then (
  some false) else (
  ((rloop (σ := Unit) (fun i20 s19 =>
  (ix a2 i20).bind fun x26 =>
  (ix a4.Commits i20).bind fun x27 =>
  (ix a3 i20).bind fun x28 =>
  (F_spec_gProd a0 x26 a4.Responses).bind fun z29 =>
  (F_spec_gExp a0 x28 x12).bind fun z30 =>
  (F_spec_gMul a0 [x27, z30]).bind fun z31 =>
  if (z29 != z31) = true then (
  some (.out (.inr false))) else (
  some (.go ()))) (fun s19 => .inl ()) (a2.length) 0 () : Option (Unit ⊕ Bool)).bind (Sum.elim (fun x18 =>
  some true) some)))))
theorem c_spec_sVerify : ∀ {a0} {a1} {a2} {a3} {a4} {r}, F_spec_sVerify a0 a1 a2 a3 a4 = some r → PCalls Tryz.prog 93 [(.sh, .agg [.int .i64 a0.P, .int .i64 a0.Q, .int .i64 a0.G]), (.sh, .str a1), (.sh, .sl false 1 (a2.map row_zi64)), (.sh, .sl false 1 (a3.map row_i64)), (.sh, .agg [.sl false 1 (a4.Commits.map row_i64), .sl false 1 (a4.Challenges.map row_i64), .sl false 1 (a4.Responses.map row_i64)])] (Eo (.bool r) [.junk, .junk, .junk, .junk, .junk]) := by
  intro a0 a1 a2 a3 a4 r hr
  apply pF 93 [] [] [] [.tmp 10] hr cl93 Tryz.func93
  intro Φ hΦ hF g
  unfold F_spec_sVerify at hF
  try simp [go_sem, g]
  refine pw_wk ?_
  repeat rw [sq]
  refine pJ hF (fun x3 => [(1, .v (.str a1)), (2, .v (.sl false 1 (a2.map row_zi64))), (3, .v (.sl false 1 (a3.map row_i64))), (5, .bl [.int .i64 a0.P, .int .i64 a0.Q, .int .i64 a0.G]), (9, .bl [.sl false 1 (a4.Commits.map row_i64), .sl false 1 (a4.Challenges.map row_i64), .sl false 1 (a4.Responses.map row_i64)]), (49, .v (.bool x3))]) (fun x3 hF => ?_) fun _ hj1 hF => ?_
  ·repeat rw [sq]
   refine pI hF (fun h11 hF => ?_) (fun h11 hF => ?_)
   ·cases hΦ _ (Rn_some hF)
    try simp [go_sem, g]
    refine pw_wk ?_
    try simp [go_sem, g]
   ·obtain ⟨x12, g, hF⟩ := Rxn g 0 hF
    iterate 2 (try simp [go_sem, g]; refine pw_wk ?_)
    repeat rw [sq]
    refine pw_draw D93_4 follows (by kernel_rfl) rfl ?_
    try simp only [go_sem, D93_4]
    try simp [go_sem, g]
    refine pC hF [.sh, .sh, .sh] c_spec_sStatement (fun z13 hF => ?_)
    try simp [go_sem, g]
    refine pC hF [.sh, .sh, .sh] c_spec_hChallenge (fun z14 hF => ?_)
    try simp [go_sem, g]
    refine pw_wkK [2, 3, 5, 9, 11, 63] (by simp [go_sem, g]; rfl) ?_
    repeat rw [sq]
    refine pI hF (fun h15 hF => ?_) (fun h15 hF => ?_)
    ·cases hΦ _ (Rn_some hF)
     try simp [go_sem, g]
     refine pw_wk ?_
     try simp [go_sem, g]
    ·iterate 2 (try simp [go_sem, g]; try intros; refine pw_wk ?_)
     repeat rw [sq]
     refine pJs hF (fun x18 => []) (fun x18 hF => ?_) fun _ hj16 hr17 hF => ?_
     ·cases hΦ _ (Rn_some hF)
      try simp [go_sem, g]
      refine pw_wk ?_
      try simp [go_sem, g]
     ·repeat rw [sq]
      rw [pw_block]
      obtain ⟨b33, hb34, hψ23⟩ := hF
      refine pR hb34 (fun i20 s19 => [(3, .v (.sl false 1 (a3.map row_i64))), (5, .bl [.int .i64 a0.P, .int .i64 a0.Q, .int .i64 a0.G]), (9, .bl [.sl false 1 (a4.Commits.map row_i64), .sl false 1 (a4.Challenges.map row_i64), .sl false 1 (a4.Responses.map row_i64)]), (11, .v (.int .i64 x12)), (64, .v (.sl false 1 (a2.map row_zi64))), (65, .v (.int .i64 (a2.length : Int))), (66, .v (.int .i64 i20))]) (fun s19 _ hN35 => ?_) (fun i20 s19 _ _ hi24 hi25 ho21 hg22 hF => ?_)
      ·subst hN35
       try simp [go_sem]
       refine pw_wk ?_
       repeat rw [sq]
       refine pw_cond_f (by simp [go_sem]) ?_
       try simp [go_sem]
       exact pT (hj16 ()) hψ23 (by simp [go_sem])
      ·try simp [go_sem, g]
       refine pw_wk ?_
       repeat rw [sq]
       refine pw_cond_t (by simp [go_sem, g, hi24, hi25]) ?_
       try simp [go_sem, g]
       refine pw_wk ?_
       repeat rw [sq]
       rw [pw_block]
       obtain ⟨x26, g, hF⟩ := Rx g hF
       try simp [go_sem, g]
       refine pw_wk ?_
       repeat rw [sq]
       refine pw_draw D93_9 follows (by kernel_rfl) rfl ?_
       try simp only [go_sem, D93_9]
       obtain ⟨x27, g, hF⟩ := Rx g hF
       obtain ⟨x28, g, hF⟩ := Rx g hF
       try simp [go_sem, g]
       refine pCD hF c_spec_gProd (fun z29 hF => ?_)
       try simp [go_sem, g]
       refine pCD hF c_spec_gExp (fun z30 hF => ?_)
       try simp [go_sem, g]
       refine pC hF [.sh, .sh] c_spec_gMul (fun z31 hF => ?_)
       try simp [go_sem, g]
       refine pw_wkK [3, 5, 9, 11, 64, 65, 66, 91] (by simp [go_sem, g]; rfl) ?_
       repeat rw [sq]
       refine pI hF (fun h32 hF => ?_) (fun h32 hF => ?_)
       ·cases ho21 _ (Rn_some hF)
        cases hΦ _ (hr17 _ hψ23)
        try simp [go_sem, g]
        refine pw_wk ?_
        try simp [go_sem, g]
       ·try simp [go_sem, g]
        refine pw_wk ?_
        try simp [go_sem, g]
        exact pT (hg22 ()) (Rn_some hF) (by simp [go_sem, g, wr_i hi24 hi25 (by assumption)])
  ·repeat rw [sq]
   refine pw_draw D93_1 follows (by kernel_rfl) rfl ?_
   try simp only [go_sem, D93_1]
   try simp [go_sem, g]
   try intros
   refine pwgD_F hF (fun h4 hF => ?_) fun h4 hF => ?_
   ·try simp [go_sem, g, h4]
    exact pT (hj1 true) (Rn_some hF)
   ·try simp [go_sem, g, h4]
    try intros
    refine pwgD_F hF (fun h5 hF => ?_) fun h5 hF => ?_
    ·try simp [go_sem, g, h5]
     exact pT (hj1 true) (Rn_some hF)
    ·obtain ⟨x6, g, hF⟩ := Rxn g 0 hF
     try simp [go_sem, g, h5]
     try intros
     refine pwgD_F hF (fun h7 hF => ?_) fun h7 hF => ?_
     ·try simp [go_sem, g, h7]
      exact pT (hj1 true) (Rn_some hF)
     ·try simp [go_sem, g, h7]
      refine pC hF [.sh, .sh] c_spec_gIs (fun z8 hF => ?_)
      try simp [go_sem, g, h7]
      refine pwgD_F hF (fun h9 hF => ?_) fun h9 hF => ?_
      ·try simp [go_sem, g, h9]
       exact pT (hj1 true) (Rn_some hF)
      ·try simp [go_sem, g, h9]
       refine pC hF [.sh, .sh] c_spec_gExps (fun z10 hF => ?_)
       try simp [go_sem, g, h9]
       exact pT (hj1 (!z10)) (Rn_some hF)
noncomputable def F_spec_oSigned (a0 : Group) (a1 : ByteArray) (a2 : Int) (a3 : Proof) : Option (Bool) :=
  (F_spec_sVerify a0 a1 [[a0.G]] [a2] a3).bind fun z1 =>
  some z1
theorem c_spec_oSigned : ∀ {a0} {a1} {a2} {a3} {r}, F_spec_oSigned a0 a1 a2 a3 = some r → PCalls Tryz.prog 81 [(.sh, .agg [.int .i64 a0.P, .int .i64 a0.Q, .int .i64 a0.G]), (.sh, .str a1), (.sh, .int .i64 a2), (.sh, .agg [.sl false 1 (a3.Commits.map row_i64), .sl false 1 (a3.Challenges.map row_i64), .sl false 1 (a3.Responses.map row_i64)])] (Eo (.bool r) [.junk, .junk, .junk, .junk]) := by
  intro a0 a1 a2 a3 r hr
  apply pF 19 [] [] [] [.tmp 8] hr cl81 Tryz.func81
  intro Φ hΦ hF g
  unfold F_spec_oSigned at hF
  try simp [go_sem, g]
  refine pw_wk ?_
  try simp [go_sem, g]
  refine pC hF [.sh, .sh, .sh, .sh, .sh] c_spec_sVerify (fun z1 hF => ?_)
  try simp [go_sem, g]
  refine pw_wkK [8] (by simp [go_sem, g]; rfl) ?_
  cases hΦ _ (Rn_some hF)
  try simp [go_sem, g]
def D63_1 : List DE := [d2 0 [7] 7 7, d3 1 [9], d0 2 [10], d2 3 [4, 11] 4 4, d2 4 [7, 11] 7 7, d0 5 [2, 11], d0 7 [1, 11], d1 8 [7, 11] 7, d2 9 [17, 11] 7 17, d3 6 [13, 14, 11], d3 10 [12, 15, 16, 18, 11], d0 11 [11, 19], d0 12 [20]]
noncomputable def F_spec_oAccepts (a0 : Group) (a1 : Int) (a2 : Int) (a3 : Entry) : Option (Bool) :=
  (((F_spec_oPlain a3).bind fun z4 =>
  if z4 = true then (
  (F_spec_oLabel a3 a2).bind fun z6 =>
  (F_spec_oSigned a0 z6 a1 a3.Sign).bind fun z7 =>
  some z7) else (
  some false) : Option (Bool)).bind fun x3 =>
  some x3)
theorem c_spec_oAccepts : ∀ {a0} {a1} {a2} {a3} {r}, F_spec_oAccepts a0 a1 a2 a3 = some r → PCalls Tryz.prog 63 [(.sh, .agg [.int .i64 a0.P, .int .i64 a0.Q, .int .i64 a0.G]), (.sh, .int .i64 a1), (.sh, .int .i64 a2), (.sh, .agg [.int .i64 a3.Kind, .int .i64 a3.Author, .sl false 1 (a3.Data.map row_i64), .sl false 1 (a3.Sign.Commits.map row_i64), .sl false 1 (a3.Sign.Challenges.map row_i64), .sl false 1 (a3.Sign.Responses.map row_i64)])] (Eo (.bool r) [.junk, .junk, .junk, .junk]) := by
  intro a0 a1 a2 a3 r hr
  apply pF 21 [] [] [] [.tmp 8] hr cl63 Tryz.func63
  intro Φ hΦ hF g
  unfold F_spec_oAccepts at hF
  try simp [go_sem, g]
  refine pw_wk ?_
  repeat rw [sq]
  refine pJ hF (fun x3 => [(8, .v (.bool x3))]) (fun x3 hF => ?_) fun _ hj1 hF => ?_
  ·cases hΦ _ (Rn_some hF)
   try simp [go_sem, g]
  ·repeat rw [sq]
   refine pw_draw D63_1 follows (by kernel_rfl) rfl ?_
   try simp only [go_sem, D63_1]
   try simp [go_sem, g]
   refine pC hF [.sh] c_spec_oPlain (fun z4 hF => ?_)
   try simp [go_sem, g]
   refine pwgD_F hF (fun h5 hF => ?_) fun h5 hF => ?_
   ·try simp [go_sem, g, h5]
    refine pC hF [.sh, .sh] c_spec_oLabel (fun z6 hF => ?_)
    try simp [go_sem, g, h5]
    refine pC hF [.sh, .sh, .sh, .sh] c_spec_oSigned (fun z7 hF => ?_)
    try simp [go_sem, g, h5]
    exact pT (hj1 z7) (Rn_some hF)
   ·try simp [go_sem, g, h5]
    exact pT (hj1 false) (Rn_some hF)
def D40_6 : List DE := [d1 0 [6] 6, d2 1 [32] 6 32, d1 2 [3] 3, d2 3 [34] 3 34, d0 4 [35], d0 5 [36], d3 6 [33, 37], d0 7 [38], d0 8 [39], d2 9 [2, 40] 2 2, d1 10 [3, 40] 3, d2 11 [42, 40] 3 42, d1 12 [6, 40] 6, d2 13 [44, 40] 6 44, d0 14 [43, 45, 40], d0 15 [46, 40], d0 16 [5, 40], d2 17 [6, 40] 6 6, d3 18 [41, 47, 48, 49, 40], d0 19 [50, 40], d0 20 [40, 51]]
noncomputable def F_spec_oBoard (a0 : Group) (a1 : Board) : Option (Bool) :=
  ((if decide (40 < (a1.Keys.length : Int)) = true then (
  some true) else (
  (F_spec_gIs a0 a1.Keys).bind fun z5 =>
  if (!z5) = true then (
  some true) else (
  some (decide (64 < (a1.Entries.length : Int))))) : Option (Bool)).bind fun x3 =>
  if x3 = true then (
  some false) else (
  ((rloop (σ := Unit) (fun i12 s11 =>
  (ix a1.Entries i12).bind fun x18 =>
  (((F_spec_l1In x18.Author 0 (i64.wrap ((a1.Keys.length : Int) - 1))).bind fun z22 =>
  if (!z22) = true then (
  some true) else (
  (ix a1.Keys x18.Author).bind fun x24 =>
  (F_spec_oAccepts a0 x24 i12 x18).bind fun z25 =>
  some (!z25)) : Option (Bool)).bind fun x21 =>
  if x21 = true then (
  some (.out (.inr false))) else (
  some (.go ())))) (fun s11 => .inl ()) (a1.Entries.length) 0 () : Option (Unit ⊕ Bool)).bind (Sum.elim (fun x10 =>
  some true) some))))
theorem c_spec_oBoard : ∀ {a0} {a1} {r}, F_spec_oBoard a0 a1 = some r → PCalls Tryz.prog 40 [(.sh, .agg [.int .i64 a0.P, .int .i64 a0.Q, .int .i64 a0.G]), (.sh, .agg [.sl false 1 (a1.Keys.map row_i64), .sl false 6 (a1.Entries.map row_Entry_z)])] (Eo (.bool r) [.junk, .junk]) := by
  intro a0 a1 r hr
  apply pF 54 [] [] [] [.tmp 4] hr cl40 Tryz.func40
  intro Φ hΦ hF g
  unfold F_spec_oBoard at hF
  try simp [go_sem, g]
  refine pw_wk ?_
  repeat rw [sq]
  refine pJ hF (fun x3 => [(2, .bl [.int .i64 a0.P, .int .i64 a0.Q, .int .i64 a0.G]), (3, .bl [.sl false 1 (a1.Keys.map row_i64), .sl false 6 (a1.Entries.map row_Entry_z)]), (23, .v (.bool x3))]) (fun x3 hF => ?_) fun _ hj1 hF => ?_
  ·repeat rw [sq]
   refine pI hF (fun h7 hF => ?_) (fun h7 hF => ?_)
   ·cases hΦ _ (Rn_some hF)
    try simp [go_sem, g]
    refine pw_wk ?_
    try simp [go_sem, g]
   ·iterate 2 (try simp [go_sem, g]; try intros; refine pw_wk ?_)
    repeat rw [sq]
    refine pJs hF (fun x10 => []) (fun x10 hF => ?_) fun _ hj8 hr9 hF => ?_
    ·cases hΦ _ (Rn_some hF)
     try simp [go_sem, g]
     refine pw_wk ?_
     try simp [go_sem, g]
    ·repeat rw [sq]
     rw [pw_block]
     obtain ⟨b27, hb28, hψ15⟩ := hF
     refine pR hb28 (fun i12 s11 => [(2, .bl [.int .i64 a0.P, .int .i64 a0.Q, .int .i64 a0.G]), (3, .bl [.sl false 1 (a1.Keys.map row_i64), .sl false 6 (a1.Entries.map row_Entry_z)]), (25, .v (.sl false 6 (a1.Entries.map row_Entry_z))), (26, .v (.int .i64 (a1.Entries.length : Int))), (27, .v (.int .i64 i12))]) (fun s11 _ hN29 => ?_) (fun i12 s11 _ _ hi16 hi17 ho13 hg14 hF => ?_)
     ·subst hN29
      try simp [go_sem]
      refine pw_wk ?_
      repeat rw [sq]
      refine pw_cond_f (by simp [go_sem]) ?_
      try simp [go_sem]
      exact pT (hj8 ()) hψ15 (by simp [go_sem])
     ·try simp [go_sem, g]
      refine pw_wk ?_
      repeat rw [sq]
      refine pw_cond_t (by simp [go_sem, g, hi16, hi17]) ?_
      try simp [go_sem, g]
      refine pw_wk ?_
      repeat rw [sq]
      rw [pw_block]
      obtain ⟨x18, g, hF⟩ := Rx g hF
      try simp [go_sem, g]
      refine pw_wkK [2, 3, 5, 6, 25, 26, 27] (by simp [go_sem, g]; rfl) ?_
      repeat rw [sq]
      refine pJ hF (fun x21 => [(2, .bl [.int .i64 a0.P, .int .i64 a0.Q, .int .i64 a0.G]), (3, .bl [.sl false 1 (a1.Keys.map row_i64), .sl false 6 (a1.Entries.map row_Entry_z)]), (25, .v (.sl false 6 (a1.Entries.map row_Entry_z))), (26, .v (.int .i64 (a1.Entries.length : Int))), (27, .v (.int .i64 i12)), (52, .v (.bool x21))]) (fun x21 hF => ?_) fun _ hj19 hF => ?_
      ·repeat rw [sq]
       refine pI hF (fun h26 hF => ?_) (fun h26 hF => ?_)
       ·cases ho13 _ (Rn_some hF)
        cases hΦ _ (hr9 _ hψ15)
        try simp [go_sem, g]
        refine pw_wk ?_
        try simp [go_sem, g]
       ·try simp [go_sem, g]
        refine pw_wk ?_
        try simp [go_sem, g]
        exact pT (hg14 ()) (Rn_some hF) (by simp [go_sem, g, wr_i hi16 hi17 (by assumption)])
      ·repeat rw [sq]
       refine pw_draw D40_6 follows (by kernel_rfl) rfl ?_
       try simp only [go_sem, D40_6]
       try simp [go_sem, g]
       try intros
       refine pC hF [.sh, .sh, .sh] c_spec_l1In (fun z22 hF => ?_)
       try simp [go_sem, g]
       refine pwgD_F hF (fun h23 hF => ?_) fun h23 hF => ?_
       ·try simp [go_sem, g, h23]
        exact pT (hj19 true) (Rn_some hF)
       ·obtain ⟨x24, g, hF⟩ := Rx g hF
        try simp [go_sem, g, h23]
        refine pC hF [.sh, .sh, .sh, .sh] c_spec_oAccepts (fun z25 hF => ?_)
        try simp [go_sem, g, h23]
        exact pT (hj19 (!z25)) (Rn_some hF)
  ·try simp [go_sem, g]
   try intros
   refine pwg_F hF (fun h4 hF => ?_) fun h4 hF => ?_
   ·try simp [go_sem, g, h4]
    exact pT (hj1 true) (Rn_some hF)
   ·try simp [go_sem, g, h4]
    refine pC hF [.sh, .sh] c_spec_gIs (fun z5 hF => ?_)
    try simp [go_sem, g, h4]
    refine pwg_F hF (fun h6 hF => ?_) fun h6 hF => ?_
    ·try simp [go_sem, g, h6]
     exact pT (hj1 true) (Rn_some hF)
    ·try simp [go_sem, g, h6]
     try intros
     exact pT (hj1 (decide (64 < (a1.Entries.length : Int)))) (Rn_some hF)
noncomputable def F_spec_vContest (a0 : Contest) : Option (Bool) :=
  ((if decide (a0.Least < 0) = true then (
  some true) else (
  some (decide (a0.Most < a0.Least))) : Option (Bool)).bind fun x3 =>
  if x3 = true then (
  some false) else (
  ((if (a0.Kind == 1) = true then (
  some (a0.Kind == 1)) else (
  some (a0.Kind == 3)) : Option (Bool)).bind fun x8 =>
  if x8 = true then (
  (((F_spec_l1In a0.Options 1 8).bind fun z14 =>
  if z14 = true then (
  if decide (a0.Most ≤ a0.Options) = true then (
  some (a0.Points == 0)) else (
  some false)) else (
  some false) : Option (Bool)).bind fun x13 =>
  some x13)) else (
  if (a0.Kind == 2) = true then (
  (((F_spec_l1In a0.Options 1 8).bind fun z21 =>
  if z21 = true then (
  (F_spec_l1In a0.Points 1 5).bind fun z23 =>
  if z23 = true then (
  some (decide (a0.Most ≤ (i64.wrap (a0.Options * a0.Points))))) else (
  some false)) else (
  some false) : Option (Bool)).bind fun x20 =>
  some x20)) else (
  ((if (a0.Kind == 4) = true then (
  if (a0.Options == 0) = true then (
  if decide (a0.Most ≤ 5) = true then (
  some (a0.Points == 0)) else (
  some false)) else (
  some false)) else (
  some false) : Option (Bool)).bind fun x27 =>
  some x27))))))
theorem c_spec_vContest : ∀ {a0} {r}, F_spec_vContest a0 = some r → PCalls Tryz.prog 64 [(.sh, .agg [.int .i64 a0.Kind, .int .i64 a0.Options, .int .i64 a0.Least, .int .i64 a0.Most, .int .i64 a0.Points])] (Eo (.bool r) [.junk]) := by
  intro a0 r hr
  apply pF 71 [] [] [] [.tmp 2] hr cl64 Tryz.func64
  intro Φ hΦ hF g
  unfold F_spec_vContest at hF
  try simp [go_sem, g]
  refine pw_wk ?_
  repeat rw [sq]
  refine pJ hF (fun x3 => [(1, .bl [.int .i64 a0.Kind, .int .i64 a0.Options, .int .i64 a0.Least, .int .i64 a0.Most, .int .i64 a0.Points]), (12, .v (.bool x3))]) (fun x3 hF => ?_) fun _ hj1 hF => ?_
  ·repeat rw [sq]
   refine pI hF (fun h5 hF => ?_) (fun h5 hF => ?_)
   ·cases hΦ _ (Rn_some hF)
    try simp [go_sem, g]
    refine pw_wk ?_
    try simp [go_sem, g]
   ·iterate 2 (try simp [go_sem, g]; refine pw_wk ?_)
    repeat rw [sq]
    rw [pw_block]
    try simp [go_sem, g]
    refine pw_wk ?_
    repeat rw [sq]
    refine pJ hF (fun x8 => [(1, .bl [.int .i64 a0.Kind, .int .i64 a0.Options, .int .i64 a0.Least, .int .i64 a0.Most, .int .i64 a0.Points]), (14, .v (.int .i64 a0.Kind)), (15, .v (.bool x8))]) (fun x8 hF => ?_) fun _ hj6 hF => ?_
    ·repeat rw [sq]
     refine pI hF (fun h10 hF => ?_) (fun h10 hF => ?_)
     ·repeat rw [sq]
      refine pJ hF (fun x13 => [(2, .v (.bool x13))]) (fun x13 hF => ?_) fun _ hj11 hF => ?_
      ·cases hΦ _ (Rn_some hF)
       try simp [go_sem, g]
      ·try simp [go_sem, g]
       refine pC hF [.sh, .sh, .sh] c_spec_l1In (fun z14 hF => ?_)
       try simp [go_sem, g]
       refine pwg_F hF (fun h15 hF => ?_) fun h15 hF => ?_
       ·try simp [go_sem, g, h15]
        refine pwg_F hF (fun h16 hF => ?_) fun h16 hF => ?_
        ·try simp [go_sem, g, h16]
         exact pT (hj11 (a0.Points == 0)) (Rn_some hF)
        ·try simp [go_sem, g, h16]
         exact pT (hj11 false) (Rn_some hF)
       ·try simp [go_sem, g, h15]
        exact pT (hj11 false) (Rn_some hF)
     ·try simp [go_sem, g]
      refine pw_wk ?_
      repeat rw [sq]
      refine pI hF (fun h17 hF => ?_) (fun h17 hF => ?_)
      ·repeat rw [sq]
       refine pJ hF (fun x20 => [(2, .v (.bool x20))]) (fun x20 hF => ?_) fun _ hj18 hF => ?_
       ·cases hΦ _ (Rn_some hF)
        try simp [go_sem, g]
       ·try simp [go_sem, g]
        refine pC hF [.sh, .sh, .sh] c_spec_l1In (fun z21 hF => ?_)
        try simp [go_sem, g]
        refine pwg_F hF (fun h22 hF => ?_) fun h22 hF => ?_
        ·try simp [go_sem, g, h22]
         refine pC hF [.sh, .sh, .sh] c_spec_l1In (fun z23 hF => ?_)
         try simp [go_sem, g, h22]
         refine pwg_F hF (fun h24 hF => ?_) fun h24 hF => ?_
         ·try simp [go_sem, g, h24]
          exact pT (hj18 (decide (a0.Most ≤ (i64.wrap (a0.Options * a0.Points))))) (Rn_some hF)
         ·try simp [go_sem, g, h24]
          exact pT (hj18 false) (Rn_some hF)
        ·try simp [go_sem, g, h22]
         exact pT (hj18 false) (Rn_some hF)
      ·try simp [go_sem, g]
       refine pw_wk ?_
       repeat rw [sq]
       refine pJ hF (fun x27 => [(2, .v (.bool x27))]) (fun x27 hF => ?_) fun _ hj25 hF => ?_
       ·cases hΦ _ (Rn_some hF)
        try simp [go_sem, g]
       ·try simp [go_sem, g]
        refine pwg_F hF (fun h28 hF => ?_) fun h28 hF => ?_
        ·try simp [go_sem, g, h28]
         refine pwg_F hF (fun h29 hF => ?_) fun h29 hF => ?_
         ·try simp [go_sem, g, h29]
          refine pwg_F hF (fun h30 hF => ?_) fun h30 hF => ?_
          ·try simp [go_sem, g, h30]
           exact pT (hj25 (a0.Points == 0)) (Rn_some hF)
          ·try simp [go_sem, g, h30]
           exact pT (hj25 false) (Rn_some hF)
         ·try simp [go_sem, g, h29]
          exact pT (hj25 false) (Rn_some hF)
        ·try simp [go_sem, g, h28]
         exact pT (hj25 false) (Rn_some hF)
    ·repeat rw [sq]
     refine pI hF (fun h9 hF => ?_) (fun h9 hF => ?_)
     ·try simp [go_sem, g]
      exact pT (hj6 (a0.Kind == 1)) (Rn_some hF)
     ·try simp [go_sem, g]
      exact pT (hj6 (a0.Kind == 3)) (Rn_some hF)
  ·try simp [go_sem, g]
   refine pwg_F hF (fun h4 hF => ?_) fun h4 hF => ?_
   ·try simp [go_sem, g, h4]
    exact pT (hj1 true) (Rn_some hF)
   ·try simp [go_sem, g, h4]
    exact pT (hj1 (decide (a0.Most < a0.Least))) (Rn_some hF)
def D41_3 : List DE := [d0 0 [0], d0 1 [9], d0 2 [10], d0 3 [0], d0 4 [12], d0 5 [13], d0 6 [0], d0 7 [15], d0 8 [16], d0 9 [0], d0 10 [18], d0 11 [19], d0 12 [0], d0 13 [21], d0 14 [22], d0 15 [11, 14, 17, 20, 23], d0 16 [], d2 17 [4, 24] 4 4]
noncomputable def F_spec_vContestOf (a0 : (List Int)) : Option (Contest × Bool) :=
  if ((a0.length : Int) != 5) = true then (
  some ((Contest.mk 0 0 0 0 0), false)) else (
  (ix a0 0).bind fun x2 =>
  (ix a0 1).bind fun x3 =>
  (ix a0 2).bind fun x4 =>
  (ix a0 3).bind fun x5 =>
  (ix a0 4).bind fun x6 =>
  (F_spec_vContest (Contest.mk x2 x3 x4 x5 x6)).bind fun z7 =>
  if (!z7) = true then (
  some ((Contest.mk 0 0 0 0 0), false)) else (
  some ((Contest.mk x2 x3 x4 x5 x6), true)))
theorem c_spec_vContestOf : ∀ {a0} {r}, F_spec_vContestOf a0 = some r → PCalls Tryz.prog 41 [(.sh, .sl false 1 (a0.map row_i64))] (Eo (.tup [.agg [.int .i64 r.1.Kind, .int .i64 r.1.Options, .int .i64 r.1.Least, .int .i64 r.1.Most, .int .i64 r.1.Points], .bool r.2]) [.junk]) := by
  intro a0 r hr
  apply pF 30 [] [] [] [.cell 2 44, .tmp 3] hr cl41 Tryz.func41
  intro Φ hΦ hF g
  unfold F_spec_vContestOf at hF
  iterate 2 (try simp [go_sem, g]; try intros; refine pw_wk ?_)
  repeat rw [sq]
  refine pI hF (fun h1 hF => ?_) (fun h1 hF => ?_)
  ·cases hΦ _ (Rn_some hF)
   try simp [go_sem, g]
   refine pw_wk ?_
   try simp [go_sem, g]
  ·try simp [go_sem, g]
   refine pw_wk ?_
   repeat rw [sq]
   refine pw_draw D41_3 follows (by kernel_rfl) rfl ?_
   try simp only [go_sem, D41_3]
   obtain ⟨x2, g, hF⟩ := Rxn g 0 hF
   obtain ⟨x3, g, hF⟩ := Rxn g 1 hF
   obtain ⟨x4, g, hF⟩ := Rxn g 2 hF
   obtain ⟨x5, g, hF⟩ := Rxn g 3 hF
   obtain ⟨x6, g, hF⟩ := Rxn g 4 hF
   try simp [go_sem, g]
   refine pw_wkK [2, 4] (by simp [go_sem, g]; rfl) ?_
   try simp [go_sem, g]
   refine pC hF [.sh] c_spec_vContest (fun z7 hF => ?_)
   try simp [go_sem, g]
   refine pw_wk ?_
   repeat rw [sq]
   refine pI hF (fun h8 hF => ?_) (fun h8 hF => ?_)
   ·cases hΦ _ (Rn_some hF)
    try simp [go_sem, g]
    refine pw_wk ?_
    try simp [go_sem, g]
   ·cases hΦ _ (Rn_some hF)
    iterate 2 (try simp [go_sem, g]; refine pw_wk ?_)
    try simp [go_sem, g]
noncomputable def F_spec_l1Least (a0 : Int) (a1 : Int) : Option (Int) :=
  if decide (a0 < a1) = true then (
  some a0) else (
  some a1)
theorem c_spec_l1Least : ∀ {a0} {a1} {r}, F_spec_l1Least a0 a1 = some r → PCalls Tryz.prog 96 [(.sh, .int .i64 a0), (.sh, .int .i64 a1)] (Eo (.int .i64 r) [.junk, .junk]) := by
  intro a0 a1 r hr
  apply pF 10 [] [] [] [.tmp 4] hr cl96 Tryz.func96
  intro Φ hΦ hF g
  unfold F_spec_l1Least at hF
  iterate 2 (try simp [go_sem, g]; refine pw_wk ?_)
  repeat rw [sq]
  refine pI hF (fun h1 hF => ?_) (fun h1 hF => ?_)
  ·cases hΦ _ (Rn_some hF)
   try simp [go_sem, g]
   refine pw_wk ?_
   try simp [go_sem, g]
  ·cases hΦ _ (Rn_some hF)
   iterate 2 (try simp [go_sem, g]; refine pw_wk ?_)
   try simp [go_sem, g]
noncomputable def F_spec_vMarks (a0 : Contest) (a1 : (List Int)) : Option ((List Int)) :=
  gd (0 ≤ a0.Options ∧ a0.Options ≤ a0.Options ∧ 8 * a0.Options ≤ 140737488355328 ∧ a0.Options ≤ 4611686018427387904) <|
  (some (List.replicate a0.Options.toNat 0)).bind fun x1 =>
  ((rloop (σ := (List Int)) (fun i17 s16 =>
  (ix a1 i17).bind fun x23 =>
  (ix s16 x23).bind fun x24 =>
  some (.go (s16.set x23.toNat 1))) (fun s16 => s16) (a1.length) 0 x1 : Option ((List Int))).bind fun x6 =>
  some x6)
theorem c_spec_vMarks : ∀ {a0} {a1} {r}, F_spec_vMarks a0 a1 = some r → PCalls Tryz.prog 113 [(.sh, .agg [.int .i64 a0.Kind, .int .i64 a0.Options, .int .i64 a0.Least, .int .i64 a0.Most, .int .i64 a0.Points]), (.sh, .sl false 1 (a1.map row_i64))] (Eo (.sl true 1 (r.map row_i64)) [.junk, .junk]) := by
  intro a0 a1 r hr
  apply pF 22 [] [] [] [.tmp 4] hr cl113 Tryz.func113
  intro Φ hΦ hF g
  unfold F_spec_vMarks at hF
  obtain ⟨g, hF⟩ := Rg g hF
  obtain ⟨x1, e2, hF⟩ := Rn_bind hF
  have g3 : List.replicate a0.Options.toNat ([.int .i64 0] : List PV) = x1.map row_i64 := by injection e2 with e2; rw [← e2]; simp [go_sem]
  iterate 3 (try simp [go_sem, g, g3]; try intros; refine pw_wk ?_)
  repeat rw [sq]
  refine pJ hF (fun x6 => [(5, .v (.sl true 1 (x6.map row_i64)))]) (fun x6 hF => ?_) fun _ hj4 hF => ?_
  ·try simp [go_sem, g]
   refine pw_wkK [4] (by simp [go_sem, g]; rfl) ?_
   cases hΦ _ (Rn_some hF)
   try simp [go_sem, g]
  ·repeat rw [sq]
   rw [pw_block]
   obtain ⟨b25, hb26, hψ20⟩ := hF
   refine pR hb26 (fun i17 s16 => [(5, .v (.sl true 1 (s16.map row_i64))), (11, .v (.sl false 1 (a1.map row_i64))), (12, .v (.int .i64 (a1.length : Int))), (13, .v (.int .i64 i17))]) (fun s16 _ hN27 => ?_) (fun i17 s16 _ _ hi21 hi22 ho18 hg19 hF => ?_)
   ·subst hN27
    try simp [go_sem]
    refine pw_wk ?_
    repeat rw [sq]
    refine pw_cond_f (by simp [go_sem]) ?_
    try simp [go_sem]
    exact pT (hj4 s16) hψ20 (by simp [go_sem])
   ·try simp [go_sem, g]
    refine pw_wkK [5, 11, 12, 13, 14] (by simp [go_sem, g]; rfl) ?_
    repeat rw [sq]
    refine pw_cond_t (by simp [go_sem, g, hi21, hi22]) ?_
    try simp [go_sem, g]
    refine pw_wk ?_
    repeat rw [sq]
    rw [pw_block]
    obtain ⟨x23, g, hF⟩ := Rx g hF
    obtain ⟨x24, g, hF⟩ := Rx g hF
    iterate 2 (try simp [go_sem, g]; refine pw_wk ?_)
    try simp [go_sem, g]
    exact pT (hg19 (s16.set x23.toNat 1)) (Rn_some hF) (by simp [go_sem, g, wr_i hi21 hi22 (by assumption)])
noncomputable def F_spec_vNumber (a0 : (List Int)) (a1 : Int) (a2 : Int) : Option (Int) :=
  ((wloop (σ := Int × Int) (fun s4 =>
  if decide (0 ≤ s4.2) = true then (
  (ix a0 s4.2).bind fun x10 =>
  some (.go (i64.wrap ((i64.wrap ((i64.wrap (s4.1 * a1)) + x10)) + a2), i64.wrap (s4.2 - 1)))) else (
  some (.out s4.1))) (0, i64.wrap ((a0.length : Int) - 1)) : Option (Int)).bind fun x3 =>
  some x3)
theorem c_spec_vNumber : ∀ {a0} {a1} {a2} {r}, F_spec_vNumber a0 a1 a2 = some r → PCalls Tryz.prog 112 [(.sh, .sl false 1 (a0.map row_i64)), (.sh, .int .i64 a1), (.sh, .int .i64 a2)] (Eo (.int .i64 r) [.junk, .junk, .junk]) := by
  intro a0 a1 a2 r hr
  apply pF 27 [] [] [] [.tmp 6] hr cl112 Tryz.func112
  intro Φ hΦ hF g
  unfold F_spec_vNumber at hF
  iterate 3 (try simp [go_sem, g]; try intros; refine pw_wk ?_)
  repeat rw [sq]
  refine pJ hF (fun x3 => [(7, .v (.int .i64 x3))]) (fun x3 hF => ?_) fun _ hj1 hF => ?_
  ·cases hΦ _ (Rn_some hF)
   try simp [go_sem, g]
   refine pw_wk ?_
   try simp [go_sem, g]
  ·repeat rw [sq]
   rw [pw_block]
   obtain ⟨b11, hb12, hψ8⟩ := hF
   refine pL hb12 (fun s4 => [(0, .v (.sl false 1 (a0.map row_i64))), (1, .v (.int .i64 a1)), (2, .v (.int .i64 a2)), (7, .v (.int .i64 s4.1)), (8, .v (.int .i64 s4.2))]) (fun s4 _ _ ho6 hg7 hF => ?_)
   try simp [go_sem, g]
   refine pw_wk ?_
   repeat rw [sq]
   refine pI hF (fun h9 hF => ?_) (fun h9 hF => ?_)
   ·try simp [go_sem, g]
    refine pw_wk ?_
    repeat rw [sq]
    rw [pw_block]
    obtain ⟨x10, g, hF⟩ := Rx g hF
    try simp [go_sem, g]
    refine pw_wkK [0, 1, 2, 7, 8] (by simp [go_sem, g]; rfl) ?_
    try simp [go_sem, g]
    exact pT (hg7 (i64.wrap ((i64.wrap ((i64.wrap (s4.1 * a1)) + x10)) + a2), i64.wrap (s4.2 - 1))) (Rn_some hF)
   ·try simp [go_sem, g]
    cases ho6 _ (Rn_some hF)
    exact pT (hj1 s4.1) hψ8
noncomputable def F_spec_vCode (a0 : Contest) (a1 : (List Int)) : Option (Int) :=
  if (a0.Kind == 1) = true then (
  (F_spec_vMarks a0 a1).bind fun z2 =>
  (F_spec_vNumber z2 2 0).bind fun z3 =>
  some z3) else (
  if (a0.Kind == 2) = true then (
  (F_spec_vNumber a1 (i64.wrap (a0.Points + 1)) 0).bind fun z5 =>
  some z5) else (
  if (a0.Kind == 3) = true then (
  (F_spec_vNumber a1 (i64.wrap (a0.Options + 1)) 1).bind fun z7 =>
  some z7) else (
  (F_spec_vNumber a1 27 0).bind fun z8 =>
  some z8)))
theorem c_spec_vCode : ∀ {a0} {a1} {r}, F_spec_vCode a0 a1 = some r → PCalls Tryz.prog 97 [(.sh, .agg [.int .i64 a0.Kind, .int .i64 a0.Options, .int .i64 a0.Least, .int .i64 a0.Most, .int .i64 a0.Points]), (.sh, .sl false 1 (a1.map row_i64))] (Eo (.int .i64 r) [.junk, .junk]) := by
  intro a0 a1 r hr
  apply pF 29 [] [] [] [.tmp 4] hr cl97 Tryz.func97
  intro Φ hΦ hF g
  unfold F_spec_vCode at hF
  iterate 2 (try simp [go_sem, g]; refine pw_wk ?_)
  repeat rw [sq]
  rw [pw_block]
  try simp [go_sem, g]
  refine pw_wk ?_
  repeat rw [sq]
  refine pI hF (fun h1 hF => ?_) (fun h1 hF => ?_)
  ·try simp [go_sem, g]
   refine pC hF [.sh, .sh] c_spec_vMarks (fun z2 hF => ?_)
   try simp [go_sem, g]
   refine pC hF [.sh, .sh, .sh] c_spec_vNumber (fun z3 hF => ?_)
   try simp [go_sem, g]
   refine pw_wkK [4] (by simp [go_sem, g]; rfl) ?_
   cases hΦ _ (Rn_some hF)
   try simp [go_sem, g]
  ·try simp [go_sem, g]
   refine pw_wk ?_
   repeat rw [sq]
   refine pI hF (fun h4 hF => ?_) (fun h4 hF => ?_)
   ·try simp [go_sem, g]
    refine pC hF [.sh, .sh, .sh] c_spec_vNumber (fun z5 hF => ?_)
    try simp [go_sem, g]
    refine pw_wkK [4] (by simp [go_sem, g]; rfl) ?_
    cases hΦ _ (Rn_some hF)
    try simp [go_sem, g]
   ·try simp [go_sem, g]
    refine pw_wkK [1, 2, 20] (by simp [go_sem, g]; rfl) ?_
    repeat rw [sq]
    refine pI hF (fun h6 hF => ?_) (fun h6 hF => ?_)
    ·try simp [go_sem, g]
     refine pC hF [.sh, .sh, .sh] c_spec_vNumber (fun z7 hF => ?_)
     cases hΦ _ (Rn_some hF)
     try simp [go_sem, g]
     refine pw_wk ?_
     try simp [go_sem, g]
    ·try simp [go_sem, g]
     refine pw_wk ?_
     try simp [go_sem, g]
     refine pC hF [.sh, .sh, .sh] c_spec_vNumber (fun z8 hF => ?_)
     cases hΦ _ (Rn_some hF)
     try simp [go_sem, g]
     refine pw_wk ?_
     try simp [go_sem, g]
noncomputable def F_spec_bGreatest (a0 : Contest) : Option (Int) :=
  ((if (a0.Kind == 1) = true then (
  wloop (σ := (List Int) × Int) (fun s5 =>
  if decide (s5.2 < a0.Options) = true then (
  gd ((s5.1.length + 1) * 8 ≤ 140737488355328 ∧ s5.1.length + 1 ≤ 4611686018427387904) <|
  some (.go (s5.1 ++ [s5.2], i64.wrap (s5.2 + 1)))) else (
  some (.out s5.1))) ([], i64.wrap (a0.Options - a0.Most))) else (
  if (a0.Kind == 2) = true then (
  gd (0 ≤ a0.Options ∧ a0.Options ≤ a0.Options ∧ 8 * a0.Options ≤ 140737488355328 ∧ a0.Options ≤ 4611686018427387904) <|
  (some (List.replicate a0.Options.toNat 0)).bind fun x14 =>
  wloop (σ := (List Int) × Int × Int) (fun s26 =>
  if decide (0 ≤ s26.2.2) = true then (
  (F_spec_l1Least s26.2.1 a0.Points).bind fun z32 =>
  (ix s26.1 s26.2.2).bind fun x33 =>
  (ix (s26.1.set s26.2.2.toNat z32) s26.2.2).bind fun x34 =>
  some (.go (s26.1.set s26.2.2.toNat z32, i64.wrap (s26.2.1 - x34), i64.wrap (s26.2.2 - 1)))) else (
  some (.out s26.1))) (x14, a0.Most, i64.wrap (a0.Options - 1))) else (
  if (a0.Kind == 3) = true then (
  wloop (σ := (List Int) × Int) (fun s38 =>
  if decide (s38.2 < a0.Options) = true then (
  gd ((s38.1.length + 1) * 8 ≤ 140737488355328 ∧ s38.1.length + 1 ≤ 4611686018427387904) <|
  some (.go (s38.1 ++ [s38.2], i64.wrap (s38.2 + 1)))) else (
  some (.out s38.1))) ([], i64.wrap (a0.Options - a0.Most))) else (
  wloop (σ := (List Int) × Int) (fun s46 =>
  if decide (s46.2 < a0.Most) = true then (
  gd ((s46.1.length + 1) * 8 ≤ 140737488355328 ∧ s46.1.length + 1 ≤ 4611686018427387904) <|
  some (.go (s46.1 ++ [26], i64.wrap (s46.2 + 1)))) else (
  some (.out s46.1))) ([], 0)))) : Option ((List Int))).bind fun x3 =>
  (F_spec_vCode a0 x3).bind fun z54 =>
  some z54)
theorem c_spec_bGreatest : ∀ {a0} {r}, F_spec_bGreatest a0 = some r → PCalls Tryz.prog 83 [(.sh, .agg [.int .i64 a0.Kind, .int .i64 a0.Options, .int .i64 a0.Least, .int .i64 a0.Most, .int .i64 a0.Points])] (Eo (.int .i64 r) [.junk]) := by
  intro a0 r hr
  apply pF 84 [] [] [] [.tmp 2] hr cl83 Tryz.func83
  intro Φ hΦ hF g
  unfold F_spec_bGreatest at hF
  iterate 3 (try simp [go_sem, g]; refine pw_wk ?_)
  repeat rw [sq]
  refine pJ hF (fun x3 => [(1, .bl [.int .i64 a0.Kind, .int .i64 a0.Options, .int .i64 a0.Least, .int .i64 a0.Most, .int .i64 a0.Points]), (3, .v (.sl true 1 (x3.map row_i64)))]) (fun x3 hF => ?_) fun _ hj1 hF => ?_
  ·try simp [go_sem, g]
   refine pC hF [.sh, .sh] c_spec_vCode (fun z54 hF => ?_)
   cases hΦ _ (Rn_some hF)
   try simp [go_sem, g]
   refine pw_wk ?_
   try simp [go_sem, g]
  ·repeat rw [sq]
   rw [pw_block]
   try simp [go_sem, g]
   refine pw_wk ?_
   repeat rw [sq]
   refine pI hF (fun h4 hF => ?_) (fun h4 hF => ?_)
   ·try simp [go_sem, g]
    refine pw_wkK [1, 3, 4] (by simp [go_sem, g]; rfl) ?_
    repeat rw [sq]
    rw [pw_block]
    obtain ⟨b11, hb12, hψ9⟩ := hF
    refine pL hb12 (fun s5 => [(1, .bl [.int .i64 a0.Kind, .int .i64 a0.Options, .int .i64 a0.Least, .int .i64 a0.Most, .int .i64 a0.Points]), (3, .v (.sl true 1 (s5.1.map row_i64))), (4, .v (.int .i64 s5.2))]) (fun s5 _ _ ho7 hg8 hF => ?_)
    try simp [go_sem, g]
    refine pw_wk ?_
    repeat rw [sq]
    refine pI hF (fun h10 hF => ?_) (fun h10 hF => ?_)
    ·try simp [go_sem, g]
     refine pw_wk ?_
     repeat rw [sq]
     rw [pw_block]
     obtain ⟨g, hF⟩ := Rg g hF
     try simp [go_sem, g]
     refine pw_wk ?_
     try simp [go_sem, g]
     exact pT (hg8 (s5.1 ++ [s5.2], i64.wrap (s5.2 + 1))) (Rn_some hF)
    ·try simp [go_sem, g]
     cases ho7 _ (Rn_some hF)
     exact pT (hj1 s5.1) hψ9
   ·try simp [go_sem, g]
    refine pw_wk ?_
    repeat rw [sq]
    refine pI hF (fun h13 hF => ?_) (fun h13 hF => ?_)
    ·obtain ⟨g, hF⟩ := Rg g hF
     obtain ⟨x14, e15, hF⟩ := Rn_bind hF
     have g16 : List.replicate a0.Options.toNat ([.int .i64 0] : List PV) = x14.map row_i64 := by injection e15 with e15; rw [← e15]; simp [go_sem]
     try simp [go_sem, g, g16]
     refine pw_wkK [1, 3] (by simp [go_sem, g]; rfl) ?_
     iterate 2 (try simp [go_sem, g]; refine pw_wk ?_)
     repeat rw [sq]
     rw [pw_block]
     obtain ⟨b35, hb36, hψ30⟩ := hF
     refine pL hb36 (fun s26 => [(1, .bl [.int .i64 a0.Kind, .int .i64 a0.Options, .int .i64 a0.Least, .int .i64 a0.Most, .int .i64 a0.Points]), (3, .v (.sl true 1 (s26.1.map row_i64))), (5, .v (.int .i64 s26.2.1)), (6, .v (.int .i64 s26.2.2))]) (fun s26 _ _ ho28 hg29 hF => ?_)
     try simp [go_sem, g]
     refine pw_wk ?_
     repeat rw [sq]
     refine pI hF (fun h31 hF => ?_) (fun h31 hF => ?_)
     ·try simp [go_sem, g]
      refine pw_wk ?_
      repeat rw [sq]
      rw [pw_block]
      try simp [go_sem, g]
      refine pC hF [.sh, .sh] c_spec_l1Least (fun z32 hF => ?_)
      obtain ⟨x33, g, hF⟩ := Rx g hF
      try simp [go_sem, g]
      refine pw_wkK [1, 3, 5, 6] (by simp [go_sem, g]; rfl) ?_
      obtain ⟨x34, g, hF⟩ := Rx g hF
      try simp [go_sem, g]
      refine pw_wk ?_
      try simp [go_sem, g]
      exact pT (hg29 (s26.1.set s26.2.2.toNat z32, i64.wrap (s26.2.1 - x34), i64.wrap (s26.2.2 - 1))) (Rn_some hF)
     ·try simp [go_sem, g]
      cases ho28 _ (Rn_some hF)
      exact pT (hj1 s26.1) hψ30
    ·try simp [go_sem, g]
     refine pw_wkK [1, 3, 64] (by simp [go_sem, g]; rfl) ?_
     repeat rw [sq]
     refine pI hF (fun h37 hF => ?_) (fun h37 hF => ?_)
     ·try simp [go_sem, g]
      refine pw_wk ?_
      repeat rw [sq]
      rw [pw_block]
      obtain ⟨b44, hb45, hψ42⟩ := hF
      refine pL hb45 (fun s38 => [(1, .bl [.int .i64 a0.Kind, .int .i64 a0.Options, .int .i64 a0.Least, .int .i64 a0.Most, .int .i64 a0.Points]), (3, .v (.sl true 1 (s38.1.map row_i64))), (7, .v (.int .i64 s38.2))]) (fun s38 _ _ ho40 hg41 hF => ?_)
      try simp [go_sem, g]
      refine pw_wkK [1, 3, 7, 74] (by simp [go_sem, g]; rfl) ?_
      repeat rw [sq]
      refine pI hF (fun h43 hF => ?_) (fun h43 hF => ?_)
      ·try simp [go_sem, g]
       refine pw_wk ?_
       repeat rw [sq]
       rw [pw_block]
       obtain ⟨g, hF⟩ := Rg g hF
       try simp [go_sem, g]
       refine pw_wk ?_
       try simp [go_sem, g]
       exact pT (hg41 (s38.1 ++ [s38.2], i64.wrap (s38.2 + 1))) (Rn_some hF)
      ·try simp [go_sem, g]
       cases ho40 _ (Rn_some hF)
       exact pT (hj1 s38.1) hψ42
     ·try simp [go_sem, g]
      refine pw_wk ?_
      repeat rw [sq]
      rw [pw_block]
      obtain ⟨b52, hb53, hψ50⟩ := hF
      refine pL hb53 (fun s46 => [(1, .bl [.int .i64 a0.Kind, .int .i64 a0.Options, .int .i64 a0.Least, .int .i64 a0.Most, .int .i64 a0.Points]), (3, .v (.sl true 1 (s46.1.map row_i64))), (8, .v (.int .i64 s46.2))]) (fun s46 _ _ ho48 hg49 hF => ?_)
      try simp [go_sem, g]
      refine pw_wk ?_
      repeat rw [sq]
      refine pI hF (fun h51 hF => ?_) (fun h51 hF => ?_)
      ·try simp [go_sem, g]
       refine pw_wk ?_
       repeat rw [sq]
       rw [pw_block]
       obtain ⟨g, hF⟩ := Rg g hF
       try simp [go_sem, g]
       refine pw_wk ?_
       try simp [go_sem, g]
       exact pT (hg49 (s46.1 ++ [26], i64.wrap (s46.2 + 1))) (Rn_some hF)
      ·try simp [go_sem, g]
       cases ho48 _ (Rn_some hF)
       exact pT (hj1 s46.1) hψ50
noncomputable def F_spec_bRows (a0 : Contest) : Option (Bool) :=
  ((if (a0.Kind == 1) = true then (
  some true) else (
  some (a0.Kind == 2)) : Option (Bool)).bind fun x3 =>
  some x3)
theorem c_spec_bRows : ∀ {a0} {r}, F_spec_bRows a0 = some r → PCalls Tryz.prog 67 [(.sh, .agg [.int .i64 a0.Kind, .int .i64 a0.Options, .int .i64 a0.Least, .int .i64 a0.Most, .int .i64 a0.Points])] (Eo (.bool r) [.junk]) := by
  intro a0 r hr
  apply pF 11 [] [] [] [.tmp 2] hr cl67 Tryz.func67
  intro Φ hΦ hF g
  unfold F_spec_bRows at hF
  try simp [go_sem, g]
  refine pw_wk ?_
  repeat rw [sq]
  refine pJ hF (fun x3 => [(2, .v (.bool x3))]) (fun x3 hF => ?_) fun _ hj1 hF => ?_
  ·cases hΦ _ (Rn_some hF)
   try simp [go_sem, g]
  ·try simp [go_sem, g]
   refine pwg_F hF (fun h4 hF => ?_) fun h4 hF => ?_
   ·try simp [go_sem, g, h4]
    exact pT (hj1 true) (Rn_some hF)
   ·try simp [go_sem, g, h4]
    exact pT (hj1 (a0.Kind == 2)) (Rn_some hF)
def D65_1 : List DE := [d2 0 [2] 2 2, d3 1 [5], d0 2 [6], d0 3 [7], d2 4 [3, 8] 3 3, d3 5 [9, 8], d0 6 [10, 8], d0 7 [8, 11], d0 8 [12], d2 9 [3, 13] 3 3, d3 10 [14, 13], d0 11 [15, 13], d0 12 [13, 16], d0 13 [17], d2 14 [3, 18] 3 3, d1 16 [2, 18] 2, d2 17 [21, 18] 2 21, d3 15 [19, 18], d0 18 [20, 22, 18], d0 19 [18, 23]]
noncomputable def F_spec_bGood (a0 : Group) (a1 : Contest) : Option (Bool) :=
  (((F_spec_l2Good a0).bind fun z4 =>
  if (!z4) = true then (
  some true) else (
  (F_spec_vContest a1).bind fun z6 =>
  if (!z6) = true then (
  some true) else (
  (F_spec_bGreatest a1).bind fun z8 =>
  if decide (100000 < z8) = true then (
  some true) else (
  (F_spec_bGreatest a1).bind fun z10 =>
  some (decide (a0.Q ≤ z10))))) : Option (Bool)).bind fun x3 =>
  if x3 = true then (
  some false) else (
  (((F_spec_bRows a1).bind fun z15 =>
  if (!z15) = true then (
  some true) else (
  if decide ((i64.wrap (a1.Most - a1.Least)) < 8) = true then (
  some (decide (a1.Most < a0.Q))) else (
  some false)) : Option (Bool)).bind fun x14 =>
  some x14)))
theorem c_spec_bGood : ∀ {a0} {a1} {r}, F_spec_bGood a0 a1 = some r → PCalls Tryz.prog 65 [(.sh, .agg [.int .i64 a0.P, .int .i64 a0.Q, .int .i64 a0.G]), (.sh, .agg [.int .i64 a1.Kind, .int .i64 a1.Options, .int .i64 a1.Least, .int .i64 a1.Most, .int .i64 a1.Points])] (Eo (.bool r) [.junk, .junk]) := by
  intro a0 a1 r hr
  apply pF 43 [] [] [] [.tmp 4] hr cl65 Tryz.func65
  intro Φ hΦ hF g
  unfold F_spec_bGood at hF
  try simp [go_sem, g]
  refine pw_wk ?_
  repeat rw [sq]
  refine pJ hF (fun x3 => [(2, .bl [.int .i64 a0.P, .int .i64 a0.Q, .int .i64 a0.G]), (3, .bl [.int .i64 a1.Kind, .int .i64 a1.Options, .int .i64 a1.Least, .int .i64 a1.Most, .int .i64 a1.Points]), (24, .v (.bool x3))]) (fun x3 hF => ?_) fun _ hj1 hF => ?_
  ·repeat rw [sq]
   refine pI hF (fun h11 hF => ?_) (fun h11 hF => ?_)
   ·cases hΦ _ (Rn_some hF)
    try simp [go_sem, g]
    refine pw_wk ?_
    try simp [go_sem, g]
   ·try simp [go_sem, g]
    refine pw_wk ?_
    repeat rw [sq]
    refine pJ hF (fun x14 => [(4, .v (.bool x14))]) (fun x14 hF => ?_) fun _ hj12 hF => ?_
    ·cases hΦ _ (Rn_some hF)
     try simp [go_sem, g]
    ·try simp [go_sem, g]
     refine pC hF [.sh] c_spec_bRows (fun z15 hF => ?_)
     try simp [go_sem, g]
     refine pwg_F hF (fun h16 hF => ?_) fun h16 hF => ?_
     ·try simp [go_sem, g, h16]
      exact pT (hj12 true) (Rn_some hF)
     ·try simp [go_sem, g, h16]
      refine pwg_F hF (fun h17 hF => ?_) fun h17 hF => ?_
      ·try simp [go_sem, g, h17, h16]
       exact pT (hj12 (decide (a1.Most < a0.Q))) (Rn_some hF)
      ·try simp [go_sem, g, h17, h16]
       exact pT (hj12 false) (Rn_some hF)
  ·repeat rw [sq]
   refine pw_draw D65_1 follows (by kernel_rfl) rfl ?_
   try simp only [go_sem, D65_1]
   try simp [go_sem, g]
   refine pC hF [.sh] c_spec_l2Good (fun z4 hF => ?_)
   try simp [go_sem, g]
   refine pwgD_F hF (fun h5 hF => ?_) fun h5 hF => ?_
   ·try simp [go_sem, g, h5]
    exact pT (hj1 true) (Rn_some hF)
   ·try simp [go_sem, g, h5]
    refine pC hF [.sh] c_spec_vContest (fun z6 hF => ?_)
    try simp [go_sem, g, h5]
    refine pwgD_F hF (fun h7 hF => ?_) fun h7 hF => ?_
    ·try simp [go_sem, g, h7]
     exact pT (hj1 true) (Rn_some hF)
    ·try simp [go_sem, g, h7]
     refine pC hF [.sh] c_spec_bGreatest (fun z8 hF => ?_)
     try simp [go_sem, g, h7]
     refine pwgD_F hF (fun h9 hF => ?_) fun h9 hF => ?_
     ·try simp [go_sem, g, h9]
      exact pT (hj1 true) (Rn_some hF)
     ·try simp [go_sem, g, h9]
      refine pC hF [.sh] c_spec_bGreatest (fun z10 hF => ?_)
      try simp [go_sem, g, h9]
      exact pT (hj1 (decide (a0.Q ≤ z10))) (Rn_some hF)
noncomputable def F_spec_bTop (a0 : Contest) : Option (Int) :=
  if (a0.Kind == 1) = true then (
  some 1) else (
  some a0.Points)
theorem c_spec_bTop : ∀ {a0} {r}, F_spec_bTop a0 = some r → PCalls Tryz.prog 68 [(.sh, .agg [.int .i64 a0.Kind, .int .i64 a0.Options, .int .i64 a0.Least, .int .i64 a0.Most, .int .i64 a0.Points])] (Eo (.int .i64 r) [.junk]) := by
  intro a0 r hr
  apply pF 8 [] [] [] [.tmp 2] hr cl68 Tryz.func68
  intro Φ hΦ hF g
  unfold F_spec_bTop at hF
  iterate 2 (try simp [go_sem, g]; refine pw_wk ?_)
  repeat rw [sq]
  refine pI hF (fun h1 hF => ?_) (fun h1 hF => ?_)
  ·cases hΦ _ (Rn_some hF)
   try simp [go_sem, g]
   refine pw_wk ?_
   try simp [go_sem, g]
  ·cases hΦ _ (Rn_some hF)
   iterate 2 (try simp [go_sem, g]; refine pw_wk ?_)
   try simp [go_sem, g]
def D98_4 : List DE := [d0 0 [1], d1 1 [3] 3, d2 2 [15] 3 15, d1 3 [3] 3, d2 4 [17] 3 17, d1 5 [3] 3, d2 6 [19] 3 19, d0 7 [2], d0 8 [7], d0 9 [16, 18, 20, 21, 22], d1 11 [3] 3, d2 12 [25] 3 25, d0 13 [26], ⟨10, [14, 23], [], none, true, true, true⟩, d0 14 [24, 27], d0 15 [28], d0 16 [29]]
def D98_5 : List DE := [d0 0 [8], d1 1 [3] 3, d2 2 [31] 3 31, d0 3 [32], d1 4 [3] 3, d2 5 [34] 3 34, d0 6 [33, 35], d1 7 [3] 3, d2 8 [37] 3 37, d3 9 [30, 36, 38], d0 10 [39]]
noncomputable def F_spec_hDerived (a0 : Group) (a1 : ByteArray) (a2 : Int) : Option (Int) :=
  ((wloop (σ := Int) (fun s4 =>
  if decide (s4 < 1000) = true then (
  (F_spec_hLabelled a1 [a0.P, a0.Q, a0.G, a2, s4]).bind fun z10 =>
  gd (i64.wrap (a0.P - 1) ≠ 0) <|
  gd (a0.Q ≠ 0) <|
  (F_spec_nPower (i64.wrap (1 + (z10.tmod (i64.wrap (a0.P - 1))))) (i64.wrap ((i64.wrap (a0.P - 1)).tdiv a0.Q)) a0.P).bind fun z11 =>
  if (z11 != 1) = true then (
  some (.out (.inr z11))) else (
  some (.go (i64.wrap (s4 + 1))))) else (
  some (.out (.inl ())))) 0 : Option (Unit ⊕ Int)).bind (Sum.elim (fun x3 =>
  some 0) some))
theorem c_spec_hDerived : ∀ {a0} {a1} {a2} {r}, F_spec_hDerived a0 a1 a2 = some r → PCalls Tryz.prog 98 [(.sh, .agg [.int .i64 a0.P, .int .i64 a0.Q, .int .i64 a0.G]), (.sh, .str a1), (.sh, .int .i64 a2)] (Eo (.int .i64 r) [.junk, .junk, .junk]) := by
  intro a0 a1 a2 r hr
  apply pF 43 [] [] [] [.tmp 6] hr cl98 Tryz.func98
  intro Φ hΦ hF g
  unfold F_spec_hDerived at hF
  iterate 2 (try simp [go_sem, g]; refine pw_wk ?_)
  repeat rw [sq]
  refine pJs hF (fun x3 => []) (fun x3 hF => ?_) fun _ hj1 hr2 hF => ?_
  ·cases hΦ _ (Rn_some hF)
   try simp [go_sem, g]
   refine pw_wk ?_
   try simp [go_sem, g]
  ·repeat rw [sq]
   rw [pw_block]
   obtain ⟨b13, hb14, hψ8⟩ := hF
   refine pL hb14 (fun s4 => [(1, .v (.str a1)), (2, .v (.int .i64 a2)), (3, .bl [.int .i64 a0.P, .int .i64 a0.Q, .int .i64 a0.G]), (7, .v (.int .i64 s4))]) (fun s4 _ _ ho6 hg7 hF => ?_)
   try simp [go_sem, g]
   refine pw_wk ?_
   repeat rw [sq]
   refine pI hF (fun h9 hF => ?_) (fun h9 hF => ?_)
   ·try simp [go_sem, g]
    refine pw_wk ?_
    repeat rw [sq]
    rw [pw_block]
    repeat rw [sq]
    refine pw_draw D98_4 follows (by kernel_rfl) rfl ?_
    try simp only [go_sem, D98_4]
    try simp [go_sem, g]
    refine pC hF [.sh, .sh] c_spec_hLabelled (fun z10 hF => ?_)
    obtain ⟨g, hF⟩ := Rz g hF
    try simp [go_sem, g]
    refine pw_wkK [1, 2, 3, 7, 8] (by simp [go_sem, g]; rfl) ?_
    repeat rw [sq]
    refine pw_draw D98_5 follows (by kernel_rfl) rfl ?_
    try simp only [go_sem, D98_5]
    obtain ⟨g, hF⟩ := Rz g hF
    try simp [go_sem, g]
    refine pC hF [.sh, .sh, .sh] c_spec_nPower (fun z11 hF => ?_)
    try simp [go_sem, g]
    refine pw_wkK [1, 2, 3, 7, 9] (by simp [go_sem, g]; rfl) ?_
    try simp [go_sem, g]
    refine pw_wk ?_
    repeat rw [sq]
    refine pI hF (fun h12 hF => ?_) (fun h12 hF => ?_)
    ·cases ho6 _ (Rn_some hF)
     cases hΦ _ (hr2 _ hψ8)
     try simp [go_sem, g]
     refine pw_wk ?_
     try simp [go_sem, g]
    ·try simp [go_sem, g]
     refine pw_wk ?_
     try simp [go_sem, g]
     exact pT (hg7 (i64.wrap (s4 + 1))) (Rn_some hF)
   ·try simp [go_sem, g]
    cases ho6 _ (Rn_some hF)
    exact pT (hj1 ()) hψ8
noncomputable def F_spec_DeriveElement (a0 : Group) (a1 : ByteArray) (a2 : Int) : Option (Int × Bool) :=
  (((F_spec_l2Good a0).bind fun z4 =>
  if (!z4) = true then (
  some true) else (
  if decide (40 < (a1.size : Int)) = true then (
  some true) else (
  (F_spec_l3Digest a2).bind fun z7 =>
  some (!z7))) : Option (Bool)).bind fun x3 =>
  if x3 = true then (
  some (0, false)) else (
  (F_spec_hDerived a0 a1 a2).bind fun z9 =>
  some (z9, decide (0 < z9))))
theorem c_spec_DeriveElement : ∀ {a0} {a1} {a2} {r}, F_spec_DeriveElement a0 a1 a2 = some r → PCalls Tryz.prog 84 [(.sh, .agg [.int .i64 a0.P, .int .i64 a0.Q, .int .i64 a0.G]), (.sh, .str a1), (.sh, .int .i64 a2)] (Eo (.tup [.int .i64 r.1, .bool r.2]) [.junk, .junk, .junk]) := by
  intro a0 a1 a2 r hr
  apply pF 29 [] [] [] [.tmp 6, .tmp 7] hr cl84 Tryz.func84
  intro Φ hΦ hF g
  unfold F_spec_DeriveElement at hF
  try simp [go_sem, g]
  refine pw_wk ?_
  repeat rw [sq]
  refine pJ hF (fun x3 => [(1, .v (.str a1)), (2, .v (.int .i64 a2)), (3, .bl [.int .i64 a0.P, .int .i64 a0.Q, .int .i64 a0.G]), (21, .v (.bool x3))]) (fun x3 hF => ?_) fun _ hj1 hF => ?_
  ·repeat rw [sq]
   refine pI hF (fun h8 hF => ?_) (fun h8 hF => ?_)
   ·cases hΦ _ (Rn_some hF)
    try simp [go_sem, g]
    refine pw_wk ?_
    try simp [go_sem, g]
   ·try simp [go_sem, g]
    refine pw_wk ?_
    try simp [go_sem, g]
    refine pC hF [.sh, .sh, .sh] c_spec_hDerived (fun z9 hF => ?_)
    try simp [go_sem, g]
    refine pw_wk ?_
    try simp [go_sem, g]
    refine pw_wkK [6, 7] (by simp [go_sem, g]; rfl) ?_
    cases hΦ _ (Rn_some hF)
    try simp [go_sem, g]
  ·try simp [go_sem, g]
   refine pC hF [.sh] c_spec_l2Good (fun z4 hF => ?_)
   try simp [go_sem, g]
   refine pwg_F hF (fun h5 hF => ?_) fun h5 hF => ?_
   ·try simp [go_sem, g, h5]
    exact pT (hj1 true) (Rn_some hF)
   ·try simp [go_sem, g, h5]
    refine pwg_F hF (fun h6 hF => ?_) fun h6 hF => ?_
    ·try simp [go_sem, g, h6]
     exact pT (hj1 true) (Rn_some hF)
    ·try simp [go_sem, g, h6]
     refine pC hF [.sh] c_spec_l3Digest (fun z7 hF => ?_)
     try simp [go_sem, g, h6]
     exact pT (hj1 (!z7)) (Rn_some hF)
noncomputable def F_spec_DeriveElements (a0 : Group) (a1 : ByteArray) (a2 : Int) : Option ((List Int) × Bool) :=
  (((F_spec_l2Good a0).bind fun z4 =>
  if (!z4) = true then (
  some true) else (
  if decide (40 < (a1.size : Int)) = true then (
  some true) else (
  (F_spec_l1In a2 0 100).bind fun z7 =>
  some (!z7))) : Option (Bool)).bind fun x3 =>
  if x3 = true then (
  some ([], false)) else (
  ((wloop (σ := (List Int) × Int) (fun s12 =>
  if decide (s12.2 < a2) = true then (
  (F_spec_hDerived a0 a1 s12.2).bind fun z18 =>
  if (z18 == 0) = true then (
  some (.out (.inr ([], false)))) else (
  gd ((s12.1.length + 1) * 8 ≤ 140737488355328 ∧ s12.1.length + 1 ≤ 4611686018427387904) <|
  some (.go (s12.1 ++ [z18], i64.wrap (s12.2 + 1))))) else (
  some (.out (.inl s12.1)))) ([], 0) : Option ((List Int) ⊕ ((List Int) × Bool))).bind (Sum.elim (fun x11 =>
  some (x11, true)) some))))
theorem c_spec_DeriveElements : ∀ {a0} {a1} {a2} {r}, F_spec_DeriveElements a0 a1 a2 = some r → PCalls Tryz.prog 85 [(.sh, .agg [.int .i64 a0.P, .int .i64 a0.Q, .int .i64 a0.G]), (.sh, .str a1), (.sh, .int .i64 a2)] (Eo (.tup [.sl true 1 (r.1.map row_i64), .bool r.2]) [.junk, .junk, .junk]) := by
  intro a0 a1 a2 r hr
  apply pF 40 [] [] [] [.tmp 6, .tmp 7] hr cl85 Tryz.func85
  intro Φ hΦ hF g
  unfold F_spec_DeriveElements at hF
  try simp [go_sem, g]
  refine pw_wk ?_
  repeat rw [sq]
  refine pJ hF (fun x3 => [(1, .v (.str a1)), (2, .v (.int .i64 a2)), (3, .bl [.int .i64 a0.P, .int .i64 a0.Q, .int .i64 a0.G]), (23, .v (.bool x3))]) (fun x3 hF => ?_) fun _ hj1 hF => ?_
  ·repeat rw [sq]
   refine pI hF (fun h8 hF => ?_) (fun h8 hF => ?_)
   ·cases hΦ _ (Rn_some hF)
    try simp [go_sem, g]
    refine pw_wk ?_
    try simp [go_sem, g]
   ·iterate 3 (try simp [go_sem, g]; refine pw_wk ?_)
    repeat rw [sq]
    refine pJs hF (fun x11 => [(8, .v (.sl true 1 (x11.map row_i64)))]) (fun x11 hF => ?_) fun _ hj9 hr10 hF => ?_
    ·cases hΦ _ (Rn_some hF)
     try simp [go_sem, g]
     refine pw_wk ?_
     try simp [go_sem, g]
    ·repeat rw [sq]
     rw [pw_block]
     obtain ⟨b20, hb21, hψ16⟩ := hF
     refine pL hb21 (fun s12 => [(1, .v (.str a1)), (2, .v (.int .i64 a2)), (3, .bl [.int .i64 a0.P, .int .i64 a0.Q, .int .i64 a0.G]), (8, .v (.sl true 1 (s12.1.map row_i64))), (9, .v (.int .i64 s12.2))]) (fun s12 _ _ ho14 hg15 hF => ?_)
     try simp [go_sem, g]
     refine pw_wk ?_
     repeat rw [sq]
     refine pI hF (fun h17 hF => ?_) (fun h17 hF => ?_)
     ·try simp [go_sem, g]
      refine pw_wk ?_
      repeat rw [sq]
      rw [pw_block]
      try simp [go_sem, g]
      refine pC hF [.sh, .sh, .sh] c_spec_hDerived (fun z18 hF => ?_)
      try simp [go_sem, g]
      refine pw_wkK [1, 2, 3, 8, 9, 10] (by simp [go_sem, g]; rfl) ?_
      try simp [go_sem, g]
      refine pw_wk ?_
      repeat rw [sq]
      refine pI hF (fun h19 hF => ?_) (fun h19 hF => ?_)
      ·cases ho14 _ (Rn_some hF)
       cases hΦ _ (hr10 _ hψ16)
       try simp [go_sem, g]
       refine pw_wk ?_
       try simp [go_sem, g]
      ·obtain ⟨g, hF⟩ := Rg g hF
       iterate 2 (try simp [go_sem, g]; refine pw_wk ?_)
       try simp [go_sem, g]
       exact pT (hg15 (s12.1 ++ [z18], i64.wrap (s12.2 + 1))) (Rn_some hF)
     ·try simp [go_sem, g]
      cases ho14 _ (Rn_some hF)
      exact pT (hj9 s12.1) hψ16
  ·try simp [go_sem, g]
   refine pC hF [.sh] c_spec_l2Good (fun z4 hF => ?_)
   try simp [go_sem, g]
   refine pwg_F hF (fun h5 hF => ?_) fun h5 hF => ?_
   ·try simp [go_sem, g, h5]
    exact pT (hj1 true) (Rn_some hF)
   ·try simp [go_sem, g, h5]
    refine pwg_F hF (fun h6 hF => ?_) fun h6 hF => ?_
    ·try simp [go_sem, g, h6]
     exact pT (hj1 true) (Rn_some hF)
    ·try simp [go_sem, g, h6]
     refine pC hF [.sh, .sh, .sh] c_spec_l1In (fun z7 hF => ?_)
     try simp [go_sem, g, h6]
     exact pT (hj1 (!z7)) (Rn_some hF)
noncomputable def F_spec_BasesOf (a0 : Group) (a1 : Int) : Option (Bases × Bool) :=
  (((F_spec_l2Good a0).bind fun z4 =>
  if (!z4) = true then (
  some true) else (
  (F_spec_l1In a1 0 24).bind fun z6 =>
  some (!z6)) : Option (Bool)).bind fun x3 =>
  if x3 = true then (
  some ((Bases.mk 0 []), false)) else (
  (F_spec_DeriveElement a0 (⟨#[104]⟩ : ByteArray) 0).bind fun z8 =>
  (F_spec_DeriveElements a0 (⟨#[104, 115]⟩ : ByteArray) a1).bind fun z9 =>
  ((if (!z8.2) = true then (
  some true) else (
  some (!z9.2)) : Option (Bool)).bind fun x12 =>
  if x12 = true then (
  some ((Bases.mk 0 []), false)) else (
  some ((Bases.mk z8.1 z9.1), true)))))
theorem c_spec_BasesOf : ∀ {a0} {a1} {r}, F_spec_BasesOf a0 a1 = some r → PCalls Tryz.prog 69 [(.sh, .agg [.int .i64 a0.P, .int .i64 a0.Q, .int .i64 a0.G]), (.sh, .int .i64 a1)] (Eo (.tup [.agg [.int .i64 r.1.H, .sl true 1 (r.1.Hs.map row_i64)], .bool r.2]) [.junk, .junk]) := by
  intro a0 a1 r hr
  apply pF 40 [] [] [] [.cell 4 110, .tmp 5] hr cl69 Tryz.func69
  intro Φ hΦ hF g
  unfold F_spec_BasesOf at hF
  try simp [go_sem, g]
  refine pw_wk ?_
  repeat rw [sq]
  refine pJ hF (fun x3 => [(1, .v (.int .i64 a1)), (2, .bl [.int .i64 a0.P, .int .i64 a0.Q, .int .i64 a0.G]), (4, .bl [.int .i64 0, .sl true 1 []]), (17, .v (.bool x3))]) (fun x3 hF => ?_) fun _ hj1 hF => ?_
  ·repeat rw [sq]
   refine pI hF (fun h7 hF => ?_) (fun h7 hF => ?_)
   ·cases hΦ _ (Rn_some hF)
    try simp [go_sem, g]
    refine pw_wk ?_
    try simp [go_sem, g]
   ·try simp [go_sem, g]
    refine pw_wk ?_
    try simp [go_sem, g]
    refine pC hF [.sh, .sh, .sh] c_spec_DeriveElement (fun z8 hF => ?_)
    try simp [go_sem, g]
    refine pw_wkK [1, 2, 4, 6, 7] (by simp [go_sem, g]; rfl) ?_
    try simp [go_sem, g]
    refine pC hF [.sh, .sh, .sh] c_spec_DeriveElements (fun z9 hF => ?_)
    try simp [go_sem, g]
    refine pw_wk ?_
    repeat rw [sq]
    refine pJ hF (fun x12 => [(4, .bl [.int .i64 0, .sl true 1 []]), (6, .v (.int .i64 z8.1)), (8, .v (.sl true 1 (z9.1.map row_i64))), (35, .v (.bool x12))]) (fun x12 hF => ?_) fun _ hj10 hF => ?_
    ·repeat rw [sq]
     refine pI hF (fun h14 hF => ?_) (fun h14 hF => ?_)
     ·try simp [go_sem, g]
      refine pw_wkK [4, 5] (by simp [go_sem, g]; rfl) ?_
      cases hΦ _ (Rn_some hF)
      try simp [go_sem, g]
     ·try simp [go_sem, g]
      refine pw_wk ?_
      try simp [go_sem, g]
      refine pw_wkK [4, 5] (by simp [go_sem, g]; rfl) ?_
      cases hΦ _ (Rn_some hF)
      try simp [go_sem, g]
    ·try simp [go_sem, g]
     refine pwg_F hF (fun h13 hF => ?_) fun h13 hF => ?_
     ·try simp [go_sem, g, h13]
      exact pT (hj10 true) (Rn_some hF)
     ·try simp [go_sem, g, h13]
      exact pT (hj10 (!z9.2)) (Rn_some hF)
  ·try simp [go_sem, g]
   refine pC hF [.sh] c_spec_l2Good (fun z4 hF => ?_)
   try simp [go_sem, g]
   refine pwg_F hF (fun h5 hF => ?_) fun h5 hF => ?_
   ·try simp [go_sem, g, h5]
    exact pT (hj1 true) (Rn_some hF)
   ·try simp [go_sem, g, h5]
    refine pC hF [.sh, .sh, .sh] c_spec_l1In (fun z6 hF => ?_)
    try simp [go_sem, g, h5]
    exact pT (hj1 (!z6)) (Rn_some hF)
def D42_3 : List DE := [d1 0 [1] 1, d2 1 [48] 1 48, d3 2 [49], d0 3 [50], d1 4 [1, 51] 1, d2 5 [52, 51] 1 52, d1 6 [1, 51] 1, d2 7 [54, 51] 1 54, d1 10 [1, 51] 1, d1 11 [58, 51] 1, d2 12 [59, 51] 1 59, d3 8 [55, 51], d0 9 [53, 56, 51], d0 13 [57, 60, 51], d0 14 [51, 61]]
noncomputable def F_spec_nPlan (a0 : Plan) : Option (Bool) :=
  (((F_spec_bGood a0.Gr a0.Ct).bind fun z4 =>
  if (!z4) = true then (
  some true) else (
  (F_spec_l1In a0.Threshold 1 a0.Trustees).bind fun z6 =>
  if (!z6) = true then (
  some true) else (
  if decide (4 < a0.Trustees) = true then (
  some true) else (
  if decide (a0.Gr.Q ≤ 7) = true then (
  some true) else (
  (F_spec_l1In a0.Mixers 0 3).bind fun z10 =>
  if (!z10) = true then (
  some true) else (
  (F_spec_l1In a0.Voters 1 12).bind fun z12 =>
  if (!z12) = true then (
  some true) else (
  (F_spec_l3Digest a0.Seed).bind fun z14 =>
  some (!z14))))))) : Option (Bool)).bind fun x3 =>
  if x3 = true then (
  some false) else (
  (((F_spec_bRows a0.Ct).bind fun z19 =>
  if z19 = true then (
  (F_spec_bTop a0.Ct).bind fun z21 =>
  some (decide (a0.Gr.Q ≤ (i64.wrap (a0.Voters * z21))))) else (
  some false) : Option (Bool)).bind fun x18 =>
  if x18 = true then (
  some false) else (
  (F_spec_BasesOf a0.Gr 12).bind fun z23 =>
  some z23.2))))
theorem c_spec_nPlan : ∀ {a0} {r}, F_spec_nPlan a0 = some r → PCalls Tryz.prog 42 [(.sh, .agg [.int .i64 a0.Gr.P, .int .i64 a0.Gr.Q, .int .i64 a0.Gr.G, .int .i64 a0.Ct.Kind, .int .i64 a0.Ct.Options, .int .i64 a0.Ct.Least, .int .i64 a0.Ct.Most, .int .i64 a0.Ct.Points, .int .i64 a0.Threshold, .int .i64 a0.Trustees, .int .i64 a0.Mixers, .int .i64 a0.Voters, .int .i64 a0.Seed])] (Eo (.bool r) [.junk]) := by
  intro a0 r hr
  apply pF 70 [] [] [] [.tmp 2] hr cl42 Tryz.func42
  intro Φ hΦ hF g
  unfold F_spec_nPlan at hF
  try simp [go_sem, g]
  refine pw_wk ?_
  repeat rw [sq]
  refine pJ hF (fun x3 => [(1, .bl [.int .i64 a0.Gr.P, .int .i64 a0.Gr.Q, .int .i64 a0.Gr.G, .int .i64 a0.Ct.Kind, .int .i64 a0.Ct.Options, .int .i64 a0.Ct.Least, .int .i64 a0.Ct.Most, .int .i64 a0.Ct.Points, .int .i64 a0.Threshold, .int .i64 a0.Trustees, .int .i64 a0.Mixers, .int .i64 a0.Voters, .int .i64 a0.Seed]), (47, .v (.bool x3))]) (fun x3 hF => ?_) fun _ hj1 hF => ?_
  ·repeat rw [sq]
   refine pI hF (fun h15 hF => ?_) (fun h15 hF => ?_)
   ·cases hΦ _ (Rn_some hF)
    try simp [go_sem, g]
    refine pw_wk ?_
    try simp [go_sem, g]
   ·try simp [go_sem, g]
    refine pw_wk ?_
    repeat rw [sq]
    refine pJ hF (fun x18 => [(1, .bl [.int .i64 a0.Gr.P, .int .i64 a0.Gr.Q, .int .i64 a0.Gr.G, .int .i64 a0.Ct.Kind, .int .i64 a0.Ct.Options, .int .i64 a0.Ct.Least, .int .i64 a0.Ct.Most, .int .i64 a0.Ct.Points, .int .i64 a0.Threshold, .int .i64 a0.Trustees, .int .i64 a0.Mixers, .int .i64 a0.Voters, .int .i64 a0.Seed]), (62, .v (.bool x18))]) (fun x18 hF => ?_) fun _ hj16 hF => ?_
    ·repeat rw [sq]
     refine pI hF (fun h22 hF => ?_) (fun h22 hF => ?_)
     ·cases hΦ _ (Rn_some hF)
      try simp [go_sem, g]
      refine pw_wk ?_
      try simp [go_sem, g]
     ·try simp [go_sem, g]
      refine pw_wk ?_
      try simp [go_sem, g]
      refine pC hF [.sh, .sh] c_spec_BasesOf (fun z23 hF => ?_)
      try simp [go_sem, g]
      refine pw_wkK [4] (by simp [go_sem, g]; rfl) ?_
      cases hΦ _ (Rn_some hF)
      try simp [go_sem, g]
      refine pw_wk ?_
      try simp [go_sem, g]
    ·repeat rw [sq]
     refine pw_draw D42_3 follows (by kernel_rfl) rfl ?_
     try simp only [go_sem, D42_3]
     try simp [go_sem, g]
     refine pC hF [.sh] c_spec_bRows (fun z19 hF => ?_)
     try simp [go_sem, g]
     refine pwgD_F hF (fun h20 hF => ?_) fun h20 hF => ?_
     ·try simp [go_sem, g, h20]
      refine pC hF [.sh] c_spec_bTop (fun z21 hF => ?_)
      try simp [go_sem, g, h20]
      exact pT (hj16 (decide (a0.Gr.Q ≤ (i64.wrap (a0.Voters * z21))))) (Rn_some hF)
     ·try simp [go_sem, g, h20]
      exact pT (hj16 false) (Rn_some hF)
  ·try simp [go_sem, g]
   refine pC hF [.sh, .sh] c_spec_bGood (fun z4 hF => ?_)
   try simp [go_sem, g]
   refine pwg_F hF (fun h5 hF => ?_) fun h5 hF => ?_
   ·try simp [go_sem, g, h5]
    exact pT (hj1 true) (Rn_some hF)
   ·try simp [go_sem, g, h5]
    refine pC hF [.sh, .sh, .sh] c_spec_l1In (fun z6 hF => ?_)
    try simp [go_sem, g, h5]
    refine pwg_F hF (fun h7 hF => ?_) fun h7 hF => ?_
    ·try simp [go_sem, g, h7]
     exact pT (hj1 true) (Rn_some hF)
    ·try simp [go_sem, g, h7]
     refine pwg_F hF (fun h8 hF => ?_) fun h8 hF => ?_
     ·try simp [go_sem, g, h8]
      exact pT (hj1 true) (Rn_some hF)
     ·try simp [go_sem, g, h8]
      refine pwg_F hF (fun h9 hF => ?_) fun h9 hF => ?_
      ·try simp [go_sem, g, h9]
       exact pT (hj1 true) (Rn_some hF)
      ·try simp [go_sem, g, h9]
       refine pC hF [.sh, .sh, .sh] c_spec_l1In (fun z10 hF => ?_)
       try simp [go_sem, g, h9]
       refine pwg_F hF (fun h11 hF => ?_) fun h11 hF => ?_
       ·try simp [go_sem, g, h11]
        exact pT (hj1 true) (Rn_some hF)
       ·try simp [go_sem, g, h11]
        refine pC hF [.sh, .sh, .sh] c_spec_l1In (fun z12 hF => ?_)
        try simp [go_sem, g, h11]
        refine pwg_F hF (fun h13 hF => ?_) fun h13 hF => ?_
        ·try simp [go_sem, g, h13]
         exact pT (hj1 true) (Rn_some hF)
        ·try simp [go_sem, g, h13]
         refine pC hF [.sh] c_spec_l3Digest (fun z14 hF => ?_)
         try simp [go_sem, g, h13]
         exact pT (hj1 (!z14)) (Rn_some hF)
noncomputable def F_spec_nAuthors (a0 : Plan) : Option (Int) :=
  some (i64.wrap ((i64.wrap ((i64.wrap (1 + a0.Trustees)) + a0.Mixers)) + a0.Voters))
theorem c_spec_nAuthors : ∀ {a0} {r}, F_spec_nAuthors a0 = some r → PCalls Tryz.prog 43 [(.sh, .agg [.int .i64 a0.Gr.P, .int .i64 a0.Gr.Q, .int .i64 a0.Gr.G, .int .i64 a0.Ct.Kind, .int .i64 a0.Ct.Options, .int .i64 a0.Ct.Least, .int .i64 a0.Ct.Most, .int .i64 a0.Ct.Points, .int .i64 a0.Threshold, .int .i64 a0.Trustees, .int .i64 a0.Mixers, .int .i64 a0.Voters, .int .i64 a0.Seed])] (Eo (.int .i64 r) [.junk]) := by
  intro a0 r hr
  apply pF 12 [] [] [] [.tmp 2] hr cl43 Tryz.func43
  intro Φ hΦ hF g
  unfold F_spec_nAuthors at hF
  try simp [go_sem, g]
  refine pw_wk ?_
  try simp [go_sem, g]
  refine pw_wkK [2] (by simp [go_sem, g]; rfl) ?_
  cases hΦ _ (Rn_some hF)
  try simp [go_sem, g]
def D28_10 : List DE := [d2 0 [11] 11 11, d0 1 [9], d0 2 [77], d2 3 [11, 78] 11 11, d3 4 [79, 78], d0 5 [78, 80], d0 6 [81], d2 7 [11, 82] 11 11, d1 9 [3, 82] 3, d2 10 [85, 82] 3 85, d0 11 [86, 82], d3 8 [83, 82], d0 12 [84, 87, 82], d0 13 [82, 88], d2 14 [4, 76] 4 4, d0 15 [89]]
def D28_9 : List DE := [d2 0 [2] 2 2, d2 1 [8] 8 8, d0 2 [10], d0 3 [63], d0 4 [64], d0 5 [10], d0 6 [66], d0 7 [67], d0 8 [10], d0 9 [69], d0 10 [70], d0 11 [10], d0 12 [72], d0 13 [73], d0 14 [61, 62, 65, 68, 71, 74], d0 15 [], d2 16 [11, 75] 11 11]
noncomputable def F_spec_uOpen (a0 : Group) (a1 : Board) : Option (Plan × Bool) :=
  (((F_spec_l2Good a0).bind fun z4 =>
  if (!z4) = true then (
  some true) else (
  (F_spec_oBoard a0 a1).bind fun z6 =>
  if (!z6) = true then (
  some true) else (
  some ((a1.Entries.length : Int) == 0))) : Option (Bool)).bind fun x3 =>
  if x3 = true then (
  some ((Plan.mk (Group.mk 0 0 0) (Contest.mk 0 0 0 0 0) 0 0 0 0 0), false)) else (
  (ix a1.Entries 0).bind fun x9 =>
  ((if (x9.Kind != 1) = true then (
  some true) else (
  if (x9.Author != 0) = true then (
  some true) else (
  some (decide ((i64.wrap ((x9.Data.length : Int) - 4)) < 0)))) : Option (Bool)).bind fun x12 =>
  if x12 = true then (
  some ((Plan.mk (Group.mk 0 0 0) (Contest.mk 0 0 0 0 0) 0 0 0 0 0), false)) else (
  gd (0 ≤ (i64.wrap ((x9.Data.length : Int) - 4))) <|
  gd (0 ≤ (i64.wrap ((x9.Data.length : Int) - 4)).toNat ∧ (i64.wrap ((x9.Data.length : Int) - 4)).toNat ≤ x9.Data.length) <|
  (F_spec_vContestOf ((x9.Data.take ((i64.wrap ((x9.Data.length : Int) - 4)).toNat)).drop 0)).bind fun z16 =>
  gd (0 ≤ (i64.wrap ((x9.Data.length : Int) - 4))) <|
  gd ((i64.wrap ((x9.Data.length : Int) - 4)).toNat ≤ x9.Data.length ∧ x9.Data.length ≤ x9.Data.length) <|
  (ix ((x9.Data.take x9.Data.length).drop ((i64.wrap ((x9.Data.length : Int) - 4)).toNat)) 0).bind fun x17 =>
  (ix ((x9.Data.take x9.Data.length).drop ((i64.wrap ((x9.Data.length : Int) - 4)).toNat)) 1).bind fun x18 =>
  (ix ((x9.Data.take x9.Data.length).drop ((i64.wrap ((x9.Data.length : Int) - 4)).toNat)) 2).bind fun x19 =>
  (ix ((x9.Data.take x9.Data.length).drop ((i64.wrap ((x9.Data.length : Int) - 4)).toNat)) 3).bind fun x20 =>
  ((if z16.2 = true then (
  (F_spec_nPlan (Plan.mk a0 z16.1 x17 x18 x19 x20 0)).bind fun z25 =>
  if z25 = true then (
  (F_spec_nAuthors (Plan.mk a0 z16.1 x17 x18 x19 x20 0)).bind fun z27 =>
  some (z27 == (a1.Keys.length : Int))) else (
  some false)) else (
  some false) : Option (Bool)).bind fun x23 =>
  some ((Plan.mk a0 z16.1 x17 x18 x19 x20 0), x23))))))
theorem c_spec_uOpen : ∀ {a0} {a1} {r}, F_spec_uOpen a0 a1 = some r → PCalls Tryz.prog 28 [(.sh, .agg [.int .i64 a0.P, .int .i64 a0.Q, .int .i64 a0.G]), (.sh, .agg [.sl false 1 (a1.Keys.map row_i64), .sl false 6 (a1.Entries.map row_Entry_z)])] (Eo (.tup [.agg [.int .i64 r.1.Gr.P, .int .i64 r.1.Gr.Q, .int .i64 r.1.Gr.G, .int .i64 r.1.Ct.Kind, .int .i64 r.1.Ct.Options, .int .i64 r.1.Ct.Least, .int .i64 r.1.Ct.Most, .int .i64 r.1.Ct.Points, .int .i64 r.1.Threshold, .int .i64 r.1.Trustees, .int .i64 r.1.Mixers, .int .i64 r.1.Voters, .int .i64 r.1.Seed], .bool r.2]) [.junk, .junk]) := by
  intro a0 a1 r hr
  apply pF 90 [] [] [] [.cell 4 46, .tmp 5] hr cl28 Tryz.func28
  intro Φ hΦ hF g
  unfold F_spec_uOpen at hF
  try simp [go_sem, g]
  refine pw_wk ?_
  repeat rw [sq]
  refine pJ hF (fun x3 => [(2, .bl [.int .i64 a0.P, .int .i64 a0.Q, .int .i64 a0.G]), (3, .bl [.sl false 1 (a1.Keys.map row_i64), .sl false 6 (a1.Entries.map row_Entry_z)]), (4, .bl [.int .i64 0, .int .i64 0, .int .i64 0, .int .i64 0, .int .i64 0, .int .i64 0, .int .i64 0, .int .i64 0, .int .i64 0, .int .i64 0, .int .i64 0, .int .i64 0, .int .i64 0]), (26, .v (.bool x3))]) (fun x3 hF => ?_) fun _ hj1 hF => ?_
  ·repeat rw [sq]
   refine pI hF (fun h8 hF => ?_) (fun h8 hF => ?_)
   ·cases hΦ _ (Rn_some hF)
    try simp [go_sem, g]
    refine pw_wk ?_
    try simp [go_sem, g]
   ·obtain ⟨x9, g, hF⟩ := Rxn g 0 hF
    try simp [go_sem, g]
    refine pw_wk ?_
    try simp [go_sem, g]
    refine pw_wkK [2, 3, 4, 6] (by simp [go_sem, g]; rfl) ?_
    try simp [go_sem, g]
    try intros
    refine pw_wk ?_
    repeat rw [sq]
    refine pJ hF (fun x12 => [(2, .bl [.int .i64 a0.P, .int .i64 a0.Q, .int .i64 a0.G]), (3, .bl [.sl false 1 (a1.Keys.map row_i64), .sl false 6 (a1.Entries.map row_Entry_z)]), (4, .bl [.int .i64 0, .int .i64 0, .int .i64 0, .int .i64 0, .int .i64 0, .int .i64 0, .int .i64 0, .int .i64 0, .int .i64 0, .int .i64 0, .int .i64 0, .int .i64 0, .int .i64 0]), (6, .bl [.int .i64 x9.Kind, .int .i64 x9.Author, .sl false 1 (x9.Data.map row_i64), .sl false 1 (x9.Sign.Commits.map row_i64), .sl false 1 (x9.Sign.Challenges.map row_i64), .sl false 1 (x9.Sign.Responses.map row_i64)]), (7, .v (.int .i64 (i64.wrap ((x9.Data.length : Int) - 4)))), (47, .v (.bool x12))]) (fun x12 hF => ?_) fun _ hj10 hF => ?_
    ·repeat rw [sq]
     refine pI hF (fun h15 hF => ?_) (fun h15 hF => ?_)
     ·cases hΦ _ (Rn_some hF)
      try simp [go_sem, g]
      refine pw_wk ?_
      try simp [go_sem, g]
     ·obtain ⟨g, hF⟩ := Rg g hF
      obtain ⟨g, hF⟩ := Rg g hF
      try simp [go_sem, g]
      refine pw_wk ?_
      try simp [go_sem, g]
      refine pC hF [.sh] c_spec_vContestOf (fun z16 hF => ?_)
      try simp [go_sem, g]
      refine pw_wkK [2, 3, 4, 6, 7, 8, 9] (by simp [go_sem, g]; rfl) ?_
      obtain ⟨g, hF⟩ := Rg g hF
      obtain ⟨g, hF⟩ := Rg g hF
      try simp [go_sem, g]
      refine pw_wk ?_
      repeat rw [sq]
      refine pw_draw D28_9 follows (by kernel_rfl) rfl ?_
      try simp only [go_sem, D28_9]
      obtain ⟨x17, g, hF⟩ := Rxnq g 0 hF
      obtain ⟨x18, g, hF⟩ := Rxnq g 1 hF
      obtain ⟨x19, g, hF⟩ := Rxnq g 2 hF
      obtain ⟨x20, g, hF⟩ := Rxnq g 3 hF
      try simp [go_sem, g]
      refine pw_wkK [3, 4, 9, 11] (by simp [go_sem, g]; rfl) ?_
      repeat rw [sq]
      refine pJ hF (fun x23 => [(4, .bl [.int .i64 a0.P, .int .i64 a0.Q, .int .i64 a0.G, .int .i64 z16.1.Kind, .int .i64 z16.1.Options, .int .i64 z16.1.Least, .int .i64 z16.1.Most, .int .i64 z16.1.Points, .int .i64 x17, .int .i64 x18, .int .i64 x19, .int .i64 x20, .int .i64 0]), (5, .v (.bool x23))]) (fun x23 hF => ?_) fun _ hj21 hF => ?_
      ·cases hΦ _ (Rn_some hF)
       try simp [go_sem, g]
      ·repeat rw [sq]
       refine pw_draw D28_10 follows (by kernel_rfl) rfl ?_
       try simp only [go_sem, D28_10]
       try simp [go_sem, g]
       refine pwgD_F hF (fun h24 hF => ?_) fun h24 hF => ?_
       ·try simp [go_sem, g, h24]
        refine pC hF [.sh] c_spec_nPlan (fun z25 hF => ?_)
        try simp [go_sem, g, h24]
        refine pwgD_F hF (fun h26 hF => ?_) fun h26 hF => ?_
        ·try simp [go_sem, g, h26]
         try intros
         refine pC hF [.sh] c_spec_nAuthors (fun z27 hF => ?_)
         try simp [go_sem, g, h26]
         exact pT (hj21 (z27 == (a1.Keys.length : Int))) (Rn_some hF)
        ·try simp [go_sem, g, h26]
         exact pT (hj21 false) (Rn_some hF)
       ·try simp [go_sem, g, h24]
        exact pT (hj21 false) (Rn_some hF)
    ·try simp [go_sem, g]
     refine pwg_F hF (fun h13 hF => ?_) fun h13 hF => ?_
     ·try simp [go_sem, g, h13]
      exact pT (hj10 true) (Rn_some hF)
     ·try simp [go_sem, g, h13]
      refine pwg_F hF (fun h14 hF => ?_) fun h14 hF => ?_
      ·try simp [go_sem, g, h14]
       exact pT (hj10 true) (Rn_some hF)
      ·try simp [go_sem, g, h14]
       exact pT (hj10 (decide ((i64.wrap ((x9.Data.length : Int) - 4)) < 0))) (Rn_some hF)
  ·try simp [go_sem, g]
   refine pC hF [.sh] c_spec_l2Good (fun z4 hF => ?_)
   try simp [go_sem, g]
   refine pwg_F hF (fun h5 hF => ?_) fun h5 hF => ?_
   ·try simp [go_sem, g, h5]
    exact pT (hj1 true) (Rn_some hF)
   ·try simp [go_sem, g, h5]
    refine pC hF [.sh, .sh] c_spec_oBoard (fun z6 hF => ?_)
    try simp [go_sem, g, h5]
    refine pwg_F hF (fun h7 hF => ?_) fun h7 hF => ?_
    ·try simp [go_sem, g, h7]
     exact pT (hj1 true) (Rn_some hF)
    ·try simp [go_sem, g, h7]
     try intros
     exact pT (hj1 ((a1.Entries.length : Int) == 0)) (Rn_some hF)
noncomputable def F_spec_uFind (a0 : Board) (a1 : Int) (a2 : Int) : Option ((List Int)) :=
  ((rloop (σ := (List Int)) (fun i5 s4 =>
  (((ix a0.Entries i5).bind fun x14 =>
  ((if (x14.Kind == a1) = true then (
  if decide (a2 < 0) = true then (
  some true) else (
  some (x14.Author == a2))) else (
  some false) : Option (Bool)).bind fun x17 =>
  if x17 = true then (
  gd ((s4.length + 1) * 8 ≤ 140737488355328 ∧ s4.length + 1 ≤ 4611686018427387904) <|
  some (s4 ++ [i5])) else (
  some s4)) : Option ((List Int))).bind fun x13 =>
  some (.go x13))) (fun s4 => s4) (a0.Entries.length) 0 [] : Option ((List Int))).bind fun x3 =>
  some x3)
theorem c_spec_uFind : ∀ {a0} {a1} {a2} {r}, F_spec_uFind a0 a1 a2 = some r → PCalls Tryz.prog 44 [(.sh, .agg [.sl false 1 (a0.Keys.map row_i64), .sl false 6 (a0.Entries.map row_Entry_z)]), (.sh, .int .i64 a1), (.sh, .int .i64 a2)] (Eo (.sl true 1 (r.map row_i64)) [.junk, .junk, .junk]) := by
  intro a0 a1 a2 r hr
  apply pF 38 [] [] [] [.tmp 6] hr cl44 Tryz.func44
  intro Φ hΦ hF g
  unfold F_spec_uFind at hF
  iterate 3 (try simp [go_sem, g]; try intros; refine pw_wk ?_)
  repeat rw [sq]
  refine pJ hF (fun x3 => [(7, .v (.sl true 1 (x3.map row_i64)))]) (fun x3 hF => ?_) fun _ hj1 hF => ?_
  ·cases hΦ _ (Rn_some hF)
   try simp [go_sem, g]
   refine pw_wk ?_
   try simp [go_sem, g]
  ·repeat rw [sq]
   rw [pw_block]
   obtain ⟨b21, hb22, hψ8⟩ := hF
   refine pR hb22 (fun i5 s4 => [(1, .v (.int .i64 a1)), (2, .v (.int .i64 a2)), (7, .v (.sl true 1 (s4.map row_i64))), (11, .v (.sl false 6 (a0.Entries.map row_Entry_z))), (12, .v (.int .i64 (a0.Entries.length : Int))), (13, .v (.int .i64 i5))]) (fun s4 _ hN23 => ?_) (fun i5 s4 _ _ hi9 hi10 ho6 hg7 hF => ?_)
   ·subst hN23
    try simp [go_sem]
    refine pw_wk ?_
    repeat rw [sq]
    refine pw_cond_f (by simp [go_sem]) ?_
    try simp [go_sem]
    exact pT (hj1 s4) hψ8 (by simp [go_sem])
   ·try simp [go_sem, g]
    refine pw_wk ?_
    repeat rw [sq]
    refine pw_cond_t (by simp [go_sem, g, hi9, hi10]) ?_
    try simp [go_sem, g]
    refine pw_wk ?_
    repeat rw [sq]
    refine pJ hF (fun x13 => [(1, .v (.int .i64 a1)), (2, .v (.int .i64 a2)), (7, .v (.sl true 1 (x13.map row_i64))), (11, .v (.sl false 6 (a0.Entries.map row_Entry_z))), (12, .v (.int .i64 (a0.Entries.length : Int))), (13, .v (.int .i64 i5))]) (fun x13 hF => ?_) fun _ hj11 hF => ?_
    ·try simp [go_sem, g]
     exact pT (hg7 x13) (Rn_some hF) (by simp [go_sem, g, wr_i hi9 hi10 (by assumption)])
    ·repeat rw [sq]
     rw [pw_block]
     obtain ⟨x14, g, hF⟩ := Rx g hF
     try simp [go_sem, g]
     refine pw_wkK [1, 2, 7, 8, 9, 11, 12, 13] (by simp [go_sem, g]; rfl) ?_
     repeat rw [sq]
     refine pJ hF (fun x17 => [(1, .v (.int .i64 a1)), (2, .v (.int .i64 a2)), (7, .v (.sl true 1 (s4.map row_i64))), (8, .v (.int .i64 i5)), (11, .v (.sl false 6 (a0.Entries.map row_Entry_z))), (12, .v (.int .i64 (a0.Entries.length : Int))), (13, .v (.int .i64 i5)), (31, .v (.bool x17))]) (fun x17 hF => ?_) fun _ hj15 hF => ?_
     ·repeat rw [sq]
      refine pI hF (fun h20 hF => ?_) (fun h20 hF => ?_)
      ·obtain ⟨g, hF⟩ := Rg g hF
       try simp [go_sem, g]
       exact pT (hj11 (s4 ++ [i5])) (Rn_some hF)
      ·try simp [go_sem, g]
       first | exact pT (hj11 s4) (Rn_some hF) | exact pT (hj11 _) (Rn_some hF)
     ·try simp [go_sem, g]
      refine pwg_F hF (fun h18 hF => ?_) fun h18 hF => ?_
      ·try simp [go_sem, g, h18]
       refine pwg_F hF (fun h19 hF => ?_) fun h19 hF => ?_
       ·try simp [go_sem, g, h19, h18]
        exact pT (hj15 true) (Rn_some hF)
       ·try simp [go_sem, g, h19, h18]
        exact pT (hj15 (x14.Author == a2)) (Rn_some hF)
      ·try simp [go_sem, g, h18]
       exact pT (hj15 false) (Rn_some hF)
def D29_12 : List DE := [d1 0 [3] 3, d2 1 [34] 3 34, d0 2 [9], d0 3 [36], d0 4 [37], d0 5 [35, 38], d0 6 [39], d0 7 [40], d0 8 [41]]
def D29_18 : List DE := [d0 0 [6], d0 1 [11], d1 2 [2] 2, d2 3 [63] 2 63, d0 4 [6], d0 5 [11], d0 6 [65, 66], d0 7 [67], d0 8 [12], d0 9 [68, 69], ⟨10, [64, 70], [], none, true, true, true⟩, d0 11 [61, 62], d0 12 [72, 71]]
noncomputable def F_spec_uKeys (a0 : Plan) (a1 : Board) : Option ((List Int) × Bool) :=
  ((wloop (σ := (List Int) × Int) (fun s4 =>
  if decide (s4.2 < a0.Threshold) = true then (
  gd ((s4.1.length + 1) * 8 ≤ 140737488355328 ∧ s4.1.length + 1 ≤ 4611686018427387904) <|
  some (.go (s4.1 ++ [1], i64.wrap (s4.2 + 1)))) else (
  some (.out s4.1))) ([], 0) : Option ((List Int))).bind fun x3 =>
  ((wloop (σ := (List Int) × Int) (fun s58 =>
  if decide (s58.2 ≤ a0.Trustees) = true then (
  (((F_spec_uFind a1 2 s58.2).bind fun z67 =>
  if ((z67.length : Int) != 1) = true then (
  some (.inr (.out (.inr ([], false))))) else (
  (ix z67 0).bind fun x69 =>
  (ix a1.Entries x69).bind fun x70 =>
  ((if ((x70.Data.length : Int) != a0.Threshold) = true then (
  some true) else (
  (F_spec_gIs a0.Gr x70.Data).bind fun z75 =>
  some (!z75)) : Option (Bool)).bind fun x73 =>
  if x73 = true then (
  some (.inr (.out (.inr ([], false))))) else (
  rloop (σ := (List Int)) (fun i88 s87 =>
  (ix x70.Data i88).bind fun x94 =>
  (ix s87 i88).bind fun x95 =>
  (F_spec_gMul a0.Gr [x95, x94]).bind fun z96 =>
  some (.go (s87.set i88.toNat z96))) (fun s87 => .inl s87) (x70.Data.length) 0 s58.1))) : Option ((List Int) ⊕ (Stp ((List Int) × Int) ((List Int) ⊕ ((List Int) × Bool))))).bind (Sum.elim (fun x66 =>
  some (.go (x66, i64.wrap (s58.2 + 1)))) some))) else (
  some (.out (.inl s58.1)))) (x3, 1) : Option ((List Int) ⊕ ((List Int) × Bool))).bind (Sum.elim (fun x14 =>
  some (x14, true)) some)))
theorem c_spec_uKeys : ∀ {a0} {a1} {r}, F_spec_uKeys a0 a1 = some r → PCalls Tryz.prog 29 [(.sh, .agg [.int .i64 a0.Gr.P, .int .i64 a0.Gr.Q, .int .i64 a0.Gr.G, .int .i64 a0.Ct.Kind, .int .i64 a0.Ct.Options, .int .i64 a0.Ct.Least, .int .i64 a0.Ct.Most, .int .i64 a0.Ct.Points, .int .i64 a0.Threshold, .int .i64 a0.Trustees, .int .i64 a0.Mixers, .int .i64 a0.Voters, .int .i64 a0.Seed]), (.sh, .agg [.sl false 1 (a1.Keys.map row_i64), .sl false 6 (a1.Entries.map row_Entry_z)])] (Eo (.tup [.sl true 1 (r.1.map row_i64), .bool r.2]) [.junk, .junk]) := by
  intro a0 a1 r hr
  apply pF 75 [] [] [] [.tmp 4, .tmp 5] hr cl29 Tryz.func29
  intro Φ hΦ hF g
  unfold F_spec_uKeys at hF
  iterate 3 (try simp [go_sem, g]; refine pw_wk ?_)
  repeat rw [sq]
  refine pJ hF (fun x3 => [(2, .bl [.int .i64 a0.Gr.P, .int .i64 a0.Gr.Q, .int .i64 a0.Gr.G, .int .i64 a0.Ct.Kind, .int .i64 a0.Ct.Options, .int .i64 a0.Ct.Least, .int .i64 a0.Ct.Most, .int .i64 a0.Ct.Points, .int .i64 a0.Threshold, .int .i64 a0.Trustees, .int .i64 a0.Mixers, .int .i64 a0.Voters, .int .i64 a0.Seed]), (3, .bl [.sl false 1 (a1.Keys.map row_i64), .sl false 6 (a1.Entries.map row_Entry_z)]), (6, .v (.sl true 1 (x3.map row_i64)))]) (fun x3 hF => ?_) fun _ hj1 hF => ?_
  ·try simp [go_sem, g]
   refine pw_wk ?_
   repeat rw [sq]
   refine pJs hF (fun x14 => [(6, .v (.sl true 1 (x14.map row_i64)))]) (fun x14 hF => ?_) fun _ hj12 hr13 hF => ?_
   ·try simp [go_sem, g]
    refine pw_wkK [4, 5] (by simp [go_sem, g]; rfl) ?_
    cases hΦ _ (Rn_some hF)
    try simp [go_sem, g]
   ·repeat rw [sq]
    rw [pw_block]
    obtain ⟨b101, hb102, hψ62⟩ := hF
    refine pL hb102 (fun s58 => [(2, .bl [.int .i64 a0.Gr.P, .int .i64 a0.Gr.Q, .int .i64 a0.Gr.G, .int .i64 a0.Ct.Kind, .int .i64 a0.Ct.Options, .int .i64 a0.Ct.Least, .int .i64 a0.Ct.Most, .int .i64 a0.Ct.Points, .int .i64 a0.Threshold, .int .i64 a0.Trustees, .int .i64 a0.Mixers, .int .i64 a0.Voters, .int .i64 a0.Seed]), (3, .bl [.sl false 1 (a1.Keys.map row_i64), .sl false 6 (a1.Entries.map row_Entry_z)]), (6, .v (.sl true 1 (s58.1.map row_i64))), (8, .v (.int .i64 s58.2))]) (fun s58 _ _ ho60 hg61 hF => ?_)
    try simp [go_sem, g]
    refine pw_wkK [2, 3, 6, 8, 25] (by simp [go_sem, g]; rfl) ?_
    repeat rw [sq]
    refine pI hF (fun h63 hF => ?_) (fun h63 hF => ?_)
    ·try simp [go_sem, g]
     refine pw_wk ?_
     repeat rw [sq]
     refine pJs hF (fun x66 => [(2, .bl [.int .i64 a0.Gr.P, .int .i64 a0.Gr.Q, .int .i64 a0.Gr.G, .int .i64 a0.Ct.Kind, .int .i64 a0.Ct.Options, .int .i64 a0.Ct.Least, .int .i64 a0.Ct.Most, .int .i64 a0.Ct.Points, .int .i64 a0.Threshold, .int .i64 a0.Trustees, .int .i64 a0.Mixers, .int .i64 a0.Voters, .int .i64 a0.Seed]), (3, .bl [.sl false 1 (a1.Keys.map row_i64), .sl false 6 (a1.Entries.map row_Entry_z)]), (6, .v (.sl true 1 (x66.map row_i64))), (8, .v (.int .i64 s58.2))]) (fun x66 hF => ?_) fun _ hj64 hr65 hF => ?_
     ·try simp [go_sem, g]
      exact pT (hg61 (x66, i64.wrap (s58.2 + 1))) (Rn_some hF)
     ·repeat rw [sq]
      rw [pw_block]
      try simp [go_sem, g]
      refine pC hF [.sh, .sh, .sh] c_spec_uFind (fun z67 hF => ?_)
      iterate 2 (try simp [go_sem, g]; try intros; refine pw_wk ?_)
      repeat rw [sq]
      refine pI hF (fun h68 hF => ?_) (fun h68 hF => ?_)
      ·cases ho60 _ (hr65 _ (Rn_some hF))
       cases hΦ _ (hr13 _ hψ62)
       try simp [go_sem, g]
       refine pw_wk ?_
       try simp [go_sem, g]
      ·try simp [go_sem, g]
       refine pw_wk ?_
       repeat rw [sq]
       refine pw_draw D29_12 follows (by kernel_rfl) rfl ?_
       try simp only [go_sem, D29_12]
       obtain ⟨x69, g, hF⟩ := Rxn g 0 hF
       obtain ⟨x70, g, hF⟩ := Rx g hF
       try simp [go_sem, g]
       refine pw_wkK [2, 3, 6, 8, 10] (by simp [go_sem, g]; rfl) ?_
       repeat rw [sq]
       refine pJ hF (fun x73 => [(2, .bl [.int .i64 a0.Gr.P, .int .i64 a0.Gr.Q, .int .i64 a0.Gr.G, .int .i64 a0.Ct.Kind, .int .i64 a0.Ct.Options, .int .i64 a0.Ct.Least, .int .i64 a0.Ct.Most, .int .i64 a0.Ct.Points, .int .i64 a0.Threshold, .int .i64 a0.Trustees, .int .i64 a0.Mixers, .int .i64 a0.Voters, .int .i64 a0.Seed]), (3, .bl [.sl false 1 (a1.Keys.map row_i64), .sl false 6 (a1.Entries.map row_Entry_z)]), (6, .v (.sl true 1 (s58.1.map row_i64))), (8, .v (.int .i64 s58.2)), (10, .v (.sl false 1 (x70.Data.map row_i64))), (53, .v (.bool x73))]) (fun x73 hF => ?_) fun _ hj71 hF => ?_
       ·repeat rw [sq]
        refine pI hF (fun h76 hF => ?_) (fun h76 hF => ?_)
        ·cases ho60 _ (hr65 _ (Rn_some hF))
         cases hΦ _ (hr13 _ hψ62)
         try simp [go_sem, g]
         refine pw_wk ?_
         try simp [go_sem, g]
        ·iterate 2 (try simp [go_sem, g]; try intros; refine pw_wk ?_)
         repeat rw [sq]
         rw [pw_block]
         obtain ⟨b97, hb98, hψ91⟩ := hF
         refine pR hb98 (fun i88 s87 => [(2, .bl [.int .i64 a0.Gr.P, .int .i64 a0.Gr.Q, .int .i64 a0.Gr.G, .int .i64 a0.Ct.Kind, .int .i64 a0.Ct.Options, .int .i64 a0.Ct.Least, .int .i64 a0.Ct.Most, .int .i64 a0.Ct.Points, .int .i64 a0.Threshold, .int .i64 a0.Trustees, .int .i64 a0.Mixers, .int .i64 a0.Voters, .int .i64 a0.Seed]), (3, .bl [.sl false 1 (a1.Keys.map row_i64), .sl false 6 (a1.Entries.map row_Entry_z)]), (6, .v (.sl true 1 (s87.map row_i64))), (8, .v (.int .i64 s58.2)), (54, .v (.sl false 1 (x70.Data.map row_i64))), (55, .v (.int .i64 (x70.Data.length : Int))), (56, .v (.int .i64 i88))]) (fun s87 _ hN99 => ?_) (fun i88 s87 _ _ hi92 hi93 ho89 hg90 hF => ?_)
         ·subst hN99
          try simp [go_sem]
          refine pw_wk ?_
          repeat rw [sq]
          refine pw_cond_f (by simp [go_sem]) ?_
          try simp [go_sem]
          exact pT (hj64 s87) hψ91 (by simp [go_sem])
         ·try simp [go_sem, g]
          refine pw_wk ?_
          repeat rw [sq]
          refine pw_cond_t (by simp [go_sem, g, hi92, hi93]) ?_
          try simp [go_sem, g]
          refine pw_wk ?_
          repeat rw [sq]
          rw [pw_block]
          obtain ⟨x94, g, hF⟩ := Rx g hF
          try simp [go_sem, g]
          refine pw_wk ?_
          repeat rw [sq]
          refine pw_draw D29_18 follows (by kernel_rfl) rfl ?_
          try simp only [go_sem, D29_18]
          obtain ⟨x95, g, hF⟩ := Rx g hF
          try simp [go_sem, g]
          refine pC hF [.sh, .sh] c_spec_gMul (fun z96 hF => ?_)
          try simp [go_sem, g]
          refine pw_wkK [2, 3, 6, 8, 54, 55, 56] (by simp [go_sem, g]; rfl) ?_
          try simp [go_sem, g]
          exact pT (hg90 (s87.set i88.toNat z96)) (Rn_some hF) (by simp [go_sem, g, wr_i hi92 hi93 (by assumption)])
       ·try simp [go_sem, g]
        try intros
        refine pwg_F hF (fun h74 hF => ?_) fun h74 hF => ?_
        ·try simp [go_sem, g, h74]
         exact pT (hj71 true) (Rn_some hF)
        ·try simp [go_sem, g, h74]
         refine pC hF [.sh, .sh] c_spec_gIs (fun z75 hF => ?_)
         try simp [go_sem, g, h74]
         exact pT (hj71 (!z75)) (Rn_some hF)
    ·try simp [go_sem, g]
     cases ho60 _ (Rn_some hF)
     exact pT (hj12 s58.1) hψ62
  ·repeat rw [sq]
   rw [pw_block]
   obtain ⟨b10, hb11, hψ8⟩ := hF
   refine pL hb11 (fun s4 => [(2, .bl [.int .i64 a0.Gr.P, .int .i64 a0.Gr.Q, .int .i64 a0.Gr.G, .int .i64 a0.Ct.Kind, .int .i64 a0.Ct.Options, .int .i64 a0.Ct.Least, .int .i64 a0.Ct.Most, .int .i64 a0.Ct.Points, .int .i64 a0.Threshold, .int .i64 a0.Trustees, .int .i64 a0.Mixers, .int .i64 a0.Voters, .int .i64 a0.Seed]), (3, .bl [.sl false 1 (a1.Keys.map row_i64), .sl false 6 (a1.Entries.map row_Entry_z)]), (6, .v (.sl true 1 (s4.1.map row_i64))), (7, .v (.int .i64 s4.2))]) (fun s4 _ _ ho6 hg7 hF => ?_)
   try simp [go_sem, g]
   refine pw_wkK [2, 3, 6, 7, 16] (by simp [go_sem, g]; rfl) ?_
   repeat rw [sq]
   refine pI hF (fun h9 hF => ?_) (fun h9 hF => ?_)
   ·try simp [go_sem, g]
    refine pw_wk ?_
    repeat rw [sq]
    rw [pw_block]
    obtain ⟨g, hF⟩ := Rg g hF
    try simp [go_sem, g]
    refine pw_wk ?_
    try simp [go_sem, g]
    exact pT (hg7 (s4.1 ++ [1], i64.wrap (s4.2 + 1))) (Rn_some hF)
   ·try simp [go_sem, g]
    cases ho6 _ (Rn_some hF)
    exact pT (hj1 s4.1) hψ8
noncomputable def F_spec_uReady (a0 : Group) (a1 : Board) : Option (uX × Bool) :=
  (F_spec_uOpen a0 a1).bind fun z1 =>
  if (!z1.2) = true then (
  some ((uX.mk (Plan.mk (Group.mk 0 0 0) (Contest.mk 0 0 0 0 0) 0 0 0 0 0) []), false)) else (
  (F_spec_uKeys z1.1 a1).bind fun z3 =>
  some ((uX.mk z1.1 z3.1), z3.2))
theorem c_spec_uReady : ∀ {a0} {a1} {r}, F_spec_uReady a0 a1 = some r → PCalls Tryz.prog 16 [(.sh, .agg [.int .i64 a0.P, .int .i64 a0.Q, .int .i64 a0.G]), (.sh, .agg [.sl false 1 (a1.Keys.map row_i64), .sl false 6 (a1.Entries.map row_Entry_z)])] (Eo (.tup [.agg [.int .i64 r.1.p.Gr.P, .int .i64 r.1.p.Gr.Q, .int .i64 r.1.p.Gr.G, .int .i64 r.1.p.Ct.Kind, .int .i64 r.1.p.Ct.Options, .int .i64 r.1.p.Ct.Least, .int .i64 r.1.p.Ct.Most, .int .i64 r.1.p.Ct.Points, .int .i64 r.1.p.Threshold, .int .i64 r.1.p.Trustees, .int .i64 r.1.p.Mixers, .int .i64 r.1.p.Voters, .int .i64 r.1.p.Seed, .sl true 1 (r.1.commits.map row_i64)], .bool r.2]) [.junk, .junk]) := by
  intro a0 a1 r hr
  apply pF 29 [] [] [] [.cell 4 48, .tmp 5] hr cl16 Tryz.func16
  intro Φ hΦ hF g
  unfold F_spec_uReady at hF
  try simp [go_sem, g]
  refine pw_wk ?_
  try simp [go_sem, g]
  refine pC hF [.sh, .sh] c_spec_uOpen (fun z1 hF => ?_)
  try simp [go_sem, g]
  refine pw_wkK [3, 4, 6, 7] (by simp [go_sem, g]; rfl) ?_
  try simp [go_sem, g]
  refine pw_wk ?_
  repeat rw [sq]
  refine pI hF (fun h2 hF => ?_) (fun h2 hF => ?_)
  ·cases hΦ _ (Rn_some hF)
   try simp [go_sem, g]
   refine pw_wk ?_
   try simp [go_sem, g]
  ·try simp [go_sem, g]
   refine pw_wk ?_
   try simp [go_sem, g]
   refine pC hF [.sh, .sh] c_spec_uKeys (fun z3 hF => ?_)
   try simp [go_sem, g]
   refine pw_wkK [4, 6, 8, 9] (by simp [go_sem, g]; rfl) ?_
   cases hΦ _ (Rn_some hF)
   try simp [go_sem, g]
   refine pw_wk ?_
   try simp [go_sem, g]
noncomputable def F_spec_BoardCommits (a0 : Group) (a1 : Board) : Option ((List Int) × Bool) :=
  (F_spec_uReady a0 a1).bind fun z1 =>
  if (!z1.2) = true then (
  some ([], false)) else (
  some (z1.1.commits, true))
theorem c_spec_BoardCommits : ∀ {a0} {a1} {r}, F_spec_BoardCommits a0 a1 = some r → PCalls Tryz.prog 5 [(.sh, .agg [.int .i64 a0.P, .int .i64 a0.Q, .int .i64 a0.G]), (.sh, .agg [.sl false 1 (a1.Keys.map row_i64), .sl false 6 (a1.Entries.map row_Entry_z)])] (Eo (.tup [.sl true 1 (r.1.map row_i64), .bool r.2]) [.junk, .junk]) := by
  intro a0 a1 r hr
  apply pF 18 [] [] [] [.tmp 4, .tmp 5] hr cl5 Tryz.func5
  intro Φ hΦ hF g
  unfold F_spec_BoardCommits at hF
  try simp [go_sem, g]
  refine pw_wk ?_
  try simp [go_sem, g]
  refine pC hF [.sh, .sh] c_spec_uReady (fun z1 hF => ?_)
  try simp [go_sem, g]
  refine pw_wkK [6, 7] (by simp [go_sem, g]; rfl) ?_
  try simp [go_sem, g]
  refine pw_wk ?_
  repeat rw [sq]
  refine pI hF (fun h2 hF => ?_) (fun h2 hF => ?_)
  ·cases hΦ _ (Rn_some hF)
   try simp [go_sem, g]
   refine pw_wk ?_
   try simp [go_sem, g]
  ·cases hΦ _ (Rn_some hF)
   iterate 2 (try simp [go_sem, g]; refine pw_wk ?_)
   try simp [go_sem, g]
noncomputable def F_impl_within (a0 : Int) (a1 : Int) (a2 : Int) : Option (Bool) :=
  ((if decide (a1 ≤ a0) = true then (
  some (decide (a0 ≤ a2))) else (
  some false) : Option (Bool)).bind fun x3 =>
  some x3)
theorem c_impl_within : ∀ {a0} {a1} {a2} {r}, F_impl_within a0 a1 a2 = some r → PCalls Tryz.prog 21 [(.sh, .int .i64 a0), (.sh, .int .i64 a1), (.sh, .int .i64 a2)] (Eo (.bool r) [.junk, .junk, .junk]) := by
  intro a0 a1 a2 r hr
  apply pF 15 [] [] [] [.tmp 6] hr cl21 Tryz.func21
  intro Φ hΦ hF g
  unfold F_impl_within at hF
  try simp [go_sem, g]
  refine pw_wk ?_
  repeat rw [sq]
  refine pJ hF (fun x3 => [(6, .v (.bool x3))]) (fun x3 hF => ?_) fun _ hj1 hF => ?_
  ·cases hΦ _ (Rn_some hF)
   try simp [go_sem, g]
  ·try simp [go_sem, g]
   refine pwg_F hF (fun h4 hF => ?_) fun h4 hF => ?_
   ·try simp [go_sem, g, h4]
    exact pT (hj1 (decide (a0 ≤ a2))) (Rn_some hF)
   ·try simp [go_sem, g, h4]
    exact pT (hj1 false) (Rn_some hF)
noncomputable def F_impl_isModulus (a0 : Int) : Option (Bool) :=
  (F_impl_within a0 2 2000000000).bind fun z1 =>
  some z1
theorem c_impl_isModulus : ∀ {a0} {r}, F_impl_isModulus a0 = some r → PCalls Tryz.prog 86 [(.sh, .int .i64 a0)] (Eo (.bool r) [.junk]) := by
  intro a0 r hr
  apply pF 5 [] [] [] [.tmp 2] hr cl86 Tryz.func86
  intro Φ hΦ hF g
  unfold F_impl_isModulus at hF
  try simp [go_sem, g]
  refine pw_wk ?_
  try simp [go_sem, g]
  refine pC hF [.sh, .sh, .sh] c_impl_within (fun z1 hF => ?_)
  cases hΦ _ (Rn_some hF)
  try simp [go_sem, g]
  refine pw_wk ?_
  try simp [go_sem, g]
noncomputable def F_impl_isPrime (a0 : Int) : Option (Bool) :=
  (((F_impl_isModulus a0).bind fun z4 =>
  if (!z4) = true then (
  some true) else (
  if ((a0.tmod 2) == 0) = true then (
  some (a0 != 2)) else (
  some false)) : Option (Bool)).bind fun x3 =>
  if x3 = true then (
  some false) else (
  ((wloop (σ := Int) (fun s11 =>
  if decide ((i64.wrap (s11 * s11)) ≤ a0) = true then (
  gd (s11 ≠ 0) <|
  if ((a0.tmod s11) == 0) = true then (
  some (.out (.inr false))) else (
  some (.go (i64.wrap (s11 + 2))))) else (
  some (.out (.inl ())))) 3 : Option (Unit ⊕ Bool)).bind (Sum.elim (fun x10 =>
  some true) some))))
theorem c_impl_isPrime : ∀ {a0} {r}, F_impl_isPrime a0 = some r → PCalls Tryz.prog 70 [(.sh, .int .i64 a0)] (Eo (.bool r) [.junk]) := by
  intro a0 r hr
  apply pF 27 [] [] [] [.tmp 2] hr cl70 Tryz.func70
  intro Φ hΦ hF g
  unfold F_impl_isPrime at hF
  try simp [go_sem, g]
  refine pw_wk ?_
  repeat rw [sq]
  refine pJ hF (fun x3 => [(0, .v (.int .i64 a0)), (15, .v (.bool x3))]) (fun x3 hF => ?_) fun _ hj1 hF => ?_
  ·repeat rw [sq]
   refine pI hF (fun h7 hF => ?_) (fun h7 hF => ?_)
   ·cases hΦ _ (Rn_some hF)
    try simp [go_sem, g]
    refine pw_wk ?_
    try simp [go_sem, g]
   ·iterate 2 (try simp [go_sem, g]; refine pw_wk ?_)
    repeat rw [sq]
    refine pJs hF (fun x10 => []) (fun x10 hF => ?_) fun _ hj8 hr9 hF => ?_
    ·cases hΦ _ (Rn_some hF)
     try simp [go_sem, g]
     refine pw_wk ?_
     try simp [go_sem, g]
    ·repeat rw [sq]
     rw [pw_block]
     obtain ⟨b18, hb19, hψ15⟩ := hF
     refine pL hb19 (fun s11 => [(0, .v (.int .i64 a0)), (3, .v (.int .i64 s11))]) (fun s11 _ _ ho13 hg14 hF => ?_)
     try simp [go_sem, g]
     refine pw_wk ?_
     repeat rw [sq]
     refine pI hF (fun h16 hF => ?_) (fun h16 hF => ?_)
     ·try simp [go_sem, g]
      refine pw_wk ?_
      repeat rw [sq]
      rw [pw_block]
      obtain ⟨g, hF⟩ := Rz g hF
      try simp [go_sem, g]
      refine pw_wkK [0, 3, 26] (by simp [go_sem, g]; rfl) ?_
      repeat rw [sq]
      refine pI hF (fun h17 hF => ?_) (fun h17 hF => ?_)
      ·cases ho13 _ (Rn_some hF)
       cases hΦ _ (hr9 _ hψ15)
       try simp [go_sem, g]
       refine pw_wk ?_
       try simp [go_sem, g]
      ·try simp [go_sem, g]
       refine pw_wk ?_
       try simp [go_sem, g]
       exact pT (hg14 (i64.wrap (s11 + 2))) (Rn_some hF)
     ·try simp [go_sem, g]
      cases ho13 _ (Rn_some hF)
      exact pT (hj8 ()) hψ15
  ·try simp [go_sem, g]
   refine pC hF [.sh] c_impl_isModulus (fun z4 hF => ?_)
   try simp [go_sem, g]
   refine pwg_F hF (fun h5 hF => ?_) fun h5 hF => ?_
   ·try simp [go_sem, g, h5]
    exact pT (hj1 true) (Rn_some hF)
   ·have g := Ld g 2
    try simp [go_sem, g, h5]
    refine pwg_F hF (fun h6 hF => ?_) fun h6 hF => ?_
    ·try simp [go_sem, g, h6, h5]
     exact pT (hj1 (a0 != 2)) (Rn_some hF)
    ·try simp [go_sem, g, h6, h5]
     exact pT (hj1 false) (Rn_some hF)
noncomputable def F_impl_power (a0 : Int) (a1 : Int) (a2 : Int) : Option (Int) :=
  gd (a2 ≠ 0) <|
  ((wloop (σ := Int × Int × Int) (fun s4 =>
  if decide (0 < s4.2.1) = true then (
  ((if ((i64.wrap ((BitVec.ofInt i64.bits s4.2.1 &&& BitVec.ofInt i64.bits 1).toNat)) == 1) = true then (
  gd (a2 ≠ 0) <|
  some ((i64.wrap (s4.2.2 * s4.1)).tmod a2)) else (
  some s4.2.2) : Option (Int)).bind fun x12 =>
  gd (a2 ≠ 0) <|
  some (.go ((i64.wrap (s4.1 * s4.1)).tmod a2, s4.2.1.fdiv 2, x12)))) else (
  some (.out s4.2.2))) (a0, a1, (1 : Int).tmod a2) : Option (Int)).bind fun x3 =>
  some x3)
theorem c_impl_power : ∀ {a0} {a1} {a2} {r}, F_impl_power a0 a1 a2 = some r → PCalls Tryz.prog 58 [(.sh, .int .i64 a0), (.sh, .int .i64 a1), (.sh, .int .i64 a2)] (Eo (.int .i64 r) [.junk, .junk, .junk]) := by
  intro a0 a1 a2 r hr
  apply pF 28 [] [] [] [.tmp 6] hr cl58 Tryz.func58
  intro Φ hΦ hF g
  unfold F_impl_power at hF
  obtain ⟨g, hF⟩ := Rz g hF
  iterate 2 (try simp [go_sem, g]; refine pw_wk ?_)
  repeat rw [sq]
  refine pJ hF (fun x3 => [(7, .v (.int .i64 x3))]) (fun x3 hF => ?_) fun _ hj1 hF => ?_
  ·cases hΦ _ (Rn_some hF)
   try simp [go_sem, g]
   refine pw_wk ?_
   try simp [go_sem, g]
  ·repeat rw [sq]
   rw [pw_block]
   obtain ⟨b14, hb15, hψ8⟩ := hF
   refine pL hb15 (fun s4 => [(0, .v (.int .i64 s4.1)), (1, .v (.int .i64 s4.2.1)), (2, .v (.int .i64 a2)), (7, .v (.int .i64 s4.2.2))]) (fun s4 _ _ ho6 hg7 hF => ?_)
   try simp [go_sem, g]
   refine pw_wk ?_
   repeat rw [sq]
   refine pI hF (fun h9 hF => ?_) (fun h9 hF => ?_)
   ·try simp [go_sem, g]
    refine pw_wk ?_
    repeat rw [sq]
    rw [pw_block]
    try simp [go_sem, g]
    refine pw_wk ?_
    repeat rw [sq]
    refine pJ hF (fun x12 => [(0, .v (.int .i64 s4.1)), (1, .v (.int .i64 s4.2.1)), (2, .v (.int .i64 a2)), (7, .v (.int .i64 x12))]) (fun x12 hF => ?_) fun _ hj10 hF => ?_
    ·obtain ⟨g, hF⟩ := Rz g hF
     try simp [go_sem, g]
     refine pw_wkK [0, 1, 2, 7] (by simp [go_sem, g]; rfl) ?_
     have g := Ls g 1
     try simp [go_sem, g]
     exact pT (hg7 ((i64.wrap (s4.1 * s4.1)).tmod a2, s4.2.1.fdiv 2, x12)) (Rn_some hF)
    ·repeat rw [sq]
     refine pI hF (fun h13 hF => ?_) (fun h13 hF => ?_)
     ·obtain ⟨g, hF⟩ := Rz g hF
      try simp [go_sem, g]
      exact pT (hj10 ((i64.wrap (s4.2.2 * s4.1)).tmod a2)) (Rn_some hF)
     ·try simp [go_sem, g]
      exact pT (hj10 s4.2.2) (Rn_some hF)
   ·try simp [go_sem, g]
    cases ho6 _ (Rn_some hF)
    exact pT (hj1 s4.2.2) hψ8
noncomputable def F_impl_IsValidGroup (a0 : Group) : Option (Bool) :=
  (((F_impl_within a0.P 3 2000000000).bind fun z4 =>
  if z4 = true then (
  (F_impl_within a0.Q 2 (i64.wrap (a0.P - 1))).bind fun z6 =>
  if z6 = true then (
  gd (a0.Q ≠ 0) <|
  if (((i64.wrap (a0.P - 1)).tmod a0.Q) == 0) = true then (
  (F_impl_within a0.G 2 (i64.wrap (a0.P - 1))).bind fun z9 =>
  if z9 = true then (
  (F_impl_isPrime a0.P).bind fun z11 =>
  if z11 = true then (
  (F_impl_isPrime a0.Q).bind fun z13 =>
  if z13 = true then (
  (F_impl_power a0.G a0.Q a0.P).bind fun z15 =>
  some (z15 == 1)) else (
  some false)) else (
  some false)) else (
  some false)) else (
  some false)) else (
  some false)) else (
  some false) : Option (Bool)).bind fun x3 =>
  some x3)
theorem c_impl_IsValidGroup : ∀ {a0} {r}, F_impl_IsValidGroup a0 = some r → PCalls Tryz.prog 48 [(.sh, .agg [.int .i64 a0.P, .int .i64 a0.Q, .int .i64 a0.G])] (Eo (.bool r) [.junk]) := by
  intro a0 r hr
  apply pF 51 [] [] [] [.tmp 2] hr cl48 Tryz.func48
  intro Φ hΦ hF g
  unfold F_impl_IsValidGroup at hF
  try simp [go_sem, g]
  refine pw_wk ?_
  repeat rw [sq]
  refine pJ hF (fun x3 => [(2, .v (.bool x3))]) (fun x3 hF => ?_) fun _ hj1 hF => ?_
  ·cases hΦ _ (Rn_some hF)
   try simp [go_sem, g]
  ·try simp [go_sem, g]
   refine pC hF [.sh, .sh, .sh] c_impl_within (fun z4 hF => ?_)
   try simp [go_sem, g]
   refine pwg_F hF (fun h5 hF => ?_) fun h5 hF => ?_
   ·try simp [go_sem, g, h5]
    refine pC hF [.sh, .sh, .sh] c_impl_within (fun z6 hF => ?_)
    try simp [go_sem, g, h5]
    refine pwg_F hF (fun h7 hF => ?_) fun h7 hF => ?_
    ·obtain ⟨g, hF⟩ := Rz g hF
     try simp [go_sem, g, h7]
     refine pwg_F hF (fun h8 hF => ?_) fun h8 hF => ?_
     ·try simp [go_sem, g, h8]
      refine pC hF [.sh, .sh, .sh] c_impl_within (fun z9 hF => ?_)
      try simp [go_sem, g, h8]
      refine pwg_F hF (fun h10 hF => ?_) fun h10 hF => ?_
      ·try simp [go_sem, g, h10]
       refine pC hF [.sh] c_impl_isPrime (fun z11 hF => ?_)
       try simp [go_sem, g, h10]
       refine pwg_F hF (fun h12 hF => ?_) fun h12 hF => ?_
       ·try simp [go_sem, g, h12]
        refine pC hF [.sh] c_impl_isPrime (fun z13 hF => ?_)
        try simp [go_sem, g, h12]
        refine pwg_F hF (fun h14 hF => ?_) fun h14 hF => ?_
        ·try simp [go_sem, g, h14]
         refine pC hF [.sh, .sh, .sh] c_impl_power (fun z15 hF => ?_)
         try simp [go_sem, g, h14]
         exact pT (hj1 (z15 == 1)) (Rn_some hF)
        ·try simp [go_sem, g, h14]
         exact pT (hj1 false) (Rn_some hF)
       ·try simp [go_sem, g, h12]
        exact pT (hj1 false) (Rn_some hF)
      ·try simp [go_sem, g, h10]
       exact pT (hj1 false) (Rn_some hF)
     ·try simp [go_sem, g, h8]
      exact pT (hj1 false) (Rn_some hF)
    ·try simp [go_sem, g, h7]
     exact pT (hj1 false) (Rn_some hF)
   ·try simp [go_sem, g, h5]
    exact pT (hj1 false) (Rn_some hF)
noncomputable def F_impl_Group_has (a0 : Group) (a1 : Int) : Option (Bool) :=
  (((F_impl_within a1 1 (i64.wrap (a0.P - 1))).bind fun z4 =>
  if z4 = true then (
  (F_impl_power a1 a0.Q a0.P).bind fun z6 =>
  some (z6 == 1)) else (
  some false) : Option (Bool)).bind fun x3 =>
  some x3)
theorem c_impl_Group_has : ∀ {a0} {a1} {r}, F_impl_Group_has a0 a1 = some r → PCalls Tryz.prog 36 [(.sh, .agg [.int .i64 a0.P, .int .i64 a0.Q, .int .i64 a0.G]), (.sh, .int .i64 a1)] (Eo (.bool r) [.junk, .junk]) := by
  intro a0 a1 r hr
  apply pF 19 [] [] [] [.tmp 4] hr cl36 Tryz.func36
  intro Φ hΦ hF g
  unfold F_impl_Group_has at hF
  try simp [go_sem, g]
  refine pw_wk ?_
  repeat rw [sq]
  refine pJ hF (fun x3 => [(4, .v (.bool x3))]) (fun x3 hF => ?_) fun _ hj1 hF => ?_
  ·cases hΦ _ (Rn_some hF)
   try simp [go_sem, g]
  ·try simp [go_sem, g]
   refine pC hF [.sh, .sh, .sh] c_impl_within (fun z4 hF => ?_)
   try simp [go_sem, g]
   refine pwg_F hF (fun h5 hF => ?_) fun h5 hF => ?_
   ·try simp [go_sem, g, h5]
    refine pC hF [.sh, .sh, .sh] c_impl_power (fun z6 hF => ?_)
    try simp [go_sem, g, h5]
    exact pT (hj1 (z6 == 1)) (Rn_some hF)
   ·try simp [go_sem, g, h5]
    exact pT (hj1 false) (Rn_some hF)
noncomputable def F_impl_areAll_1__impl_Group_has (a0 : Int) (a1c0x0 : Group) : Option (Bool) :=
  (F_impl_Group_has a1c0x0 a0).bind fun z1 =>
  some (!z1)
theorem c_impl_areAll_1__impl_Group_has : ∀ {a0} {a1c0x0} {r}, F_impl_areAll_1__impl_Group_has a0 a1c0x0 = some r → PCalls Tryz.prog 57 [(.sh, .int .i64 a0), (.sh, .fp [.func (.func 36) [.agg [.int .i64 a1c0x0.P, .int .i64 a1c0x0.Q, .int .i64 a1c0x0.G]] []])] (Eo (.bool r) [.junk, .junk]) := by
  intro a0 a1c0x0 r hr
  apply pF 8 [] [] [] [.tmp 3] hr cl57 Tryz.func57
  intro Φ hΦ hF g
  unfold F_impl_areAll_1__impl_Group_has at hF
  try simp [go_sem, g]
  refine pw_wk ?_
  try simp [go_sem, g]
  refine pC hF [.sh] c_impl_Group_has (fun z1 hF => ?_)
  cases hΦ _ (Rn_some hF)
  try simp [go_sem, g]
  refine pw_wk ?_
  try simp [go_sem, g]
noncomputable def F_slices_IndexFunc_int_int__impl_areAll_1_impl_Group_has (a0 : (List Int)) (a1u0c0x0 : Group) : Option (Int) :=
  ((rloop (σ := Unit) (fun i5 s4 =>
  (ix a0 i5).bind fun x11 =>
  (F_impl_areAll_1__impl_Group_has x11 a1u0c0x0).bind fun z12 =>
  if z12 = true then (
  some (.out (.inr i5))) else (
  some (.go ()))) (fun s4 => .inl ()) (a0.length) 0 () : Option (Unit ⊕ Int)).bind (Sum.elim (fun x3 =>
  some (-1)) some))
theorem c_slices_IndexFunc_int_int__impl_areAll_1_impl_Group_has : ∀ {a0} {a1u0c0x0} {r}, F_slices_IndexFunc_int_int__impl_areAll_1_impl_Group_has a0 a1u0c0x0 = some r → PCalls Tryz.prog 79 [(.sh, .sl false 1 (a0.map row_i64)), (.sh, .func (.func 57) [] [.fp [.func (.func 36) [.agg [.int .i64 a1u0c0x0.P, .int .i64 a1u0c0x0.Q, .int .i64 a1u0c0x0.G]] []]])] (Eo (.int .i64 r) [.junk, .junk]) := by
  intro a0 a1u0c0x0 r hr
  apply pF 19 [] [] [] [.tmp 4] hr cl79 Tryz.func79
  intro Φ hΦ hF g
  unfold F_slices_IndexFunc_int_int__impl_areAll_1_impl_Group_has at hF
  iterate 2 (try simp [go_sem, g]; try intros; refine pw_wk ?_)
  repeat rw [sq]
  refine pJs hF (fun x3 => []) (fun x3 hF => ?_) fun _ hj1 hr2 hF => ?_
  ·cases hΦ _ (Rn_some hF)
   try simp [go_sem, g]
   refine pw_wk ?_
   try simp [go_sem, g]
  ·repeat rw [sq]
   rw [pw_block]
   obtain ⟨b14, hb15, hψ8⟩ := hF
   refine pR hb15 (fun i5 s4 => [(0, .v (.sl false 1 (a0.map row_i64))), (1, .v (.func (.func 57) [] [.fp [.func (.func 36) [.agg [.int .i64 a1u0c0x0.P, .int .i64 a1u0c0x0.Q, .int .i64 a1u0c0x0.G]] []]])), (7, .v (.int .i64 (a0.length : Int))), (8, .v (.int .i64 i5))]) (fun s4 _ hN16 => ?_) (fun i5 s4 _ _ hi9 hi10 ho6 hg7 hF => ?_)
   ·subst hN16
    try simp [go_sem]
    refine pw_wk ?_
    repeat rw [sq]
    refine pw_cond_f (by simp [go_sem]) ?_
    try simp [go_sem]
    exact pT (hj1 ()) hψ8 (by simp [go_sem])
   ·try simp [go_sem, g]
    refine pw_wk ?_
    repeat rw [sq]
    refine pw_cond_t (by simp [go_sem, g, hi9, hi10]) ?_
    try simp [go_sem, g]
    refine pw_wk ?_
    repeat rw [sq]
    rw [pw_block]
    obtain ⟨x11, g, hF⟩ := Rx g hF
    try simp [go_sem, g]
    refine pw_wk ?_
    try simp [go_sem, g]
    refine pC hF [.sh] c_impl_areAll_1__impl_Group_has (fun z12 hF => ?_)
    try simp [go_sem, g]
    refine pw_wkK [0, 1, 5, 7, 8, 16] (by simp [go_sem, g]; rfl) ?_
    repeat rw [sq]
    refine pI hF (fun h13 hF => ?_) (fun h13 hF => ?_)
    ·cases ho6 _ (Rn_some hF)
     cases hΦ _ (hr2 _ hψ8)
     try simp [go_sem, g]
     refine pw_wk ?_
     try simp [go_sem, g]
    ·try simp [go_sem, g]
     refine pw_wk ?_
     try simp [go_sem, g]
     exact pT (hg7 ()) (Rn_some hF) (by simp [go_sem, g, wr_i hi9 hi10 (by assumption)])
noncomputable def F_slices_ContainsFunc_int_int__impl_areAll_1_impl_Group_has (a0 : (List Int)) (a1u0c0x0 : Group) : Option (Bool) :=
  (F_slices_IndexFunc_int_int__impl_areAll_1_impl_Group_has a0 a1u0c0x0).bind fun z1 =>
  some (decide (0 ≤ z1))
theorem c_slices_ContainsFunc_int_int__impl_areAll_1_impl_Group_has : ∀ {a0} {a1u0c0x0} {r}, F_slices_ContainsFunc_int_int__impl_areAll_1_impl_Group_has a0 a1u0c0x0 = some r → PCalls Tryz.prog 56 [(.sh, .sl false 1 (a0.map row_i64)), (.sh, .func (.func 57) [] [.fp [.func (.func 36) [.agg [.int .i64 a1u0c0x0.P, .int .i64 a1u0c0x0.Q, .int .i64 a1u0c0x0.G]] []]])] (Eo (.bool r) [.junk, .junk]) := by
  intro a0 a1u0c0x0 r hr
  apply pF 9 [] [] [] [.tmp 4] hr cl56 Tryz.func56
  intro Φ hΦ hF g
  unfold F_slices_ContainsFunc_int_int__impl_areAll_1_impl_Group_has at hF
  try simp [go_sem, g]
  refine pw_wk ?_
  try simp [go_sem, g]
  refine pC hF [.sh, .sh] c_slices_IndexFunc_int_int__impl_areAll_1_impl_Group_has (fun z1 hF => ?_)
  cases hΦ _ (Rn_some hF)
  try simp [go_sem, g]
  refine pw_wk ?_
  try simp [go_sem, g]
noncomputable def F_impl_areAll__impl_Group_has (a0 : (List Int)) (a1x0 : Group) : Option (Bool) :=
  (F_slices_ContainsFunc_int_int__impl_areAll_1_impl_Group_has a0 a1x0).bind fun z1 =>
  some (!z1)
theorem c_impl_areAll__impl_Group_has : ∀ {a0} {a1x0} {r}, F_impl_areAll__impl_Group_has a0 a1x0 = some r → PCalls Tryz.prog 35 [(.sh, .sl false 1 (a0.map row_i64)), (.sh, .func (.func 36) [.agg [.int .i64 a1x0.P, .int .i64 a1x0.Q, .int .i64 a1x0.G]] [])] (Eo (.bool r) [.junk, .junk]) := by
  intro a0 a1x0 r hr
  apply pF 9 [] [] [1000000] [.tmp 4] hr cl35 Tryz.func35
  intro Φ hΦ hF g
  unfold F_impl_areAll__impl_Group_has at hF
  try simp [go_sem, g]
  refine pw_wk ?_
  try simp [go_sem, g]
  refine pC hF [.sh, .sh] c_slices_ContainsFunc_int_int__impl_areAll_1_impl_Group_has (fun z1 hF => ?_)
  cases hΦ _ (Rn_some hF)
  try simp [go_sem, g]
  refine pw_wk ?_
  try simp [go_sem, g]
noncomputable def F_impl_Group_hasAll (a0 : Group) (a1 : (List Int)) : Option (Bool) :=
  (F_impl_areAll__impl_Group_has a1 a0).bind fun z1 =>
  some z1
theorem c_impl_Group_hasAll : ∀ {a0} {a1} {r}, F_impl_Group_hasAll a0 a1 = some r → PCalls Tryz.prog 23 [(.sh, .agg [.int .i64 a0.P, .int .i64 a0.Q, .int .i64 a0.G]), (.sh, .sl false 1 (a1.map row_i64))] (Eo (.bool r) [.junk, .junk]) := by
  intro a0 a1 r hr
  apply pF 9 [] [] [] [.tmp 4] hr cl23 Tryz.func23
  intro Φ hΦ hF g
  unfold F_impl_Group_hasAll at hF
  try simp [go_sem, g]
  refine pw_wk ?_
  try simp [go_sem, g]
  refine pC hF [.sh, .sh] c_impl_areAll__impl_Group_has (fun z1 hF => ?_)
  cases hΦ _ (Rn_some hF)
  try simp [go_sem, g]
  refine pw_wk ?_
  try simp [go_sem, g]
noncomputable def F_impl_Group_areKeys (a0 : Group) (a1 : (List Int)) : Option (Bool) :=
  ((if decide ((a1.length : Int) ≤ 40) = true then (
  (F_impl_Group_hasAll a0 a1).bind fun z5 =>
  some z5) else (
  some false) : Option (Bool)).bind fun x3 =>
  some x3)
theorem c_impl_Group_areKeys : ∀ {a0} {a1} {r}, F_impl_Group_areKeys a0 a1 = some r → PCalls Tryz.prog 71 [(.sh, .agg [.int .i64 a0.P, .int .i64 a0.Q, .int .i64 a0.G]), (.sh, .sl false 1 (a1.map row_i64))] (Eo (.bool r) [.junk, .junk]) := by
  intro a0 a1 r hr
  apply pF 13 [] [] [] [.tmp 4] hr cl71 Tryz.func71
  intro Φ hΦ hF g
  unfold F_impl_Group_areKeys at hF
  try simp [go_sem, g]
  refine pw_wk ?_
  repeat rw [sq]
  refine pJ hF (fun x3 => [(4, .v (.bool x3))]) (fun x3 hF => ?_) fun _ hj1 hF => ?_
  ·cases hΦ _ (Rn_some hF)
   try simp [go_sem, g]
  ·try simp [go_sem, g]
   try intros
   refine pwg_F hF (fun h4 hF => ?_) fun h4 hF => ?_
   ·try simp [go_sem, g, h4]
    refine pC hF [.sh, .sh] c_impl_Group_hasAll (fun z5 hF => ?_)
    try simp [go_sem, g, h4]
    exact pT (hj1 z5) (Rn_some hF)
   ·try simp [go_sem, g, h4]
    exact pT (hj1 false) (Rn_some hF)
noncomputable def F_impl_isDigest (a0 : Int) : Option (Bool) :=
  (F_impl_within a0 0 4611686018427387903).bind fun z1 =>
  some z1
theorem c_impl_isDigest : ∀ {a0} {r}, F_impl_isDigest a0 = some r → PCalls Tryz.prog 75 [(.sh, .int .i64 a0)] (Eo (.bool r) [.junk]) := by
  intro a0 r hr
  apply pF 5 [] [] [] [.tmp 2] hr cl75 Tryz.func75
  intro Φ hΦ hF g
  unfold F_impl_isDigest at hF
  try simp [go_sem, g]
  refine pw_wk ?_
  try simp [go_sem, g]
  refine pC hF [.sh, .sh, .sh] c_impl_within (fun z1 hF => ?_)
  cases hΦ _ (Rn_some hF)
  try simp [go_sem, g]
  refine pw_wk ?_
  try simp [go_sem, g]
noncomputable def F_impl_areAll_1__impl_isDigest (a0 : Int) : Option (Bool) :=
  (F_impl_isDigest a0).bind fun z1 =>
  some (!z1)
theorem c_impl_areAll_1__impl_isDigest : ∀ {a0} {r}, F_impl_areAll_1__impl_isDigest a0 = some r → PCalls Tryz.prog 57 [(.sh, .int .i64 a0), (.sh, .fp [.func (.func 75) [] []])] (Eo (.bool r) [.junk, .junk]) := by
  intro a0 r hr
  apply pF 8 [] [] [] [.tmp 3] hr cl57 Tryz.func57
  intro Φ hΦ hF g
  unfold F_impl_areAll_1__impl_isDigest at hF
  try simp [go_sem, g]
  refine pw_wk ?_
  try simp [go_sem, g]
  refine pC hF [.sh] c_impl_isDigest (fun z1 hF => ?_)
  cases hΦ _ (Rn_some hF)
  try simp [go_sem, g]
  refine pw_wk ?_
  try simp [go_sem, g]
noncomputable def F_slices_IndexFunc_int_int__impl_areAll_1_impl_isDigest (a0 : (List Int)) : Option (Int) :=
  ((rloop (σ := Unit) (fun i5 s4 =>
  (ix a0 i5).bind fun x11 =>
  (F_impl_areAll_1__impl_isDigest x11).bind fun z12 =>
  if z12 = true then (
  some (.out (.inr i5))) else (
  some (.go ()))) (fun s4 => .inl ()) (a0.length) 0 () : Option (Unit ⊕ Int)).bind (Sum.elim (fun x3 =>
  some (-1)) some))
theorem c_slices_IndexFunc_int_int__impl_areAll_1_impl_isDigest : ∀ {a0} {r}, F_slices_IndexFunc_int_int__impl_areAll_1_impl_isDigest a0 = some r → PCalls Tryz.prog 79 [(.sh, .sl false 1 (a0.map row_i64)), (.sh, .func (.func 57) [] [.fp [.func (.func 75) [] []]])] (Eo (.int .i64 r) [.junk, .junk]) := by
  intro a0 r hr
  apply pF 19 [] [] [] [.tmp 4] hr cl79 Tryz.func79
  intro Φ hΦ hF g
  unfold F_slices_IndexFunc_int_int__impl_areAll_1_impl_isDigest at hF
  iterate 2 (try simp [go_sem, g]; try intros; refine pw_wk ?_)
  repeat rw [sq]
  refine pJs hF (fun x3 => []) (fun x3 hF => ?_) fun _ hj1 hr2 hF => ?_
  ·cases hΦ _ (Rn_some hF)
   try simp [go_sem, g]
   refine pw_wk ?_
   try simp [go_sem, g]
  ·repeat rw [sq]
   rw [pw_block]
   obtain ⟨b14, hb15, hψ8⟩ := hF
   refine pR hb15 (fun i5 s4 => [(0, .v (.sl false 1 (a0.map row_i64))), (1, .v (.func (.func 57) [] [.fp [.func (.func 75) [] []]])), (7, .v (.int .i64 (a0.length : Int))), (8, .v (.int .i64 i5))]) (fun s4 _ hN16 => ?_) (fun i5 s4 _ _ hi9 hi10 ho6 hg7 hF => ?_)
   ·subst hN16
    try simp [go_sem]
    refine pw_wk ?_
    repeat rw [sq]
    refine pw_cond_f (by simp [go_sem]) ?_
    try simp [go_sem]
    exact pT (hj1 ()) hψ8 (by simp [go_sem])
   ·try simp [go_sem, g]
    refine pw_wk ?_
    repeat rw [sq]
    refine pw_cond_t (by simp [go_sem, g, hi9, hi10]) ?_
    try simp [go_sem, g]
    refine pw_wk ?_
    repeat rw [sq]
    rw [pw_block]
    obtain ⟨x11, g, hF⟩ := Rx g hF
    try simp [go_sem, g]
    refine pw_wk ?_
    try simp [go_sem, g]
    refine pC hF [.sh] c_impl_areAll_1__impl_isDigest (fun z12 hF => ?_)
    try simp [go_sem, g]
    refine pw_wkK [0, 1, 5, 7, 8, 16] (by simp [go_sem, g]; rfl) ?_
    repeat rw [sq]
    refine pI hF (fun h13 hF => ?_) (fun h13 hF => ?_)
    ·cases ho6 _ (Rn_some hF)
     cases hΦ _ (hr2 _ hψ8)
     try simp [go_sem, g]
     refine pw_wk ?_
     try simp [go_sem, g]
    ·try simp [go_sem, g]
     refine pw_wk ?_
     try simp [go_sem, g]
     exact pT (hg7 ()) (Rn_some hF) (by simp [go_sem, g, wr_i hi9 hi10 (by assumption)])
noncomputable def F_slices_ContainsFunc_int_int__impl_areAll_1_impl_isDigest (a0 : (List Int)) : Option (Bool) :=
  (F_slices_IndexFunc_int_int__impl_areAll_1_impl_isDigest a0).bind fun z1 =>
  some (decide (0 ≤ z1))
theorem c_slices_ContainsFunc_int_int__impl_areAll_1_impl_isDigest : ∀ {a0} {r}, F_slices_ContainsFunc_int_int__impl_areAll_1_impl_isDigest a0 = some r → PCalls Tryz.prog 56 [(.sh, .sl false 1 (a0.map row_i64)), (.sh, .func (.func 57) [] [.fp [.func (.func 75) [] []]])] (Eo (.bool r) [.junk, .junk]) := by
  intro a0 r hr
  apply pF 9 [] [] [] [.tmp 4] hr cl56 Tryz.func56
  intro Φ hΦ hF g
  unfold F_slices_ContainsFunc_int_int__impl_areAll_1_impl_isDigest at hF
  try simp [go_sem, g]
  refine pw_wk ?_
  try simp [go_sem, g]
  refine pC hF [.sh, .sh] c_slices_IndexFunc_int_int__impl_areAll_1_impl_isDigest (fun z1 hF => ?_)
  cases hΦ _ (Rn_some hF)
  try simp [go_sem, g]
  refine pw_wk ?_
  try simp [go_sem, g]
noncomputable def F_impl_areAll__impl_isDigest (a0 : (List Int)) : Option (Bool) :=
  (F_slices_ContainsFunc_int_int__impl_areAll_1_impl_isDigest a0).bind fun z1 =>
  some (!z1)
theorem c_impl_areAll__impl_isDigest : ∀ {a0} {r}, F_impl_areAll__impl_isDigest a0 = some r → PCalls Tryz.prog 35 [(.sh, .sl false 1 (a0.map row_i64)), (.sh, .func (.func 75) [] [])] (Eo (.bool r) [.junk, .junk]) := by
  intro a0 r hr
  apply pF 9 [] [] [1000000] [.tmp 4] hr cl35 Tryz.func35
  intro Φ hΦ hF g
  unfold F_impl_areAll__impl_isDigest at hF
  try simp [go_sem, g]
  refine pw_wk ?_
  try simp [go_sem, g]
  refine pC hF [.sh, .sh] c_slices_ContainsFunc_int_int__impl_areAll_1_impl_isDigest (fun z1 hF => ?_)
  cases hΦ _ (Rn_some hF)
  try simp [go_sem, g]
  refine pw_wk ?_
  try simp [go_sem, g]
noncomputable def F_impl_isPlainEntry (a0 : Int) (a1 : Int) (a2 : (List Int)) : Option (Bool) :=
  (((F_impl_within a0 1 9).bind fun z4 =>
  if z4 = true then (
  (F_impl_within a1 0 39).bind fun z6 =>
  if z6 = true then (
  if decide ((a2.length : Int) ≤ 380) = true then (
  (F_impl_areAll__impl_isDigest a2).bind fun z9 =>
  some z9) else (
  some false)) else (
  some false)) else (
  some false) : Option (Bool)).bind fun x3 =>
  some x3)
theorem c_impl_isPlainEntry : ∀ {a0} {a1} {a2} {r}, F_impl_isPlainEntry a0 a1 a2 = some r → PCalls Tryz.prog 99 [(.sh, .int .i64 a0), (.sh, .int .i64 a1), (.sh, .sl false 1 (a2.map row_i64))] (Eo (.bool r) [.junk, .junk, .junk]) := by
  intro a0 a1 a2 r hr
  apply pF 22 [] [] [] [.tmp 6] hr cl99 Tryz.func99
  intro Φ hΦ hF g
  unfold F_impl_isPlainEntry at hF
  try simp [go_sem, g]
  refine pw_wk ?_
  repeat rw [sq]
  refine pJ hF (fun x3 => [(6, .v (.bool x3))]) (fun x3 hF => ?_) fun _ hj1 hF => ?_
  ·cases hΦ _ (Rn_some hF)
   try simp [go_sem, g]
  ·try simp [go_sem, g]
   refine pC hF [.sh, .sh, .sh] c_impl_within (fun z4 hF => ?_)
   try simp [go_sem, g]
   refine pwg_F hF (fun h5 hF => ?_) fun h5 hF => ?_
   ·try simp [go_sem, g, h5]
    refine pC hF [.sh, .sh, .sh] c_impl_within (fun z6 hF => ?_)
    try simp [go_sem, g, h5]
    refine pwg_F hF (fun h7 hF => ?_) fun h7 hF => ?_
    ·try simp [go_sem, g, h7]
     try intros
     refine pwg_F hF (fun h8 hF => ?_) fun h8 hF => ?_
     ·try simp [go_sem, g, h8]
      refine pC hF [.sh, .sh] c_impl_areAll__impl_isDigest (fun z9 hF => ?_)
      try simp [go_sem, g, h8]
      exact pT (hj1 z9) (Rn_some hF)
     ·try simp [go_sem, g, h8]
      exact pT (hj1 false) (Rn_some hF)
    ·try simp [go_sem, g, h7]
     exact pT (hj1 false) (Rn_some hF)
   ·try simp [go_sem, g, h5]
    exact pT (hj1 false) (Rn_some hF)
noncomputable def F_impl_labelled (a0 : ByteArray) (a1 : (List Int)) : Option ((List Int)) :=
  ((wloop (σ := (List Int) × Int) (fun s4 =>
  if decide (s4.2 < (a0.size : Int)) = true then (
  (ixs a0 s4.2).bind fun x10 =>
  gd ((s4.1.length + 1) * 8 ≤ 140737488355328 ∧ s4.1.length + 1 ≤ 4611686018427387904) <|
  some (.go (s4.1 ++ [i64.wrap x10], i64.wrap (s4.2 + 1)))) else (
  some (.out s4.1))) ([(a0.size : Int)], 0) : Option ((List Int))).bind fun x3 =>
  gd ((x3.length + a1.length) * 8 ≤ 140737488355328 ∧ x3.length + a1.length ≤ 4611686018427387904) <|
  some (x3 ++ a1))
theorem c_impl_labelled : ∀ {a0} {a1} {r}, F_impl_labelled a0 a1 = some r → PCalls Tryz.prog 115 [(.sh, .str a0), (.sh, .sl false 1 (a1.map row_i64))] (Eo (.sl true 1 (r.map row_i64)) [.junk, .junk]) := by
  intro a0 a1 r hr
  apply pF 26 [] [] [] [.tmp 4] hr cl115 Tryz.func115
  intro Φ hΦ hF g
  unfold F_impl_labelled at hF
  iterate 3 (try simp [go_sem, g]; refine pw_wk ?_)
  repeat rw [sq]
  refine pJ hF (fun x3 => [(1, .v (.sl false 1 (a1.map row_i64))), (5, .v (.sl true 1 (x3.map row_i64)))]) (fun x3 hF => ?_) fun _ hj1 hF => ?_
  ·obtain ⟨g, hF⟩ := Rg g hF
   try simp [go_sem, g]
   refine pw_wkK [4] (by simp [go_sem, g]; rfl) ?_
   cases hΦ _ (Rn_some hF)
   try simp [go_sem, g]
  ·repeat rw [sq]
   rw [pw_block]
   obtain ⟨b11, hb12, hψ8⟩ := hF
   refine pL hb12 (fun s4 => [(0, .v (.str a0)), (1, .v (.sl false 1 (a1.map row_i64))), (5, .v (.sl true 1 (s4.1.map row_i64))), (11, .v (.int .i64 (a0.size : Int))), (12, .v (.int .i64 s4.2))]) (fun s4 _ _ ho6 hg7 hF => ?_)
   try simp [go_sem, g]
   refine pw_wk ?_
   repeat rw [sq]
   refine pI hF (fun h9 hF => ?_) (fun h9 hF => ?_)
   ·try simp [go_sem, g]
    refine pw_wk ?_
    repeat rw [sq]
    rw [pw_block]
    try simp [go_sem, g]
    refine pw_wkK [0, 1, 5, 6, 11, 12] (by simp [go_sem, g]; rfl) ?_
    obtain ⟨x10, g, hF⟩ := Rxs g hF
    obtain ⟨g, hF⟩ := Rg g hF
    try simp [go_sem, g]
    refine pw_wk ?_
    try simp [go_sem, g]
    exact pT (hg7 (s4.1 ++ [i64.wrap x10], i64.wrap (s4.2 + 1))) (Rn_some hF)
   ·try simp [go_sem, g]
    cases ho6 _ (Rn_some hF)
    exact pT (hj1 s4.1) hψ8
noncomputable def F_impl_areDigests (a0 : (List Int)) : Option (Bool) :=
  ((if decide ((a0.length : Int) ≤ 400) = true then (
  (F_impl_areAll__impl_isDigest a0).bind fun z5 =>
  some z5) else (
  some false) : Option (Bool)).bind fun x3 =>
  some x3)
theorem c_impl_areDigests : ∀ {a0} {r}, F_impl_areDigests a0 = some r → PCalls Tryz.prog 124 [(.sh, .sl false 1 (a0.map row_i64))] (Eo (.bool r) [.junk]) := by
  intro a0 r hr
  apply pF 10 [] [] [] [.tmp 2] hr cl124 Tryz.func124
  intro Φ hΦ hF g
  unfold F_impl_areDigests at hF
  try simp [go_sem, g]
  refine pw_wk ?_
  repeat rw [sq]
  refine pJ hF (fun x3 => [(2, .v (.bool x3))]) (fun x3 hF => ?_) fun _ hj1 hF => ?_
  ·cases hΦ _ (Rn_some hF)
   try simp [go_sem, g]
  ·try simp [go_sem, g]
   try intros
   refine pwg_F hF (fun h4 hF => ?_) fun h4 hF => ?_
   ·try simp [go_sem, g, h4]
    refine pC hF [.sh, .sh] c_impl_areAll__impl_isDigest (fun z5 hF => ?_)
    try simp [go_sem, g, h4]
    exact pT (hj1 z5) (Rn_some hF)
   ·try simp [go_sem, g, h4]
    exact pT (hj1 false) (Rn_some hF)
noncomputable def F_impl_hash (a0 : (List Int)) : Option (Int) :=
  gd (([(a0.length : Int)].length + a0.length) * 8 ≤ 140737488355328 ∧ [(a0.length : Int)].length + a0.length ≤ 4611686018427387904) <|
  (some ([(a0.length : Int)] ++ a0)).bind fun x1 =>
  ((rloop (σ := Int × Int) (fun i7 s6 =>
  (ix x1 i7).bind fun x13 =>
  some (.go ((i64.wrap ((i64.wrap ((i64.wrap (48271 * ((i64.wrap ((i64.wrap ((i64.wrap (48271 * s6.1)) + (i64.wrap ((BitVec.ofInt i64.bits x13 &&& BitVec.ofInt i64.bits 2147483647).toNat)))) + 1)).tmod 2147483647))) + (x13.fdiv 2147483648))) + 1)).tmod 2147483647, (i64.wrap ((i64.wrap ((i64.wrap (69621 * ((i64.wrap ((i64.wrap ((i64.wrap (69621 * s6.2)) + (i64.wrap ((BitVec.ofInt i64.bits x13 &&& BitVec.ofInt i64.bits 2147483647).toNat)))) + 1)).tmod 2147483647))) + (x13.fdiv 2147483648))) + 1)).tmod 2147483647))) (fun s6 => (s6.1, s6.2)) (x1.length) 0 (1, 2) : Option ((Int × Int))).bind fun x5 =>
  some (i64.wrap ((i64.wrap (x5.1 * 2147483648)) + x5.2)))
theorem c_impl_hash : ∀ {a0} {r}, F_impl_hash a0 = some r → PCalls Tryz.prog 125 [(.sh, .sl false 1 (a0.map row_i64))] (Eo (.int .i64 r) [.junk]) := by
  intro a0 r hr
  apply pF 52 [] [] [] [.tmp 2] hr cl125 Tryz.func125
  intro Φ hΦ hF g
  unfold F_impl_hash at hF
  obtain ⟨g, hF⟩ := Rg g hF
  obtain ⟨x1, e2, hF⟩ := Rn_bind hF
  have g := And.intro g (show [.int .i64 (a0.length : Int)] :: (List.map row_i64 a0) = x1.map row_i64 by injection e2 with e2; rw [← e2]; simp [go_sem])
  iterate 2 (try simp [go_sem, g]; try intros; refine pw_wk ?_)
  try simp [go_sem, g]
  try intros
  refine pw_wkK [3, 4, 13, 14, 15] (by simp [go_sem, g]; rfl) ?_
  repeat rw [sq]
  refine pJ hF (fun x5 => [(3, .v (.int .i64 x5.1)), (4, .v (.int .i64 x5.2))]) (fun x5 hF => ?_) fun _ hj3 hF => ?_
  ·have g := Ls g 31
   cases hΦ _ (Rn_some hF)
   try simp [go_sem, g]
   refine pw_wk ?_
   try simp [go_sem, g]
  ·repeat rw [sq]
   rw [pw_block]
   obtain ⟨b14, hb15, hψ10⟩ := hF
   refine pR hb15 (fun i7 s6 => [(3, .v (.int .i64 s6.1)), (4, .v (.int .i64 s6.2)), (13, .v (.sl true 1 (x1.map row_i64))), (14, .v (.int .i64 (x1.length : Int))), (15, .v (.int .i64 i7))]) (fun s6 _ hN16 => ?_) (fun i7 s6 _ _ hi11 hi12 ho8 hg9 hF => ?_)
   ·subst hN16
    try simp [go_sem]
    refine pw_wk ?_
    repeat rw [sq]
    refine pw_cond_f (by simp [go_sem]) ?_
    try simp [go_sem]
    exact pT (hj3 (s6.1, s6.2)) hψ10 (by simp [go_sem])
   ·try simp [go_sem, g]
    refine pw_wk ?_
    repeat rw [sq]
    refine pw_cond_t (by simp [go_sem, g, hi11, hi12]) ?_
    try simp [go_sem, g]
    refine pw_wk ?_
    repeat rw [sq]
    rw [pw_block]
    obtain ⟨x13, g, hF⟩ := Rx g hF
    have g := Ls g 31
    try simp [go_sem, g]
    refine pw_wk ?_
    try simp [go_sem, g]
    refine pw_wkK [3, 4, 7, 8, 13, 14, 15] (by simp [go_sem, g]; rfl) ?_
    have g := Ld g 2147483647
    try simp [go_sem, g]
    refine pw_wk ?_
    try simp [go_sem, g]
    refine pw_wkK [3, 4, 7, 8, 13, 14, 15] (by simp [go_sem, g]; rfl) ?_
    try simp [go_sem, g]
    refine pw_wk ?_
    try simp [go_sem, g]
    refine pw_wkK [3, 4, 13, 14, 15] (by simp [go_sem, g]; rfl) ?_
    try simp [go_sem, g]
    exact pT (hg9 ((i64.wrap ((i64.wrap ((i64.wrap (48271 * ((i64.wrap ((i64.wrap ((i64.wrap (48271 * s6.1)) + (i64.wrap ((BitVec.ofInt i64.bits x13 &&& BitVec.ofInt i64.bits 2147483647).toNat)))) + 1)).tmod 2147483647))) + (x13.fdiv 2147483648))) + 1)).tmod 2147483647, (i64.wrap ((i64.wrap ((i64.wrap (69621 * ((i64.wrap ((i64.wrap ((i64.wrap (69621 * s6.2)) + (i64.wrap ((BitVec.ofInt i64.bits x13 &&& BitVec.ofInt i64.bits 2147483647).toNat)))) + 1)).tmod 2147483647))) + (x13.fdiv 2147483648))) + 1)).tmod 2147483647)) (Rn_some hF) (by simp [go_sem, g, wr_i hi11 hi12 (by assumption)])
noncomputable def F_impl_HashInts (a0 : (List Int)) : Option (Int × Bool) :=
  (F_impl_areDigests a0).bind fun z1 =>
  if (!z1) = true then (
  some (0, false)) else (
  (F_impl_hash a0).bind fun z3 =>
  some (z3, true))
theorem c_impl_HashInts : ∀ {a0} {r}, F_impl_HashInts a0 = some r → PCalls Tryz.prog 114 [(.sh, .sl false 1 (a0.map row_i64))] (Eo (.tup [.int .i64 r.1, .bool r.2]) [.junk]) := by
  intro a0 r hr
  apply pF 9 [] [] [] [.tmp 2, .tmp 3] hr cl114 Tryz.func114
  intro Φ hΦ hF g
  unfold F_impl_HashInts at hF
  try simp [go_sem, g]
  refine pw_wk ?_
  try simp [go_sem, g]
  refine pC hF [.sh] c_impl_areDigests (fun z1 hF => ?_)
  try simp [go_sem, g]
  refine pw_wk ?_
  repeat rw [sq]
  refine pI hF (fun h2 hF => ?_) (fun h2 hF => ?_)
  ·cases hΦ _ (Rn_some hF)
   try simp [go_sem, g]
   refine pw_wk ?_
   try simp [go_sem, g]
  ·try simp [go_sem, g]
   refine pw_wk ?_
   try simp [go_sem, g]
   refine pC hF [.sh] c_impl_hash (fun z3 hF => ?_)
   cases hΦ _ (Rn_some hF)
   try simp [go_sem, g]
   refine pw_wk ?_
   try simp [go_sem, g]
noncomputable def F_impl_HashLabelled (a0 : ByteArray) (a1 : (List Int)) : Option (Int × Bool) :=
  ((if decide (40 < (a0.size : Int)) = true then (
  some true) else (
  some (decide (400 < (a1.length : Int)))) : Option (Bool)).bind fun x3 =>
  if x3 = true then (
  some (0, false)) else (
  (F_impl_labelled a0 a1).bind fun z6 =>
  (F_impl_HashInts z6).bind fun z7 =>
  some (z7.1, z7.2)))
theorem c_impl_HashLabelled : ∀ {a0} {a1} {r}, F_impl_HashLabelled a0 a1 = some r → PCalls Tryz.prog 100 [(.sh, .str a0), (.sh, .sl false 1 (a1.map row_i64))] (Eo (.tup [.int .i64 r.1, .bool r.2]) [.junk, .junk]) := by
  intro a0 a1 r hr
  apply pF 20 [] [] [] [.tmp 4, .tmp 5] hr cl100 Tryz.func100
  intro Φ hΦ hF g
  unfold F_impl_HashLabelled at hF
  try simp [go_sem, g]
  refine pw_wk ?_
  repeat rw [sq]
  refine pJ hF (fun x3 => [(0, .v (.str a0)), (1, .v (.sl false 1 (a1.map row_i64))), (13, .v (.bool x3))]) (fun x3 hF => ?_) fun _ hj1 hF => ?_
  ·repeat rw [sq]
   refine pI hF (fun h5 hF => ?_) (fun h5 hF => ?_)
   ·cases hΦ _ (Rn_some hF)
    try simp [go_sem, g]
    refine pw_wk ?_
    try simp [go_sem, g]
   ·try simp [go_sem, g]
    refine pw_wk ?_
    try simp [go_sem, g]
    refine pC hF [.sh, .sh] c_impl_labelled (fun z6 hF => ?_)
    try simp [go_sem, g]
    refine pC hF [.sh] c_impl_HashInts (fun z7 hF => ?_)
    try simp [go_sem, g]
    refine pw_wkK [4, 5] (by simp [go_sem, g]; rfl) ?_
    cases hΦ _ (Rn_some hF)
    try simp [go_sem, g]
  ·try simp [go_sem, g]
   refine pwg_F hF (fun h4 hF => ?_) fun h4 hF => ?_
   ·try simp [go_sem, g, h4]
    exact pT (hj1 true) (Rn_some hF)
   ·try simp [go_sem, g, h4]
    try intros
    exact pT (hj1 (decide (400 < (a1.length : Int)))) (Rn_some hF)
noncomputable def F_impl_EntryDigest (a0 : Int) (a1 : Int) (a2 : Int) (a3 : (List Int)) : Option (Int × Bool) :=
  (((F_impl_isPlainEntry a0 a1 a3).bind fun z4 =>
  if (!z4) = true then (
  some true) else (
  (F_impl_within a2 0 63).bind fun z6 =>
  some (!z6)) : Option (Bool)).bind fun x3 =>
  if x3 = true then (
  some (0, false)) else (
  gd (([a0, a1, a2].length + a3.length) * 8 ≤ 140737488355328 ∧ [a0, a1, a2].length + a3.length ≤ 4611686018427387904) <|
  (F_impl_HashLabelled (⟨#[101, 110, 116, 114, 121]⟩ : ByteArray) ([a0, a1, a2] ++ a3)).bind fun z8 =>
  some (z8.1, z8.2)))
theorem c_impl_EntryDigest : ∀ {a0} {a1} {a2} {a3} {r}, F_impl_EntryDigest a0 a1 a2 a3 = some r → PCalls Tryz.prog 87 [(.sh, .int .i64 a0), (.sh, .int .i64 a1), (.sh, .int .i64 a2), (.sh, .sl false 1 (a3.map row_i64))] (Eo (.tup [.int .i64 r.1, .bool r.2]) [.junk, .junk, .junk, .junk]) := by
  intro a0 a1 a2 a3 r hr
  apply pF 29 [] [] [] [.tmp 8, .tmp 9] hr cl87 Tryz.func87
  intro Φ hΦ hF g
  unfold F_impl_EntryDigest at hF
  try simp [go_sem, g]
  refine pw_wk ?_
  repeat rw [sq]
  refine pJ hF (fun x3 => [(0, .v (.int .i64 a0)), (1, .v (.int .i64 a1)), (2, .v (.int .i64 a2)), (3, .v (.sl false 1 (a3.map row_i64))), (19, .v (.bool x3))]) (fun x3 hF => ?_) fun _ hj1 hF => ?_
  ·repeat rw [sq]
   refine pI hF (fun h7 hF => ?_) (fun h7 hF => ?_)
   ·cases hΦ _ (Rn_some hF)
    try simp [go_sem, g]
    refine pw_wk ?_
    try simp [go_sem, g]
   ·obtain ⟨g, hF⟩ := Rg g hF
    try simp [go_sem, g]
    refine pw_wk ?_
    try simp [go_sem, g]
    refine pC hF [.sh, .sh] c_impl_HashLabelled (fun z8 hF => ?_)
    try simp [go_sem, g]
    refine pw_wkK [8, 9] (by simp [go_sem, g]; rfl) ?_
    cases hΦ _ (Rn_some hF)
    try simp [go_sem, g]
  ·try simp [go_sem, g]
   refine pC hF [.sh, .sh, .sh] c_impl_isPlainEntry (fun z4 hF => ?_)
   try simp [go_sem, g]
   refine pwg_F hF (fun h5 hF => ?_) fun h5 hF => ?_
   ·try simp [go_sem, g, h5]
    exact pT (hj1 true) (Rn_some hF)
   ·try simp [go_sem, g, h5]
    refine pC hF [.sh, .sh, .sh] c_impl_within (fun z6 hF => ?_)
    try simp [go_sem, g, h5]
    exact pT (hj1 (!z6)) (Rn_some hF)
noncomputable def F_impl_DigestText (a0 : Int) : Option (ByteArray × Bool) :=
  (F_impl_isDigest a0).bind fun z1 =>
  if (!z1) = true then (
  some ((⟨#[]⟩ : ByteArray), false)) else (
  ((wloop (σ := (List Int) × Int) (fun s6 =>
  if decide (0 ≤ s6.2) = true then (
  gd (0 ≤ (u64.wrap (i64.wrap (4 * s6.2)))) <|
  (ixs (⟨#[48, 49, 50, 51, 52, 53, 54, 55, 56, 57, 97, 98, 99, 100, 101, 102]⟩ : ByteArray) (i64.wrap ((BitVec.ofInt i64.bits (a0.fdiv (2 ^ min (u64.wrap (i64.wrap (4 * s6.2))).toNat i64.bits)) &&& BitVec.ofInt i64.bits 15).toNat))).bind fun x12 =>
  gd ((s6.1.length + 1) * 1 ≤ 140737488355328 ∧ s6.1.length + 1 ≤ 4611686018427387904) <|
  some (.go (s6.1 ++ [x12], i64.wrap (s6.2 - 1)))) else (
  some (.out s6.1))) ([], 15) : Option ((List Int))).bind fun x5 =>
  some ((bytesOf x5), true)))
theorem c_impl_DigestText : ∀ {a0} {r}, F_impl_DigestText a0 = some r → PCalls Tryz.prog 102 [(.sh, .int .i64 a0)] (Eo (.tup [.str r.1, .bool r.2]) [.junk]) := by
  intro a0 r hr
  apply pF 26 [] [] [1000000] [.tmp 2, .tmp 3] hr cl102 Tryz.func102
  intro Φ hΦ hF g
  unfold F_impl_DigestText at hF
  try simp [go_sem, g]
  refine pw_wk ?_
  try simp [go_sem, g]
  refine pC hF [.sh] c_impl_isDigest (fun z1 hF => ?_)
  try simp [go_sem, g]
  refine pw_wk ?_
  repeat rw [sq]
  refine pI hF (fun h2 hF => ?_) (fun h2 hF => ?_)
  ·cases hΦ _ (Rn_some hF)
   try simp [go_sem, g]
   refine pw_wk ?_
   try simp [go_sem, g]
  ·iterate 3 (try simp [go_sem, g]; refine pw_wk ?_)
   repeat rw [sq]
   refine pJ hF (fun x5 => [(4, .v (.sl true 1 (x5.map row_u8)))]) (fun x5 hF => ?_) fun _ hj3 hF => ?_
   ·try simp [go_sem, g]
    refine pw_wkK [2, 3] (by simp [go_sem, g]; rfl) ?_
    cases hΦ _ (Rn_some hF)
    try simp [go_sem, g]
   ·repeat rw [sq]
    rw [pw_block]
    obtain ⟨b13, hb14, hψ10⟩ := hF
    refine pL hb14 (fun s6 => [(0, .v (.int .i64 a0)), (4, .v (.sl true 1 (s6.1.map row_u8))), (5, .v (.int .i64 s6.2))]) (fun s6 _ _ ho8 hg9 hF => ?_)
    try simp [go_sem, g]
    refine pw_wkK [0, 4, 5, 11] (by simp [go_sem, g]; rfl) ?_
    repeat rw [sq]
    refine pI hF (fun h11 hF => ?_) (fun h11 hF => ?_)
    ·try simp [go_sem, g]
     refine pw_wk ?_
     repeat rw [sq]
     rw [pw_block]
     obtain ⟨g, hF⟩ := Rsh g hF
     obtain ⟨x12, g, hF⟩ := Rxs g hF
     obtain ⟨g, hF⟩ := Rg g hF
     try simp [go_sem, g]
     refine pw_wkK [0, 4, 5] (by simp [go_sem, g]; rfl) ?_
     try simp [go_sem, g]
     exact pT (hg9 (s6.1 ++ [x12], i64.wrap (s6.2 - 1))) (Rn_some hF)
    ·try simp [go_sem, g]
     cases ho8 _ (Rn_some hF)
     exact pT (hj3 s6.1) hψ10
noncomputable def F_impl_signLabel (a0 : ByteArray) (a1 : Int) : Option (ByteArray) :=
  (F_impl_DigestText a1).bind fun z1 =>
  gd (a0.size + z1.1.size ≤ 9223372036854775807) <|
  some (a0 ++ z1.1)
theorem c_impl_signLabel : ∀ {a0} {a1} {r}, F_impl_signLabel a0 a1 = some r → PCalls Tryz.prog 89 [(.sh, .str a0), (.sh, .int .i64 a1)] (Eo (.str r) [.junk, .junk]) := by
  intro a0 a1 r hr
  apply pF 15 [] [] [] [.tmp 4] hr cl89 Tryz.func89
  intro Φ hΦ hF g
  unfold F_impl_signLabel at hF
  try simp [go_sem, g]
  refine pw_wk ?_
  try simp [go_sem, g]
  refine pC hF [.sh] c_impl_DigestText (fun z1 hF => ?_)
  obtain ⟨g, hF⟩ := Rsa g hF
  try simp [go_sem, g]
  refine pw_wk ?_
  try simp [go_sem, g]
  refine pw_wkK [4] (by simp [go_sem, g]; rfl) ?_
  cases hΦ _ (Rn_some hF)
  try simp [go_sem, g]
noncomputable def F_impl_Group_isExp (a0 : Group) (a1 : Int) : Option (Bool) :=
  (F_impl_within a1 0 (i64.wrap (a0.Q - 1))).bind fun z1 =>
  some z1
theorem c_impl_Group_isExp : ∀ {a0} {a1} {r}, F_impl_Group_isExp a0 a1 = some r → PCalls Tryz.prog 126 [(.sh, .agg [.int .i64 a0.P, .int .i64 a0.Q, .int .i64 a0.G]), (.sh, .int .i64 a1)] (Eo (.bool r) [.junk, .junk]) := by
  intro a0 a1 r hr
  apply pF 10 [] [] [] [.tmp 4] hr cl126 Tryz.func126
  intro Φ hΦ hF g
  unfold F_impl_Group_isExp at hF
  try simp [go_sem, g]
  refine pw_wk ?_
  try simp [go_sem, g]
  refine pC hF [.sh, .sh, .sh] c_impl_within (fun z1 hF => ?_)
  cases hΦ _ (Rn_some hF)
  try simp [go_sem, g]
  refine pw_wk ?_
  try simp [go_sem, g]
noncomputable def F_impl_areAll_1__impl_Group_isExp (a0 : Int) (a1c0x0 : Group) : Option (Bool) :=
  (F_impl_Group_isExp a1c0x0 a0).bind fun z1 =>
  some (!z1)
theorem c_impl_areAll_1__impl_Group_isExp : ∀ {a0} {a1c0x0} {r}, F_impl_areAll_1__impl_Group_isExp a0 a1c0x0 = some r → PCalls Tryz.prog 57 [(.sh, .int .i64 a0), (.sh, .fp [.func (.func 126) [.agg [.int .i64 a1c0x0.P, .int .i64 a1c0x0.Q, .int .i64 a1c0x0.G]] []])] (Eo (.bool r) [.junk, .junk]) := by
  intro a0 a1c0x0 r hr
  apply pF 8 [] [] [] [.tmp 3] hr cl57 Tryz.func57
  intro Φ hΦ hF g
  unfold F_impl_areAll_1__impl_Group_isExp at hF
  try simp [go_sem, g]
  refine pw_wk ?_
  try simp [go_sem, g]
  refine pC hF [.sh] c_impl_Group_isExp (fun z1 hF => ?_)
  cases hΦ _ (Rn_some hF)
  try simp [go_sem, g]
  refine pw_wk ?_
  try simp [go_sem, g]
noncomputable def F_slices_IndexFunc_int_int__impl_areAll_1_impl_Group_isExp (a0 : (List Int)) (a1u0c0x0 : Group) : Option (Int) :=
  ((rloop (σ := Unit) (fun i5 s4 =>
  (ix a0 i5).bind fun x11 =>
  (F_impl_areAll_1__impl_Group_isExp x11 a1u0c0x0).bind fun z12 =>
  if z12 = true then (
  some (.out (.inr i5))) else (
  some (.go ()))) (fun s4 => .inl ()) (a0.length) 0 () : Option (Unit ⊕ Int)).bind (Sum.elim (fun x3 =>
  some (-1)) some))
theorem c_slices_IndexFunc_int_int__impl_areAll_1_impl_Group_isExp : ∀ {a0} {a1u0c0x0} {r}, F_slices_IndexFunc_int_int__impl_areAll_1_impl_Group_isExp a0 a1u0c0x0 = some r → PCalls Tryz.prog 79 [(.sh, .sl false 1 (a0.map row_i64)), (.sh, .func (.func 57) [] [.fp [.func (.func 126) [.agg [.int .i64 a1u0c0x0.P, .int .i64 a1u0c0x0.Q, .int .i64 a1u0c0x0.G]] []]])] (Eo (.int .i64 r) [.junk, .junk]) := by
  intro a0 a1u0c0x0 r hr
  apply pF 19 [] [] [] [.tmp 4] hr cl79 Tryz.func79
  intro Φ hΦ hF g
  unfold F_slices_IndexFunc_int_int__impl_areAll_1_impl_Group_isExp at hF
  iterate 2 (try simp [go_sem, g]; try intros; refine pw_wk ?_)
  repeat rw [sq]
  refine pJs hF (fun x3 => []) (fun x3 hF => ?_) fun _ hj1 hr2 hF => ?_
  ·cases hΦ _ (Rn_some hF)
   try simp [go_sem, g]
   refine pw_wk ?_
   try simp [go_sem, g]
  ·repeat rw [sq]
   rw [pw_block]
   obtain ⟨b14, hb15, hψ8⟩ := hF
   refine pR hb15 (fun i5 s4 => [(0, .v (.sl false 1 (a0.map row_i64))), (1, .v (.func (.func 57) [] [.fp [.func (.func 126) [.agg [.int .i64 a1u0c0x0.P, .int .i64 a1u0c0x0.Q, .int .i64 a1u0c0x0.G]] []]])), (7, .v (.int .i64 (a0.length : Int))), (8, .v (.int .i64 i5))]) (fun s4 _ hN16 => ?_) (fun i5 s4 _ _ hi9 hi10 ho6 hg7 hF => ?_)
   ·subst hN16
    try simp [go_sem]
    refine pw_wk ?_
    repeat rw [sq]
    refine pw_cond_f (by simp [go_sem]) ?_
    try simp [go_sem]
    exact pT (hj1 ()) hψ8 (by simp [go_sem])
   ·try simp [go_sem, g]
    refine pw_wk ?_
    repeat rw [sq]
    refine pw_cond_t (by simp [go_sem, g, hi9, hi10]) ?_
    try simp [go_sem, g]
    refine pw_wk ?_
    repeat rw [sq]
    rw [pw_block]
    obtain ⟨x11, g, hF⟩ := Rx g hF
    try simp [go_sem, g]
    refine pw_wk ?_
    try simp [go_sem, g]
    refine pC hF [.sh] c_impl_areAll_1__impl_Group_isExp (fun z12 hF => ?_)
    try simp [go_sem, g]
    refine pw_wkK [0, 1, 5, 7, 8, 16] (by simp [go_sem, g]; rfl) ?_
    repeat rw [sq]
    refine pI hF (fun h13 hF => ?_) (fun h13 hF => ?_)
    ·cases ho6 _ (Rn_some hF)
     cases hΦ _ (hr2 _ hψ8)
     try simp [go_sem, g]
     refine pw_wk ?_
     try simp [go_sem, g]
    ·try simp [go_sem, g]
     refine pw_wk ?_
     try simp [go_sem, g]
     exact pT (hg7 ()) (Rn_some hF) (by simp [go_sem, g, wr_i hi9 hi10 (by assumption)])
noncomputable def F_slices_ContainsFunc_int_int__impl_areAll_1_impl_Group_isExp (a0 : (List Int)) (a1u0c0x0 : Group) : Option (Bool) :=
  (F_slices_IndexFunc_int_int__impl_areAll_1_impl_Group_isExp a0 a1u0c0x0).bind fun z1 =>
  some (decide (0 ≤ z1))
theorem c_slices_ContainsFunc_int_int__impl_areAll_1_impl_Group_isExp : ∀ {a0} {a1u0c0x0} {r}, F_slices_ContainsFunc_int_int__impl_areAll_1_impl_Group_isExp a0 a1u0c0x0 = some r → PCalls Tryz.prog 56 [(.sh, .sl false 1 (a0.map row_i64)), (.sh, .func (.func 57) [] [.fp [.func (.func 126) [.agg [.int .i64 a1u0c0x0.P, .int .i64 a1u0c0x0.Q, .int .i64 a1u0c0x0.G]] []]])] (Eo (.bool r) [.junk, .junk]) := by
  intro a0 a1u0c0x0 r hr
  apply pF 9 [] [] [] [.tmp 4] hr cl56 Tryz.func56
  intro Φ hΦ hF g
  unfold F_slices_ContainsFunc_int_int__impl_areAll_1_impl_Group_isExp at hF
  try simp [go_sem, g]
  refine pw_wk ?_
  try simp [go_sem, g]
  refine pC hF [.sh, .sh] c_slices_IndexFunc_int_int__impl_areAll_1_impl_Group_isExp (fun z1 hF => ?_)
  cases hΦ _ (Rn_some hF)
  try simp [go_sem, g]
  refine pw_wk ?_
  try simp [go_sem, g]
noncomputable def F_impl_areAll__impl_Group_isExp (a0 : (List Int)) (a1x0 : Group) : Option (Bool) :=
  (F_slices_ContainsFunc_int_int__impl_areAll_1_impl_Group_isExp a0 a1x0).bind fun z1 =>
  some (!z1)
theorem c_impl_areAll__impl_Group_isExp : ∀ {a0} {a1x0} {r}, F_impl_areAll__impl_Group_isExp a0 a1x0 = some r → PCalls Tryz.prog 35 [(.sh, .sl false 1 (a0.map row_i64)), (.sh, .func (.func 126) [.agg [.int .i64 a1x0.P, .int .i64 a1x0.Q, .int .i64 a1x0.G]] [])] (Eo (.bool r) [.junk, .junk]) := by
  intro a0 a1x0 r hr
  apply pF 9 [] [] [1000000] [.tmp 4] hr cl35 Tryz.func35
  intro Φ hΦ hF g
  unfold F_impl_areAll__impl_Group_isExp at hF
  try simp [go_sem, g]
  refine pw_wk ?_
  try simp [go_sem, g]
  refine pC hF [.sh, .sh] c_slices_ContainsFunc_int_int__impl_areAll_1_impl_Group_isExp (fun z1 hF => ?_)
  cases hΦ _ (Rn_some hF)
  try simp [go_sem, g]
  refine pw_wk ?_
  try simp [go_sem, g]
noncomputable def F_impl_Group_areExps (a0 : Group) (a1 : (List Int)) : Option (Bool) :=
  (F_impl_areAll__impl_Group_isExp a1 a0).bind fun z1 =>
  some z1
theorem c_impl_Group_areExps : ∀ {a0} {a1} {r}, F_impl_Group_areExps a0 a1 = some r → PCalls Tryz.prog 116 [(.sh, .agg [.int .i64 a0.P, .int .i64 a0.Q, .int .i64 a0.G]), (.sh, .sl false 1 (a1.map row_i64))] (Eo (.bool r) [.junk, .junk]) := by
  intro a0 a1 r hr
  apply pF 9 [] [] [] [.tmp 4] hr cl116 Tryz.func116
  intro Φ hΦ hF g
  unfold F_impl_Group_areExps at hF
  try simp [go_sem, g]
  refine pw_wk ?_
  try simp [go_sem, g]
  refine pC hF [.sh, .sh] c_impl_areAll__impl_Group_isExp (fun z1 hF => ?_)
  cases hΦ _ (Rn_some hF)
  try simp [go_sem, g]
  refine pw_wk ?_
  try simp [go_sem, g]
theorem gr127 : GrowC Tryz.prog 127 24 := by
  intro n H e b es by_ z e1 e2 h0 h1 h2 h3 h4 h5
  refine acalls_intro cl127 Tryz.func127 rfl rfl (by simp [Tryz.f127]) fun hw => ?_
  have hn : ¬ n < 0 := by omega
  have hw1 : i64.wrap n = n := wrI (by omega)
  have hw0 : i64.wrap 0 = 0 := wrI (by omega)
  have ei : (intTy Tryz.prog 3).isSome = true := by kernel_rfl
  by_cases hp : 0 < n
  · have hne : n ≠ 0 := by omega
    have h5' := h5
    simp [okConst] at h5'
    simp [Tryz.f127, awp, aops, aop, ahp, aplain, plainOps, matl, mat, plainV, putO, athen, FR.put, FR.init, rdv, rda, binV, binInt, okConst, Am.lenV, sliceV, sliceBnds, bnd, bndM, aend, resL, resV, resT, hn, e1, e2, ei, hw1, hw0, hp, h1, h2, h3, h4, hne]
    exact h5'
  · have hz : n = 0 := by omega
    subst hz
    simp [Tryz.f127, awp, aops, aop, ahp, aplain, plainOps, matl, mat, plainV, putO, athen, FR.put, FR.init, rdv, rda, binV, binInt, okConst, Am.lenV, sliceV, sliceBnds, bnd, bndM, aend, resL, resV, resT, hn, e1, e2, hw1, hw0, hp]
noncomputable def F_slices_Concat_int_int (a0 : (List (List Int))) : Option ((List Int)) :=
  ((rloop (σ := Int) (fun i5 s4 =>
  (ix a0 i5).bind fun x11 =>
  if decide ((i64.wrap (s4 + (x11.length : Int))) < 0) = true then (
  none) else (
  some (.go (i64.wrap (s4 + (x11.length : Int)))))) (fun s4 => s4) (a0.length) 0 0 : Option (Int)).bind fun x3 =>
  gd (0 ≤ x3 ∧ 8 * x3 ≤ 140737488355328 ∧ x3 ≤ 4611686018427387904) <|
  ((rloop (σ := (List Int)) (fun i22 s21 =>
  (ix a0 i22).bind fun x28 =>
  gd ((s21.length + x28.length) * 8 ≤ 140737488355328 ∧ s21.length + x28.length ≤ 4611686018427387904) <|
  some (.go (s21 ++ x28))) (fun s21 => s21) (a0.length) 0 [] : Option ((List Int))).bind fun x20 =>
  some x20))
theorem c_slices_Concat_int_int : ∀ {a0} {r}, F_slices_Concat_int_int a0 = some r → PCalls Tryz.prog 118 [(.sh, .sl false 1 (a0.map row_zi64))] (Eo (.sl true 1 (r.map row_i64)) [.junk]) := by
  intro a0 r hr
  apply pF 36 [] [] [] [.tmp 2] hr cl118 Tryz.func118
  intro Φ hΦ hF g
  unfold F_slices_Concat_int_int at hF
  iterate 3 (try simp [go_sem, g]; try intros; refine pw_wk ?_)
  repeat rw [sq]
  refine pJ hF (fun x3 => [(0, .v (.sl false 1 (a0.map row_zi64))), (3, .v (.int .i64 x3))]) (fun x3 hF => ?_) fun _ hj1 hF => ?_
  ·obtain ⟨g17, hF⟩ := Rn_gd hF
   try simp [go_sem, g]
   refine pw_grow gr127 ez24 (by simp [go_sem, g]) g17 ?_
   try simp [go_sem, g]
   try intros
   refine pw_wk ?_
   try simp [go_sem, g]
   try intros
   refine pw_wkK [6, 25, 26, 27] (by simp [go_sem, g]; rfl) ?_
   repeat rw [sq]
   refine pJ hF (fun x20 => [(6, .v (.sl true 1 (x20.map row_i64)))]) (fun x20 hF => ?_) fun _ hj18 hF => ?_
   ·cases hΦ _ (Rn_some hF)
    try simp [go_sem, g]
    refine pw_wk ?_
    try simp [go_sem, g]
   ·repeat rw [sq]
    rw [pw_block]
    obtain ⟨b29, hb30, hψ25⟩ := hF
    refine pR hb30 (fun i22 s21 => [(6, .v (.sl true 1 (s21.map row_i64))), (25, .v (.sl false 1 (a0.map row_zi64))), (26, .v (.int .i64 (a0.length : Int))), (27, .v (.int .i64 i22))]) (fun s21 _ hN31 => ?_) (fun i22 s21 _ _ hi26 hi27 ho23 hg24 hF => ?_)
    ·subst hN31
     try simp [go_sem]
     refine pw_wk ?_
     repeat rw [sq]
     refine pw_cond_f (by simp [go_sem]) ?_
     try simp [go_sem]
     exact pT (hj18 s21) hψ25 (by simp [go_sem])
    ·try simp [go_sem, g]
     refine pw_wk ?_
     repeat rw [sq]
     refine pw_cond_t (by simp [go_sem, g, hi26, hi27]) ?_
     try simp [go_sem, g]
     refine pw_wk ?_
     repeat rw [sq]
     rw [pw_block]
     obtain ⟨x28, g, hF⟩ := Rx g hF
     obtain ⟨g, hF⟩ := Rg g hF
     iterate 2 (try simp [go_sem, g]; refine pw_wk ?_)
     try simp [go_sem, g]
     exact pT (hg24 (s21 ++ x28)) (Rn_some hF) (by simp [go_sem, g, wr_i hi26 hi27 (by assumption)])
  ·repeat rw [sq]
   rw [pw_block]
   obtain ⟨b13, hb14, hψ8⟩ := hF
   refine pR hb14 (fun i5 s4 => [(0, .v (.sl false 1 (a0.map row_zi64))), (3, .v (.int .i64 s4)), (9, .v (.sl false 1 (a0.map row_zi64))), (10, .v (.int .i64 (a0.length : Int))), (11, .v (.int .i64 i5))]) (fun s4 _ hN15 => ?_) (fun i5 s4 _ _ hi9 hi10 ho6 hg7 hF => ?_)
   ·subst hN15
    try simp [go_sem]
    refine pw_wk ?_
    repeat rw [sq]
    refine pw_cond_f (by simp [go_sem]) ?_
    try simp [go_sem]
    exact pT (hj1 s4) hψ8 (by simp [go_sem])
   ·try simp [go_sem, g]
    refine pw_wk ?_
    repeat rw [sq]
    refine pw_cond_t (by simp [go_sem, g, hi9, hi10]) ?_
    try simp [go_sem, g]
    refine pw_wk ?_
    repeat rw [sq]
    rw [pw_block]
    obtain ⟨x11, g, hF⟩ := Rx g hF
    try simp [go_sem, g]
    try intros
    refine pw_wk ?_
    try simp [go_sem, g]
    try intros
    refine pw_wkK [0, 3, 9, 10, 11] (by simp [go_sem, g]; rfl) ?_
    try simp [go_sem, g]
    refine pw_wk ?_
    repeat rw [sq]
    refine pI hF (fun h12 hF => ?_) (fun h12 hF => ?_)
    ·exact (Rn_none hF).elim
    ·try simp [go_sem, g]
     refine pw_wk ?_
     try simp [go_sem, g]
     exact pT (hg7 (i64.wrap (s4 + (x11.length : Int)))) (Rn_some hF) (by simp [go_sem, g, wr_i hi9 hi10 (by assumption)])
noncomputable def F_impl_Group_challenge (a0 : Group) (a1 : ByteArray) (a2 : (List Int)) : Option (Int × Bool) :=
  gd (([a0.P, a0.Q, a0.G].length + a2.length) * 8 ≤ 140737488355328 ∧ [a0.P, a0.Q, a0.G].length + a2.length ≤ 4611686018427387904) <|
  (F_impl_HashLabelled a1 ([a0.P, a0.Q, a0.G] ++ a2)).bind fun z1 =>
  if (!z1.2) = true then (
  some (0, false)) else (
  gd (a0.Q ≠ 0) <|
  some (z1.1.tmod a0.Q, true))
theorem c_impl_Group_challenge : ∀ {a0} {a1} {a2} {r}, F_impl_Group_challenge a0 a1 a2 = some r → PCalls Tryz.prog 117 [(.sh, .agg [.int .i64 a0.P, .int .i64 a0.Q, .int .i64 a0.G]), (.sh, .str a1), (.sh, .sl false 1 (a2.map row_i64))] (Eo (.tup [.int .i64 r.1, .bool r.2]) [.junk, .junk, .junk]) := by
  intro a0 a1 a2 r hr
  apply pF 30 [] [] [] [.tmp 6, .tmp 7] hr cl117 Tryz.func117
  intro Φ hΦ hF g
  unfold F_impl_Group_challenge at hF
  obtain ⟨g, hF⟩ := Rg g hF
  try simp [go_sem, g]
  refine pw_wk ?_
  try simp [go_sem, g]
  refine pC hF [.sh, .sh] c_impl_HashLabelled (fun z1 hF => ?_)
  try simp [go_sem, g]
  refine pw_wkK [3, 8, 9] (by simp [go_sem, g]; rfl) ?_
  try simp [go_sem, g]
  refine pw_wk ?_
  repeat rw [sq]
  refine pI hF (fun h2 hF => ?_) (fun h2 hF => ?_)
  ·cases hΦ _ (Rn_some hF)
   try simp [go_sem, g]
   refine pw_wk ?_
   try simp [go_sem, g]
  ·obtain ⟨g, hF⟩ := Rz g hF
   cases hΦ _ (Rn_some hF)
   iterate 2 (try simp [go_sem, g]; refine pw_wk ?_)
   try simp [go_sem, g]
noncomputable def F_impl_mod (a0 : Int) (a1 : Int) : Option (Int) :=
  gd (a1 ≠ 0) <|
  gd (a1 ≠ 0) <|
  some ((i64.wrap ((a0.tmod a1) + a1)).tmod a1)
theorem c_impl_mod : ∀ {a0} {a1} {r}, F_impl_mod a0 a1 = some r → PCalls Tryz.prog 129 [(.sh, .int .i64 a0), (.sh, .int .i64 a1)] (Eo (.int .i64 r) [.junk, .junk]) := by
  intro a0 a1 r hr
  apply pF 12 [] [] [] [.tmp 4] hr cl129 Tryz.func129
  intro Φ hΦ hF g
  unfold F_impl_mod at hF
  obtain ⟨g, hF⟩ := Rz g hF
  obtain ⟨g, hF⟩ := Rz g hF
  cases hΦ _ (Rn_some hF)
  iterate 2 (try simp [go_sem, g]; refine pw_wk ?_)
  try simp [go_sem, g]
def D120_1 : List DE := [d0 0 [1], d0 1 [2], d1 2 [3] 3, d2 3 [9] 3 9, d1 5 [3] 3, d2 6 [12] 3 12, d3 4 [8, 10], d3 7 [7, 11, 13], d0 8 [14]]
noncomputable def F_impl_Group_pow (a0 : Group) (a1 : Int) (a2 : Int) : Option (Int) :=
  (F_impl_mod a2 a0.Q).bind fun z1 =>
  (F_impl_power a1 z1 a0.P).bind fun z2 =>
  some z2
theorem c_impl_Group_pow : ∀ {a0} {a1} {a2} {r}, F_impl_Group_pow a0 a1 a2 = some r → PCalls Tryz.prog 120 [(.sh, .agg [.int .i64 a0.P, .int .i64 a0.Q, .int .i64 a0.G]), (.sh, .int .i64 a1), (.sh, .int .i64 a2)] (Eo (.int .i64 r) [.junk, .junk, .junk]) := by
  intro a0 a1 a2 r hr
  apply pF 15 [] [] [] [.tmp 6] hr cl120 Tryz.func120
  intro Φ hΦ hF g
  unfold F_impl_Group_pow at hF
  try simp [go_sem, g]
  refine pw_wk ?_
  repeat rw [sq]
  refine pw_draw D120_1 follows (by kernel_rfl) rfl ?_
  try simp only [go_sem, D120_1]
  try simp [go_sem, g]
  refine pC hF [.sh, .sh] c_impl_mod (fun z1 hF => ?_)
  try simp [go_sem, g]
  refine pC hF [.sh, .sh, .sh] c_impl_power (fun z2 hF => ?_)
  try simp [go_sem, g]
  refine pw_wkK [6] (by simp [go_sem, g]; rfl) ?_
  cases hΦ _ (Rn_some hF)
  try simp [go_sem, g]
noncomputable def F_impl_Group_mul (a0 : Group) (a1 : (List Int)) : Option (Int) :=
  ((rloop (σ := Int) (fun i5 s4 =>
  (ix a1 i5).bind fun x11 =>
  gd (a0.P ≠ 0) <|
  some (.go ((i64.wrap (s4 * x11)).tmod a0.P))) (fun s4 => s4) (a1.length) 0 1 : Option (Int)).bind fun x3 =>
  some x3)
theorem c_impl_Group_mul : ∀ {a0} {a1} {r}, F_impl_Group_mul a0 a1 = some r → PCalls Tryz.prog 24 [(.sh, .agg [.int .i64 a0.P, .int .i64 a0.Q, .int .i64 a0.G]), (.sh, .sl false 1 (a1.map row_i64))] (Eo (.int .i64 r) [.junk, .junk]) := by
  intro a0 a1 r hr
  apply pF 22 [] [] [] [.tmp 4] hr cl24 Tryz.func24
  intro Φ hΦ hF g
  unfold F_impl_Group_mul at hF
  iterate 3 (try simp [go_sem, g]; try intros; refine pw_wk ?_)
  repeat rw [sq]
  refine pJ hF (fun x3 => [(5, .v (.int .i64 x3))]) (fun x3 hF => ?_) fun _ hj1 hF => ?_
  ·cases hΦ _ (Rn_some hF)
   try simp [go_sem, g]
   refine pw_wk ?_
   try simp [go_sem, g]
  ·repeat rw [sq]
   rw [pw_block]
   obtain ⟨b12, hb13, hψ8⟩ := hF
   refine pR hb13 (fun i5 s4 => [(2, .bl [.int .i64 a0.P, .int .i64 a0.Q, .int .i64 a0.G]), (5, .v (.int .i64 s4)), (8, .v (.sl false 1 (a1.map row_i64))), (9, .v (.int .i64 (a1.length : Int))), (10, .v (.int .i64 i5))]) (fun s4 _ hN14 => ?_) (fun i5 s4 _ _ hi9 hi10 ho6 hg7 hF => ?_)
   ·subst hN14
    try simp [go_sem]
    refine pw_wk ?_
    repeat rw [sq]
    refine pw_cond_f (by simp [go_sem]) ?_
    try simp [go_sem]
    exact pT (hj1 s4) hψ8 (by simp [go_sem])
   ·try simp [go_sem, g]
    refine pw_wk ?_
    repeat rw [sq]
    refine pw_cond_t (by simp [go_sem, g, hi9, hi10]) ?_
    try simp [go_sem, g]
    refine pw_wk ?_
    repeat rw [sq]
    rw [pw_block]
    obtain ⟨x11, g, hF⟩ := Rx g hF
    try simp [go_sem, g]
    refine pw_wkK [2, 5, 7, 8, 9, 10] (by simp [go_sem, g]; rfl) ?_
    obtain ⟨g, hF⟩ := Rz g hF
    try simp [go_sem, g]
    refine pw_wk ?_
    try simp [go_sem, g]
    exact pT (hg7 ((i64.wrap (s4 * x11)).tmod a0.P)) (Rn_some hF) (by simp [go_sem, g, wr_i hi9 hi10 (by assumption)])
def D128_5 : List DE := [d2 0 [3] 3 3, d0 1 [7], d2 2 [3] 3 3, d0 3 [9], d0 4 [2], d0 5 [8], d0 6 [21, 22], d0 7 [23], d3 8 [19, 20, 24], d0 9 [18, 25], ⟨10, [17, 26], [], none, true, true, true⟩, d0 11 [27]]
noncomputable def F_impl_Group_powers (a0 : Group) (a1 : (List Int)) (a2 : (List Int)) : Option (Int) :=
  ((rloop (σ := Int) (fun i5 s4 =>
  (ix a1 i5).bind fun x11 =>
  (ix a2 i5).bind fun x12 =>
  (F_impl_Group_pow a0 x11 x12).bind fun z13 =>
  (F_impl_Group_mul a0 [s4, z13]).bind fun z14 =>
  some (.go z14)) (fun s4 => s4) (a1.length) 0 1 : Option (Int)).bind fun x3 =>
  some x3)
theorem c_impl_Group_powers : ∀ {a0} {a1} {a2} {r}, F_impl_Group_powers a0 a1 a2 = some r → PCalls Tryz.prog 128 [(.sh, .agg [.int .i64 a0.P, .int .i64 a0.Q, .int .i64 a0.G]), (.sh, .sl false 1 (a1.map row_i64)), (.sh, .sl false 1 (a2.map row_i64))] (Eo (.int .i64 r) [.junk, .junk, .junk]) := by
  intro a0 a1 a2 r hr
  apply pF 30 [] [] [] [.tmp 6] hr cl128 Tryz.func128
  intro Φ hΦ hF g
  unfold F_impl_Group_powers at hF
  iterate 3 (try simp [go_sem, g]; try intros; refine pw_wk ?_)
  repeat rw [sq]
  refine pJ hF (fun x3 => [(7, .v (.int .i64 x3))]) (fun x3 hF => ?_) fun _ hj1 hF => ?_
  ·cases hΦ _ (Rn_some hF)
   try simp [go_sem, g]
   refine pw_wk ?_
   try simp [go_sem, g]
  ·repeat rw [sq]
   rw [pw_block]
   obtain ⟨b15, hb16, hψ8⟩ := hF
   refine pR hb16 (fun i5 s4 => [(2, .v (.sl false 1 (a2.map row_i64))), (3, .bl [.int .i64 a0.P, .int .i64 a0.Q, .int .i64 a0.G]), (7, .v (.int .i64 s4)), (10, .v (.sl false 1 (a1.map row_i64))), (11, .v (.int .i64 (a1.length : Int))), (12, .v (.int .i64 i5))]) (fun s4 _ hN17 => ?_) (fun i5 s4 _ _ hi9 hi10 ho6 hg7 hF => ?_)
   ·subst hN17
    try simp [go_sem]
    refine pw_wk ?_
    repeat rw [sq]
    refine pw_cond_f (by simp [go_sem]) ?_
    try simp [go_sem]
    exact pT (hj1 s4) hψ8 (by simp [go_sem])
   ·try simp [go_sem, g]
    refine pw_wk ?_
    repeat rw [sq]
    refine pw_cond_t (by simp [go_sem, g, hi9, hi10]) ?_
    try simp [go_sem, g]
    refine pw_wk ?_
    repeat rw [sq]
    rw [pw_block]
    obtain ⟨x11, g, hF⟩ := Rx g hF
    try simp [go_sem, g]
    refine pw_wkK [2, 3, 7, 8, 9, 10, 11, 12] (by simp [go_sem, g]; rfl) ?_
    repeat rw [sq]
    refine pw_draw D128_5 follows (by kernel_rfl) rfl ?_
    try simp only [go_sem, D128_5]
    obtain ⟨x12, g, hF⟩ := Rx g hF
    try simp [go_sem, g]
    refine pC hF [.sh, .sh, .sh] c_impl_Group_pow (fun z13 hF => ?_)
    try simp [go_sem, g]
    refine pC hF [.sh, .sh] c_impl_Group_mul (fun z14 hF => ?_)
    try simp [go_sem, g]
    refine pw_wkK [2, 3, 7, 10, 11, 12] (by simp [go_sem, g]; rfl) ?_
    try simp [go_sem, g]
    exact pT (hg7 z14) (Rn_some hF) (by simp [go_sem, g, wr_i hi9 hi10 (by assumption)])
noncomputable def F_impl_Group_images (a0 : Group) (a1 : (List (List Int))) (a2 : (List Int)) : Option ((List Int)) :=
  ((rloop (σ := (List Int)) (fun i5 s4 =>
  (ix a1 i5).bind fun x11 =>
  (F_impl_Group_powers a0 x11 a2).bind fun z12 =>
  gd ((s4.length + 1) * 8 ≤ 140737488355328 ∧ s4.length + 1 ≤ 4611686018427387904) <|
  some (.go (s4 ++ [z12]))) (fun s4 => s4) (a1.length) 0 [] : Option ((List Int))).bind fun x3 =>
  some x3)
theorem c_impl_Group_images : ∀ {a0} {a1} {a2} {r}, F_impl_Group_images a0 a1 a2 = some r → PCalls Tryz.prog 119 [(.sh, .agg [.int .i64 a0.P, .int .i64 a0.Q, .int .i64 a0.G]), (.sh, .sl false 1 (a1.map row_zi64)), (.sh, .sl false 1 (a2.map row_i64))] (Eo (.sl true 1 (r.map row_i64)) [.junk, .junk, .junk]) := by
  intro a0 a1 a2 r hr
  apply pF 26 [] [] [] [.tmp 6] hr cl119 Tryz.func119
  intro Φ hΦ hF g
  unfold F_impl_Group_images at hF
  iterate 3 (try simp [go_sem, g]; try intros; refine pw_wk ?_)
  repeat rw [sq]
  refine pJ hF (fun x3 => [(7, .v (.sl true 1 (x3.map row_i64)))]) (fun x3 hF => ?_) fun _ hj1 hF => ?_
  ·cases hΦ _ (Rn_some hF)
   try simp [go_sem, g]
   refine pw_wk ?_
   try simp [go_sem, g]
  ·repeat rw [sq]
   rw [pw_block]
   obtain ⟨b13, hb14, hψ8⟩ := hF
   refine pR hb14 (fun i5 s4 => [(2, .v (.sl false 1 (a2.map row_i64))), (3, .bl [.int .i64 a0.P, .int .i64 a0.Q, .int .i64 a0.G]), (7, .v (.sl true 1 (s4.map row_i64))), (11, .v (.sl false 1 (a1.map row_zi64))), (12, .v (.int .i64 (a1.length : Int))), (13, .v (.int .i64 i5))]) (fun s4 _ hN15 => ?_) (fun i5 s4 _ _ hi9 hi10 ho6 hg7 hF => ?_)
   ·subst hN15
    try simp [go_sem]
    refine pw_wk ?_
    repeat rw [sq]
    refine pw_cond_f (by simp [go_sem]) ?_
    try simp [go_sem]
    exact pT (hj1 s4) hψ8 (by simp [go_sem])
   ·try simp [go_sem, g]
    refine pw_wk ?_
    repeat rw [sq]
    refine pw_cond_t (by simp [go_sem, g, hi9, hi10]) ?_
    try simp [go_sem, g]
    refine pw_wk ?_
    repeat rw [sq]
    rw [pw_block]
    obtain ⟨x11, g, hF⟩ := Rx g hF
    try simp [go_sem, g]
    refine pw_wkK [2, 3, 7, 9, 11, 12, 13] (by simp [go_sem, g]; rfl) ?_
    try simp [go_sem, g]
    refine pC hF [.sh, .sh, .sh] c_impl_Group_powers (fun z12 hF => ?_)
    obtain ⟨g, hF⟩ := Rg g hF
    try simp [go_sem, g]
    refine pw_wk ?_
    try simp [go_sem, g]
    exact pT (hg7 (s4 ++ [z12])) (Rn_some hF) (by simp [go_sem, g, wr_i hi9 hi10 (by assumption)])
def D101_1 : List DE := [d1 0 [9] 9, d2 1 [15] 9 15, d0 2 [16], d0 3 [2], d0 4 [18], d0 5 [17, 19], d0 6 [20], d1 7 [9, 21] 9, d2 8 [22, 21] 9 22, d0 9 [23, 21], d0 10 [24, 21], d0 11 [21, 25], d0 12 [26], d1 13 [9, 27] 9, d2 14 [28, 27] 9 28, d0 15 [29, 27], d0 16 [2, 27], d0 17 [31, 27], d0 18 [32, 27], d0 19 [33, 27], d0 20 [30, 34, 27], d0 21 [27, 35], d0 22 [36], d2 23 [5, 37] 5 5, d1 24 [9, 37] 9, d2 25 [39, 37] 9 39, d3 26 [38, 40, 37], d0 27 [41, 37], d0 28 [37, 42], d0 29 [43], d2 30 [5, 44] 5 5, d1 31 [9, 44] 9, d2 32 [46, 44] 9 46, d3 33 [45, 47, 44], d0 34 [48, 44], d0 35 [44, 49]]
def D101_3 : List DE := [d2 0 [5] 5 5, d0 1 [1], d0 2 [2], d0 4 [3], d1 5 [9] 9, d2 6 [57] 9 57, d3 3 [54], d0 7 [55, 56, 58], ⟨8, [59], [], none, true, true, true⟩, d3 9 [52, 53, 60], d0 10 [61], d0 11 [51], d0 12 [51], d0 13 [62], d0 14 [63]]
def D101_9 : List DE := [d0 0 [14], d2 1 [5] 5 5, d1 2 [9] 9, d2 3 [87] 9 87, d0 4 [13], d0 5 [88, 89], d0 6 [90], d2 7 [5] 5 5, d0 8 [3], d0 9 [13], d0 10 [93, 94], d0 11 [95], d0 12 [11], ⟨13, [92, 96, 97], [], none, false, true, false⟩, d0 14 [91, 98], ⟨15, [86, 99], [], none, true, true, true⟩, d0 16 [85, 100]]
noncomputable def F_impl_Group_verifyLinear (a0 : Group) (a1 : ByteArray) (a2 : (List (List Int))) (a3 : (List Int)) (a4 : Proof) : Option (Bool) :=
  ((if ((a4.Commits.length : Int) != (a2.length : Int)) = true then (
  some true) else (
  if ((a4.Challenges.length : Int) != 1) = true then (
  some true) else (
  (ix a2 0).bind fun x6 =>
  if ((a4.Responses.length : Int) != (x6.length : Int)) = true then (
  some true) else (
  (F_impl_Group_hasAll a0 a4.Commits).bind fun z8 =>
  if (!z8) = true then (
  some true) else (
  (F_impl_Group_areExps a0 a4.Responses).bind fun z10 =>
  some (!z10))))) : Option (Bool)).bind fun x3 =>
  if x3 = true then (
  some false) else (
  (F_slices_Concat_int_int a2).bind fun z12 =>
  (F_slices_Concat_int_int [z12, a3, a4.Commits]).bind fun z13 =>
  (F_impl_Group_challenge a0 a1 z13).bind fun z14 =>
  ((if (!z14.2) = true then (
  some true) else (
  (ix a4.Challenges 0).bind fun x19 =>
  some (x19 != z14.1)) : Option (Bool)).bind fun x17 =>
  if x17 = true then (
  some false) else (
  (F_impl_Group_images a0 a2 a4.Responses).bind fun z21 =>
  ((rloop (σ := Unit) (fun i26 s25 =>
  (ix z21 i26).bind fun x32 =>
  (ix a4.Commits i26).bind fun x33 =>
  (ix a3 i26).bind fun x34 =>
  (F_impl_Group_pow a0 x34 z14.1).bind fun z35 =>
  (F_impl_Group_mul a0 [x33, z35]).bind fun z36 =>
  if (x32 != z36) = true then (
  some (.out (.inr false))) else (
  some (.go ()))) (fun s25 => .inl ()) (z21.length) 0 () : Option (Unit ⊕ Bool)).bind (Sum.elim (fun x24 =>
  some true) some))))))
theorem c_impl_Group_verifyLinear : ∀ {a0} {a1} {a2} {a3} {a4} {r}, F_impl_Group_verifyLinear a0 a1 a2 a3 a4 = some r → PCalls Tryz.prog 101 [(.sh, .agg [.int .i64 a0.P, .int .i64 a0.Q, .int .i64 a0.G]), (.sh, .str a1), (.sh, .sl false 1 (a2.map row_zi64)), (.sh, .sl false 1 (a3.map row_i64)), (.sh, .agg [.sl false 1 (a4.Commits.map row_i64), .sl false 1 (a4.Challenges.map row_i64), .sl false 1 (a4.Responses.map row_i64)])] (Eo (.bool r) [.junk, .junk, .junk, .junk, .junk]) := by
  intro a0 a1 a2 a3 a4 r hr
  apply pF 103 [] [55] [] [.tmp 10] hr cl101 Tryz.func101
  intro Φ hΦ hF g
  unfold F_impl_Group_verifyLinear at hF
  try simp [go_sem, g]
  refine pw_wk ?_
  repeat rw [sq]
  refine pJ hF (fun x3 => [(1, .v (.str a1)), (2, .v (.sl false 1 (a2.map row_zi64))), (3, .v (.sl false 1 (a3.map row_i64))), (5, .bl [.int .i64 a0.P, .int .i64 a0.Q, .int .i64 a0.G]), (9, .bl [.sl false 1 (a4.Commits.map row_i64), .sl false 1 (a4.Challenges.map row_i64), .sl false 1 (a4.Responses.map row_i64)]), (50, .v (.bool x3))]) (fun x3 hF => ?_) fun _ hj1 hF => ?_
  ·repeat rw [sq]
   refine pI hF (fun h11 hF => ?_) (fun h11 hF => ?_)
   ·cases hΦ _ (Rn_some hF)
    try simp [go_sem, g]
    refine pw_wk ?_
    try simp [go_sem, g]
   ·try simp [go_sem, g]
    refine pw_wk ?_
    repeat rw [sq]
    refine pw_draw D101_3 follows (by kernel_rfl) rfl ?_
    try simp only [go_sem, D101_3]
    try simp [go_sem, g]
    refine pC hF [.sh] c_slices_Concat_int_int (fun z12 hF => ?_)
    try simp [go_sem, g]
    refine pC hF [.sh] c_slices_Concat_int_int (fun z13 hF => ?_)
    try simp [go_sem, g]
    refine pC hF [.sh, .sh, .sh] c_impl_Group_challenge (fun z14 hF => ?_)
    try simp [go_sem, g]
    refine pw_wkK [2, 3, 5, 9, 11, 12] (by simp [go_sem, g]; rfl) ?_
    repeat rw [sq]
    refine pJ hF (fun x17 => [(2, .v (.sl false 1 (a2.map row_zi64))), (3, .v (.sl false 1 (a3.map row_i64))), (5, .bl [.int .i64 a0.P, .int .i64 a0.Q, .int .i64 a0.G]), (9, .bl [.sl false 1 (a4.Commits.map row_i64), .sl false 1 (a4.Challenges.map row_i64), .sl false 1 (a4.Responses.map row_i64)]), (11, .v (.int .i64 z14.1)), (73, .v (.bool x17))]) (fun x17 hF => ?_) fun _ hj15 hF => ?_
    ·repeat rw [sq]
     refine pI hF (fun h20 hF => ?_) (fun h20 hF => ?_)
     ·cases hΦ _ (Rn_some hF)
      try simp [go_sem, g]
      refine pw_wk ?_
      try simp [go_sem, g]
     ·try simp [go_sem, g]
      refine pw_wk ?_
      try simp [go_sem, g]
      refine pC hF [.sh, .sh, .sh] c_impl_Group_images (fun z21 hF => ?_)
      try simp [go_sem, g]
      try intros
      refine pw_wk ?_
      repeat rw [sq]
      refine pJs hF (fun x24 => []) (fun x24 hF => ?_) fun _ hj22 hr23 hF => ?_
      ·cases hΦ _ (Rn_some hF)
       try simp [go_sem, g]
       refine pw_wk ?_
       try simp [go_sem, g]
      ·repeat rw [sq]
       rw [pw_block]
       obtain ⟨b38, hb39, hψ29⟩ := hF
       refine pR hb39 (fun i26 s25 => [(3, .v (.sl false 1 (a3.map row_i64))), (5, .bl [.int .i64 a0.P, .int .i64 a0.Q, .int .i64 a0.G]), (9, .bl [.sl false 1 (a4.Commits.map row_i64), .sl false 1 (a4.Challenges.map row_i64), .sl false 1 (a4.Responses.map row_i64)]), (11, .v (.int .i64 z14.1)), (78, .v (.sl true 1 (z21.map row_i64))), (79, .v (.int .i64 (z21.length : Int))), (80, .v (.int .i64 i26))]) (fun s25 _ hN40 => ?_) (fun i26 s25 _ _ hi30 hi31 ho27 hg28 hF => ?_)
       ·subst hN40
        try simp [go_sem]
        refine pw_wk ?_
        repeat rw [sq]
        refine pw_cond_f (by simp [go_sem]) ?_
        try simp [go_sem]
        exact pT (hj22 ()) hψ29 (by simp [go_sem])
       ·try simp [go_sem, g]
        refine pw_wk ?_
        repeat rw [sq]
        refine pw_cond_t (by simp [go_sem, g, hi30, hi31]) ?_
        try simp [go_sem, g]
        refine pw_wk ?_
        repeat rw [sq]
        rw [pw_block]
        obtain ⟨x32, g, hF⟩ := Rx g hF
        try simp [go_sem, g]
        refine pw_wkK [3, 5, 9, 11, 13, 14, 78, 79, 80] (by simp [go_sem, g]; rfl) ?_
        repeat rw [sq]
        refine pw_draw D101_9 follows (by kernel_rfl) rfl ?_
        try simp only [go_sem, D101_9]
        obtain ⟨x33, g, hF⟩ := Rx g hF
        obtain ⟨x34, g, hF⟩ := Rx g hF
        try simp [go_sem, g]
        refine pCD hF c_impl_Group_pow (fun z35 hF => ?_)
        try simp [go_sem, g]
        refine pC hF [.sh, .sh] c_impl_Group_mul (fun z36 hF => ?_)
        try simp [go_sem, g]
        refine pw_wkK [3, 5, 9, 11, 78, 79, 80, 101] (by simp [go_sem, g]; rfl) ?_
        repeat rw [sq]
        refine pI hF (fun h37 hF => ?_) (fun h37 hF => ?_)
        ·cases ho27 _ (Rn_some hF)
         cases hΦ _ (hr23 _ hψ29)
         try simp [go_sem, g]
         refine pw_wk ?_
         try simp [go_sem, g]
        ·try simp [go_sem, g]
         refine pw_wk ?_
         try simp [go_sem, g]
         exact pT (hg28 ()) (Rn_some hF) (by simp [go_sem, g, wr_i hi30 hi31 (by assumption)])
    ·try simp [go_sem, g]
     refine pwg_F hF (fun h18 hF => ?_) fun h18 hF => ?_
     ·try simp [go_sem, g, h18]
      exact pT (hj15 true) (Rn_some hF)
     ·obtain ⟨x19, g, hF⟩ := Rxn g 0 hF
      try simp [go_sem, g, h18]
      exact pT (hj15 (x19 != z14.1)) (Rn_some hF)
  ·repeat rw [sq]
   refine pw_draw D101_1 follows (by kernel_rfl) rfl ?_
   try simp only [go_sem, D101_1]
   try simp [go_sem, g]
   try intros
   refine pwgD_F hF (fun h4 hF => ?_) fun h4 hF => ?_
   ·try simp [go_sem, g, h4]
    exact pT (hj1 true) (Rn_some hF)
   ·try simp [go_sem, g, h4]
    try intros
    refine pwgD_F hF (fun h5 hF => ?_) fun h5 hF => ?_
    ·try simp [go_sem, g, h5]
     exact pT (hj1 true) (Rn_some hF)
    ·obtain ⟨x6, g, hF⟩ := Rxn g 0 hF
     try simp [go_sem, g, h5]
     try intros
     refine pwgD_F hF (fun h7 hF => ?_) fun h7 hF => ?_
     ·try simp [go_sem, g, h7]
      exact pT (hj1 true) (Rn_some hF)
     ·try simp [go_sem, g, h7]
      refine pC hF [.sh, .sh] c_impl_Group_hasAll (fun z8 hF => ?_)
      try simp [go_sem, g, h7]
      refine pwgD_F hF (fun h9 hF => ?_) fun h9 hF => ?_
      ·try simp [go_sem, g, h9]
       exact pT (hj1 true) (Rn_some hF)
      ·try simp [go_sem, g, h9]
       refine pC hF [.sh, .sh] c_impl_Group_areExps (fun z10 hF => ?_)
       try simp [go_sem, g, h9]
       exact pT (hj1 (!z10)) (Rn_some hF)
noncomputable def F_impl_Group_isSigned (a0 : Group) (a1 : ByteArray) (a2 : Int) (a3 : Proof) : Option (Bool) :=
  (F_impl_Group_verifyLinear a0 a1 [[a0.G]] [a2] a3).bind fun z1 =>
  some z1
theorem c_impl_Group_isSigned : ∀ {a0} {a1} {a2} {a3} {r}, F_impl_Group_isSigned a0 a1 a2 a3 = some r → PCalls Tryz.prog 88 [(.sh, .agg [.int .i64 a0.P, .int .i64 a0.Q, .int .i64 a0.G]), (.sh, .str a1), (.sh, .int .i64 a2), (.sh, .agg [.sl false 1 (a3.Commits.map row_i64), .sl false 1 (a3.Challenges.map row_i64), .sl false 1 (a3.Responses.map row_i64)])] (Eo (.bool r) [.junk, .junk, .junk, .junk]) := by
  intro a0 a1 a2 a3 r hr
  apply pF 19 [] [] [] [.tmp 8] hr cl88 Tryz.func88
  intro Φ hΦ hF g
  unfold F_impl_Group_isSigned at hF
  try simp [go_sem, g]
  refine pw_wk ?_
  try simp [go_sem, g]
  refine pC hF [.sh, .sh, .sh, .sh, .sh] c_impl_Group_verifyLinear (fun z1 hF => ?_)
  try simp [go_sem, g]
  refine pw_wkK [8] (by simp [go_sem, g]; rfl) ?_
  cases hΦ _ (Rn_some hF)
  try simp [go_sem, g]
def D72_2 : List DE := [d0 0 [10], d0 1 [22], d2 2 [4, 23] 4 4, d0 3 [9, 23], d0 5 [1, 23], d1 6 [7, 23] 7, d2 7 [28, 23] 7 28, d3 4 [25, 23], d3 8 [24, 26, 27, 29, 23], d0 9 [23, 30], d0 10 [31]]
noncomputable def F_impl_Group_isEntry (a0 : Group) (a1 : Int) (a2 : Int) (a3 : Entry) : Option (Bool) :=
  (F_impl_EntryDigest a3.Kind a3.Author a2 a3.Data).bind fun z1 =>
  ((if z1.2 = true then (
  (F_impl_signLabel (⟨#[101, 110, 116, 114, 121, 32]⟩ : ByteArray) z1.1).bind fun z6 =>
  (F_impl_Group_isSigned a0 z6 a1 a3.Sign).bind fun z7 =>
  some z7) else (
  some false) : Option (Bool)).bind fun x4 =>
  some x4)
theorem c_impl_Group_isEntry : ∀ {a0} {a1} {a2} {a3} {r}, F_impl_Group_isEntry a0 a1 a2 a3 = some r → PCalls Tryz.prog 72 [(.sh, .agg [.int .i64 a0.P, .int .i64 a0.Q, .int .i64 a0.G]), (.sh, .int .i64 a1), (.sh, .int .i64 a2), (.sh, .agg [.int .i64 a3.Kind, .int .i64 a3.Author, .sl false 1 (a3.Data.map row_i64), .sl false 1 (a3.Sign.Commits.map row_i64), .sl false 1 (a3.Sign.Challenges.map row_i64), .sl false 1 (a3.Sign.Responses.map row_i64)])] (Eo (.bool r) [.junk, .junk, .junk, .junk]) := by
  intro a0 a1 a2 a3 r hr
  apply pF 32 [] [] [] [.tmp 8] hr cl72 Tryz.func72
  intro Φ hΦ hF g
  unfold F_impl_Group_isEntry at hF
  try simp [go_sem, g]
  refine pw_wk ?_
  try simp [go_sem, g]
  refine pC hF [.sh, .sh, .sh, .sh] c_impl_EntryDigest (fun z1 hF => ?_)
  try simp [go_sem, g]
  refine pw_wkK [1, 4, 7, 9, 10] (by simp [go_sem, g]; rfl) ?_
  repeat rw [sq]
  refine pJ hF (fun x4 => [(8, .v (.bool x4))]) (fun x4 hF => ?_) fun _ hj2 hF => ?_
  ·cases hΦ _ (Rn_some hF)
   try simp [go_sem, g]
  ·repeat rw [sq]
   refine pw_draw D72_2 follows (by kernel_rfl) rfl ?_
   try simp only [go_sem, D72_2]
   try simp [go_sem, g]
   refine pwgD_F hF (fun h5 hF => ?_) fun h5 hF => ?_
   ·try simp [go_sem, g, h5]
    refine pC hF [.sh, .sh] c_impl_signLabel (fun z6 hF => ?_)
    try simp [go_sem, g, h5]
    refine pC hF [.sh, .sh, .sh, .sh] c_impl_Group_isSigned (fun z7 hF => ?_)
    try simp [go_sem, g, h5]
    exact pT (hj2 z7) (Rn_some hF)
   ·try simp [go_sem, g, h5]
    exact pT (hj2 false) (Rn_some hF)
def D49_6 : List DE := [d1 0 [6] 6, d2 1 [26] 6 26, d1 2 [3] 3, d2 3 [28] 3 28, d0 4 [29], d0 5 [30], d3 6 [27, 31], d0 7 [32], d0 8 [33], d2 9 [2, 34] 2 2, d1 10 [3, 34] 3, d2 11 [36, 34] 3 36, d1 12 [6, 34] 6, d2 13 [38, 34] 6 38, d0 14 [37, 39, 34], d0 15 [40, 34], d0 16 [5, 34], d2 17 [6, 34] 6 6, d3 18 [35, 41, 42, 43, 34], d0 19 [44, 34], d0 20 [34, 45]]
noncomputable def F_impl_Group_isBoard (a0 : Group) (a1 : Board) : Option (Bool) :=
  (((F_impl_Group_areKeys a0 a1.Keys).bind fun z4 =>
  if (!z4) = true then (
  some true) else (
  some (decide (64 < (a1.Entries.length : Int)))) : Option (Bool)).bind fun x3 =>
  if x3 = true then (
  some false) else (
  ((rloop (σ := Unit) (fun i11 s10 =>
  (ix a1.Entries i11).bind fun x17 =>
  (((F_impl_within x17.Author 0 (i64.wrap ((a1.Keys.length : Int) - 1))).bind fun z21 =>
  if (!z21) = true then (
  some true) else (
  (ix a1.Keys x17.Author).bind fun x23 =>
  (F_impl_Group_isEntry a0 x23 i11 x17).bind fun z24 =>
  some (!z24)) : Option (Bool)).bind fun x20 =>
  if x20 = true then (
  some (.out (.inr false))) else (
  some (.go ())))) (fun s10 => .inl ()) (a1.Entries.length) 0 () : Option (Unit ⊕ Bool)).bind (Sum.elim (fun x9 =>
  some true) some))))
theorem c_impl_Group_isBoard : ∀ {a0} {a1} {r}, F_impl_Group_isBoard a0 a1 = some r → PCalls Tryz.prog 49 [(.sh, .agg [.int .i64 a0.P, .int .i64 a0.Q, .int .i64 a0.G]), (.sh, .agg [.sl false 1 (a1.Keys.map row_i64), .sl false 6 (a1.Entries.map row_Entry_z)])] (Eo (.bool r) [.junk, .junk]) := by
  intro a0 a1 r hr
  apply pF 48 [] [] [] [.tmp 4] hr cl49 Tryz.func49
  intro Φ hΦ hF g
  unfold F_impl_Group_isBoard at hF
  try simp [go_sem, g]
  refine pw_wk ?_
  repeat rw [sq]
  refine pJ hF (fun x3 => [(2, .bl [.int .i64 a0.P, .int .i64 a0.Q, .int .i64 a0.G]), (3, .bl [.sl false 1 (a1.Keys.map row_i64), .sl false 6 (a1.Entries.map row_Entry_z)]), (17, .v (.bool x3))]) (fun x3 hF => ?_) fun _ hj1 hF => ?_
  ·repeat rw [sq]
   refine pI hF (fun h6 hF => ?_) (fun h6 hF => ?_)
   ·cases hΦ _ (Rn_some hF)
    try simp [go_sem, g]
    refine pw_wk ?_
    try simp [go_sem, g]
   ·iterate 2 (try simp [go_sem, g]; try intros; refine pw_wk ?_)
    repeat rw [sq]
    refine pJs hF (fun x9 => []) (fun x9 hF => ?_) fun _ hj7 hr8 hF => ?_
    ·cases hΦ _ (Rn_some hF)
     try simp [go_sem, g]
     refine pw_wk ?_
     try simp [go_sem, g]
    ·repeat rw [sq]
     rw [pw_block]
     obtain ⟨b26, hb27, hψ14⟩ := hF
     refine pR hb27 (fun i11 s10 => [(2, .bl [.int .i64 a0.P, .int .i64 a0.Q, .int .i64 a0.G]), (3, .bl [.sl false 1 (a1.Keys.map row_i64), .sl false 6 (a1.Entries.map row_Entry_z)]), (19, .v (.sl false 6 (a1.Entries.map row_Entry_z))), (20, .v (.int .i64 (a1.Entries.length : Int))), (21, .v (.int .i64 i11))]) (fun s10 _ hN28 => ?_) (fun i11 s10 _ _ hi15 hi16 ho12 hg13 hF => ?_)
     ·subst hN28
      try simp [go_sem]
      refine pw_wk ?_
      repeat rw [sq]
      refine pw_cond_f (by simp [go_sem]) ?_
      try simp [go_sem]
      exact pT (hj7 ()) hψ14 (by simp [go_sem])
     ·try simp [go_sem, g]
      refine pw_wk ?_
      repeat rw [sq]
      refine pw_cond_t (by simp [go_sem, g, hi15, hi16]) ?_
      try simp [go_sem, g]
      refine pw_wk ?_
      repeat rw [sq]
      rw [pw_block]
      obtain ⟨x17, g, hF⟩ := Rx g hF
      try simp [go_sem, g]
      refine pw_wkK [2, 3, 5, 6, 19, 20, 21] (by simp [go_sem, g]; rfl) ?_
      repeat rw [sq]
      refine pJ hF (fun x20 => [(2, .bl [.int .i64 a0.P, .int .i64 a0.Q, .int .i64 a0.G]), (3, .bl [.sl false 1 (a1.Keys.map row_i64), .sl false 6 (a1.Entries.map row_Entry_z)]), (19, .v (.sl false 6 (a1.Entries.map row_Entry_z))), (20, .v (.int .i64 (a1.Entries.length : Int))), (21, .v (.int .i64 i11)), (46, .v (.bool x20))]) (fun x20 hF => ?_) fun _ hj18 hF => ?_
      ·repeat rw [sq]
       refine pI hF (fun h25 hF => ?_) (fun h25 hF => ?_)
       ·cases ho12 _ (Rn_some hF)
        cases hΦ _ (hr8 _ hψ14)
        try simp [go_sem, g]
        refine pw_wk ?_
        try simp [go_sem, g]
       ·try simp [go_sem, g]
        refine pw_wk ?_
        try simp [go_sem, g]
        exact pT (hg13 ()) (Rn_some hF) (by simp [go_sem, g, wr_i hi15 hi16 (by assumption)])
      ·repeat rw [sq]
       refine pw_draw D49_6 follows (by kernel_rfl) rfl ?_
       try simp only [go_sem, D49_6]
       try simp [go_sem, g]
       try intros
       refine pC hF [.sh, .sh, .sh] c_impl_within (fun z21 hF => ?_)
       try simp [go_sem, g]
       refine pwgD_F hF (fun h22 hF => ?_) fun h22 hF => ?_
       ·try simp [go_sem, g, h22]
        exact pT (hj18 true) (Rn_some hF)
       ·obtain ⟨x23, g, hF⟩ := Rx g hF
        try simp [go_sem, g, h22]
        refine pC hF [.sh, .sh, .sh, .sh] c_impl_Group_isEntry (fun z24 hF => ?_)
        try simp [go_sem, g, h22]
        exact pT (hj18 (!z24)) (Rn_some hF)
  ·try simp [go_sem, g]
   refine pC hF [.sh, .sh] c_impl_Group_areKeys (fun z4 hF => ?_)
   try simp [go_sem, g]
   refine pwg_F hF (fun h5 hF => ?_) fun h5 hF => ?_
   ·try simp [go_sem, g, h5]
    exact pT (hj1 true) (Rn_some hF)
   ·try simp [go_sem, g, h5]
    try intros
    exact pT (hj1 (decide (64 < (a1.Entries.length : Int)))) (Rn_some hF)
noncomputable def F_impl_areBoard (a0 : Group) (a1 : Board) : Option (Bool) :=
  (((F_impl_IsValidGroup a0).bind fun z4 =>
  if z4 = true then (
  (F_impl_Group_isBoard a0 a1).bind fun z6 =>
  some z6) else (
  some false) : Option (Bool)).bind fun x3 =>
  some x3)
theorem c_impl_areBoard : ∀ {a0} {a1} {r}, F_impl_areBoard a0 a1 = some r → PCalls Tryz.prog 31 [(.sh, .agg [.int .i64 a0.P, .int .i64 a0.Q, .int .i64 a0.G]), (.sh, .agg [.sl false 1 (a1.Keys.map row_i64), .sl false 6 (a1.Entries.map row_Entry_z)])] (Eo (.bool r) [.junk, .junk]) := by
  intro a0 a1 r hr
  apply pF 12 [] [] [] [.tmp 4] hr cl31 Tryz.func31
  intro Φ hΦ hF g
  unfold F_impl_areBoard at hF
  try simp [go_sem, g]
  refine pw_wk ?_
  repeat rw [sq]
  refine pJ hF (fun x3 => [(4, .v (.bool x3))]) (fun x3 hF => ?_) fun _ hj1 hF => ?_
  ·cases hΦ _ (Rn_some hF)
   try simp [go_sem, g]
  ·try simp [go_sem, g]
   refine pC hF [.sh] c_impl_IsValidGroup (fun z4 hF => ?_)
   try simp [go_sem, g]
   refine pwg_F hF (fun h5 hF => ?_) fun h5 hF => ?_
   ·try simp [go_sem, g, h5]
    refine pC hF [.sh, .sh] c_impl_Group_isBoard (fun z6 hF => ?_)
    try simp [go_sem, g, h5]
    exact pT (hj1 z6) (Rn_some hF)
   ·try simp [go_sem, g, h5]
    exact pT (hj1 false) (Rn_some hF)
noncomputable def F_impl_IsValidContest (a0 : Contest) : Option (Bool) :=
  ((if decide (a0.Least < 0) = true then (
  some true) else (
  some (decide (a0.Most < a0.Least))) : Option (Bool)).bind fun x3 =>
  if x3 = true then (
  some false) else (
  ((if (a0.Kind == 1) = true then (
  some (a0.Kind == 1)) else (
  some (a0.Kind == 3)) : Option (Bool)).bind fun x8 =>
  if x8 = true then (
  (((F_impl_within a0.Options 1 8).bind fun z14 =>
  if z14 = true then (
  if decide (a0.Most ≤ a0.Options) = true then (
  some (a0.Points == 0)) else (
  some false)) else (
  some false) : Option (Bool)).bind fun x13 =>
  some x13)) else (
  if (a0.Kind == 2) = true then (
  (((F_impl_within a0.Options 1 8).bind fun z21 =>
  if z21 = true then (
  (F_impl_within a0.Points 1 5).bind fun z23 =>
  if z23 = true then (
  some (decide (a0.Most ≤ (i64.wrap (a0.Options * a0.Points))))) else (
  some false)) else (
  some false) : Option (Bool)).bind fun x20 =>
  some x20)) else (
  if (a0.Kind == 4) = true then (
  ((if (a0.Options == 0) = true then (
  if decide (a0.Most ≤ 5) = true then (
  some (a0.Points == 0)) else (
  some false)) else (
  some false) : Option (Bool)).bind fun x28 =>
  some x28)) else (
  some false))))))
end Go.Pm
