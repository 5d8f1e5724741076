/-
  Plain functions and their walks. Written by wip/tools/lift.py.
-/
import Derived.Test.YtoljmkdfamffmaaPS
namespace Go.Pm
open Go.Am IntKind
open Go.Proofs
set_option maxRecDepth 100000
attribute [local irreducible] pw pwx pw1 pwg qv qz qf
attribute [-simp] List.map_set
set_option linter.unusedSimpArgs false
set_option linter.unusedVariables false
structure Group where
  P : Int
  Q : Int
  G : Int
structure Contest where
  Kind : Int
  Options : Int
  Least : Int
  Most : Int
  Points : Int
structure Plan where
  Gr : Group
  Ct : Contest
  Threshold : Int
  Trustees : Int
  Mixers : Int
  Voters : Int
  Seed : Int
structure Casting where
  Voter : Int
  Vote : (List Int)
structure Bases where
  H : Int
  Hs : (List Int)
structure l3State where
  s : Int
  t : Int
def row_i64 (x : Int) : List PV := [.int .i64 x]
@[go_sem] theorem row_i64_eq {x : Int} : row_i64 x = [.int .i64 x] := (rfl)
@[go_sem] theorem row_i64_drop {l : List Int} : List.map (List.map drop ∘ row_i64) l = l.map row_i64 := by refine List.map_congr_left fun x _ => ?_; simp [go_sem]
@[go_sem] theorem row_i64_drop' {l : List Int} : List.map (List.map drop) (l.map row_i64) = l.map row_i64 := by rw [List.map_map]; exact row_i64_drop
@[go_sem] theorem row_i64_set {l : List Int} {i : Nat} {a : Int} : (l.map row_i64).set i [.int .i64 a] = (l.set i a).map row_i64 := by rw [List.map_set]; rfl
def row_Casting_z (x : Casting) : List PV := [.int .i64 x.Voter, .sl false 1 (x.Vote.map row_i64)]
@[go_sem] theorem row_Casting_z_eq {x : Casting} : row_Casting_z x = [.int .i64 x.Voter, .sl false 1 (x.Vote.map row_i64)] := (rfl)
@[go_sem] theorem row_Casting_z_drop {l : List Casting} : List.map (List.map drop ∘ row_Casting_z) l = l.map row_Casting_z := by refine List.map_congr_left fun x _ => ?_; simp [go_sem]
@[go_sem] theorem row_Casting_z_drop' {l : List Casting} : List.map (List.map drop) (l.map row_Casting_z) = l.map row_Casting_z := by rw [List.map_map]; exact row_Casting_z_drop
@[go_sem] theorem row_Casting_z_set {l : List Casting} {i : Nat} {Voter : Int} {Vote : (List Int)} : (l.map row_Casting_z).set i [.int .i64 Voter, .sl false 1 (Vote.map row_i64)] = (l.set i (Casting.mk Voter Vote)).map row_Casting_z := by rw [List.map_set]; rfl
def row_Casting_o (x : Casting) : List PV := [.int .i64 x.Voter, .sl true 1 (x.Vote.map row_i64)]
@[go_sem] theorem row_Casting_o_eq {x : Casting} : row_Casting_o x = [.int .i64 x.Voter, .sl true 1 (x.Vote.map row_i64)] := (rfl)
@[go_sem] theorem row_Casting_o_drop {l : List Casting} : List.map (List.map drop ∘ row_Casting_o) l = l.map row_Casting_z := by refine List.map_congr_left fun x _ => ?_; simp [go_sem]
@[go_sem] theorem row_Casting_o_drop' {l : List Casting} : List.map (List.map drop) (l.map row_Casting_o) = l.map row_Casting_z := by rw [List.map_map]; exact row_Casting_o_drop
@[go_sem] theorem row_Casting_o_set {l : List Casting} {i : Nat} {Voter : Int} {Vote : (List Int)} : (l.map row_Casting_o).set i [.int .i64 Voter, .sl true 1 (Vote.map row_i64)] = (l.set i (Casting.mk Voter Vote)).map row_Casting_o := by rw [List.map_set]; rfl
def row_zi64 (x : (List Int)) : List PV := [.sl false 1 (x.map row_i64)]
@[go_sem] theorem row_zi64_eq {x : (List Int)} : row_zi64 x = [.sl false 1 (x.map row_i64)] := (rfl)
@[go_sem] theorem row_zi64_drop {l : List (List Int)} : List.map (List.map drop ∘ row_zi64) l = l.map row_zi64 := by refine List.map_congr_left fun x _ => ?_; simp [go_sem]
@[go_sem] theorem row_zi64_drop' {l : List (List Int)} : List.map (List.map drop) (l.map row_zi64) = l.map row_zi64 := by rw [List.map_map]; exact row_zi64_drop
@[go_sem] theorem row_zi64_set {l : List (List Int)} {i : Nat} {a : (List Int)} : (l.map row_zi64).set i [.sl false 1 (a.map row_i64)] = (l.set i a).map row_zi64 := by rw [List.map_set]; rfl
def row_oi64 (x : (List Int)) : List PV := [.sl true 1 (x.map row_i64)]
@[go_sem] theorem row_oi64_eq {x : (List Int)} : row_oi64 x = [.sl true 1 (x.map row_i64)] := (rfl)
@[go_sem] theorem row_oi64_drop {l : List (List Int)} : List.map (List.map drop ∘ row_oi64) l = l.map row_zi64 := by refine List.map_congr_left fun x _ => ?_; simp [go_sem]
@[go_sem] theorem row_oi64_drop' {l : List (List Int)} : List.map (List.map drop) (l.map row_oi64) = l.map row_zi64 := by rw [List.map_map]; exact row_oi64_drop
@[go_sem] theorem row_oi64_set {l : List (List Int)} {i : Nat} {a : (List Int)} : (l.map row_oi64).set i [.sl true 1 (a.map row_i64)] = (l.set i a).map row_oi64 := by rw [List.map_set]; rfl
noncomputable def F_laws_szIntS (a0 : (List Int)) (a1 : Int) : Option (Int) :=
  if decide ((i64.wrap (a1 - (a0.length : Int))) < 0) = true then (
  some (-1)) else (
  some (i64.wrap (a1 - (a0.length : Int))))
theorem c_laws_szIntS : ∀ {a0} {a1} {r}, F_laws_szIntS a0 a1 = some r → PCalls Try.prog 32 [(.sh, .sl false 1 (a0.map row_i64)), (.sh, .int .i64 a1)] (Eo (.int .i64 r) [.junk, .junk]) := by
  intro a0 a1 r hr
  apply pF 12 [] [] [] [.tmp 4] hr cl32 Try.func32
  intro Φ hΦ hF g
  unfold F_laws_szIntS at hF
  iterate 3 (try simp [go_sem, g]; try intros; refine pw_wk ?_)
  repeat rw [sq]
  refine pI hF (fun h1 hF => ?_) (fun h1 hF => ?_)
  ·cases hΦ _ (Rn_some hF)
   try simp [go_sem, g]
   refine pw_wk ?_
   try simp [go_sem, g]
  ·try simp [go_sem, g]
   refine pw_wk ?_
   try simp [go_sem, g]
   refine pw_wkK [4] (by simp [go_sem, g]; rfl) ?_
   cases hΦ _ (Rn_some hF)
   try simp [go_sem, g]
noncomputable def F_laws_szCasting (a0 : Casting) (a1 : Int) : Option (Int) :=
  (F_laws_szIntS a0.Vote a1).bind fun z1 =>
  if decide (z1 < 0) = true then (
  some (-1)) else (
  some z1)
theorem c_laws_szCasting : ∀ {a0} {a1} {r}, F_laws_szCasting a0 a1 = some r → PCalls Try.prog 17 [(.sh, .agg [.int .i64 a0.Voter, .sl false 1 (a0.Vote.map row_i64)]), (.sh, .int .i64 a1)] (Eo (.int .i64 r) [.junk, .junk]) := by
  intro a0 a1 r hr
  apply pF 12 [] [] [] [.tmp 4] hr cl17 Try.func17
  intro Φ hΦ hF g
  unfold F_laws_szCasting at hF
  try simp [go_sem, g]
  refine pw_wk ?_
  try simp [go_sem, g]
  refine pC hF [.sh, .sh] c_laws_szIntS (fun z1 hF => ?_)
  iterate 2 (try simp [go_sem, g]; refine pw_wk ?_)
  repeat rw [sq]
  refine pI hF (fun h2 hF => ?_) (fun h2 hF => ?_)
  ·try simp [go_sem, g]
   refine pw_wkK [4] (by simp [go_sem, g]; rfl) ?_
   cases hΦ _ (Rn_some hF)
   try simp [go_sem, g]
  ·try simp [go_sem, g]
   refine pw_wk ?_
   try simp [go_sem, g]
   refine pw_wkK [4] (by simp [go_sem, g]; rfl) ?_
   cases hΦ _ (Rn_some hF)
   try simp [go_sem, g]
noncomputable def F_laws_szCastingS (a0 : (List Casting)) (a1 : Int) : Option (Int) :=
  if decide ((i64.wrap (a1 - (a0.length : Int))) < 0) = true then (
  some (-1)) else (
  ((wloop (σ := Int × Int) (fun s5 =>
  if decide (s5.2 < (a0.length : Int)) = true then (
  (ix a0 s5.2).bind fun x11 =>
  (F_laws_szCasting x11 s5.1).bind fun z12 =>
  if decide (z12 < 0) = true then (
  some (.out (.inr (-1)))) else (
  some (.go (z12, i64.wrap (s5.2 + 1))))) else (
  some (.out (.inl s5.1)))) (i64.wrap (a1 - (a0.length : Int)), 0) : Option (Int ⊕ Int)).bind (Sum.elim (fun x4 =>
  some x4) some)))
theorem c_laws_szCastingS : ∀ {a0} {a1} {r}, F_laws_szCastingS a0 a1 = some r → PCalls Try.prog 4 [(.sh, .sl false 2 (a0.map row_Casting_z)), (.sh, .int .i64 a1)] (Eo (.int .i64 r) [.junk, .junk]) := by
  intro a0 a1 r hr
  apply pF 27 [] [] [] [.tmp 4] hr cl4 Try.func4
  intro Φ hΦ hF g
  unfold F_laws_szCastingS at hF
  iterate 3 (try simp [go_sem, g]; try intros; refine pw_wk ?_)
  repeat rw [sq]
  refine pI hF (fun h1 hF => ?_) (fun h1 hF => ?_)
  ·cases hΦ _ (Rn_some hF)
   try simp [go_sem, g]
   refine pw_wk ?_
   try simp [go_sem, g]
  ·iterate 2 (try simp [go_sem, g]; refine pw_wk ?_)
   repeat rw [sq]
   refine pJs hF (fun x4 => [(1, .v (.int .i64 x4))]) (fun x4 hF => ?_) fun _ hj2 hr3 hF => ?_
   ·try simp [go_sem, g]
    refine pw_wkK [4] (by simp [go_sem, g]; rfl) ?_
    cases hΦ _ (Rn_some hF)
    try simp [go_sem, g]
   ·repeat rw [sq]
    rw [pw_block]
    obtain ⟨b14, hb15, hψ9⟩ := hF
    refine pL hb15 (fun s5 => [(0, .v (.sl false 2 (a0.map row_Casting_z))), (1, .v (.int .i64 s5.1)), (5, .v (.int .i64 s5.2))]) (fun s5 _ _ ho7 hg8 hF => ?_)
    try simp [go_sem, g]
    try intros
    refine pw_wkK [0, 1, 5, 15] (by simp [go_sem, g]; rfl) ?_
    repeat rw [sq]
    refine pI hF (fun h10 hF => ?_) (fun h10 hF => ?_)
    ·try simp [go_sem, g]
     refine pw_wk ?_
     repeat rw [sq]
     rw [pw_block]
     obtain ⟨x11, g, hF⟩ := Rx g hF
     try simp [go_sem, g]
     refine pC hF [.sh, .sh] c_laws_szCasting (fun z12 hF => ?_)
     iterate 2 (try simp [go_sem, g]; refine pw_wk ?_)
     repeat rw [sq]
     refine pI hF (fun h13 hF => ?_) (fun h13 hF => ?_)
     ·try simp [go_sem, g]
      refine pw_wkK [4] (by simp [go_sem, g]; rfl) ?_
      cases ho7 _ (Rn_some hF)
      cases hΦ _ (hr3 _ hψ9)
      try simp [go_sem, g]
     ·try simp [go_sem, g]
      refine pw_wk ?_
      try simp [go_sem, g]
      exact pT (hg8 (z12, i64.wrap (s5.2 + 1))) (Rn_some hF)
    ·try simp [go_sem, g]
     cases ho7 _ (Rn_some hF)
     exact pT (hj2 s5.1) hψ9
noncomputable def F_laws_toGroup (a0 : Group) : Option (Group) :=
  some a0
theorem c_laws_toGroup : ∀ {a0} {r}, F_laws_toGroup a0 = some r → PCalls Try.prog 23 [(.sh, .agg [.int .i64 a0.P, .int .i64 a0.Q, .int .i64 a0.G])] (Eo (.agg [.int .i64 r.P, .int .i64 r.Q, .int .i64 r.G]) [.junk]) := by
  intro a0 r hr
  apply pF 14 [] [] [] [.cell 2 34] hr cl23 Try.func23
  intro Φ hΦ hF g
  unfold F_laws_toGroup at hF
  iterate 3 (try simp [go_sem, g]; refine pw_wk ?_)
  try simp [go_sem, g]
  refine pw_wkK [1, 2, 3] (by simp [go_sem, g]; rfl) ?_
  cases hΦ _ (Rn_some hF)
  iterate 2 (try simp [go_sem, g]; refine pw_wk ?_)
  try simp [go_sem, g]
noncomputable def F_laws_toContest (a0 : Contest) : Option (Contest) :=
  some a0
theorem c_laws_toContest : ∀ {a0} {r}, F_laws_toContest a0 = some r → PCalls Try.prog 24 [(.sh, .agg [.int .i64 a0.Kind, .int .i64 a0.Options, .int .i64 a0.Least, .int .i64 a0.Most, .int .i64 a0.Points])] (Eo (.agg [.int .i64 r.Kind, .int .i64 r.Options, .int .i64 r.Least, .int .i64 r.Most, .int .i64 r.Points]) [.junk]) := by
  intro a0 r hr
  apply pF 20 [] [] [] [.cell 2 35] hr cl24 Try.func24
  intro Φ hΦ hF g
  unfold F_laws_toContest at hF
  iterate 3 (try simp [go_sem, g]; refine pw_wk ?_)
  try simp [go_sem, g]
  refine pw_wkK [1, 2, 3] (by simp [go_sem, g]; rfl) ?_
  iterate 2 (try simp [go_sem, g]; refine pw_wk ?_)
  try simp [go_sem, g]
  refine pw_wkK [2, 3] (by simp [go_sem, g]; rfl) ?_
  cases hΦ _ (Rn_some hF)
  try simp [go_sem, g]
  refine pw_wk ?_
  try simp [go_sem, g]
noncomputable def F_laws_toPlan (a0 : Plan) : Option (Plan) :=
  (F_laws_toGroup a0.Gr).bind fun z1 =>
  (F_laws_toContest a0.Ct).bind fun z2 =>
  some (Plan.mk z1 z2 a0.Threshold a0.Trustees a0.Mixers a0.Voters a0.Seed)
theorem c_laws_toPlan : ∀ {a0} {r}, F_laws_toPlan a0 = some r → PCalls Try.prog 6 [(.sh, .agg [.int .i64 a0.Gr.P, .int .i64 a0.Gr.Q, .int .i64 a0.Gr.G, .int .i64 a0.Ct.Kind, .int .i64 a0.Ct.Options, .int .i64 a0.Ct.Least, .int .i64 a0.Ct.Most, .int .i64 a0.Ct.Points, .int .i64 a0.Threshold, .int .i64 a0.Trustees, .int .i64 a0.Mixers, .int .i64 a0.Voters, .int .i64 a0.Seed])] (Eo (.agg [.int .i64 r.Gr.P, .int .i64 r.Gr.Q, .int .i64 r.Gr.G, .int .i64 r.Ct.Kind, .int .i64 r.Ct.Options, .int .i64 r.Ct.Least, .int .i64 r.Ct.Most, .int .i64 r.Ct.Points, .int .i64 r.Threshold, .int .i64 r.Trustees, .int .i64 r.Mixers, .int .i64 r.Voters, .int .i64 r.Seed]) [.junk]) := by
  intro a0 r hr
  apply pF 28 [] [] [] [.cell 2 37] hr cl6 Try.func6
  intro Φ hΦ hF g
  unfold F_laws_toPlan at hF
  iterate 2 (try simp [go_sem, g]; refine pw_wk ?_)
  try simp [go_sem, g]
  refine pC hF [.sh] c_laws_toGroup (fun z1 hF => ?_)
  try simp [go_sem, g]
  refine pw_wk ?_
  try simp [go_sem, g]
  refine pC hF [.sh] c_laws_toContest (fun z2 hF => ?_)
  try simp [go_sem, g]
  refine pw_wkK [1, 2, 3] (by simp [go_sem, g]; rfl) ?_
  iterate 2 (try simp [go_sem, g]; refine pw_wk ?_)
  try simp [go_sem, g]
  refine pw_wkK [1, 2, 3] (by simp [go_sem, g]; rfl) ?_
  iterate 2 (try simp [go_sem, g]; refine pw_wk ?_)
  try simp [go_sem, g]
  refine pw_wkK [2] (by simp [go_sem, g]; rfl) ?_
  cases hΦ _ (Rn_some hF)
  try simp [go_sem, g]
noncomputable def F_laws_toIntS (a0 : (List Int)) : Option ((List Int)) :=
  gd (0 ≤ (a0.length : Int) ∧ (a0.length : Int) ≤ (a0.length : Int) ∧ 8 * (a0.length : Int) ≤ 140737488355328 ∧ (a0.length : Int) ≤ 4611686018427387904) <|
  (some (List.replicate a0.length 0)).bind fun x1 =>
  ((wloop (σ := (List Int) × Int) (fun s15 =>
  if decide (s15.2 < (a0.length : Int)) = true then (
  (ix a0 s15.2).bind fun x21 =>
  (ix s15.1 s15.2).bind fun x22 =>
  some (.go (s15.1.set s15.2.toNat x21, i64.wrap (s15.2 + 1)))) else (
  some (.out s15.1))) (x1, 0) : Option ((List Int))).bind fun x6 =>
  some x6)
theorem c_laws_toIntS : ∀ {a0} {r}, F_laws_toIntS a0 = some r → PCalls Try.prog 40 [(.sh, .sl false 1 (a0.map row_i64))] (Eo (.sl true 1 (r.map row_i64)) [.junk]) := by
  intro a0 r hr
  apply pF 22 [] [] [] [.tmp 2] hr cl40 Try.func40
  intro Φ hΦ hF g
  unfold F_laws_toIntS at hF
  obtain ⟨g, hF⟩ := Rg g hF
  obtain ⟨x1, e2, hF⟩ := Rn_bind hF
  have g3 : List.replicate a0.length ([.int .i64 0] : List PV) = x1.map row_i64 := by injection e2 with e2; rw [← e2]; simp [go_sem]
  iterate 3 (try simp [go_sem, g, g3]; try intros; refine pw_wk ?_)
  repeat rw [sq]
  refine pJ hF (fun x6 => [(3, .v (.sl true 1 (x6.map row_i64)))]) (fun x6 hF => ?_) fun _ hj4 hF => ?_
  ·cases hΦ _ (Rn_some hF)
   try simp [go_sem, g]
   refine pw_wk ?_
   try simp [go_sem, g]
  ·repeat rw [sq]
   rw [pw_block]
   obtain ⟨b23, hb24, hψ19⟩ := hF
   refine pL hb24 (fun s15 => [(0, .v (.sl false 1 (a0.map row_i64))), (3, .v (.sl true 1 (s15.1.map row_i64))), (4, .v (.int .i64 s15.2))]) (fun s15 _ _ ho17 hg18 hF => ?_)
   try simp [go_sem, g]
   try intros
   refine pw_wkK [0, 3, 4, 11] (by simp [go_sem, g]; rfl) ?_
   repeat rw [sq]
   refine pI hF (fun h20 hF => ?_) (fun h20 hF => ?_)
   ·try simp [go_sem, g]
    refine pw_wk ?_
    repeat rw [sq]
    rw [pw_block]
    obtain ⟨x21, g, hF⟩ := Rx g hF
    obtain ⟨x22, g, hF⟩ := Rx g hF
    try simp [go_sem, g]
    refine pw_wk ?_
    try simp [go_sem, g]
    exact pT (hg18 (s15.1.set s15.2.toNat x21, i64.wrap (s15.2 + 1))) (Rn_some hF)
   ·try simp [go_sem, g]
    cases ho17 _ (Rn_some hF)
    exact pT (hj4 s15.1) hψ19
noncomputable def F_laws_toCasting (a0 : Casting) : Option (Casting) :=
  (F_laws_toIntS a0.Vote).bind fun z1 =>
  some (Casting.mk a0.Voter z1)
theorem c_laws_toCasting : ∀ {a0} {r}, F_laws_toCasting a0 = some r → PCalls Try.prog 25 [(.sh, .agg [.int .i64 a0.Voter, .sl false 1 (a0.Vote.map row_i64)])] (Eo (.agg [.int .i64 r.Voter, .sl true 1 (r.Vote.map row_i64)]) [.junk]) := by
  intro a0 r hr
  apply pF 12 [] [] [] [.cell 2 53] hr cl25 Try.func25
  intro Φ hΦ hF g
  unfold F_laws_toCasting at hF
  iterate 3 (try simp [go_sem, g]; refine pw_wk ?_)
  try simp [go_sem, g]
  refine pC hF [.sh] c_laws_toIntS (fun z1 hF => ?_)
  try simp [go_sem, g]
  refine pw_wkK [2, 3] (by simp [go_sem, g]; rfl) ?_
  cases hΦ _ (Rn_some hF)
  try simp [go_sem, g]
  refine pw_wk ?_
  try simp [go_sem, g]
noncomputable def F_laws_toCastingS (a0 : (List Casting)) : Option ((List Casting)) :=
  gd (0 ≤ (a0.length : Int) ∧ (a0.length : Int) ≤ (a0.length : Int) ∧ 32 * (a0.length : Int) ≤ 140737488355328 ∧ (a0.length : Int) ≤ 4611686018427387904) <|
  (some (List.replicate a0.length (Casting.mk 0 []))).bind fun x1 =>
  ((wloop (σ := (List Casting) × Int) (fun s16 =>
  if decide (s16.2 < (a0.length : Int)) = true then (
  (ix a0 s16.2).bind fun x22 =>
  (F_laws_toCasting x22).bind fun z23 =>
  (ix s16.1 s16.2).bind fun x24 =>
  some (.go (s16.1.set s16.2.toNat z23, i64.wrap (s16.2 + 1)))) else (
  some (.out s16.1))) (x1, 0) : Option ((List Casting))).bind fun x6 =>
  some x6)
theorem c_laws_toCastingS : ∀ {a0} {r}, F_laws_toCastingS a0 = some r → PCalls Try.prog 7 [(.sh, .sl false 2 (a0.map row_Casting_z))] (Eo (.sl true 2 (r.map row_Casting_o)) [.junk]) := by
  intro a0 r hr
  apply pF 23 [] [30] [] [.tmp 2] hr cl7 Try.func7
  intro Φ hΦ hF g
  unfold F_laws_toCastingS at hF
  obtain ⟨g, hF⟩ := Rg g hF
  obtain ⟨x1, e2, hF⟩ := Rn_bind hF
  have g3 : List.replicate a0.length ([.int .i64 0, .sl true 1 []] : List PV) = x1.map row_Casting_o := by injection e2 with e2; rw [← e2]; simp [go_sem]
  iterate 3 (try simp [go_sem, g, g3]; try intros; refine pw_wk ?_)
  repeat rw [sq]
  refine pJ hF (fun x6 => [(3, .v (.sl true 2 (x6.map row_Casting_o)))]) (fun x6 hF => ?_) fun _ hj4 hF => ?_
  ·cases hΦ _ (Rn_some hF)
   try simp [go_sem, g]
   refine pw_wk ?_
   try simp [go_sem, g]
  ·repeat rw [sq]
   rw [pw_block]
   obtain ⟨b25, hb26, hψ20⟩ := hF
   refine pL hb26 (fun s16 => [(0, .v (.sl false 2 (a0.map row_Casting_z))), (3, .v (.sl true 2 (s16.1.map row_Casting_o))), (4, .v (.int .i64 s16.2))]) (fun s16 _ _ ho18 hg19 hF => ?_)
   try simp [go_sem, g]
   try intros
   refine pw_wkK [0, 3, 4, 11] (by simp [go_sem, g]; rfl) ?_
   repeat rw [sq]
   refine pI hF (fun h21 hF => ?_) (fun h21 hF => ?_)
   ·try simp [go_sem, g]
    refine pw_wk ?_
    repeat rw [sq]
    rw [pw_block]
    obtain ⟨x22, g, hF⟩ := Rx g hF
    try simp [go_sem, g]
    refine pC hF [.sh] c_laws_toCasting (fun z23 hF => ?_)
    obtain ⟨x24, g, hF⟩ := Rx g hF
    try simp [go_sem, g]
    refine pw_wk ?_
    try simp [go_sem, g]
    exact pT (hg19 (s16.1.set s16.2.toNat z23, i64.wrap (s16.2 + 1))) (Rn_some hF)
   ·try simp [go_sem, g]
    cases ho18 _ (Rn_some hF)
    exact pT (hj4 s16.1) hψ20
noncomputable def F_spec_l1In (a0 : Int) (a1 : Int) (a2 : Int) : Option (Bool) :=
  ((if decide (a1 ≤ a0) = true then (
  some (decide (a0 ≤ a2))) else (
  some false) : Option (Bool)).bind fun x3 =>
  some x3)
theorem c_spec_l1In : ∀ {a0} {a1} {a2} {r}, F_spec_l1In a0 a1 a2 = some r → PCalls Try.prog 34 [(.sh, .int .i64 a0), (.sh, .int .i64 a1), (.sh, .int .i64 a2)] (Eo (.bool r) [.junk, .junk, .junk]) := by
  intro a0 a1 a2 r hr
  apply pF 15 [] [] [] [.tmp 6] hr cl34 Try.func34
  intro Φ hΦ hF g
  unfold F_spec_l1In at hF
  try simp [go_sem, g]
  refine pw_wk ?_
  repeat rw [sq]
  refine pJ hF (fun x3 => [(6, .v (.bool x3))]) (fun x3 hF => ?_) fun _ hj1 hF => ?_
  ·cases hΦ _ (Rn_some hF)
   try simp [go_sem, g]
  ·try simp [go_sem, g]
   refine pwg_F hF (fun h4 hF => ?_) fun h4 hF => ?_
   ·try simp [go_sem, g, h4]
    exact pT (hj1 (decide (a0 ≤ a2))) (Rn_some hF)
   ·try simp [go_sem, g, h4]
    exact pT (hj1 false) (Rn_some hF)
noncomputable def F_spec_nPower (a0 : Int) (a1 : Int) (a2 : Int) : Option (Int) :=
  gd (a2 ≠ 0) <|
  ((wloop (σ := Int × Int × Int) (fun s4 =>
  if decide (0 < s4.2.1) = true then (
  ((if ((s4.2.1.tmod 2) == 1) = true then (
  gd (a2 ≠ 0) <|
  some ((i64.wrap (s4.2.2 * s4.1)).tmod a2)) else (
  some s4.2.2) : Option (Int)).bind fun x12 =>
  gd (a2 ≠ 0) <|
  some (.go ((i64.wrap (s4.1 * s4.1)).tmod a2, i64.wrap (s4.2.1.tdiv 2), x12)))) else (
  some (.out s4.2.2))) (a0, a1, (1 : Int).tmod a2) : Option (Int)).bind fun x3 =>
  some x3)
theorem c_spec_nPower : ∀ {a0} {a1} {a2} {r}, F_spec_nPower a0 a1 a2 = some r → PCalls Try.prog 73 [(.sh, .int .i64 a0), (.sh, .int .i64 a1), (.sh, .int .i64 a2)] (Eo (.int .i64 r) [.junk, .junk, .junk]) := by
  intro a0 a1 a2 r hr
  apply pF 28 [] [] [] [.tmp 6] hr cl73 Try.func73
  intro Φ hΦ hF g
  unfold F_spec_nPower at hF
  obtain ⟨g, hF⟩ := Rz g hF
  iterate 2 (try simp [go_sem, g]; refine pw_wk ?_)
  repeat rw [sq]
  refine pJ hF (fun x3 => [(7, .v (.int .i64 x3))]) (fun x3 hF => ?_) fun _ hj1 hF => ?_
  ·cases hΦ _ (Rn_some hF)
   try simp [go_sem, g]
   refine pw_wk ?_
   try simp [go_sem, g]
  ·repeat rw [sq]
   rw [pw_block]
   obtain ⟨b14, hb15, hψ8⟩ := hF
   refine pL hb15 (fun s4 => [(0, .v (.int .i64 s4.1)), (1, .v (.int .i64 s4.2.1)), (2, .v (.int .i64 a2)), (7, .v (.int .i64 s4.2.2))]) (fun s4 _ _ ho6 hg7 hF => ?_)
   try simp [go_sem, g]
   refine pw_wk ?_
   repeat rw [sq]
   refine pI hF (fun h9 hF => ?_) (fun h9 hF => ?_)
   ·try simp [go_sem, g]
    refine pw_wk ?_
    repeat rw [sq]
    rw [pw_block]
    have g := Ld g 2
    try simp [go_sem, g]
    refine pw_wk ?_
    repeat rw [sq]
    refine pJ hF (fun x12 => [(0, .v (.int .i64 s4.1)), (1, .v (.int .i64 s4.2.1)), (2, .v (.int .i64 a2)), (7, .v (.int .i64 x12))]) (fun x12 hF => ?_) fun _ hj10 hF => ?_
    ·obtain ⟨g, hF⟩ := Rz g hF
     try simp [go_sem, g]
     refine pw_wkK [0, 1, 2, 7] (by simp [go_sem, g]; rfl) ?_
     try simp [go_sem, g]
     exact pT (hg7 ((i64.wrap (s4.1 * s4.1)).tmod a2, i64.wrap (s4.2.1.tdiv 2), x12)) (Rn_some hF)
    ·repeat rw [sq]
     refine pI hF (fun h13 hF => ?_) (fun h13 hF => ?_)
     ·obtain ⟨g, hF⟩ := Rz g hF
      try simp [go_sem, g]
      exact pT (hj10 ((i64.wrap (s4.2.2 * s4.1)).tmod a2)) (Rn_some hF)
     ·try simp [go_sem, g]
      exact pT (hj10 s4.2.2) (Rn_some hF)
   ·try simp [go_sem, g]
    cases ho6 _ (Rn_some hF)
    exact pT (hj1 s4.2.2) hψ8
noncomputable def F_spec_nPrime (a0 : Int) : Option (Bool) :=
  if decide (a0 < 2) = true then (
  some false) else (
  ((wloop (σ := Int) (fun s5 =>
  if decide ((i64.wrap (s5 * s5)) ≤ a0) = true then (
  gd (s5 ≠ 0) <|
  if ((a0.tmod s5) == 0) = true then (
  some (.out (.inr false))) else (
  some (.go (i64.wrap (s5 + 1))))) else (
  some (.out (.inl ())))) 2 : Option (Unit ⊕ Bool)).bind (Sum.elim (fun x4 =>
  some true) some)))
theorem c_spec_nPrime : ∀ {a0} {r}, F_spec_nPrime a0 = some r → PCalls Try.prog 74 [(.sh, .int .i64 a0)] (Eo (.bool r) [.junk]) := by
  intro a0 r hr
  apply pF 17 [] [] [] [.tmp 2] hr cl74 Try.func74
  intro Φ hΦ hF g
  unfold F_spec_nPrime at hF
  iterate 2 (try simp [go_sem, g]; refine pw_wk ?_)
  repeat rw [sq]
  refine pI hF (fun h1 hF => ?_) (fun h1 hF => ?_)
  ·cases hΦ _ (Rn_some hF)
   try simp [go_sem, g]
   refine pw_wk ?_
   try simp [go_sem, g]
  ·iterate 2 (try simp [go_sem, g]; refine pw_wk ?_)
   repeat rw [sq]
   refine pJs hF (fun x4 => []) (fun x4 hF => ?_) fun _ hj2 hr3 hF => ?_
   ·cases hΦ _ (Rn_some hF)
    try simp [go_sem, g]
    refine pw_wk ?_
    try simp [go_sem, g]
   ·repeat rw [sq]
    rw [pw_block]
    obtain ⟨b12, hb13, hψ9⟩ := hF
    refine pL hb13 (fun s5 => [(0, .v (.int .i64 a0)), (3, .v (.int .i64 s5))]) (fun s5 _ _ ho7 hg8 hF => ?_)
    try simp [go_sem, g]
    refine pw_wk ?_
    repeat rw [sq]
    refine pI hF (fun h10 hF => ?_) (fun h10 hF => ?_)
    ·try simp [go_sem, g]
     refine pw_wk ?_
     repeat rw [sq]
     rw [pw_block]
     obtain ⟨g, hF⟩ := Rz g hF
     try simp [go_sem, g]
     refine pw_wkK [0, 3, 16] (by simp [go_sem, g]; rfl) ?_
     repeat rw [sq]
     refine pI hF (fun h11 hF => ?_) (fun h11 hF => ?_)
     ·cases ho7 _ (Rn_some hF)
      cases hΦ _ (hr3 _ hψ9)
      try simp [go_sem, g]
      refine pw_wk ?_
      try simp [go_sem, g]
     ·try simp [go_sem, g]
      refine pw_wk ?_
      try simp [go_sem, g]
      exact pT (hg8 (i64.wrap (s5 + 1))) (Rn_some hF)
    ·try simp [go_sem, g]
     cases ho7 _ (Rn_some hF)
     exact pT (hj2 ()) hψ9
noncomputable def F_spec_l2Good (a0 : Group) : Option (Bool) :=
  (((F_spec_l1In a0.P 3 2000000000).bind fun z4 =>
  if z4 = true then (
  (F_spec_l1In a0.Q 2 (i64.wrap (a0.P - 1))).bind fun z6 =>
  if z6 = true then (
  gd (a0.Q ≠ 0) <|
  if (((i64.wrap (a0.P - 1)).tmod a0.Q) == 0) = true then (
  (F_spec_l1In a0.G 2 (i64.wrap (a0.P - 1))).bind fun z9 =>
  if z9 = true then (
  (F_spec_nPower a0.G a0.Q a0.P).bind fun z11 =>
  if (z11 == 1) = true then (
  (F_spec_nPrime a0.Q).bind fun z13 =>
  if z13 = true then (
  (F_spec_nPrime a0.P).bind fun z15 =>
  some z15) else (
  some false)) else (
  some false)) else (
  some false)) else (
  some false)) else (
  some false)) else (
  some false) : Option (Bool)).bind fun x3 =>
  some x3)
theorem c_spec_l2Good : ∀ {a0} {r}, F_spec_l2Good a0 = some r → PCalls Try.prog 51 [(.sh, .agg [.int .i64 a0.P, .int .i64 a0.Q, .int .i64 a0.G])] (Eo (.bool r) [.junk]) := by
  intro a0 r hr
  apply pF 51 [] [] [] [.tmp 2] hr cl51 Try.func51
  intro Φ hΦ hF g
  unfold F_spec_l2Good at hF
  try simp [go_sem, g]
  refine pw_wk ?_
  repeat rw [sq]
  refine pJ hF (fun x3 => [(2, .v (.bool x3))]) (fun x3 hF => ?_) fun _ hj1 hF => ?_
  ·cases hΦ _ (Rn_some hF)
   try simp [go_sem, g]
  ·try simp [go_sem, g]
   refine pC hF [.sh, .sh, .sh] c_spec_l1In (fun z4 hF => ?_)
   try simp [go_sem, g]
   refine pwg_F hF (fun h5 hF => ?_) fun h5 hF => ?_
   ·try simp [go_sem, g, h5]
    refine pC hF [.sh, .sh, .sh] c_spec_l1In (fun z6 hF => ?_)
    try simp [go_sem, g, h5]
    refine pwg_F hF (fun h7 hF => ?_) fun h7 hF => ?_
    ·obtain ⟨g, hF⟩ := Rz g hF
     try simp [go_sem, g, h7]
     refine pwg_F hF (fun h8 hF => ?_) fun h8 hF => ?_
     ·try simp [go_sem, g, h8]
      refine pC hF [.sh, .sh, .sh] c_spec_l1In (fun z9 hF => ?_)
      try simp [go_sem, g, h8]
      refine pwg_F hF (fun h10 hF => ?_) fun h10 hF => ?_
      ·try simp [go_sem, g, h10]
       refine pC hF [.sh, .sh, .sh] c_spec_nPower (fun z11 hF => ?_)
       try simp [go_sem, g, h10]
       refine pwg_F hF (fun h12 hF => ?_) fun h12 hF => ?_
       ·try simp [go_sem, g, h12]
        refine pC hF [.sh] c_spec_nPrime (fun z13 hF => ?_)
        try simp [go_sem, g, h12]
        refine pwg_F hF (fun h14 hF => ?_) fun h14 hF => ?_
        ·try simp [go_sem, g, h14]
         refine pC hF [.sh] c_spec_nPrime (fun z15 hF => ?_)
         try simp [go_sem, g, h14]
         exact pT (hj1 z15) (Rn_some hF)
        ·try simp [go_sem, g, h14]
         exact pT (hj1 false) (Rn_some hF)
       ·try simp [go_sem, g, h12]
        exact pT (hj1 false) (Rn_some hF)
      ·try simp [go_sem, g, h10]
       exact pT (hj1 false) (Rn_some hF)
     ·try simp [go_sem, g, h8]
      exact pT (hj1 false) (Rn_some hF)
    ·try simp [go_sem, g, h7]
     exact pT (hj1 false) (Rn_some hF)
   ·try simp [go_sem, g, h5]
    exact pT (hj1 false) (Rn_some hF)
noncomputable def F_spec_vContest (a0 : Contest) : Option (Bool) :=
  ((if decide (a0.Least < 0) = true then (
  some true) else (
  some (decide (a0.Most < a0.Least))) : Option (Bool)).bind fun x3 =>
  if x3 = true then (
  some false) else (
  ((if (a0.Kind == 1) = true then (
  some (a0.Kind == 1)) else (
  some (a0.Kind == 3)) : Option (Bool)).bind fun x8 =>
  if x8 = true then (
  (((F_spec_l1In a0.Options 1 8).bind fun z14 =>
  if z14 = true then (
  if decide (a0.Most ≤ a0.Options) = true then (
  some (a0.Points == 0)) else (
  some false)) else (
  some false) : Option (Bool)).bind fun x13 =>
  some x13)) else (
  if (a0.Kind == 2) = true then (
  (((F_spec_l1In a0.Options 1 8).bind fun z21 =>
  if z21 = true then (
  (F_spec_l1In a0.Points 1 5).bind fun z23 =>
  if z23 = true then (
  some (decide (a0.Most ≤ (i64.wrap (a0.Options * a0.Points))))) else (
  some false)) else (
  some false) : Option (Bool)).bind fun x20 =>
  some x20)) else (
  ((if (a0.Kind == 4) = true then (
  if (a0.Options == 0) = true then (
  if decide (a0.Most ≤ 5) = true then (
  some (a0.Points == 0)) else (
  some false)) else (
  some false)) else (
  some false) : Option (Bool)).bind fun x27 =>
  some x27))))))
theorem c_spec_vContest : ∀ {a0} {r}, F_spec_vContest a0 = some r → PCalls Try.prog 52 [(.sh, .agg [.int .i64 a0.Kind, .int .i64 a0.Options, .int .i64 a0.Least, .int .i64 a0.Most, .int .i64 a0.Points])] (Eo (.bool r) [.junk]) := by
  intro a0 r hr
  apply pF 71 [] [] [] [.tmp 2] hr cl52 Try.func52
  intro Φ hΦ hF g
  unfold F_spec_vContest at hF
  try simp [go_sem, g]
  refine pw_wk ?_
  repeat rw [sq]
  refine pJ hF (fun x3 => [(1, .bl [.int .i64 a0.Kind, .int .i64 a0.Options, .int .i64 a0.Least, .int .i64 a0.Most, .int .i64 a0.Points]), (12, .v (.bool x3))]) (fun x3 hF => ?_) fun _ hj1 hF => ?_
  ·repeat rw [sq]
   refine pI hF (fun h5 hF => ?_) (fun h5 hF => ?_)
   ·cases hΦ _ (Rn_some hF)
    try simp [go_sem, g]
    refine pw_wk ?_
    try simp [go_sem, g]
   ·iterate 2 (try simp [go_sem, g]; refine pw_wk ?_)
    repeat rw [sq]
    rw [pw_block]
    try simp [go_sem, g]
    refine pw_wk ?_
    repeat rw [sq]
    refine pJ hF (fun x8 => [(1, .bl [.int .i64 a0.Kind, .int .i64 a0.Options, .int .i64 a0.Least, .int .i64 a0.Most, .int .i64 a0.Points]), (14, .v (.int .i64 a0.Kind)), (15, .v (.bool x8))]) (fun x8 hF => ?_) fun _ hj6 hF => ?_
    ·repeat rw [sq]
     refine pI hF (fun h10 hF => ?_) (fun h10 hF => ?_)
     ·repeat rw [sq]
      refine pJ hF (fun x13 => [(2, .v (.bool x13))]) (fun x13 hF => ?_) fun _ hj11 hF => ?_
      ·cases hΦ _ (Rn_some hF)
       try simp [go_sem, g]
      ·try simp [go_sem, g]
       refine pC hF [.sh, .sh, .sh] c_spec_l1In (fun z14 hF => ?_)
       try simp [go_sem, g]
       refine pwg_F hF (fun h15 hF => ?_) fun h15 hF => ?_
       ·try simp [go_sem, g, h15]
        refine pwg_F hF (fun h16 hF => ?_) fun h16 hF => ?_
        ·try simp [go_sem, g, h16]
         exact pT (hj11 (a0.Points == 0)) (Rn_some hF)
        ·try simp [go_sem, g, h16]
         exact pT (hj11 false) (Rn_some hF)
       ·try simp [go_sem, g, h15]
        exact pT (hj11 false) (Rn_some hF)
     ·try simp [go_sem, g]
      refine pw_wk ?_
      repeat rw [sq]
      refine pI hF (fun h17 hF => ?_) (fun h17 hF => ?_)
      ·repeat rw [sq]
       refine pJ hF (fun x20 => [(2, .v (.bool x20))]) (fun x20 hF => ?_) fun _ hj18 hF => ?_
       ·cases hΦ _ (Rn_some hF)
        try simp [go_sem, g]
       ·try simp [go_sem, g]
        refine pC hF [.sh, .sh, .sh] c_spec_l1In (fun z21 hF => ?_)
        try simp [go_sem, g]
        refine pwg_F hF (fun h22 hF => ?_) fun h22 hF => ?_
        ·try simp [go_sem, g, h22]
         refine pC hF [.sh, .sh, .sh] c_spec_l1In (fun z23 hF => ?_)
         try simp [go_sem, g, h22]
         refine pwg_F hF (fun h24 hF => ?_) fun h24 hF => ?_
         ·try simp [go_sem, g, h24]
          exact pT (hj18 (decide (a0.Most ≤ (i64.wrap (a0.Options * a0.Points))))) (Rn_some hF)
         ·try simp [go_sem, g, h24]
          exact pT (hj18 false) (Rn_some hF)
        ·try simp [go_sem, g, h22]
         exact pT (hj18 false) (Rn_some hF)
      ·try simp [go_sem, g]
       refine pw_wk ?_
       repeat rw [sq]
       refine pJ hF (fun x27 => [(2, .v (.bool x27))]) (fun x27 hF => ?_) fun _ hj25 hF => ?_
       ·cases hΦ _ (Rn_some hF)
        try simp [go_sem, g]
       ·try simp [go_sem, g]
        refine pwg_F hF (fun h28 hF => ?_) fun h28 hF => ?_
        ·try simp [go_sem, g, h28]
         refine pwg_F hF (fun h29 hF => ?_) fun h29 hF => ?_
         ·try simp [go_sem, g, h29]
          refine pwg_F hF (fun h30 hF => ?_) fun h30 hF => ?_
          ·try simp [go_sem, g, h30]
           exact pT (hj25 (a0.Points == 0)) (Rn_some hF)
          ·try simp [go_sem, g, h30]
           exact pT (hj25 false) (Rn_some hF)
         ·try simp [go_sem, g, h29]
          exact pT (hj25 false) (Rn_some hF)
        ·try simp [go_sem, g, h28]
         exact pT (hj25 false) (Rn_some hF)
    ·repeat rw [sq]
     refine pI hF (fun h9 hF => ?_) (fun h9 hF => ?_)
     ·try simp [go_sem, g]
      exact pT (hj6 (a0.Kind == 1)) (Rn_some hF)
     ·try simp [go_sem, g]
      exact pT (hj6 (a0.Kind == 3)) (Rn_some hF)
  ·try simp [go_sem, g]
   refine pwg_F hF (fun h4 hF => ?_) fun h4 hF => ?_
   ·try simp [go_sem, g, h4]
    exact pT (hj1 true) (Rn_some hF)
   ·try simp [go_sem, g, h4]
    exact pT (hj1 (decide (a0.Most < a0.Least))) (Rn_some hF)
noncomputable def F_spec_l1Least (a0 : Int) (a1 : Int) : Option (Int) :=
  if decide (a0 < a1) = true then (
  some a0) else (
  some a1)
theorem c_spec_l1Least : ∀ {a0} {a1} {r}, F_spec_l1Least a0 a1 = some r → PCalls Try.prog 75 [(.sh, .int .i64 a0), (.sh, .int .i64 a1)] (Eo (.int .i64 r) [.junk, .junk]) := by
  intro a0 a1 r hr
  apply pF 10 [] [] [] [.tmp 4] hr cl75 Try.func75
  intro Φ hΦ hF g
  unfold F_spec_l1Least at hF
  iterate 2 (try simp [go_sem, g]; refine pw_wk ?_)
  repeat rw [sq]
  refine pI hF (fun h1 hF => ?_) (fun h1 hF => ?_)
  ·cases hΦ _ (Rn_some hF)
   try simp [go_sem, g]
   refine pw_wk ?_
   try simp [go_sem, g]
  ·cases hΦ _ (Rn_some hF)
   iterate 2 (try simp [go_sem, g]; refine pw_wk ?_)
   try simp [go_sem, g]
noncomputable def F_spec_vMarks (a0 : Contest) (a1 : (List Int)) : Option ((List Int)) :=
  gd (0 ≤ a0.Options ∧ a0.Options ≤ a0.Options ∧ 8 * a0.Options ≤ 140737488355328 ∧ a0.Options ≤ 4611686018427387904) <|
  (some (List.replicate a0.Options.toNat 0)).bind fun x1 =>
  ((rloop (σ := (List Int)) (fun i17 s16 =>
  (ix a1 i17).bind fun x23 =>
  (ix s16 x23).bind fun x24 =>
  some (.go (s16.set x23.toNat 1))) (fun s16 => s16) (a1.length) 0 x1 : Option ((List Int))).bind fun x6 =>
  some x6)
theorem c_spec_vMarks : ∀ {a0} {a1} {r}, F_spec_vMarks a0 a1 = some r → PCalls Try.prog 60 [(.sh, .agg [.int .i64 a0.Kind, .int .i64 a0.Options, .int .i64 a0.Least, .int .i64 a0.Most, .int .i64 a0.Points]), (.sh, .sl false 1 (a1.map row_i64))] (Eo (.sl true 1 (r.map row_i64)) [.junk, .junk]) := by
  intro a0 a1 r hr
  apply pF 22 [] [] [] [.tmp 4] hr cl60 Try.func60
  intro Φ hΦ hF g
  unfold F_spec_vMarks at hF
  obtain ⟨g, hF⟩ := Rg g hF
  obtain ⟨x1, e2, hF⟩ := Rn_bind hF
  have g3 : List.replicate a0.Options.toNat ([.int .i64 0] : List PV) = x1.map row_i64 := by injection e2 with e2; rw [← e2]; simp [go_sem]
  iterate 3 (try simp [go_sem, g, g3]; try intros; refine pw_wk ?_)
  repeat rw [sq]
  refine pJ hF (fun x6 => [(5, .v (.sl true 1 (x6.map row_i64)))]) (fun x6 hF => ?_) fun _ hj4 hF => ?_
  ·try simp [go_sem, g]
   refine pw_wkK [4] (by simp [go_sem, g]; rfl) ?_
   cases hΦ _ (Rn_some hF)
   try simp [go_sem, g]
  ·repeat rw [sq]
   rw [pw_block]
   obtain ⟨b25, hb26, hψ20⟩ := hF
   refine pR hb26 (fun i17 s16 => [(5, .v (.sl true 1 (s16.map row_i64))), (11, .v (.sl false 1 (a1.map row_i64))), (12, .v (.int .i64 (a1.length : Int))), (13, .v (.int .i64 i17))]) (fun s16 _ hN27 => ?_) (fun i17 s16 _ _ hi21 hi22 ho18 hg19 hF => ?_)
   ·subst hN27
    try simp [go_sem]
    refine pw_wk ?_
    repeat rw [sq]
    refine pw_cond_f (by simp [go_sem]) ?_
    try simp [go_sem]
    exact pT (hj4 s16) hψ20 (by simp [go_sem])
   ·try simp [go_sem, g]
    refine pw_wkK [5, 11, 12, 13, 14] (by simp [go_sem, g]; rfl) ?_
    repeat rw [sq]
    refine pw_cond_t (by simp [go_sem, g, hi21, hi22]) ?_
    try simp [go_sem, g]
    refine pw_wk ?_
    repeat rw [sq]
    rw [pw_block]
    obtain ⟨x23, g, hF⟩ := Rx g hF
    obtain ⟨x24, g, hF⟩ := Rx g hF
    iterate 2 (try simp [go_sem, g]; refine pw_wk ?_)
    try simp [go_sem, g]
    exact pT (hg19 (s16.set x23.toNat 1)) (Rn_some hF) (by simp [go_sem, g, wr_i hi21 hi22 (by assumption)])
noncomputable def F_spec_vNumber (a0 : (List Int)) (a1 : Int) (a2 : Int) : Option (Int) :=
  ((wloop (σ := Int × Int) (fun s4 =>
  if decide (0 ≤ s4.2) = true then (
  (ix a0 s4.2).bind fun x10 =>
  some (.go (i64.wrap ((i64.wrap ((i64.wrap (s4.1 * a1)) + x10)) + a2), i64.wrap (s4.2 - 1)))) else (
  some (.out s4.1))) (0, i64.wrap ((a0.length : Int) - 1)) : Option (Int)).bind fun x3 =>
  some x3)
theorem c_spec_vNumber : ∀ {a0} {a1} {a2} {r}, F_spec_vNumber a0 a1 a2 = some r → PCalls Try.prog 78 [(.sh, .sl false 1 (a0.map row_i64)), (.sh, .int .i64 a1), (.sh, .int .i64 a2)] (Eo (.int .i64 r) [.junk, .junk, .junk]) := by
  intro a0 a1 a2 r hr
  apply pF 27 [] [] [] [.tmp 6] hr cl78 Try.func78
  intro Φ hΦ hF g
  unfold F_spec_vNumber at hF
  iterate 3 (try simp [go_sem, g]; try intros; refine pw_wk ?_)
  repeat rw [sq]
  refine pJ hF (fun x3 => [(7, .v (.int .i64 x3))]) (fun x3 hF => ?_) fun _ hj1 hF => ?_
  ·cases hΦ _ (Rn_some hF)
   try simp [go_sem, g]
   refine pw_wk ?_
   try simp [go_sem, g]
  ·repeat rw [sq]
   rw [pw_block]
   obtain ⟨b11, hb12, hψ8⟩ := hF
   refine pL hb12 (fun s4 => [(0, .v (.sl false 1 (a0.map row_i64))), (1, .v (.int .i64 a1)), (2, .v (.int .i64 a2)), (7, .v (.int .i64 s4.1)), (8, .v (.int .i64 s4.2))]) (fun s4 _ _ ho6 hg7 hF => ?_)
   try simp [go_sem, g]
   refine pw_wk ?_
   repeat rw [sq]
   refine pI hF (fun h9 hF => ?_) (fun h9 hF => ?_)
   ·try simp [go_sem, g]
    refine pw_wk ?_
    repeat rw [sq]
    rw [pw_block]
    obtain ⟨x10, g, hF⟩ := Rx g hF
    try simp [go_sem, g]
    refine pw_wkK [0, 1, 2, 7, 8] (by simp [go_sem, g]; rfl) ?_
    try simp [go_sem, g]
    exact pT (hg7 (i64.wrap ((i64.wrap ((i64.wrap (s4.1 * a1)) + x10)) + a2), i64.wrap (s4.2 - 1))) (Rn_some hF)
   ·try simp [go_sem, g]
    cases ho6 _ (Rn_some hF)
    exact pT (hj1 s4.1) hψ8
noncomputable def F_spec_vCode (a0 : Contest) (a1 : (List Int)) : Option (Int) :=
  if (a0.Kind == 1) = true then (
  (F_spec_vMarks a0 a1).bind fun z2 =>
  (F_spec_vNumber z2 2 0).bind fun z3 =>
  some z3) else (
  if (a0.Kind == 2) = true then (
  (F_spec_vNumber a1 (i64.wrap (a0.Points + 1)) 0).bind fun z5 =>
  some z5) else (
  if (a0.Kind == 3) = true then (
  (F_spec_vNumber a1 (i64.wrap (a0.Options + 1)) 1).bind fun z7 =>
  some z7) else (
  (F_spec_vNumber a1 27 0).bind fun z8 =>
  some z8)))
theorem c_spec_vCode : ∀ {a0} {a1} {r}, F_spec_vCode a0 a1 = some r → PCalls Try.prog 61 [(.sh, .agg [.int .i64 a0.Kind, .int .i64 a0.Options, .int .i64 a0.Least, .int .i64 a0.Most, .int .i64 a0.Points]), (.sh, .sl false 1 (a1.map row_i64))] (Eo (.int .i64 r) [.junk, .junk]) := by
  intro a0 a1 r hr
  apply pF 29 [] [] [] [.tmp 4] hr cl61 Try.func61
  intro Φ hΦ hF g
  unfold F_spec_vCode at hF
  iterate 2 (try simp [go_sem, g]; refine pw_wk ?_)
  repeat rw [sq]
  rw [pw_block]
  try simp [go_sem, g]
  refine pw_wk ?_
  repeat rw [sq]
  refine pI hF (fun h1 hF => ?_) (fun h1 hF => ?_)
  ·try simp [go_sem, g]
   refine pC hF [.sh, .sh] c_spec_vMarks (fun z2 hF => ?_)
   try simp [go_sem, g]
   refine pC hF [.sh, .sh, .sh] c_spec_vNumber (fun z3 hF => ?_)
   try simp [go_sem, g]
   refine pw_wkK [4] (by simp [go_sem, g]; rfl) ?_
   cases hΦ _ (Rn_some hF)
   try simp [go_sem, g]
  ·try simp [go_sem, g]
   refine pw_wk ?_
   repeat rw [sq]
   refine pI hF (fun h4 hF => ?_) (fun h4 hF => ?_)
   ·try simp [go_sem, g]
    refine pC hF [.sh, .sh, .sh] c_spec_vNumber (fun z5 hF => ?_)
    try simp [go_sem, g]
    refine pw_wkK [4] (by simp [go_sem, g]; rfl) ?_
    cases hΦ _ (Rn_some hF)
    try simp [go_sem, g]
   ·try simp [go_sem, g]
    refine pw_wkK [1, 2, 20] (by simp [go_sem, g]; rfl) ?_
    repeat rw [sq]
    refine pI hF (fun h6 hF => ?_) (fun h6 hF => ?_)
    ·try simp [go_sem, g]
     refine pC hF [.sh, .sh, .sh] c_spec_vNumber (fun z7 hF => ?_)
     cases hΦ _ (Rn_some hF)
     try simp [go_sem, g]
     refine pw_wk ?_
     try simp [go_sem, g]
    ·try simp [go_sem, g]
     refine pw_wk ?_
     try simp [go_sem, g]
     refine pC hF [.sh, .sh, .sh] c_spec_vNumber (fun z8 hF => ?_)
     cases hΦ _ (Rn_some hF)
     try simp [go_sem, g]
     refine pw_wk ?_
     try simp [go_sem, g]
noncomputable def F_spec_bGreatest (a0 : Contest) : Option (Int) :=
  ((if (a0.Kind == 1) = true then (
  wloop (σ := (List Int) × Int) (fun s5 =>
  if decide (s5.2 < a0.Options) = true then (
  gd ((s5.1.length + 1) * 8 ≤ 140737488355328 ∧ s5.1.length + 1 ≤ 4611686018427387904) <|
  some (.go (s5.1 ++ [s5.2], i64.wrap (s5.2 + 1)))) else (
  some (.out s5.1))) ([], i64.wrap (a0.Options - a0.Most))) else (
  if (a0.Kind == 2) = true then (
  gd (0 ≤ a0.Options ∧ a0.Options ≤ a0.Options ∧ 8 * a0.Options ≤ 140737488355328 ∧ a0.Options ≤ 4611686018427387904) <|
  (some (List.replicate a0.Options.toNat 0)).bind fun x14 =>
  wloop (σ := (List Int) × Int × Int) (fun s26 =>
  if decide (0 ≤ s26.2.2) = true then (
  (F_spec_l1Least s26.2.1 a0.Points).bind fun z32 =>
  (ix s26.1 s26.2.2).bind fun x33 =>
  (ix (s26.1.set s26.2.2.toNat z32) s26.2.2).bind fun x34 =>
  some (.go (s26.1.set s26.2.2.toNat z32, i64.wrap (s26.2.1 - x34), i64.wrap (s26.2.2 - 1)))) else (
  some (.out s26.1))) (x14, a0.Most, i64.wrap (a0.Options - 1))) else (
  if (a0.Kind == 3) = true then (
  wloop (σ := (List Int) × Int) (fun s38 =>
  if decide (s38.2 < a0.Options) = true then (
  gd ((s38.1.length + 1) * 8 ≤ 140737488355328 ∧ s38.1.length + 1 ≤ 4611686018427387904) <|
  some (.go (s38.1 ++ [s38.2], i64.wrap (s38.2 + 1)))) else (
  some (.out s38.1))) ([], i64.wrap (a0.Options - a0.Most))) else (
  wloop (σ := (List Int) × Int) (fun s46 =>
  if decide (s46.2 < a0.Most) = true then (
  gd ((s46.1.length + 1) * 8 ≤ 140737488355328 ∧ s46.1.length + 1 ≤ 4611686018427387904) <|
  some (.go (s46.1 ++ [26], i64.wrap (s46.2 + 1)))) else (
  some (.out s46.1))) ([], 0)))) : Option ((List Int))).bind fun x3 =>
  (F_spec_vCode a0 x3).bind fun z54 =>
  some z54)
theorem c_spec_bGreatest : ∀ {a0} {r}, F_spec_bGreatest a0 = some r → PCalls Try.prog 53 [(.sh, .agg [.int .i64 a0.Kind, .int .i64 a0.Options, .int .i64 a0.Least, .int .i64 a0.Most, .int .i64 a0.Points])] (Eo (.int .i64 r) [.junk]) := by
  intro a0 r hr
  apply pF 84 [] [] [] [.tmp 2] hr cl53 Try.func53
  intro Φ hΦ hF g
  unfold F_spec_bGreatest at hF
  iterate 3 (try simp [go_sem, g]; refine pw_wk ?_)
  repeat rw [sq]
  refine pJ hF (fun x3 => [(1, .bl [.int .i64 a0.Kind, .int .i64 a0.Options, .int .i64 a0.Least, .int .i64 a0.Most, .int .i64 a0.Points]), (3, .v (.sl true 1 (x3.map row_i64)))]) (fun x3 hF => ?_) fun _ hj1 hF => ?_
  ·try simp [go_sem, g]
   refine pC hF [.sh, .sh] c_spec_vCode (fun z54 hF => ?_)
   cases hΦ _ (Rn_some hF)
   try simp [go_sem, g]
   refine pw_wk ?_
   try simp [go_sem, g]
  ·repeat rw [sq]
   rw [pw_block]
   try simp [go_sem, g]
   refine pw_wk ?_
   repeat rw [sq]
   refine pI hF (fun h4 hF => ?_) (fun h4 hF => ?_)
   ·try simp [go_sem, g]
    refine pw_wkK [1, 3, 4] (by simp [go_sem, g]; rfl) ?_
    repeat rw [sq]
    rw [pw_block]
    obtain ⟨b11, hb12, hψ9⟩ := hF
    refine pL hb12 (fun s5 => [(1, .bl [.int .i64 a0.Kind, .int .i64 a0.Options, .int .i64 a0.Least, .int .i64 a0.Most, .int .i64 a0.Points]), (3, .v (.sl true 1 (s5.1.map row_i64))), (4, .v (.int .i64 s5.2))]) (fun s5 _ _ ho7 hg8 hF => ?_)
    try simp [go_sem, g]
    refine pw_wk ?_
    repeat rw [sq]
    refine pI hF (fun h10 hF => ?_) (fun h10 hF => ?_)
    ·try simp [go_sem, g]
     refine pw_wk ?_
     repeat rw [sq]
     rw [pw_block]
     obtain ⟨g, hF⟩ := Rg g hF
     try simp [go_sem, g]
     refine pw_wk ?_
     try simp [go_sem, g]
     exact pT (hg8 (s5.1 ++ [s5.2], i64.wrap (s5.2 + 1))) (Rn_some hF)
    ·try simp [go_sem, g]
     cases ho7 _ (Rn_some hF)
     exact pT (hj1 s5.1) hψ9
   ·try simp [go_sem, g]
    refine pw_wk ?_
    repeat rw [sq]
    refine pI hF (fun h13 hF => ?_) (fun h13 hF => ?_)
    ·obtain ⟨g, hF⟩ := Rg g hF
     obtain ⟨x14, e15, hF⟩ := Rn_bind hF
     have g16 : List.replicate a0.Options.toNat ([.int .i64 0] : List PV) = x14.map row_i64 := by injection e15 with e15; rw [← e15]; simp [go_sem]
     try simp [go_sem, g, g16]
     refine pw_wkK [1, 3] (by simp [go_sem, g]; rfl) ?_
     iterate 2 (try simp [go_sem, g]; refine pw_wk ?_)
     repeat rw [sq]
     rw [pw_block]
     obtain ⟨b35, hb36, hψ30⟩ := hF
     refine pL hb36 (fun s26 => [(1, .bl [.int .i64 a0.Kind, .int .i64 a0.Options, .int .i64 a0.Least, .int .i64 a0.Most, .int .i64 a0.Points]), (3, .v (.sl true 1 (s26.1.map row_i64))), (5, .v (.int .i64 s26.2.1)), (6, .v (.int .i64 s26.2.2))]) (fun s26 _ _ ho28 hg29 hF => ?_)
     try simp [go_sem, g]
     refine pw_wk ?_
     repeat rw [sq]
     refine pI hF (fun h31 hF => ?_) (fun h31 hF => ?_)
     ·try simp [go_sem, g]
      refine pw_wk ?_
      repeat rw [sq]
      rw [pw_block]
      try simp [go_sem, g]
      refine pC hF [.sh, .sh] c_spec_l1Least (fun z32 hF => ?_)
      obtain ⟨x33, g, hF⟩ := Rx g hF
      try simp [go_sem, g]
      refine pw_wkK [1, 3, 5, 6] (by simp [go_sem, g]; rfl) ?_
      obtain ⟨x34, g, hF⟩ := Rx g hF
      try simp [go_sem, g]
      refine pw_wk ?_
      try simp [go_sem, g]
      exact pT (hg29 (s26.1.set s26.2.2.toNat z32, i64.wrap (s26.2.1 - x34), i64.wrap (s26.2.2 - 1))) (Rn_some hF)
     ·try simp [go_sem, g]
      cases ho28 _ (Rn_some hF)
      exact pT (hj1 s26.1) hψ30
    ·try simp [go_sem, g]
     refine pw_wkK [1, 3, 64] (by simp [go_sem, g]; rfl) ?_
     repeat rw [sq]
     refine pI hF (fun h37 hF => ?_) (fun h37 hF => ?_)
     ·try simp [go_sem, g]
      refine pw_wk ?_
      repeat rw [sq]
      rw [pw_block]
      obtain ⟨b44, hb45, hψ42⟩ := hF
      refine pL hb45 (fun s38 => [(1, .bl [.int .i64 a0.Kind, .int .i64 a0.Options, .int .i64 a0.Least, .int .i64 a0.Most, .int .i64 a0.Points]), (3, .v (.sl true 1 (s38.1.map row_i64))), (7, .v (.int .i64 s38.2))]) (fun s38 _ _ ho40 hg41 hF => ?_)
      try simp [go_sem, g]
      refine pw_wkK [1, 3, 7, 74] (by simp [go_sem, g]; rfl) ?_
      repeat rw [sq]
      refine pI hF (fun h43 hF => ?_) (fun h43 hF => ?_)
      ·try simp [go_sem, g]
       refine pw_wk ?_
       repeat rw [sq]
       rw [pw_block]
       obtain ⟨g, hF⟩ := Rg g hF
       try simp [go_sem, g]
       refine pw_wk ?_
       try simp [go_sem, g]
       exact pT (hg41 (s38.1 ++ [s38.2], i64.wrap (s38.2 + 1))) (Rn_some hF)
      ·try simp [go_sem, g]
       cases ho40 _ (Rn_some hF)
       exact pT (hj1 s38.1) hψ42
     ·try simp [go_sem, g]
      refine pw_wk ?_
      repeat rw [sq]
      rw [pw_block]
      obtain ⟨b52, hb53, hψ50⟩ := hF
      refine pL hb53 (fun s46 => [(1, .bl [.int .i64 a0.Kind, .int .i64 a0.Options, .int .i64 a0.Least, .int .i64 a0.Most, .int .i64 a0.Points]), (3, .v (.sl true 1 (s46.1.map row_i64))), (8, .v (.int .i64 s46.2))]) (fun s46 _ _ ho48 hg49 hF => ?_)
      try simp [go_sem, g]
      refine pw_wk ?_
      repeat rw [sq]
      refine pI hF (fun h51 hF => ?_) (fun h51 hF => ?_)
      ·try simp [go_sem, g]
       refine pw_wk ?_
       repeat rw [sq]
       rw [pw_block]
       obtain ⟨g, hF⟩ := Rg g hF
       try simp [go_sem, g]
       refine pw_wk ?_
       try simp [go_sem, g]
       exact pT (hg49 (s46.1 ++ [26], i64.wrap (s46.2 + 1))) (Rn_some hF)
      ·try simp [go_sem, g]
       cases ho48 _ (Rn_some hF)
       exact pT (hj1 s46.1) hψ50
noncomputable def F_spec_bRows (a0 : Contest) : Option (Bool) :=
  ((if (a0.Kind == 1) = true then (
  some true) else (
  some (a0.Kind == 2)) : Option (Bool)).bind fun x3 =>
  some x3)
theorem c_spec_bRows : ∀ {a0} {r}, F_spec_bRows a0 = some r → PCalls Try.prog 21 [(.sh, .agg [.int .i64 a0.Kind, .int .i64 a0.Options, .int .i64 a0.Least, .int .i64 a0.Most, .int .i64 a0.Points])] (Eo (.bool r) [.junk]) := by
  intro a0 r hr
  apply pF 11 [] [] [] [.tmp 2] hr cl21 Try.func21
  intro Φ hΦ hF g
  unfold F_spec_bRows at hF
  try simp [go_sem, g]
  refine pw_wk ?_
  repeat rw [sq]
  refine pJ hF (fun x3 => [(2, .v (.bool x3))]) (fun x3 hF => ?_) fun _ hj1 hF => ?_
  ·cases hΦ _ (Rn_some hF)
   try simp [go_sem, g]
  ·try simp [go_sem, g]
   refine pwg_F hF (fun h4 hF => ?_) fun h4 hF => ?_
   ·try simp [go_sem, g, h4]
    exact pT (hj1 true) (Rn_some hF)
   ·try simp [go_sem, g, h4]
    exact pT (hj1 (a0.Kind == 2)) (Rn_some hF)
def D33_1 : List DE := [⟨0, [2], [2], some 2, false, false, false⟩, ⟨1, [5], [], none, false, true, true⟩, ⟨2, [6], [], none, false, false, false⟩, ⟨3, [7], [], none, false, false, false⟩, ⟨4, [3, 8], [3], some 3, false, false, false⟩, ⟨5, [9, 8], [], none, false, true, true⟩, ⟨6, [10, 8], [], none, false, false, false⟩, ⟨7, [8, 11], [], none, false, false, false⟩, ⟨8, [12], [], none, false, false, false⟩, ⟨9, [3, 13], [3], some 3, false, false, false⟩, ⟨10, [14, 13], [], none, false, true, true⟩, ⟨11, [15, 13], [], none, false, false, false⟩, ⟨12, [13, 16], [], none, false, false, false⟩, ⟨13, [17], [], none, false, false, false⟩, ⟨14, [3, 18], [3], some 3, false, false, false⟩, ⟨16, [2, 18], [2], none, false, false, false⟩, ⟨17, [21, 18], [2], some 21, false, false, false⟩, ⟨15, [19, 18], [], none, false, true, true⟩, ⟨18, [20, 22, 18], [], none, false, false, false⟩, ⟨19, [18, 23], [], none, false, false, false⟩]
noncomputable def F_spec_bGood (a0 : Group) (a1 : Contest) : Option (Bool) :=
  (((F_spec_l2Good a0).bind fun z4 =>
  if (!z4) = true then (
  some true) else (
  (F_spec_vContest a1).bind fun z6 =>
  if (!z6) = true then (
  some true) else (
  (F_spec_bGreatest a1).bind fun z8 =>
  if decide (100000 < z8) = true then (
  some true) else (
  (F_spec_bGreatest a1).bind fun z10 =>
  some (decide (a0.Q ≤ z10))))) : Option (Bool)).bind fun x3 =>
  if x3 = true then (
  some false) else (
  (((F_spec_bRows a1).bind fun z15 =>
  if (!z15) = true then (
  some true) else (
  if decide ((i64.wrap (a1.Most - a1.Least)) < 8) = true then (
  some (decide (a1.Most < a0.Q))) else (
  some false)) : Option (Bool)).bind fun x14 =>
  some x14)))
theorem c_spec_bGood : ∀ {a0} {a1} {r}, F_spec_bGood a0 a1 = some r → PCalls Try.prog 33 [(.sh, .agg [.int .i64 a0.P, .int .i64 a0.Q, .int .i64 a0.G]), (.sh, .agg [.int .i64 a1.Kind, .int .i64 a1.Options, .int .i64 a1.Least, .int .i64 a1.Most, .int .i64 a1.Points])] (Eo (.bool r) [.junk, .junk]) := by
  intro a0 a1 r hr
  apply pF 43 [] [] [] [.tmp 4] hr cl33 Try.func33
  intro Φ hΦ hF g
  unfold F_spec_bGood at hF
  try simp [go_sem, g]
  refine pw_wk ?_
  repeat rw [sq]
  refine pJ hF (fun x3 => [(2, .bl [.int .i64 a0.P, .int .i64 a0.Q, .int .i64 a0.G]), (3, .bl [.int .i64 a1.Kind, .int .i64 a1.Options, .int .i64 a1.Least, .int .i64 a1.Most, .int .i64 a1.Points]), (24, .v (.bool x3))]) (fun x3 hF => ?_) fun _ hj1 hF => ?_
  ·repeat rw [sq]
   refine pI hF (fun h11 hF => ?_) (fun h11 hF => ?_)
   ·cases hΦ _ (Rn_some hF)
    try simp [go_sem, g]
    refine pw_wk ?_
    try simp [go_sem, g]
   ·try simp [go_sem, g]
    refine pw_wk ?_
    repeat rw [sq]
    refine pJ hF (fun x14 => [(4, .v (.bool x14))]) (fun x14 hF => ?_) fun _ hj12 hF => ?_
    ·cases hΦ _ (Rn_some hF)
     try simp [go_sem, g]
    ·try simp [go_sem, g]
     refine pC hF [.sh] c_spec_bRows (fun z15 hF => ?_)
     try simp [go_sem, g]
     refine pwg_F hF (fun h16 hF => ?_) fun h16 hF => ?_
     ·try simp [go_sem, g, h16]
      exact pT (hj12 true) (Rn_some hF)
     ·try simp [go_sem, g, h16]
      refine pwg_F hF (fun h17 hF => ?_) fun h17 hF => ?_
      ·try simp [go_sem, g, h17, h16]
       exact pT (hj12 (decide (a1.Most < a0.Q))) (Rn_some hF)
      ·try simp [go_sem, g, h17, h16]
       exact pT (hj12 false) (Rn_some hF)
  ·repeat rw [sq]
   refine pw_draw D33_1 follows (by kernel_rfl) rfl ?_
   try simp only [go_sem, D33_1]
   try simp [go_sem, g]
   refine pC hF [.sh] c_spec_l2Good (fun z4 hF => ?_)
   try simp [go_sem, g]
   refine pwgD_F hF (fun h5 hF => ?_) fun h5 hF => ?_
   ·try simp [go_sem, g, h5]
    exact pT (hj1 true) (Rn_some hF)
   ·try simp [go_sem, g, h5]
    refine pC hF [.sh] c_spec_vContest (fun z6 hF => ?_)
    try simp [go_sem, g, h5]
    refine pwgD_F hF (fun h7 hF => ?_) fun h7 hF => ?_
    ·try simp [go_sem, g, h7]
     exact pT (hj1 true) (Rn_some hF)
    ·try simp [go_sem, g, h7]
     refine pC hF [.sh] c_spec_bGreatest (fun z8 hF => ?_)
     try simp [go_sem, g, h7]
     refine pwgD_F hF (fun h9 hF => ?_) fun h9 hF => ?_
     ·try simp [go_sem, g, h9]
      exact pT (hj1 true) (Rn_some hF)
     ·try simp [go_sem, g, h9]
      refine pC hF [.sh] c_spec_bGreatest (fun z10 hF => ?_)
      try simp [go_sem, g, h9]
      exact pT (hj1 (decide (a0.Q ≤ z10))) (Rn_some hF)
noncomputable def F_spec_l3Digest (a0 : Int) : Option (Bool) :=
  (F_spec_l1In a0 0 4611686018427387903).bind fun z1 =>
  some z1
theorem c_spec_l3Digest : ∀ {a0} {r}, F_spec_l3Digest a0 = some r → PCalls Try.prog 35 [(.sh, .int .i64 a0)] (Eo (.bool r) [.junk]) := by
  intro a0 r hr
  apply pF 5 [] [] [] [.tmp 2] hr cl35 Try.func35
  intro Φ hΦ hF g
  unfold F_spec_l3Digest at hF
  try simp [go_sem, g]
  refine pw_wk ?_
  try simp [go_sem, g]
  refine pC hF [.sh, .sh, .sh] c_spec_l1In (fun z1 hF => ?_)
  cases hΦ _ (Rn_some hF)
  try simp [go_sem, g]
  refine pw_wk ?_
  try simp [go_sem, g]
noncomputable def F_spec_bTop (a0 : Contest) : Option (Int) :=
  if (a0.Kind == 1) = true then (
  some 1) else (
  some a0.Points)
theorem c_spec_bTop : ∀ {a0} {r}, F_spec_bTop a0 = some r → PCalls Try.prog 36 [(.sh, .agg [.int .i64 a0.Kind, .int .i64 a0.Options, .int .i64 a0.Least, .int .i64 a0.Most, .int .i64 a0.Points])] (Eo (.int .i64 r) [.junk]) := by
  intro a0 r hr
  apply pF 8 [] [] [] [.tmp 2] hr cl36 Try.func36
  intro Φ hΦ hF g
  unfold F_spec_bTop at hF
  iterate 2 (try simp [go_sem, g]; refine pw_wk ?_)
  repeat rw [sq]
  refine pI hF (fun h1 hF => ?_) (fun h1 hF => ?_)
  ·cases hΦ _ (Rn_some hF)
   try simp [go_sem, g]
   refine pw_wk ?_
   try simp [go_sem, g]
  ·cases hΦ _ (Rn_some hF)
   iterate 2 (try simp [go_sem, g]; refine pw_wk ?_)
   try simp [go_sem, g]
noncomputable def F_spec_l3With (a0 : ByteArray) (a1 : (List Int)) : Option ((List Int)) :=
  ((wloop (σ := (List Int) × Int) (fun s4 =>
  if decide (s4.2 < (a0.size : Int)) = true then (
  (ixs a0 s4.2).bind fun x10 =>
  gd ((s4.1.length + 1) * 8 ≤ 140737488355328 ∧ s4.1.length + 1 ≤ 4611686018427387904) <|
  some (.go (s4.1 ++ [i64.wrap x10], i64.wrap (s4.2 + 1)))) else (
  some (.out s4.1))) ([(a0.size : Int)], 0) : Option ((List Int))).bind fun x3 =>
  gd ((x3.length + a1.length) * 8 ≤ 140737488355328 ∧ x3.length + a1.length ≤ 4611686018427387904) <|
  some (x3 ++ a1))
theorem c_spec_l3With : ∀ {a0} {a1} {r}, F_spec_l3With a0 a1 = some r → PCalls Try.prog 97 [(.sh, .str a0), (.sh, .sl false 1 (a1.map row_i64))] (Eo (.sl true 1 (r.map row_i64)) [.junk, .junk]) := by
  intro a0 a1 r hr
  apply pF 26 [] [] [] [.tmp 4] hr cl97 Try.func97
  intro Φ hΦ hF g
  unfold F_spec_l3With at hF
  iterate 3 (try simp [go_sem, g]; refine pw_wk ?_)
  repeat rw [sq]
  refine pJ hF (fun x3 => [(1, .v (.sl false 1 (a1.map row_i64))), (5, .v (.sl true 1 (x3.map row_i64)))]) (fun x3 hF => ?_) fun _ hj1 hF => ?_
  ·obtain ⟨g, hF⟩ := Rg g hF
   try simp [go_sem, g]
   refine pw_wkK [4] (by simp [go_sem, g]; rfl) ?_
   cases hΦ _ (Rn_some hF)
   try simp [go_sem, g]
  ·repeat rw [sq]
   rw [pw_block]
   obtain ⟨b11, hb12, hψ8⟩ := hF
   refine pL hb12 (fun s4 => [(0, .v (.str a0)), (1, .v (.sl false 1 (a1.map row_i64))), (5, .v (.sl true 1 (s4.1.map row_i64))), (6, .v (.int .i64 s4.2))]) (fun s4 _ _ ho6 hg7 hF => ?_)
   try simp [go_sem, g]
   refine pw_wkK [0, 1, 5, 6, 13] (by simp [go_sem, g]; rfl) ?_
   repeat rw [sq]
   refine pI hF (fun h9 hF => ?_) (fun h9 hF => ?_)
   ·try simp [go_sem, g]
    refine pw_wk ?_
    repeat rw [sq]
    rw [pw_block]
    obtain ⟨x10, g, hF⟩ := Rxs g hF
    obtain ⟨g, hF⟩ := Rg g hF
    try simp [go_sem, g]
    refine pw_wk ?_
    try simp [go_sem, g]
    exact pT (hg7 (s4.1 ++ [i64.wrap x10], i64.wrap (s4.2 + 1))) (Rn_some hF)
   ·try simp [go_sem, g]
    cases ho6 _ (Rn_some hF)
    exact pT (hj1 s4.1) hψ8
noncomputable def F_spec_l3State_absorb__io0 (a0c0 : Int) (a0c1 : Int) (a1 : Int) : Option ((Int × Int)) :=
  (some [a1.tmod 2147483648, i64.wrap (a1.tdiv 2147483648)]).bind fun x1 =>
  wloop (σ := (Int × Int) × Int) (fun s10 =>
  if decide (s10.2 < (x1.length : Int)) = true then (
  (ix x1 s10.2).bind fun x16 =>
  some (.go (((i64.wrap ((i64.wrap ((i64.wrap (48271 * s10.1.1)) + x16)) + 1)).tmod 2147483647, (i64.wrap ((i64.wrap ((i64.wrap (69621 * s10.1.2)) + x16)) + 1)).tmod 2147483647), i64.wrap (s10.2 + 1)))) else (
  some (.out (s10.1.1, s10.1.2)))) ((a0c0, a0c1), 0)
theorem c_spec_l3State_absorb__io0 : ∀ {a0c0} {a0c1} {a1} {r}, F_spec_l3State_absorb__io0 a0c0 a0c1 a1 = some r → PCalls Try.prog 100 [(.io, .bx [.int .i64 a0c0, .int .i64 a0c1]), (.sh, .int .i64 a1)] (Eo (.junk) [.bx [.int .i64 r.1, .int .i64 r.2], .junk]) := by
  intro a0c0 a0c1 a1 r hr
  apply pF 41 [0] [] [] [] hr cl100 Try.func100
  intro Φ hΦ hF g
  unfold F_spec_l3State_absorb__io0 at hF
  have g := Ld g 2147483648
  obtain ⟨x1, e2, hF⟩ := Rn_bind hF
  have g := And.intro g (show [[.int .i64 (a1.tmod 2147483648)], [.int .i64 (i64.wrap (a1.tdiv 2147483648))]] = x1.map row_i64 by injection e2 with e2; rw [← e2]; simp [go_sem])
  try simp [go_sem, g]
  try intros
  refine pw_wk ?_
  repeat rw [sq]
  rw [pw_block]
  obtain ⟨b17, hb18, hψ14⟩ := hF
  refine pL hb18 (fun s10 => [(0, .v (.bx [.int .i64 s10.1.1, .int .i64 s10.1.2])), (10, .v (.sl true 1 (x1.map row_i64))), (11, .v (.int .i64 (x1.length : Int))), (12, .v (.int .i64 s10.2))]) (fun s10 _ _ ho12 hg13 hF => ?_)
  try simp [go_sem, g]
  refine pw_wk ?_
  repeat rw [sq]
  refine pI hF (fun h15 hF => ?_) (fun h15 hF => ?_)
  ·try simp [go_sem, g]
   refine pw_wk ?_
   repeat rw [sq]
   rw [pw_block]
   obtain ⟨x16, g, hF⟩ := Rx g hF
   try simp [go_sem, g]
   refine pw_wkK [0, 5, 10, 11, 12] (by simp [go_sem, g]; rfl) ?_
   have g := Ld g 2147483647
   try simp [go_sem, g]
   refine pw_wkK [0, 5, 10, 11, 12] (by simp [go_sem, g]; rfl) ?_
   try simp [go_sem, g]
   refine pw_wkK [0, 10, 11, 12] (by simp [go_sem, g]; rfl) ?_
   try simp [go_sem, g]
   exact pT (hg13 (((i64.wrap ((i64.wrap ((i64.wrap (48271 * s10.1.1)) + x16)) + 1)).tmod 2147483647, (i64.wrap ((i64.wrap ((i64.wrap (69621 * s10.1.2)) + x16)) + 1)).tmod 2147483647), i64.wrap (s10.2 + 1))) (Rn_some hF)
  ·cases ho12 _ (Rn_some hF)
   cases hΦ _ hψ14
   try simp [go_sem, g]
def D96_8 : List DE := [⟨0, [3], [], none, false, false, false⟩, ⟨1, [22], [], none, false, false, false⟩, ⟨2, [23], [], none, false, false, false⟩, ⟨3, [24], [], none, false, false, false⟩, ⟨4, [25], [], none, false, false, false⟩, ⟨5, [3], [], none, false, false, false⟩, ⟨6, [27], [], none, false, false, false⟩, ⟨7, [28], [], none, false, false, false⟩, ⟨8, [29], [], none, false, false, false⟩, ⟨9, [26, 30], [], none, false, false, false⟩, ⟨10, [31], [], none, false, false, false⟩]
noncomputable def F_spec_hInts (a0 : (List Int)) : Option (Int) :=
  (F_spec_l3State_absorb__io0 1 2 (a0.length : Int)).bind fun z1 =>
  ((rloop (σ := (Int × Int)) (fun i15 s14 =>
  (ix a0 i15).bind fun x21 =>
  (F_spec_l3State_absorb__io0 s14.1 s14.2 x21).bind fun z22 =>
  some (.go (z22.1, z22.2))) (fun s14 => (s14.1, s14.2)) (a0.length) 0 (z1.1, z1.2) : Option ((Int × Int))).bind fun x4 =>
  some (i64.wrap ((i64.wrap (x4.1 * 2147483648)) + x4.2)))
theorem c_spec_hInts : ∀ {a0} {r}, F_spec_hInts a0 = some r → PCalls Try.prog 96 [(.sh, .sl false 1 (a0.map row_i64))] (Eo (.int .i64 r) [.junk]) := by
  intro a0 r hr
  apply pF 32 [] [] [7] [.tmp 2] hr cl96 Try.func96
  intro Φ hΦ hF g
  unfold F_spec_hInts at hF
  iterate 2 (try simp [go_sem, g]; try intros; refine pw_wk ?_)
  try simp [go_sem, g]
  try intros
  refine pC hF [.io, .sh] c_spec_l3State_absorb__io0 (fun z1 hF => ?_)
  try simp [go_sem, g]
  try intros
  refine pw_wk ?_
  try simp [go_sem, g]
  try intros
  refine pw_wkK [3, 12, 13, 14] (by simp [go_sem, g]; rfl) ?_
  repeat rw [sq]
  refine pJ hF (fun x4 => [(3, .v (.bx [.int .i64 x4.1, .int .i64 x4.2]))]) (fun x4 hF => ?_) fun _ hj2 hF => ?_
  ·repeat rw [sq]
   refine pw_draw D96_8 follows (by kernel_rfl) rfl ?_
   try simp only [go_sem, D96_8]
   try simp [go_sem, g]
   refine pw_wkK [2] (by simp [go_sem, g]; rfl) ?_
   cases hΦ _ (Rn_some hF)
   try simp [go_sem, g]
  ·repeat rw [sq]
   rw [pw_block]
   obtain ⟨b23, hb24, hψ18⟩ := hF
   refine pR hb24 (fun i15 s14 => [(3, .v (.bx [.int .i64 s14.1, .int .i64 s14.2])), (12, .v (.sl false 1 (a0.map row_i64))), (13, .v (.int .i64 (a0.length : Int))), (14, .v (.int .i64 i15))]) (fun s14 _ hN25 => ?_) (fun i15 s14 _ _ hi19 hi20 ho16 hg17 hF => ?_)
   ·subst hN25
    try simp [go_sem]
    refine pw_wk ?_
    repeat rw [sq]
    refine pw_cond_f (by simp [go_sem]) ?_
    try simp [go_sem]
    exact pT (hj2 (s14.1, s14.2)) hψ18 (by simp [go_sem])
   ·try simp [go_sem, g]
    refine pw_wk ?_
    repeat rw [sq]
    refine pw_cond_t (by simp [go_sem, g, hi19, hi20]) ?_
    try simp [go_sem, g]
    refine pw_wk ?_
    repeat rw [sq]
    rw [pw_block]
    obtain ⟨x21, g, hF⟩ := Rx g hF
    try simp [go_sem, g]
    refine pw_wk ?_
    try simp [go_sem, g]
    refine pC hF [.io, .sh] c_spec_l3State_absorb__io0 (fun z22 hF => ?_)
    try simp [go_sem, g]
    refine pw_wk ?_
    try simp [go_sem, g]
    exact pT (hg17 (z22.1, z22.2)) (Rn_some hF) (by simp [go_sem, g, wr_i hi19 hi20 (by assumption)])
noncomputable def F_spec_hLabelled (a0 : ByteArray) (a1 : (List Int)) : Option (Int) :=
  (F_spec_l3With a0 a1).bind fun z1 =>
  (F_spec_hInts z1).bind fun z2 =>
  some z2
theorem c_spec_hLabelled : ∀ {a0} {a1} {r}, F_spec_hLabelled a0 a1 = some r → PCalls Try.prog 89 [(.sh, .str a0), (.sh, .sl false 1 (a1.map row_i64))] (Eo (.int .i64 r) [.junk, .junk]) := by
  intro a0 a1 r hr
  apply pF 9 [] [] [] [.tmp 4] hr cl89 Try.func89
  intro Φ hΦ hF g
  unfold F_spec_hLabelled at hF
  try simp [go_sem, g]
  refine pw_wk ?_
  try simp [go_sem, g]
  refine pC hF [.sh, .sh] c_spec_l3With (fun z1 hF => ?_)
  try simp [go_sem, g]
  refine pC hF [.sh] c_spec_hInts (fun z2 hF => ?_)
  cases hΦ _ (Rn_some hF)
  try simp [go_sem, g]
  refine pw_wk ?_
  try simp [go_sem, g]
def D76_4 : List DE := [⟨0, [1], [], none, false, false, false⟩, ⟨1, [3], [3], none, false, false, false⟩, ⟨2, [15], [3], some 15, false, false, false⟩, ⟨3, [3], [3], none, false, false, false⟩, ⟨4, [17], [3], some 17, false, false, false⟩, ⟨5, [3], [3], none, false, false, false⟩, ⟨6, [19], [3], some 19, false, false, false⟩, ⟨7, [2], [], none, false, false, false⟩, ⟨8, [7], [], none, false, false, false⟩, ⟨9, [16, 18, 20, 21, 22], [], none, false, false, false⟩, ⟨11, [3], [3], none, false, false, false⟩, ⟨12, [25], [3], some 25, false, false, false⟩, ⟨13, [26], [], none, false, false, false⟩, ⟨10, [14, 23], [], none, true, true, true⟩, ⟨14, [24, 27], [], none, false, false, false⟩, ⟨15, [28], [], none, false, false, false⟩, ⟨16, [29], [], none, false, false, false⟩]
def D76_5 : List DE := [⟨0, [8], [], none, false, false, false⟩, ⟨1, [3], [3], none, false, false, false⟩, ⟨2, [31], [3], some 31, false, false, false⟩, ⟨3, [32], [], none, false, false, false⟩, ⟨4, [3], [3], none, false, false, false⟩, ⟨5, [34], [3], some 34, false, false, false⟩, ⟨6, [33, 35], [], none, false, false, false⟩, ⟨7, [3], [3], none, false, false, false⟩, ⟨8, [37], [3], some 37, false, false, false⟩, ⟨9, [30, 36, 38], [], none, false, true, true⟩, ⟨10, [39], [], none, false, false, false⟩]
noncomputable def F_spec_hDerived (a0 : Group) (a1 : ByteArray) (a2 : Int) : Option (Int) :=
  ((wloop (σ := Int) (fun s4 =>
  if decide (s4 < 1000) = true then (
  (F_spec_hLabelled a1 [a0.P, a0.Q, a0.G, a2, s4]).bind fun z10 =>
  gd (i64.wrap (a0.P - 1) ≠ 0) <|
  gd (a0.Q ≠ 0) <|
  (F_spec_nPower (i64.wrap (1 + (z10.tmod (i64.wrap (a0.P - 1))))) (i64.wrap ((i64.wrap (a0.P - 1)).tdiv a0.Q)) a0.P).bind fun z11 =>
  if (z11 != 1) = true then (
  some (.out (.inr z11))) else (
  some (.go (i64.wrap (s4 + 1))))) else (
  some (.out (.inl ())))) 0 : Option (Unit ⊕ Int)).bind (Sum.elim (fun x3 =>
  some 0) some))
theorem c_spec_hDerived : ∀ {a0} {a1} {a2} {r}, F_spec_hDerived a0 a1 a2 = some r → PCalls Try.prog 76 [(.sh, .agg [.int .i64 a0.P, .int .i64 a0.Q, .int .i64 a0.G]), (.sh, .str a1), (.sh, .int .i64 a2)] (Eo (.int .i64 r) [.junk, .junk, .junk]) := by
  intro a0 a1 a2 r hr
  apply pF 43 [] [] [] [.tmp 6] hr cl76 Try.func76
  intro Φ hΦ hF g
  unfold F_spec_hDerived at hF
  iterate 2 (try simp [go_sem, g]; refine pw_wk ?_)
  repeat rw [sq]
  refine pJs hF (fun x3 => []) (fun x3 hF => ?_) fun _ hj1 hr2 hF => ?_
  ·cases hΦ _ (Rn_some hF)
   try simp [go_sem, g]
   refine pw_wk ?_
   try simp [go_sem, g]
  ·repeat rw [sq]
   rw [pw_block]
   obtain ⟨b13, hb14, hψ8⟩ := hF
   refine pL hb14 (fun s4 => [(1, .v (.str a1)), (2, .v (.int .i64 a2)), (3, .bl [.int .i64 a0.P, .int .i64 a0.Q, .int .i64 a0.G]), (7, .v (.int .i64 s4))]) (fun s4 _ _ ho6 hg7 hF => ?_)
   try simp [go_sem, g]
   refine pw_wk ?_
   repeat rw [sq]
   refine pI hF (fun h9 hF => ?_) (fun h9 hF => ?_)
   ·try simp [go_sem, g]
    refine pw_wk ?_
    repeat rw [sq]
    rw [pw_block]
    repeat rw [sq]
    refine pw_draw D76_4 follows (by kernel_rfl) rfl ?_
    try simp only [go_sem, D76_4]
    try simp [go_sem, g]
    refine pC hF [.sh, .sh] c_spec_hLabelled (fun z10 hF => ?_)
    obtain ⟨g, hF⟩ := Rz g hF
    try simp [go_sem, g]
    refine pw_wkK [1, 2, 3, 7, 8] (by simp [go_sem, g]; rfl) ?_
    repeat rw [sq]
    refine pw_draw D76_5 follows (by kernel_rfl) rfl ?_
    try simp only [go_sem, D76_5]
    obtain ⟨g, hF⟩ := Rz g hF
    try simp [go_sem, g]
    refine pC hF [.sh, .sh, .sh] c_spec_nPower (fun z11 hF => ?_)
    try simp [go_sem, g]
    refine pw_wkK [1, 2, 3, 7, 9] (by simp [go_sem, g]; rfl) ?_
    try simp [go_sem, g]
    refine pw_wk ?_
    repeat rw [sq]
    refine pI hF (fun h12 hF => ?_) (fun h12 hF => ?_)
    ·cases ho6 _ (Rn_some hF)
     cases hΦ _ (hr2 _ hψ8)
     try simp [go_sem, g]
     refine pw_wk ?_
     try simp [go_sem, g]
    ·try simp [go_sem, g]
     refine pw_wk ?_
     try simp [go_sem, g]
     exact pT (hg7 (i64.wrap (s4 + 1))) (Rn_some hF)
   ·try simp [go_sem, g]
    cases ho6 _ (Rn_some hF)
    exact pT (hj1 ()) hψ8
noncomputable def F_spec_DeriveElement (a0 : Group) (a1 : ByteArray) (a2 : Int) : Option (Int × Bool) :=
  (((F_spec_l2Good a0).bind fun z4 =>
  if (!z4) = true then (
  some true) else (
  if decide (40 < (a1.size : Int)) = true then (
  some true) else (
  (F_spec_l3Digest a2).bind fun z7 =>
  some (!z7))) : Option (Bool)).bind fun x3 =>
  if x3 = true then (
  some (0, false)) else (
  (F_spec_hDerived a0 a1 a2).bind fun z9 =>
  some (z9, decide (0 < z9))))
theorem c_spec_DeriveElement : ∀ {a0} {a1} {a2} {r}, F_spec_DeriveElement a0 a1 a2 = some r → PCalls Try.prog 54 [(.sh, .agg [.int .i64 a0.P, .int .i64 a0.Q, .int .i64 a0.G]), (.sh, .str a1), (.sh, .int .i64 a2)] (Eo (.tup [.int .i64 r.1, .bool r.2]) [.junk, .junk, .junk]) := by
  intro a0 a1 a2 r hr
  apply pF 29 [] [] [] [.tmp 6, .tmp 7] hr cl54 Try.func54
  intro Φ hΦ hF g
  unfold F_spec_DeriveElement at hF
  try simp [go_sem, g]
  refine pw_wk ?_
  repeat rw [sq]
  refine pJ hF (fun x3 => [(1, .v (.str a1)), (2, .v (.int .i64 a2)), (3, .bl [.int .i64 a0.P, .int .i64 a0.Q, .int .i64 a0.G]), (21, .v (.bool x3))]) (fun x3 hF => ?_) fun _ hj1 hF => ?_
  ·repeat rw [sq]
   refine pI hF (fun h8 hF => ?_) (fun h8 hF => ?_)
   ·cases hΦ _ (Rn_some hF)
    try simp [go_sem, g]
    refine pw_wk ?_
    try simp [go_sem, g]
   ·try simp [go_sem, g]
    refine pw_wk ?_
    try simp [go_sem, g]
    refine pC hF [.sh, .sh, .sh] c_spec_hDerived (fun z9 hF => ?_)
    try simp [go_sem, g]
    refine pw_wk ?_
    try simp [go_sem, g]
    refine pw_wkK [6, 7] (by simp [go_sem, g]; rfl) ?_
    cases hΦ _ (Rn_some hF)
    try simp [go_sem, g]
  ·try simp [go_sem, g]
   refine pC hF [.sh] c_spec_l2Good (fun z4 hF => ?_)
   try simp [go_sem, g]
   refine pwg_F hF (fun h5 hF => ?_) fun h5 hF => ?_
   ·try simp [go_sem, g, h5]
    exact pT (hj1 true) (Rn_some hF)
   ·try simp [go_sem, g, h5]
    refine pwg_F hF (fun h6 hF => ?_) fun h6 hF => ?_
    ·try simp [go_sem, g, h6]
     exact pT (hj1 true) (Rn_some hF)
    ·try simp [go_sem, g, h6]
     refine pC hF [.sh] c_spec_l3Digest (fun z7 hF => ?_)
     try simp [go_sem, g, h6]
     exact pT (hj1 (!z7)) (Rn_some hF)
noncomputable def F_spec_DeriveElements (a0 : Group) (a1 : ByteArray) (a2 : Int) : Option ((List Int) × Bool) :=
  (((F_spec_l2Good a0).bind fun z4 =>
  if (!z4) = true then (
  some true) else (
  if decide (40 < (a1.size : Int)) = true then (
  some true) else (
  (F_spec_l1In a2 0 100).bind fun z7 =>
  some (!z7))) : Option (Bool)).bind fun x3 =>
  if x3 = true then (
  some ([], false)) else (
  ((wloop (σ := (List Int) × Int) (fun s12 =>
  if decide (s12.2 < a2) = true then (
  (F_spec_hDerived a0 a1 s12.2).bind fun z18 =>
  if (z18 == 0) = true then (
  some (.out (.inr ([], false)))) else (
  gd ((s12.1.length + 1) * 8 ≤ 140737488355328 ∧ s12.1.length + 1 ≤ 4611686018427387904) <|
  some (.go (s12.1 ++ [z18], i64.wrap (s12.2 + 1))))) else (
  some (.out (.inl s12.1)))) ([], 0) : Option ((List Int) ⊕ ((List Int) × Bool))).bind (Sum.elim (fun x11 =>
  some (x11, true)) some))))
theorem c_spec_DeriveElements : ∀ {a0} {a1} {a2} {r}, F_spec_DeriveElements a0 a1 a2 = some r → PCalls Try.prog 55 [(.sh, .agg [.int .i64 a0.P, .int .i64 a0.Q, .int .i64 a0.G]), (.sh, .str a1), (.sh, .int .i64 a2)] (Eo (.tup [.sl true 1 (r.1.map row_i64), .bool r.2]) [.junk, .junk, .junk]) := by
  intro a0 a1 a2 r hr
  apply pF 40 [] [] [] [.tmp 6, .tmp 7] hr cl55 Try.func55
  intro Φ hΦ hF g
  unfold F_spec_DeriveElements at hF
  try simp [go_sem, g]
  refine pw_wk ?_
  repeat rw [sq]
  refine pJ hF (fun x3 => [(1, .v (.str a1)), (2, .v (.int .i64 a2)), (3, .bl [.int .i64 a0.P, .int .i64 a0.Q, .int .i64 a0.G]), (23, .v (.bool x3))]) (fun x3 hF => ?_) fun _ hj1 hF => ?_
  ·repeat rw [sq]
   refine pI hF (fun h8 hF => ?_) (fun h8 hF => ?_)
   ·cases hΦ _ (Rn_some hF)
    try simp [go_sem, g]
    refine pw_wk ?_
    try simp [go_sem, g]
   ·iterate 3 (try simp [go_sem, g]; refine pw_wk ?_)
    repeat rw [sq]
    refine pJs hF (fun x11 => [(8, .v (.sl true 1 (x11.map row_i64)))]) (fun x11 hF => ?_) fun _ hj9 hr10 hF => ?_
    ·cases hΦ _ (Rn_some hF)
     try simp [go_sem, g]
     refine pw_wk ?_
     try simp [go_sem, g]
    ·repeat rw [sq]
     rw [pw_block]
     obtain ⟨b20, hb21, hψ16⟩ := hF
     refine pL hb21 (fun s12 => [(1, .v (.str a1)), (2, .v (.int .i64 a2)), (3, .bl [.int .i64 a0.P, .int .i64 a0.Q, .int .i64 a0.G]), (8, .v (.sl true 1 (s12.1.map row_i64))), (9, .v (.int .i64 s12.2))]) (fun s12 _ _ ho14 hg15 hF => ?_)
     try simp [go_sem, g]
     refine pw_wk ?_
     repeat rw [sq]
     refine pI hF (fun h17 hF => ?_) (fun h17 hF => ?_)
     ·try simp [go_sem, g]
      refine pw_wk ?_
      repeat rw [sq]
      rw [pw_block]
      try simp [go_sem, g]
      refine pC hF [.sh, .sh, .sh] c_spec_hDerived (fun z18 hF => ?_)
      try simp [go_sem, g]
      refine pw_wkK [1, 2, 3, 8, 9, 10] (by simp [go_sem, g]; rfl) ?_
      try simp [go_sem, g]
      refine pw_wk ?_
      repeat rw [sq]
      refine pI hF (fun h19 hF => ?_) (fun h19 hF => ?_)
      ·cases ho14 _ (Rn_some hF)
       cases hΦ _ (hr10 _ hψ16)
       try simp [go_sem, g]
       refine pw_wk ?_
       try simp [go_sem, g]
      ·obtain ⟨g, hF⟩ := Rg g hF
       iterate 2 (try simp [go_sem, g]; refine pw_wk ?_)
       try simp [go_sem, g]
       exact pT (hg15 (s12.1 ++ [z18], i64.wrap (s12.2 + 1))) (Rn_some hF)
     ·try simp [go_sem, g]
      cases ho14 _ (Rn_some hF)
      exact pT (hj9 s12.1) hψ16
  ·try simp [go_sem, g]
   refine pC hF [.sh] c_spec_l2Good (fun z4 hF => ?_)
   try simp [go_sem, g]
   refine pwg_F hF (fun h5 hF => ?_) fun h5 hF => ?_
   ·try simp [go_sem, g, h5]
    exact pT (hj1 true) (Rn_some hF)
   ·try simp [go_sem, g, h5]
    refine pwg_F hF (fun h6 hF => ?_) fun h6 hF => ?_
    ·try simp [go_sem, g, h6]
     exact pT (hj1 true) (Rn_some hF)
    ·try simp [go_sem, g, h6]
     refine pC hF [.sh, .sh, .sh] c_spec_l1In (fun z7 hF => ?_)
     try simp [go_sem, g, h6]
     exact pT (hj1 (!z7)) (Rn_some hF)
noncomputable def F_spec_BasesOf (a0 : Group) (a1 : Int) : Option (Bases × Bool) :=
  (((F_spec_l2Good a0).bind fun z4 =>
  if (!z4) = true then (
  some true) else (
  (F_spec_l1In a1 0 24).bind fun z6 =>
  some (!z6)) : Option (Bool)).bind fun x3 =>
  if x3 = true then (
  some ((Bases.mk 0 []), false)) else (
  (F_spec_DeriveElement a0 (⟨#[104]⟩ : ByteArray) 0).bind fun z8 =>
  (F_spec_DeriveElements a0 (⟨#[104, 115]⟩ : ByteArray) a1).bind fun z9 =>
  ((if (!z8.2) = true then (
  some true) else (
  some (!z9.2)) : Option (Bool)).bind fun x12 =>
  if x12 = true then (
  some ((Bases.mk 0 []), false)) else (
  some ((Bases.mk z8.1 z9.1), true)))))
theorem c_spec_BasesOf : ∀ {a0} {a1} {r}, F_spec_BasesOf a0 a1 = some r → PCalls Try.prog 37 [(.sh, .agg [.int .i64 a0.P, .int .i64 a0.Q, .int .i64 a0.G]), (.sh, .int .i64 a1)] (Eo (.tup [.agg [.int .i64 r.1.H, .sl true 1 (r.1.Hs.map row_i64)], .bool r.2]) [.junk, .junk]) := by
  intro a0 a1 r hr
  apply pF 40 [] [] [] [.cell 4 70, .tmp 5] hr cl37 Try.func37
  intro Φ hΦ hF g
  unfold F_spec_BasesOf at hF
  try simp [go_sem, g]
  refine pw_wk ?_
  repeat rw [sq]
  refine pJ hF (fun x3 => [(1, .v (.int .i64 a1)), (2, .bl [.int .i64 a0.P, .int .i64 a0.Q, .int .i64 a0.G]), (4, .bl [.int .i64 0, .sl true 1 []]), (17, .v (.bool x3))]) (fun x3 hF => ?_) fun _ hj1 hF => ?_
  ·repeat rw [sq]
   refine pI hF (fun h7 hF => ?_) (fun h7 hF => ?_)
   ·cases hΦ _ (Rn_some hF)
    try simp [go_sem, g]
    refine pw_wk ?_
    try simp [go_sem, g]
   ·try simp [go_sem, g]
    refine pw_wk ?_
    try simp [go_sem, g]
    refine pC hF [.sh, .sh, .sh] c_spec_DeriveElement (fun z8 hF => ?_)
    try simp [go_sem, g]
    refine pw_wkK [1, 2, 4, 6, 7] (by simp [go_sem, g]; rfl) ?_
    try simp [go_sem, g]
    refine pC hF [.sh, .sh, .sh] c_spec_DeriveElements (fun z9 hF => ?_)
    try simp [go_sem, g]
    refine pw_wk ?_
    repeat rw [sq]
    refine pJ hF (fun x12 => [(4, .bl [.int .i64 0, .sl true 1 []]), (6, .v (.int .i64 z8.1)), (8, .v (.sl true 1 (z9.1.map row_i64))), (35, .v (.bool x12))]) (fun x12 hF => ?_) fun _ hj10 hF => ?_
    ·repeat rw [sq]
     refine pI hF (fun h14 hF => ?_) (fun h14 hF => ?_)
     ·try simp [go_sem, g]
      refine pw_wkK [4, 5] (by simp [go_sem, g]; rfl) ?_
      cases hΦ _ (Rn_some hF)
      try simp [go_sem, g]
     ·try simp [go_sem, g]
      refine pw_wk ?_
      try simp [go_sem, g]
      refine pw_wkK [4, 5] (by simp [go_sem, g]; rfl) ?_
      cases hΦ _ (Rn_some hF)
      try simp [go_sem, g]
    ·try simp [go_sem, g]
     refine pwg_F hF (fun h13 hF => ?_) fun h13 hF => ?_
     ·try simp [go_sem, g, h13]
      exact pT (hj10 true) (Rn_some hF)
     ·try simp [go_sem, g, h13]
      exact pT (hj10 (!z9.2)) (Rn_some hF)
  ·try simp [go_sem, g]
   refine pC hF [.sh] c_spec_l2Good (fun z4 hF => ?_)
   try simp [go_sem, g]
   refine pwg_F hF (fun h5 hF => ?_) fun h5 hF => ?_
   ·try simp [go_sem, g, h5]
    exact pT (hj1 true) (Rn_some hF)
   ·try simp [go_sem, g, h5]
    refine pC hF [.sh, .sh, .sh] c_spec_l1In (fun z6 hF => ?_)
    try simp [go_sem, g, h5]
    exact pT (hj1 (!z6)) (Rn_some hF)
def D18_3 : List DE := [⟨0, [1], [1], none, false, false, false⟩, ⟨1, [48], [1], some 48, false, false, false⟩, ⟨2, [49], [], none, false, true, true⟩, ⟨3, [50], [], none, false, false, false⟩, ⟨4, [1, 51], [1], none, false, false, false⟩, ⟨5, [52, 51], [1], some 52, false, false, false⟩, ⟨6, [1, 51], [1], none, false, false, false⟩, ⟨7, [54, 51], [1], some 54, false, false, false⟩, ⟨10, [1, 51], [1], none, false, false, false⟩, ⟨11, [58, 51], [1], none, false, false, false⟩, ⟨12, [59, 51], [1], some 59, false, false, false⟩, ⟨8, [55, 51], [], none, false, true, true⟩, ⟨9, [53, 56, 51], [], none, false, false, false⟩, ⟨13, [57, 60, 51], [], none, false, false, false⟩, ⟨14, [51, 61], [], none, false, false, false⟩]
noncomputable def F_spec_nPlan (a0 : Plan) : Option (Bool) :=
  (((F_spec_bGood a0.Gr a0.Ct).bind fun z4 =>
  if (!z4) = true then (
  some true) else (
  (F_spec_l1In a0.Threshold 1 a0.Trustees).bind fun z6 =>
  if (!z6) = true then (
  some true) else (
  if decide (4 < a0.Trustees) = true then (
  some true) else (
  if decide (a0.Gr.Q ≤ 7) = true then (
  some true) else (
  (F_spec_l1In a0.Mixers 0 3).bind fun z10 =>
  if (!z10) = true then (
  some true) else (
  (F_spec_l1In a0.Voters 1 12).bind fun z12 =>
  if (!z12) = true then (
  some true) else (
  (F_spec_l3Digest a0.Seed).bind fun z14 =>
  some (!z14))))))) : Option (Bool)).bind fun x3 =>
  if x3 = true then (
  some false) else (
  (((F_spec_bRows a0.Ct).bind fun z19 =>
  if z19 = true then (
  (F_spec_bTop a0.Ct).bind fun z21 =>
  some (decide (a0.Gr.Q ≤ (i64.wrap (a0.Voters * z21))))) else (
  some false) : Option (Bool)).bind fun x18 =>
  if x18 = true then (
  some false) else (
  (F_spec_BasesOf a0.Gr 12).bind fun z23 =>
  some z23.2))))
theorem c_spec_nPlan : ∀ {a0} {r}, F_spec_nPlan a0 = some r → PCalls Try.prog 18 [(.sh, .agg [.int .i64 a0.Gr.P, .int .i64 a0.Gr.Q, .int .i64 a0.Gr.G, .int .i64 a0.Ct.Kind, .int .i64 a0.Ct.Options, .int .i64 a0.Ct.Least, .int .i64 a0.Ct.Most, .int .i64 a0.Ct.Points, .int .i64 a0.Threshold, .int .i64 a0.Trustees, .int .i64 a0.Mixers, .int .i64 a0.Voters, .int .i64 a0.Seed])] (Eo (.bool r) [.junk]) := by
  intro a0 r hr
  apply pF 70 [] [] [] [.tmp 2] hr cl18 Try.func18
  intro Φ hΦ hF g
  unfold F_spec_nPlan at hF
  try simp [go_sem, g]
  refine pw_wk ?_
  repeat rw [sq]
  refine pJ hF (fun x3 => [(1, .bl [.int .i64 a0.Gr.P, .int .i64 a0.Gr.Q, .int .i64 a0.Gr.G, .int .i64 a0.Ct.Kind, .int .i64 a0.Ct.Options, .int .i64 a0.Ct.Least, .int .i64 a0.Ct.Most, .int .i64 a0.Ct.Points, .int .i64 a0.Threshold, .int .i64 a0.Trustees, .int .i64 a0.Mixers, .int .i64 a0.Voters, .int .i64 a0.Seed]), (47, .v (.bool x3))]) (fun x3 hF => ?_) fun _ hj1 hF => ?_
  ·repeat rw [sq]
   refine pI hF (fun h15 hF => ?_) (fun h15 hF => ?_)
   ·cases hΦ _ (Rn_some hF)
    try simp [go_sem, g]
    refine pw_wk ?_
    try simp [go_sem, g]
   ·try simp [go_sem, g]
    refine pw_wk ?_
    repeat rw [sq]
    refine pJ hF (fun x18 => [(1, .bl [.int .i64 a0.Gr.P, .int .i64 a0.Gr.Q, .int .i64 a0.Gr.G, .int .i64 a0.Ct.Kind, .int .i64 a0.Ct.Options, .int .i64 a0.Ct.Least, .int .i64 a0.Ct.Most, .int .i64 a0.Ct.Points, .int .i64 a0.Threshold, .int .i64 a0.Trustees, .int .i64 a0.Mixers, .int .i64 a0.Voters, .int .i64 a0.Seed]), (62, .v (.bool x18))]) (fun x18 hF => ?_) fun _ hj16 hF => ?_
    ·repeat rw [sq]
     refine pI hF (fun h22 hF => ?_) (fun h22 hF => ?_)
     ·cases hΦ _ (Rn_some hF)
      try simp [go_sem, g]
      refine pw_wk ?_
      try simp [go_sem, g]
     ·try simp [go_sem, g]
      refine pw_wk ?_
      try simp [go_sem, g]
      refine pC hF [.sh, .sh] c_spec_BasesOf (fun z23 hF => ?_)
      try simp [go_sem, g]
      refine pw_wkK [4] (by simp [go_sem, g]; rfl) ?_
      cases hΦ _ (Rn_some hF)
      try simp [go_sem, g]
      refine pw_wk ?_
      try simp [go_sem, g]
    ·repeat rw [sq]
     refine pw_draw D18_3 follows (by kernel_rfl) rfl ?_
     try simp only [go_sem, D18_3]
     try simp [go_sem, g]
     refine pC hF [.sh] c_spec_bRows (fun z19 hF => ?_)
     try simp [go_sem, g]
     refine pwgD_F hF (fun h20 hF => ?_) fun h20 hF => ?_
     ·try simp [go_sem, g, h20]
      refine pC hF [.sh] c_spec_bTop (fun z21 hF => ?_)
      try simp [go_sem, g, h20]
      exact pT (hj16 (decide (a0.Gr.Q ≤ (i64.wrap (a0.Voters * z21))))) (Rn_some hF)
     ·try simp [go_sem, g, h20]
      exact pT (hj16 false) (Rn_some hF)
  ·try simp [go_sem, g]
   refine pC hF [.sh, .sh] c_spec_bGood (fun z4 hF => ?_)
   try simp [go_sem, g]
   refine pwg_F hF (fun h5 hF => ?_) fun h5 hF => ?_
   ·try simp [go_sem, g, h5]
    exact pT (hj1 true) (Rn_some hF)
   ·try simp [go_sem, g, h5]
    refine pC hF [.sh, .sh, .sh] c_spec_l1In (fun z6 hF => ?_)
    try simp [go_sem, g, h5]
    refine pwg_F hF (fun h7 hF => ?_) fun h7 hF => ?_
    ·try simp [go_sem, g, h7]
     exact pT (hj1 true) (Rn_some hF)
    ·try simp [go_sem, g, h7]
     refine pwg_F hF (fun h8 hF => ?_) fun h8 hF => ?_
     ·try simp [go_sem, g, h8]
      exact pT (hj1 true) (Rn_some hF)
     ·try simp [go_sem, g, h8]
      refine pwg_F hF (fun h9 hF => ?_) fun h9 hF => ?_
      ·try simp [go_sem, g, h9]
       exact pT (hj1 true) (Rn_some hF)
      ·try simp [go_sem, g, h9]
       refine pC hF [.sh, .sh, .sh] c_spec_l1In (fun z10 hF => ?_)
       try simp [go_sem, g, h9]
       refine pwg_F hF (fun h11 hF => ?_) fun h11 hF => ?_
       ·try simp [go_sem, g, h11]
        exact pT (hj1 true) (Rn_some hF)
       ·try simp [go_sem, g, h11]
        refine pC hF [.sh, .sh, .sh] c_spec_l1In (fun z12 hF => ?_)
        try simp [go_sem, g, h11]
        refine pwg_F hF (fun h13 hF => ?_) fun h13 hF => ?_
        ·try simp [go_sem, g, h13]
         exact pT (hj1 true) (Rn_some hF)
        ·try simp [go_sem, g, h13]
         refine pC hF [.sh] c_spec_l3Digest (fun z14 hF => ?_)
         try simp [go_sem, g, h13]
         exact pT (hj1 (!z14)) (Rn_some hF)
noncomputable def F_spec_l1Rising (a0 : (List Int)) (a1 : Int) (a2 : Int) : Option (Bool) :=
  ((rloop (σ := Unit) (fun i5 s4 =>
  (ix a0 i5).bind fun x11 =>
  (((F_spec_l1In x11 a1 a2).bind fun z15 =>
  if (!z15) = true then (
  some true) else (
  if decide (0 < i5) = true then (
  (ix a0 (i64.wrap (i5 - 1))).bind fun x18 =>
  some (decide (x11 ≤ x18))) else (
  some false)) : Option (Bool)).bind fun x14 =>
  if x14 = true then (
  some (.out (.inr false))) else (
  some (.go ())))) (fun s4 => .inl ()) (a0.length) 0 () : Option (Unit ⊕ Bool)).bind (Sum.elim (fun x3 =>
  some true) some))
theorem c_spec_l1Rising : ∀ {a0} {a1} {a2} {r}, F_spec_l1Rising a0 a1 a2 = some r → PCalls Try.prog 56 [(.sh, .sl false 1 (a0.map row_i64)), (.sh, .int .i64 a1), (.sh, .int .i64 a2)] (Eo (.bool r) [.junk, .junk, .junk]) := by
  intro a0 a1 a2 r hr
  apply pF 35 [] [] [] [.tmp 6] hr cl56 Try.func56
  intro Φ hΦ hF g
  unfold F_spec_l1Rising at hF
  iterate 2 (try simp [go_sem, g]; try intros; refine pw_wk ?_)
  repeat rw [sq]
  refine pJs hF (fun x3 => []) (fun x3 hF => ?_) fun _ hj1 hr2 hF => ?_
  ·cases hΦ _ (Rn_some hF)
   try simp [go_sem, g]
   refine pw_wk ?_
   try simp [go_sem, g]
  ·repeat rw [sq]
   rw [pw_block]
   obtain ⟨b20, hb21, hψ8⟩ := hF
   refine pR hb21 (fun i5 s4 => [(0, .v (.sl false 1 (a0.map row_i64))), (1, .v (.int .i64 a1)), (2, .v (.int .i64 a2)), (9, .v (.sl false 1 (a0.map row_i64))), (10, .v (.int .i64 (a0.length : Int))), (11, .v (.int .i64 i5))]) (fun s4 _ hN22 => ?_) (fun i5 s4 _ _ hi9 hi10 ho6 hg7 hF => ?_)
   ·subst hN22
    try simp [go_sem]
    refine pw_wk ?_
    repeat rw [sq]
    refine pw_cond_f (by simp [go_sem]) ?_
    try simp [go_sem]
    exact pT (hj1 ()) hψ8 (by simp [go_sem])
   ·try simp [go_sem, g]
    refine pw_wk ?_
    repeat rw [sq]
    refine pw_cond_t (by simp [go_sem, g, hi9, hi10]) ?_
    try simp [go_sem, g]
    refine pw_wk ?_
    repeat rw [sq]
    rw [pw_block]
    obtain ⟨x11, g, hF⟩ := Rx g hF
    try simp [go_sem, g]
    refine pw_wkK [0, 1, 2, 7, 8, 9, 10, 11] (by simp [go_sem, g]; rfl) ?_
    repeat rw [sq]
    refine pJ hF (fun x14 => [(0, .v (.sl false 1 (a0.map row_i64))), (1, .v (.int .i64 a1)), (2, .v (.int .i64 a2)), (9, .v (.sl false 1 (a0.map row_i64))), (10, .v (.int .i64 (a0.length : Int))), (11, .v (.int .i64 i5)), (33, .v (.bool x14))]) (fun x14 hF => ?_) fun _ hj12 hF => ?_
    ·repeat rw [sq]
     refine pI hF (fun h19 hF => ?_) (fun h19 hF => ?_)
     ·cases ho6 _ (Rn_some hF)
      cases hΦ _ (hr2 _ hψ8)
      try simp [go_sem, g]
      refine pw_wk ?_
      try simp [go_sem, g]
     ·try simp [go_sem, g]
      refine pw_wk ?_
      try simp [go_sem, g]
      exact pT (hg7 ()) (Rn_some hF) (by simp [go_sem, g, wr_i hi9 hi10 (by assumption)])
    ·try simp [go_sem, g]
     refine pC hF [.sh, .sh, .sh] c_spec_l1In (fun z15 hF => ?_)
     try simp [go_sem, g]
     refine pwg_F hF (fun h16 hF => ?_) fun h16 hF => ?_
     ·try simp [go_sem, g, h16]
      exact pT (hj12 true) (Rn_some hF)
     ·try simp [go_sem, g, h16]
      refine pwg_F hF (fun h17 hF => ?_) fun h17 hF => ?_
      ·obtain ⟨x18, g, hF⟩ := Rx g hF
       try simp [go_sem, g, h17, h16]
       exact pT (hj12 (decide (x11 ≤ x18))) (Rn_some hF)
      ·try simp [go_sem, g, h17, h16]
       exact pT (hj12 false) (Rn_some hF)
noncomputable def F_spec_l1All (a0 : (List Int)) (a1 : Int) (a2 : Int) : Option (Bool) :=
  ((rloop (σ := Unit) (fun i5 s4 =>
  (ix a0 i5).bind fun x11 =>
  (F_spec_l1In x11 a1 a2).bind fun z12 =>
  if (!z12) = true then (
  some (.out (.inr false))) else (
  some (.go ()))) (fun s4 => .inl ()) (a0.length) 0 () : Option (Unit ⊕ Bool)).bind (Sum.elim (fun x3 =>
  some true) some))
theorem c_spec_l1All : ∀ {a0} {a1} {a2} {r}, F_spec_l1All a0 a1 a2 = some r → PCalls Try.prog 57 [(.sh, .sl false 1 (a0.map row_i64)), (.sh, .int .i64 a1), (.sh, .int .i64 a2)] (Eo (.bool r) [.junk, .junk, .junk]) := by
  intro a0 a1 a2 r hr
  apply pF 21 [] [] [] [.tmp 6] hr cl57 Try.func57
  intro Φ hΦ hF g
  unfold F_spec_l1All at hF
  iterate 2 (try simp [go_sem, g]; try intros; refine pw_wk ?_)
  repeat rw [sq]
  refine pJs hF (fun x3 => []) (fun x3 hF => ?_) fun _ hj1 hr2 hF => ?_
  ·cases hΦ _ (Rn_some hF)
   try simp [go_sem, g]
   refine pw_wk ?_
   try simp [go_sem, g]
  ·repeat rw [sq]
   rw [pw_block]
   obtain ⟨b14, hb15, hψ8⟩ := hF
   refine pR hb15 (fun i5 s4 => [(1, .v (.int .i64 a1)), (2, .v (.int .i64 a2)), (9, .v (.sl false 1 (a0.map row_i64))), (10, .v (.int .i64 (a0.length : Int))), (11, .v (.int .i64 i5))]) (fun s4 _ hN16 => ?_) (fun i5 s4 _ _ hi9 hi10 ho6 hg7 hF => ?_)
   ·subst hN16
    try simp [go_sem]
    refine pw_wk ?_
    repeat rw [sq]
    refine pw_cond_f (by simp [go_sem]) ?_
    try simp [go_sem]
    exact pT (hj1 ()) hψ8 (by simp [go_sem])
   ·try simp [go_sem, g]
    refine pw_wk ?_
    repeat rw [sq]
    refine pw_cond_t (by simp [go_sem, g, hi9, hi10]) ?_
    try simp [go_sem, g]
    refine pw_wk ?_
    repeat rw [sq]
    rw [pw_block]
    obtain ⟨x11, g, hF⟩ := Rx g hF
    try simp [go_sem, g]
    refine pw_wk ?_
    try simp [go_sem, g]
    refine pC hF [.sh, .sh, .sh] c_spec_l1In (fun z12 hF => ?_)
    try simp [go_sem, g]
    refine pw_wkK [1, 2, 9, 10, 11, 19] (by simp [go_sem, g]; rfl) ?_
    repeat rw [sq]
    refine pI hF (fun h13 hF => ?_) (fun h13 hF => ?_)
    ·cases ho6 _ (Rn_some hF)
     cases hΦ _ (hr2 _ hψ8)
     try simp [go_sem, g]
     refine pw_wk ?_
     try simp [go_sem, g]
    ·try simp [go_sem, g]
     refine pw_wk ?_
     try simp [go_sem, g]
     exact pT (hg7 ()) (Rn_some hF) (by simp [go_sem, g, wr_i hi9 hi10 (by assumption)])
noncomputable def F_spec_vPlain (a0 : (List Int)) : Option (Int) :=
  ((rloop (σ := Int) (fun i5 s4 =>
  (ix a0 i5).bind fun x11 =>
  some (.go (i64.wrap (s4 + x11)))) (fun s4 => s4) (a0.length) 0 0 : Option (Int)).bind fun x3 =>
  some x3)
theorem c_spec_vPlain : ∀ {a0} {r}, F_spec_vPlain a0 = some r → PCalls Try.prog 58 [(.sh, .sl false 1 (a0.map row_i64))] (Eo (.int .i64 r) [.junk]) := by
  intro a0 r hr
  apply pF 17 [] [] [] [.tmp 2] hr cl58 Try.func58
  intro Φ hΦ hF g
  unfold F_spec_vPlain at hF
  iterate 3 (try simp [go_sem, g]; try intros; refine pw_wk ?_)
  repeat rw [sq]
  refine pJ hF (fun x3 => [(3, .v (.int .i64 x3))]) (fun x3 hF => ?_) fun _ hj1 hF => ?_
  ·cases hΦ _ (Rn_some hF)
   try simp [go_sem, g]
   refine pw_wk ?_
   try simp [go_sem, g]
  ·repeat rw [sq]
   rw [pw_block]
   obtain ⟨b12, hb13, hψ8⟩ := hF
   refine pR hb13 (fun i5 s4 => [(3, .v (.int .i64 s4)), (6, .v (.sl false 1 (a0.map row_i64))), (7, .v (.int .i64 (a0.length : Int))), (8, .v (.int .i64 i5))]) (fun s4 _ hN14 => ?_) (fun i5 s4 _ _ hi9 hi10 ho6 hg7 hF => ?_)
   ·subst hN14
    try simp [go_sem]
    refine pw_wk ?_
    repeat rw [sq]
    refine pw_cond_f (by simp [go_sem]) ?_
    try simp [go_sem]
    exact pT (hj1 s4) hψ8 (by simp [go_sem])
   ·try simp [go_sem, g]
    refine pw_wk ?_
    repeat rw [sq]
    refine pw_cond_t (by simp [go_sem, g, hi9, hi10]) ?_
    try simp [go_sem, g]
    refine pw_wk ?_
    repeat rw [sq]
    rw [pw_block]
    obtain ⟨x11, g, hF⟩ := Rx g hF
    try simp [go_sem, g]
    refine pw_wk ?_
    try simp [go_sem, g]
    refine pw_wkK [3, 6, 7, 8] (by simp [go_sem, g]; rfl) ?_
    try simp [go_sem, g]
    exact pT (hg7 (i64.wrap (s4 + x11))) (Rn_some hF) (by simp [go_sem, g, wr_i hi9 hi10 (by assumption)])
noncomputable def F_spec_l1Has (a0 : (List Int)) (a1 : Int) : Option (Bool) :=
  ((rloop (σ := Unit) (fun i5 s4 =>
  (ix a0 i5).bind fun x11 =>
  if (x11 == a1) = true then (
  some (.out (.inr true))) else (
  some (.go ()))) (fun s4 => .inl ()) (a0.length) 0 () : Option (Unit ⊕ Bool)).bind (Sum.elim (fun x3 =>
  some false) some))
theorem c_spec_l1Has : ∀ {a0} {a1} {r}, F_spec_l1Has a0 a1 = some r → PCalls Try.prog 77 [(.sh, .sl false 1 (a0.map row_i64)), (.sh, .int .i64 a1)] (Eo (.bool r) [.junk, .junk]) := by
  intro a0 a1 r hr
  apply pF 17 [] [] [] [.tmp 4] hr cl77 Try.func77
  intro Φ hΦ hF g
  unfold F_spec_l1Has at hF
  iterate 2 (try simp [go_sem, g]; try intros; refine pw_wk ?_)
  repeat rw [sq]
  refine pJs hF (fun x3 => []) (fun x3 hF => ?_) fun _ hj1 hr2 hF => ?_
  ·cases hΦ _ (Rn_some hF)
   try simp [go_sem, g]
   refine pw_wk ?_
   try simp [go_sem, g]
  ·repeat rw [sq]
   rw [pw_block]
   obtain ⟨b13, hb14, hψ8⟩ := hF
   refine pR hb14 (fun i5 s4 => [(1, .v (.int .i64 a1)), (7, .v (.sl false 1 (a0.map row_i64))), (8, .v (.int .i64 (a0.length : Int))), (9, .v (.int .i64 i5))]) (fun s4 _ hN15 => ?_) (fun i5 s4 _ _ hi9 hi10 ho6 hg7 hF => ?_)
   ·subst hN15
    try simp [go_sem]
    refine pw_wk ?_
    repeat rw [sq]
    refine pw_cond_f (by simp [go_sem]) ?_
    try simp [go_sem]
    exact pT (hj1 ()) hψ8 (by simp [go_sem])
   ·try simp [go_sem, g]
    refine pw_wk ?_
    repeat rw [sq]
    refine pw_cond_t (by simp [go_sem, g, hi9, hi10]) ?_
    try simp [go_sem, g]
    refine pw_wk ?_
    repeat rw [sq]
    rw [pw_block]
    obtain ⟨x11, g, hF⟩ := Rx g hF
    try simp [go_sem, g]
    refine pw_wk ?_
    try simp [go_sem, g]
    refine pw_wkK [1, 7, 8, 9, 15] (by simp [go_sem, g]; rfl) ?_
    repeat rw [sq]
    refine pI hF (fun h12 hF => ?_) (fun h12 hF => ?_)
    ·cases ho6 _ (Rn_some hF)
     cases hΦ _ (hr2 _ hψ8)
     try simp [go_sem, g]
     refine pw_wk ?_
     try simp [go_sem, g]
    ·try simp [go_sem, g]
     refine pw_wk ?_
     try simp [go_sem, g]
     exact pT (hg7 ()) (Rn_some hF) (by simp [go_sem, g, wr_i hi9 hi10 (by assumption)])
noncomputable def F_spec_vDifferent (a0 : (List Int)) : Option (Bool) :=
  ((rloop (σ := Unit) (fun i5 s4 =>
  (ix a0 i5).bind fun x11 =>
  gd (0 ≤ i5) <|
  gd (0 ≤ i5.toNat ∧ i5.toNat ≤ a0.length) <|
  (F_spec_l1Has ((a0.take i5.toNat).drop 0) x11).bind fun z12 =>
  if z12 = true then (
  some (.out (.inr false))) else (
  some (.go ()))) (fun s4 => .inl ()) (a0.length) 0 () : Option (Unit ⊕ Bool)).bind (Sum.elim (fun x3 =>
  some true) some))
theorem c_spec_vDifferent : ∀ {a0} {r}, F_spec_vDifferent a0 = some r → PCalls Try.prog 59 [(.sh, .sl false 1 (a0.map row_i64))] (Eo (.bool r) [.junk]) := by
  intro a0 r hr
  apply pF 18 [] [] [] [.tmp 2] hr cl59 Try.func59
  intro Φ hΦ hF g
  unfold F_spec_vDifferent at hF
  iterate 2 (try simp [go_sem, g]; try intros; refine pw_wk ?_)
  repeat rw [sq]
  refine pJs hF (fun x3 => []) (fun x3 hF => ?_) fun _ hj1 hr2 hF => ?_
  ·cases hΦ _ (Rn_some hF)
   try simp [go_sem, g]
   refine pw_wk ?_
   try simp [go_sem, g]
  ·repeat rw [sq]
   rw [pw_block]
   obtain ⟨b14, hb15, hψ8⟩ := hF
   refine pR hb15 (fun i5 s4 => [(0, .v (.sl false 1 (a0.map row_i64))), (5, .v (.sl false 1 (a0.map row_i64))), (6, .v (.int .i64 (a0.length : Int))), (7, .v (.int .i64 i5))]) (fun s4 _ hN16 => ?_) (fun i5 s4 _ _ hi9 hi10 ho6 hg7 hF => ?_)
   ·subst hN16
    try simp [go_sem]
    refine pw_wk ?_
    repeat rw [sq]
    refine pw_cond_f (by simp [go_sem]) ?_
    try simp [go_sem]
    exact pT (hj1 ()) hψ8 (by simp [go_sem])
   ·try simp [go_sem, g]
    refine pw_wk ?_
    repeat rw [sq]
    refine pw_cond_t (by simp [go_sem, g, hi9, hi10]) ?_
    try simp [go_sem, g]
    refine pw_wk ?_
    repeat rw [sq]
    rw [pw_block]
    obtain ⟨x11, g, hF⟩ := Rx g hF
    try simp [go_sem, g]
    refine pw_wkK [0, 3, 4, 5, 6, 7] (by simp [go_sem, g]; rfl) ?_
    obtain ⟨g, hF⟩ := Rg g hF
    obtain ⟨g, hF⟩ := Rg g hF
    try simp [go_sem, g]
    refine pC hF [.sh, .sh] c_spec_l1Has (fun z12 hF => ?_)
    try simp [go_sem, g]
    refine pw_wk ?_
    repeat rw [sq]
    refine pI hF (fun h13 hF => ?_) (fun h13 hF => ?_)
    ·cases ho6 _ (Rn_some hF)
     cases hΦ _ (hr2 _ hψ8)
     try simp [go_sem, g]
     refine pw_wk ?_
     try simp [go_sem, g]
    ·try simp [go_sem, g]
     refine pw_wk ?_
     try simp [go_sem, g]
     exact pT (hg7 ()) (Rn_some hF) (by simp [go_sem, g, wr_i hi9 hi10 (by assumption)])
def D38_5 : List DE := [⟨0, [1], [], none, false, false, false⟩, ⟨1, [25], [], none, false, false, false⟩, ⟨2, [2], [2], none, false, false, false⟩, ⟨3, [27], [2], some 27, false, false, false⟩, ⟨4, [26, 28], [], none, false, false, false⟩, ⟨5, [29], [], none, false, false, false⟩, ⟨6, [1, 30], [], none, false, false, false⟩, ⟨7, [2, 30], [2], none, false, false, false⟩, ⟨8, [32, 30], [2], some 32, false, false, false⟩, ⟨9, [31, 33, 30], [], none, false, true, true⟩, ⟨10, [30, 34], [], none, false, false, false⟩, ⟨11, [35], [], none, false, false, false⟩, ⟨12, [1, 36], [], none, false, false, false⟩, ⟨14, [2, 36], [2], none, false, false, false⟩, ⟨15, [39, 36], [2], some 39, false, false, false⟩, ⟨16, [2, 36], [2], none, false, false, false⟩, ⟨17, [41, 36], [2], some 41, false, false, false⟩, ⟨13, [37, 36], [], none, false, true, true⟩, ⟨18, [38, 40, 42, 36], [], none, false, true, true⟩, ⟨19, [36, 43], [], none, false, false, false⟩, ⟨20, [44], [], none, false, false, false⟩]
noncomputable def F_spec_vVote (a0 : Contest) (a1 : (List Int)) : Option (Bool) :=
  if (a0.Kind == 1) = true then (
  (((F_spec_l1Rising a1 0 (i64.wrap (a0.Options - 1))).bind fun z5 =>
  if z5 = true then (
  (F_spec_l1In (a1.length : Int) a0.Least a0.Most).bind fun z7 =>
  some z7) else (
  some false) : Option (Bool)).bind fun x4 =>
  some x4)) else (
  if (a0.Kind == 2) = true then (
  ((if ((a1.length : Int) == a0.Options) = true then (
  (F_spec_l1All a1 0 a0.Points).bind fun z13 =>
  if z13 = true then (
  (F_spec_vPlain a1).bind fun z15 =>
  (F_spec_l1In z15 a0.Least a0.Most).bind fun z16 =>
  some z16) else (
  some false)) else (
  some false) : Option (Bool)).bind fun x11 =>
  some x11)) else (
  if (a0.Kind == 3) = true then (
  (((F_spec_l1All a1 0 (i64.wrap (a0.Options - 1))).bind fun z21 =>
  if z21 = true then (
  (F_spec_vDifferent a1).bind fun z23 =>
  if z23 = true then (
  (F_spec_l1In (a1.length : Int) a0.Least a0.Most).bind fun z25 =>
  some z25) else (
  some false)) else (
  some false) : Option (Bool)).bind fun x20 =>
  some x20)) else (
  (((F_spec_l1All a1 1 26).bind fun z29 =>
  if z29 = true then (
  (F_spec_l1In (a1.length : Int) a0.Least a0.Most).bind fun z31 =>
  some z31) else (
  some false) : Option (Bool)).bind fun x28 =>
  some x28))))
theorem c_spec_vVote : ∀ {a0} {a1} {r}, F_spec_vVote a0 a1 = some r → PCalls Try.prog 38 [(.sh, .agg [.int .i64 a0.Kind, .int .i64 a0.Options, .int .i64 a0.Least, .int .i64 a0.Most, .int .i64 a0.Points]), (.sh, .sl false 1 (a1.map row_i64))] (Eo (.bool r) [.junk, .junk]) := by
  intro a0 a1 r hr
  apply pF 76 [] [] [] [.tmp 4] hr cl38 Try.func38
  intro Φ hΦ hF g
  unfold F_spec_vVote at hF
  iterate 2 (try simp [go_sem, g]; refine pw_wk ?_)
  repeat rw [sq]
  rw [pw_block]
  try simp [go_sem, g]
  refine pw_wk ?_
  repeat rw [sq]
  refine pI hF (fun h1 hF => ?_) (fun h1 hF => ?_)
  ·repeat rw [sq]
   refine pJ hF (fun x4 => [(4, .v (.bool x4))]) (fun x4 hF => ?_) fun _ hj2 hF => ?_
   ·cases hΦ _ (Rn_some hF)
    try simp [go_sem, g]
   ·try simp [go_sem, g]
    refine pC hF [.sh, .sh, .sh] c_spec_l1Rising (fun z5 hF => ?_)
    try simp [go_sem, g]
    refine pwg_F hF (fun h6 hF => ?_) fun h6 hF => ?_
    ·try simp [go_sem, g, h6]
     try intros
     refine pC hF [.sh, .sh, .sh] c_spec_l1In (fun z7 hF => ?_)
     try simp [go_sem, g, h6]
     exact pT (hj2 z7) (Rn_some hF)
    ·try simp [go_sem, g, h6]
     exact pT (hj2 false) (Rn_some hF)
  ·try simp [go_sem, g]
   refine pw_wk ?_
   repeat rw [sq]
   refine pI hF (fun h8 hF => ?_) (fun h8 hF => ?_)
   ·repeat rw [sq]
    refine pJ hF (fun x11 => [(4, .v (.bool x11))]) (fun x11 hF => ?_) fun _ hj9 hF => ?_
    ·cases hΦ _ (Rn_some hF)
     try simp [go_sem, g]
    ·repeat rw [sq]
     refine pw_draw D38_5 follows (by kernel_rfl) rfl ?_
     try simp only [go_sem, D38_5]
     try simp [go_sem, g]
     try intros
     refine pwgD_F hF (fun h12 hF => ?_) fun h12 hF => ?_
     ·try simp [go_sem, g, h12]
      refine pC hF [.sh, .sh, .sh] c_spec_l1All (fun z13 hF => ?_)
      try simp [go_sem, g, h12]
      refine pwgD_F hF (fun h14 hF => ?_) fun h14 hF => ?_
      ·try simp [go_sem, g, h14]
       refine pC hF [.sh] c_spec_vPlain (fun z15 hF => ?_)
       try simp [go_sem, g, h14]
       refine pC hF [.sh, .sh, .sh] c_spec_l1In (fun z16 hF => ?_)
       try simp [go_sem, g, h14]
       exact pT (hj9 z16) (Rn_some hF)
      ·try simp [go_sem, g, h14]
       exact pT (hj9 false) (Rn_some hF)
     ·try simp [go_sem, g, h12]
      exact pT (hj9 false) (Rn_some hF)
   ·try simp [go_sem, g]
    refine pw_wkK [1, 2, 45] (by simp [go_sem, g]; rfl) ?_
    repeat rw [sq]
    refine pI hF (fun h17 hF => ?_) (fun h17 hF => ?_)
    ·repeat rw [sq]
     refine pJ hF (fun x20 => [(4, .v (.bool x20))]) (fun x20 hF => ?_) fun _ hj18 hF => ?_
     ·cases hΦ _ (Rn_some hF)
      try simp [go_sem, g]
     ·try simp [go_sem, g]
      refine pC hF [.sh, .sh, .sh] c_spec_l1All (fun z21 hF => ?_)
      try simp [go_sem, g]
      refine pwg_F hF (fun h22 hF => ?_) fun h22 hF => ?_
      ·try simp [go_sem, g, h22]
       refine pC hF [.sh] c_spec_vDifferent (fun z23 hF => ?_)
       try simp [go_sem, g, h22]
       refine pwg_F hF (fun h24 hF => ?_) fun h24 hF => ?_
       ·try simp [go_sem, g, h24]
        try intros
        refine pC hF [.sh, .sh, .sh] c_spec_l1In (fun z25 hF => ?_)
        try simp [go_sem, g, h24]
        exact pT (hj18 z25) (Rn_some hF)
       ·try simp [go_sem, g, h24]
        exact pT (hj18 false) (Rn_some hF)
      ·try simp [go_sem, g, h22]
       exact pT (hj18 false) (Rn_some hF)
    ·try simp [go_sem, g]
     refine pw_wk ?_
     repeat rw [sq]
     refine pJ hF (fun x28 => [(4, .v (.bool x28))]) (fun x28 hF => ?_) fun _ hj26 hF => ?_
     ·cases hΦ _ (Rn_some hF)
      try simp [go_sem, g]
     ·try simp [go_sem, g]
      refine pC hF [.sh, .sh, .sh] c_spec_l1All (fun z29 hF => ?_)
      try simp [go_sem, g]
      refine pwg_F hF (fun h30 hF => ?_) fun h30 hF => ?_
      ·try simp [go_sem, g, h30]
       try intros
       refine pC hF [.sh, .sh, .sh] c_spec_l1In (fun z31 hF => ?_)
       try simp [go_sem, g, h30]
       exact pT (hj26 z31) (Rn_some hF)
      ·try simp [go_sem, g, h30]
       exact pT (hj26 false) (Rn_some hF)
noncomputable def F_spec_nCastings (a0 : Plan) (a1 : (List Casting)) : Option (Bool) :=
  ((rloop (σ := Unit) (fun i5 s4 =>
  (ix a1 i5).bind fun x11 =>
  (((F_spec_l1In x11.Voter 0 (i64.wrap (a0.Voters - 1))).bind fun z15 =>
  if (!z15) = true then (
  some true) else (
  (F_spec_vVote a0.Ct x11.Vote).bind fun z17 =>
  some (!z17)) : Option (Bool)).bind fun x14 =>
  if x14 = true then (
  some (.out (.inr false))) else (
  some (.go ())))) (fun s4 => .inl ()) (a1.length) 0 () : Option (Unit ⊕ Bool)).bind (Sum.elim (fun x3 =>
  some (decide ((a1.length : Int) ≤ 16))) some))
theorem c_spec_nCastings : ∀ {a0} {a1} {r}, F_spec_nCastings a0 a1 = some r → PCalls Try.prog 19 [(.sh, .agg [.int .i64 a0.Gr.P, .int .i64 a0.Gr.Q, .int .i64 a0.Gr.G, .int .i64 a0.Ct.Kind, .int .i64 a0.Ct.Options, .int .i64 a0.Ct.Least, .int .i64 a0.Ct.Most, .int .i64 a0.Ct.Points, .int .i64 a0.Threshold, .int .i64 a0.Trustees, .int .i64 a0.Mixers, .int .i64 a0.Voters, .int .i64 a0.Seed]), (.sh, .sl false 2 (a1.map row_Casting_z))] (Eo (.bool r) [.junk, .junk]) := by
  intro a0 a1 r hr
  apply pF 32 [] [] [] [.tmp 4] hr cl19 Try.func19
  intro Φ hΦ hF g
  unfold F_spec_nCastings at hF
  iterate 2 (try simp [go_sem, g]; try intros; refine pw_wk ?_)
  repeat rw [sq]
  refine pJs hF (fun x3 => [(1, .v (.sl false 2 (a1.map row_Casting_z)))]) (fun x3 hF => ?_) fun _ hj1 hr2 hF => ?_
  ·cases hΦ _ (Rn_some hF)
   try simp [go_sem, g]
   try intros
   refine pw_wk ?_
   try simp [go_sem, g]
   try intros
  ·repeat rw [sq]
   rw [pw_block]
   obtain ⟨b19, hb20, hψ8⟩ := hF
   refine pR hb20 (fun i5 s4 => [(1, .v (.sl false 2 (a1.map row_Casting_z))), (2, .bl [.int .i64 a0.Gr.P, .int .i64 a0.Gr.Q, .int .i64 a0.Gr.G, .int .i64 a0.Ct.Kind, .int .i64 a0.Ct.Options, .int .i64 a0.Ct.Least, .int .i64 a0.Ct.Most, .int .i64 a0.Ct.Points, .int .i64 a0.Threshold, .int .i64 a0.Trustees, .int .i64 a0.Mixers, .int .i64 a0.Voters, .int .i64 a0.Seed]), (7, .v (.sl false 2 (a1.map row_Casting_z))), (8, .v (.int .i64 (a1.length : Int))), (9, .v (.int .i64 i5))]) (fun s4 _ hN21 => ?_) (fun i5 s4 _ _ hi9 hi10 ho6 hg7 hF => ?_)
   ·subst hN21
    try simp [go_sem]
    refine pw_wk ?_
    repeat rw [sq]
    refine pw_cond_f (by simp [go_sem]) ?_
    try simp [go_sem]
    exact pT (hj1 ()) hψ8 (by simp [go_sem])
   ·try simp [go_sem, g]
    refine pw_wk ?_
    repeat rw [sq]
    refine pw_cond_t (by simp [go_sem, g, hi9, hi10]) ?_
    try simp [go_sem, g]
    refine pw_wk ?_
    repeat rw [sq]
    rw [pw_block]
    obtain ⟨x11, g, hF⟩ := Rx g hF
    try simp [go_sem, g]
    refine pw_wkK [1, 2, 6, 7, 8, 9] (by simp [go_sem, g]; rfl) ?_
    repeat rw [sq]
    refine pJ hF (fun x14 => [(1, .v (.sl false 2 (a1.map row_Casting_z))), (2, .bl [.int .i64 a0.Gr.P, .int .i64 a0.Gr.Q, .int .i64 a0.Gr.G, .int .i64 a0.Ct.Kind, .int .i64 a0.Ct.Options, .int .i64 a0.Ct.Least, .int .i64 a0.Ct.Most, .int .i64 a0.Ct.Points, .int .i64 a0.Threshold, .int .i64 a0.Trustees, .int .i64 a0.Mixers, .int .i64 a0.Voters, .int .i64 a0.Seed]), (7, .v (.sl false 2 (a1.map row_Casting_z))), (8, .v (.int .i64 (a1.length : Int))), (9, .v (.int .i64 i5)), (27, .v (.bool x14))]) (fun x14 hF => ?_) fun _ hj12 hF => ?_
    ·repeat rw [sq]
     refine pI hF (fun h18 hF => ?_) (fun h18 hF => ?_)
     ·cases ho6 _ (Rn_some hF)
      cases hΦ _ (hr2 _ hψ8)
      try simp [go_sem, g]
      refine pw_wk ?_
      try simp [go_sem, g]
     ·try simp [go_sem, g]
      refine pw_wk ?_
      try simp [go_sem, g]
      exact pT (hg7 ()) (Rn_some hF) (by simp [go_sem, g, wr_i hi9 hi10 (by assumption)])
    ·try simp [go_sem, g]
     refine pC hF [.sh, .sh, .sh] c_spec_l1In (fun z15 hF => ?_)
     try simp [go_sem, g]
     refine pwg_F hF (fun h16 hF => ?_) fun h16 hF => ?_
     ·try simp [go_sem, g, h16]
      exact pT (hj12 true) (Rn_some hF)
     ·try simp [go_sem, g, h16]
      refine pC hF [.sh, .sh] c_spec_vVote (fun z17 hF => ?_)
      try simp [go_sem, g, h16]
      exact pT (hj12 (!z17)) (Rn_some hF)
noncomputable def F_spec_l1Own (a0 : (List Int)) : Option ((List Int)) :=
  gd (a0.length * 8 ≤ 140737488355328 ∧ a0.length ≤ 4611686018427387904) <|
  some a0
theorem c_spec_l1Own : ∀ {a0} {r}, F_spec_l1Own a0 = some r → PCalls Try.prog 20 [(.sh, .sl false 1 (a0.map row_i64))] (Eo (.sl true 1 (r.map row_i64)) [.junk]) := by
  intro a0 r hr
  apply pF 6 [] [] [] [.tmp 2] hr cl20 Try.func20
  intro Φ hΦ hF g
  unfold F_spec_l1Own at hF
  obtain ⟨g, hF⟩ := Rg g hF
  cases hΦ _ (Rn_some hF)
  iterate 2 (try simp [go_sem, g]; refine pw_wk ?_)
  try simp [go_sem, g]
noncomputable def F_spec_vExps (a0 : Contest) (a1 : (List Int)) : Option ((List Int)) :=
  if (a0.Kind == 1) = true then (
  (F_spec_vMarks a0 a1).bind fun z2 =>
  some z2) else (
  if (a0.Kind == 2) = true then (
  (F_spec_l1Own a1).bind fun z4 =>
  some z4) else (
  (F_spec_vCode a0 a1).bind fun z5 =>
  some [z5]))
theorem c_spec_vExps : ∀ {a0} {a1} {r}, F_spec_vExps a0 a1 = some r → PCalls Try.prog 39 [(.sh, .agg [.int .i64 a0.Kind, .int .i64 a0.Options, .int .i64 a0.Least, .int .i64 a0.Most, .int .i64 a0.Points]), (.sh, .sl false 1 (a1.map row_i64))] (Eo (.sl true 1 (r.map row_i64)) [.junk, .junk]) := by
  intro a0 a1 r hr
  apply pF 20 [] [] [] [.tmp 4] hr cl39 Try.func39
  intro Φ hΦ hF g
  unfold F_spec_vExps at hF
  iterate 2 (try simp [go_sem, g]; refine pw_wk ?_)
  repeat rw [sq]
  rw [pw_block]
  try simp [go_sem, g]
  refine pw_wk ?_
  repeat rw [sq]
  refine pI hF (fun h1 hF => ?_) (fun h1 hF => ?_)
  ·try simp [go_sem, g]
   refine pC hF [.sh, .sh] c_spec_vMarks (fun z2 hF => ?_)
   try simp [go_sem, g]
   refine pw_wkK [4] (by simp [go_sem, g]; rfl) ?_
   cases hΦ _ (Rn_some hF)
   try simp [go_sem, g]
  ·try simp [go_sem, g]
   refine pw_wk ?_
   repeat rw [sq]
   refine pI hF (fun h3 hF => ?_) (fun h3 hF => ?_)
   ·try simp [go_sem, g]
    refine pC hF [.sh] c_spec_l1Own (fun z4 hF => ?_)
    try simp [go_sem, g]
    refine pw_wkK [4] (by simp [go_sem, g]; rfl) ?_
    cases hΦ _ (Rn_some hF)
    try simp [go_sem, g]
   ·try simp [go_sem, g]
    refine pw_wk ?_
    try simp [go_sem, g]
    refine pC hF [.sh, .sh] c_spec_vCode (fun z5 hF => ?_)
    try simp [go_sem, g]
    refine pw_wkK [4] (by simp [go_sem, g]; rfl) ?_
    cases hΦ _ (Rn_some hF)
    try simp [go_sem, g]
noncomputable def F_spec_tTally (a0 : Contest) (a1 : (List (List Int))) : Option ((List Int)) :=
  gd (0 ≤ a0.Options ∧ a0.Options ≤ a0.Options ∧ 8 * a0.Options ≤ 140737488355328 ∧ a0.Options ≤ 4611686018427387904) <|
  (some (List.replicate a0.Options.toNat 0)).bind fun x1 =>
  ((rloop (σ := (List Int)) (fun i42 s41 =>
  (((ix a1 i42).bind fun x51 =>
  (F_spec_vExps a0 x51).bind fun z52 =>
  rloop (σ := (List Int)) (fun i63 s62 =>
  (ix z52 i63).bind fun x69 =>
  (ix s62 i63).bind fun x70 =>
  some (.go (s62.set i63.toNat (i64.wrap (x70 + x69))))) (fun s62 => s62) (z52.length) 0 s41 : Option ((List Int))).bind fun x50 =>
  some (.go x50))) (fun s41 => s41) (a1.length) 0 x1 : Option ((List Int))).bind fun x6 =>
  some x6)
theorem c_spec_tTally : ∀ {a0} {a1} {r}, F_spec_tTally a0 a1 = some r → PCalls Try.prog 22 [(.sh, .agg [.int .i64 a0.Kind, .int .i64 a0.Options, .int .i64 a0.Least, .int .i64 a0.Most, .int .i64 a0.Points]), (.sh, .sl false 1 (a1.map row_zi64))] (Eo (.sl true 1 (r.map row_i64)) [.junk, .junk]) := by
  intro a0 a1 r hr
  apply pF 38 [] [] [] [.tmp 4] hr cl22 Try.func22
  intro Φ hΦ hF g
  unfold F_spec_tTally at hF
  obtain ⟨g, hF⟩ := Rg g hF
  obtain ⟨x1, e2, hF⟩ := Rn_bind hF
  have g3 : List.replicate a0.Options.toNat ([.int .i64 0] : List PV) = x1.map row_i64 := by injection e2 with e2; rw [← e2]; simp [go_sem]
  iterate 3 (try simp [go_sem, g, g3]; try intros; refine pw_wk ?_)
  repeat rw [sq]
  refine pJ hF (fun x6 => [(5, .v (.sl true 1 (x6.map row_i64)))]) (fun x6 hF => ?_) fun _ hj4 hF => ?_
  ·try simp [go_sem, g]
   refine pw_wkK [4] (by simp [go_sem, g]; rfl) ?_
   cases hΦ _ (Rn_some hF)
   try simp [go_sem, g]
  ·repeat rw [sq]
   rw [pw_block]
   obtain ⟨b75, hb76, hψ45⟩ := hF
   refine pR hb76 (fun i42 s41 => [(2, .bl [.int .i64 a0.Kind, .int .i64 a0.Options, .int .i64 a0.Least, .int .i64 a0.Most, .int .i64 a0.Points]), (5, .v (.sl true 1 (s41.map row_i64))), (13, .v (.sl false 1 (a1.map row_zi64))), (14, .v (.int .i64 (a1.length : Int))), (15, .v (.int .i64 i42))]) (fun s41 _ hN77 => ?_) (fun i42 s41 _ _ hi46 hi47 ho43 hg44 hF => ?_)
   ·subst hN77
    try simp [go_sem]
    refine pw_wk ?_
    repeat rw [sq]
    refine pw_cond_f (by simp [go_sem]) ?_
    try simp [go_sem]
    exact pT (hj4 s41) hψ45 (by simp [go_sem])
   ·try simp [go_sem, g]
    refine pw_wkK [2, 5, 13, 14, 15, 16] (by simp [go_sem, g]; rfl) ?_
    repeat rw [sq]
    refine pw_cond_t (by simp [go_sem, g, hi46, hi47]) ?_
    try simp [go_sem, g]
    refine pw_wk ?_
    repeat rw [sq]
    refine pJ hF (fun x50 => [(2, .bl [.int .i64 a0.Kind, .int .i64 a0.Options, .int .i64 a0.Least, .int .i64 a0.Most, .int .i64 a0.Points]), (5, .v (.sl true 1 (x50.map row_i64))), (13, .v (.sl false 1 (a1.map row_zi64))), (14, .v (.int .i64 (a1.length : Int))), (15, .v (.int .i64 i42))]) (fun x50 hF => ?_) fun _ hj48 hF => ?_
    ·try simp [go_sem, g]
     exact pT (hg44 x50) (Rn_some hF) (by simp [go_sem, g, wr_i hi46 hi47 (by assumption)])
    ·repeat rw [sq]
     rw [pw_block]
     obtain ⟨x51, g, hF⟩ := Rx g hF
     try simp [go_sem, g]
     refine pw_wk ?_
     try simp [go_sem, g]
     refine pC hF [.sh, .sh] c_spec_vExps (fun z52 hF => ?_)
     try simp [go_sem, g]
     try intros
     refine pw_wk ?_
     repeat rw [sq]
     rw [pw_block]
     obtain ⟨b71, hb72, hψ66⟩ := hF
     refine pR hb72 (fun i63 s62 => [(2, .bl [.int .i64 a0.Kind, .int .i64 a0.Options, .int .i64 a0.Least, .int .i64 a0.Most, .int .i64 a0.Points]), (5, .v (.sl true 1 (s62.map row_i64))), (13, .v (.sl false 1 (a1.map row_zi64))), (14, .v (.int .i64 (a1.length : Int))), (15, .v (.int .i64 i42)), (21, .v (.sl true 1 (z52.map row_i64))), (22, .v (.int .i64 (z52.length : Int))), (23, .v (.int .i64 i63))]) (fun s62 _ hN73 => ?_) (fun i63 s62 _ _ hi67 hi68 ho64 hg65 hF => ?_)
     ·subst hN73
      try simp [go_sem]
      refine pw_wk ?_
      repeat rw [sq]
      refine pw_cond_f (by simp [go_sem]) ?_
      try simp [go_sem]
      exact pT (hj48 s62) hψ66 (by simp [go_sem])
     ·try simp [go_sem, g]
      refine pw_wk ?_
      repeat rw [sq]
      refine pw_cond_t (by simp [go_sem, g, hi67, hi68]) ?_
      try simp [go_sem, g]
      refine pw_wk ?_
      repeat rw [sq]
      rw [pw_block]
      obtain ⟨x69, g, hF⟩ := Rx g hF
      try simp [go_sem, g]
      refine pw_wkK [2, 5, 8, 9, 13, 14, 15, 21, 22, 23] (by simp [go_sem, g]; rfl) ?_
      obtain ⟨x70, g, hF⟩ := Rx g hF
      try simp [go_sem, g]
      refine pw_wk ?_
      try simp [go_sem, g]
      exact pT (hg65 (s62.set i63.toNat (i64.wrap (x70 + x69)))) (Rn_some hF) (by simp [go_sem, g, wr_i hi67 hi68 (by assumption)])
noncomputable def F_spec_PlainResult (a0 : Plan) (a1 : (List Casting)) : Option ((List (List Int)) × (List Int) × Bool) :=
  (((F_spec_nPlan a0).bind fun z4 =>
  if (!z4) = true then (
  some true) else (
  (F_spec_nCastings a0 a1).bind fun z6 =>
  some (!z6)) : Option (Bool)).bind fun x3 =>
  if x3 = true then (
  some ([], [], false)) else (
  ((wloop (σ := (List (List Int)) × Int) (fun s42 =>
  if decide (s42.2 < a0.Voters) = true then (
  ((((rloop (σ := Int) (fun i55 s54 =>
  (((ix a1 i55).bind fun x64 =>
  if (x64.Voter == s42.2) = true then (
  some i55) else (
  some s54) : Option (Int)).bind fun x63 =>
  some (.go x63))) (fun s54 => s54) (a1.length) 0 (-1) : Option (Int)).bind fun x53 =>
  if decide (0 ≤ x53) = true then (
  (ix a1 x53).bind fun x71 =>
  (F_spec_l1Own x71.Vote).bind fun z72 =>
  gd ((s42.1.length + 1) * 24 ≤ 140737488355328 ∧ s42.1.length + 1 ≤ 4611686018427387904) <|
  some (s42.1 ++ [z72])) else (
  some s42.1)) : Option ((List (List Int)))).bind fun x50 =>
  some (.go (x50, i64.wrap (s42.2 + 1))))) else (
  some (.out s42.1))) ([], 0) : Option ((List (List Int)))).bind fun x10 =>
  (F_spec_bRows a0.Ct).bind fun z75 =>
  if (!z75) = true then (
  some (x10, [], true)) else (
  (F_spec_tTally a0.Ct x10).bind fun z77 =>
  some (x10, z77, true)))))
theorem c_spec_PlainResult : ∀ {a0} {a1} {r}, F_spec_PlainResult a0 a1 = some r → PCalls Try.prog 5 [(.sh, .agg [.int .i64 a0.Gr.P, .int .i64 a0.Gr.Q, .int .i64 a0.Gr.G, .int .i64 a0.Ct.Kind, .int .i64 a0.Ct.Options, .int .i64 a0.Ct.Least, .int .i64 a0.Ct.Most, .int .i64 a0.Ct.Points, .int .i64 a0.Threshold, .int .i64 a0.Trustees, .int .i64 a0.Mixers, .int .i64 a0.Voters, .int .i64 a0.Seed]), (.sh, .sl false 2 (a1.map row_Casting_z))] (Eo (.tup [.sl true 1 (r.1.map row_oi64), .sl true 1 (r.2.1.map row_i64), .bool r.2.2]) [.junk, .junk]) := by
  intro a0 a1 r hr
  apply pF 61 [] [] [] [.tmp 4, .tmp 5, .tmp 6] hr cl5 Try.func5
  intro Φ hΦ hF g
  unfold F_spec_PlainResult at hF
  try simp [go_sem, g]
  refine pw_wk ?_
  repeat rw [sq]
  refine pJ hF (fun x3 => [(1, .v (.sl false 2 (a1.map row_Casting_z))), (2, .bl [.int .i64 a0.Gr.P, .int .i64 a0.Gr.Q, .int .i64 a0.Gr.G, .int .i64 a0.Ct.Kind, .int .i64 a0.Ct.Options, .int .i64 a0.Ct.Least, .int .i64 a0.Ct.Most, .int .i64 a0.Ct.Points, .int .i64 a0.Threshold, .int .i64 a0.Trustees, .int .i64 a0.Mixers, .int .i64 a0.Voters, .int .i64 a0.Seed]), (20, .v (.bool x3))]) (fun x3 hF => ?_) fun _ hj1 hF => ?_
  ·repeat rw [sq]
   refine pI hF (fun h7 hF => ?_) (fun h7 hF => ?_)
   ·cases hΦ _ (Rn_some hF)
    try simp [go_sem, g]
    refine pw_wk ?_
    try simp [go_sem, g]
   ·iterate 3 (try simp [go_sem, g]; refine pw_wk ?_)
    repeat rw [sq]
    refine pJ hF (fun x10 => [(2, .bl [.int .i64 a0.Gr.P, .int .i64 a0.Gr.Q, .int .i64 a0.Gr.G, .int .i64 a0.Ct.Kind, .int .i64 a0.Ct.Options, .int .i64 a0.Ct.Least, .int .i64 a0.Ct.Most, .int .i64 a0.Ct.Points, .int .i64 a0.Threshold, .int .i64 a0.Trustees, .int .i64 a0.Mixers, .int .i64 a0.Voters, .int .i64 a0.Seed]), (7, .v (.sl true 1 (x10.map row_oi64)))]) (fun x10 hF => ?_) fun _ hj8 hF => ?_
    ·try simp [go_sem, g]
     refine pC hF [.sh] c_spec_bRows (fun z75 hF => ?_)
     try simp [go_sem, g]
     refine pw_wkK [2, 7, 54] (by simp [go_sem, g]; rfl) ?_
     repeat rw [sq]
     refine pI hF (fun h76 hF => ?_) (fun h76 hF => ?_)
     ·cases hΦ _ (Rn_some hF)
      try simp [go_sem, g]
      refine pw_wk ?_
      try simp [go_sem, g]
     ·try simp [go_sem, g]
      refine pw_wk ?_
      try simp [go_sem, g]
      refine pC hF [.sh, .sh] c_spec_tTally (fun z77 hF => ?_)
      cases hΦ _ (Rn_some hF)
      try simp [go_sem, g]
      refine pw_wk ?_
      try simp [go_sem, g]
    ·repeat rw [sq]
     rw [pw_block]
     obtain ⟨b73, hb74, hψ46⟩ := hF
     refine pL hb74 (fun s42 => [(1, .v (.sl false 2 (a1.map row_Casting_z))), (2, .bl [.int .i64 a0.Gr.P, .int .i64 a0.Gr.Q, .int .i64 a0.Gr.G, .int .i64 a0.Ct.Kind, .int .i64 a0.Ct.Options, .int .i64 a0.Ct.Least, .int .i64 a0.Ct.Most, .int .i64 a0.Ct.Points, .int .i64 a0.Threshold, .int .i64 a0.Trustees, .int .i64 a0.Mixers, .int .i64 a0.Voters, .int .i64 a0.Seed]), (7, .v (.sl true 1 (s42.1.map row_oi64))), (8, .v (.int .i64 s42.2))]) (fun s42 _ _ ho44 hg45 hF => ?_)
     try simp [go_sem, g]
     refine pw_wkK [1, 2, 7, 8, 24] (by simp [go_sem, g]; rfl) ?_
     repeat rw [sq]
     refine pI hF (fun h47 hF => ?_) (fun h47 hF => ?_)
     ·try simp [go_sem, g]
      refine pw_wk ?_
      repeat rw [sq]
      refine pJ hF (fun x50 => [(1, .v (.sl false 2 (a1.map row_Casting_z))), (2, .bl [.int .i64 a0.Gr.P, .int .i64 a0.Gr.Q, .int .i64 a0.Gr.G, .int .i64 a0.Ct.Kind, .int .i64 a0.Ct.Options, .int .i64 a0.Ct.Least, .int .i64 a0.Ct.Most, .int .i64 a0.Ct.Points, .int .i64 a0.Threshold, .int .i64 a0.Trustees, .int .i64 a0.Mixers, .int .i64 a0.Voters, .int .i64 a0.Seed]), (7, .v (.sl true 1 (x50.map row_oi64))), (8, .v (.int .i64 s42.2))]) (fun x50 hF => ?_) fun _ hj48 hF => ?_
      ·try simp [go_sem, g]
       exact pT (hg45 (x50, i64.wrap (s42.2 + 1))) (Rn_some hF)
      ·repeat rw [sq]
       rw [pw_block]
       iterate 2 (try simp [go_sem, g]; try intros; refine pw_wk ?_)
       repeat rw [sq]
       refine pJ hF (fun x53 => [(1, .v (.sl false 2 (a1.map row_Casting_z))), (2, .bl [.int .i64 a0.Gr.P, .int .i64 a0.Gr.Q, .int .i64 a0.Gr.G, .int .i64 a0.Ct.Kind, .int .i64 a0.Ct.Options, .int .i64 a0.Ct.Least, .int .i64 a0.Ct.Most, .int .i64 a0.Ct.Points, .int .i64 a0.Threshold, .int .i64 a0.Trustees, .int .i64 a0.Mixers, .int .i64 a0.Voters, .int .i64 a0.Seed]), (7, .v (.sl true 1 (s42.1.map row_oi64))), (8, .v (.int .i64 s42.2)), (9, .v (.int .i64 x53))]) (fun x53 hF => ?_) fun _ hj51 hF => ?_
       ·try simp [go_sem, g]
        refine pw_wk ?_
        repeat rw [sq]
        refine pI hF (fun h70 hF => ?_) (fun h70 hF => ?_)
        ·obtain ⟨x71, g, hF⟩ := Rx g hF
         try simp [go_sem, g]
         refine pC hF [.sh] c_spec_l1Own (fun z72 hF => ?_)
         obtain ⟨g, hF⟩ := Rg g hF
         try simp [go_sem, g]
         exact pT (hj48 (s42.1 ++ [z72])) (Rn_some hF)
        ·try simp [go_sem, g]
         exact pT (hj48 s42.1) (Rn_some hF)
       ·repeat rw [sq]
        rw [pw_block]
        obtain ⟨b66, hb67, hψ58⟩ := hF
        refine pR hb67 (fun i55 s54 => [(1, .v (.sl false 2 (a1.map row_Casting_z))), (2, .bl [.int .i64 a0.Gr.P, .int .i64 a0.Gr.Q, .int .i64 a0.Gr.G, .int .i64 a0.Ct.Kind, .int .i64 a0.Ct.Options, .int .i64 a0.Ct.Least, .int .i64 a0.Ct.Most, .int .i64 a0.Ct.Points, .int .i64 a0.Threshold, .int .i64 a0.Trustees, .int .i64 a0.Mixers, .int .i64 a0.Voters, .int .i64 a0.Seed]), (7, .v (.sl true 1 (s42.1.map row_oi64))), (8, .v (.int .i64 s42.2)), (9, .v (.int .i64 s54)), (27, .v (.sl false 2 (a1.map row_Casting_z))), (28, .v (.int .i64 (a1.length : Int))), (29, .v (.int .i64 i55))]) (fun s54 _ hN68 => ?_) (fun i55 s54 _ _ hi59 hi60 ho56 hg57 hF => ?_)
        ·subst hN68
         try simp [go_sem]
         refine pw_wk ?_
         repeat rw [sq]
         refine pw_cond_f (by simp [go_sem]) ?_
         try simp [go_sem]
         exact pT (hj51 s54) hψ58 (by simp [go_sem])
        ·try simp [go_sem, g]
         refine pw_wk ?_
         repeat rw [sq]
         refine pw_cond_t (by simp [go_sem, g, hi59, hi60]) ?_
         try simp [go_sem, g]
         refine pw_wk ?_
         repeat rw [sq]
         refine pJ hF (fun x63 => [(1, .v (.sl false 2 (a1.map row_Casting_z))), (2, .bl [.int .i64 a0.Gr.P, .int .i64 a0.Gr.Q, .int .i64 a0.Gr.G, .int .i64 a0.Ct.Kind, .int .i64 a0.Ct.Options, .int .i64 a0.Ct.Least, .int .i64 a0.Ct.Most, .int .i64 a0.Ct.Points, .int .i64 a0.Threshold, .int .i64 a0.Trustees, .int .i64 a0.Mixers, .int .i64 a0.Voters, .int .i64 a0.Seed]), (7, .v (.sl true 1 (s42.1.map row_oi64))), (8, .v (.int .i64 s42.2)), (9, .v (.int .i64 x63)), (27, .v (.sl false 2 (a1.map row_Casting_z))), (28, .v (.int .i64 (a1.length : Int))), (29, .v (.int .i64 i55))]) (fun x63 hF => ?_) fun _ hj61 hF => ?_
         ·try simp [go_sem, g]
          exact pT (hg57 x63) (Rn_some hF) (by simp [go_sem, g, wr_i hi59 hi60 (by assumption)])
         ·repeat rw [sq]
          rw [pw_block]
          obtain ⟨x64, g, hF⟩ := Rx g hF
          try simp [go_sem, g]
          refine pw_wkK [1, 2, 7, 8, 9, 10, 11, 27, 28, 29] (by simp [go_sem, g]; rfl) ?_
          try simp [go_sem, g]
          refine pw_wk ?_
          repeat rw [sq]
          refine pI hF (fun h65 hF => ?_) (fun h65 hF => ?_)
          ·try simp [go_sem, g]
           exact pT (hj61 i55) (Rn_some hF)
          ·try simp [go_sem, g]
           first | exact pT (hj61 s54) (Rn_some hF) | exact pT (hj61 _) (Rn_some hF)
     ·try simp [go_sem, g]
      cases ho44 _ (Rn_some hF)
      exact pT (hj8 s42.1) hψ46
  ·try simp [go_sem, g]
   refine pC hF [.sh] c_spec_nPlan (fun z4 hF => ?_)
   try simp [go_sem, g]
   refine pwg_F hF (fun h5 hF => ?_) fun h5 hF => ?_
   ·try simp [go_sem, g, h5]
    exact pT (hj1 true) (Rn_some hF)
   ·try simp [go_sem, g, h5]
    refine pC hF [.sh, .sh] c_spec_nCastings (fun z6 hF => ?_)
    try simp [go_sem, g, h5]
    exact pT (hj1 (!z6)) (Rn_some hF)
noncomputable def F_impl_within (a0 : Int) (a1 : Int) (a2 : Int) : Option (Bool) :=
  ((if decide (a1 ≤ a0) = true then (
  some (decide (a0 ≤ a2))) else (
  some false) : Option (Bool)).bind fun x3 =>
  some x3)
theorem c_impl_within : ∀ {a0} {a1} {a2} {r}, F_impl_within a0 a1 a2 = some r → PCalls Try.prog 42 [(.sh, .int .i64 a0), (.sh, .int .i64 a1), (.sh, .int .i64 a2)] (Eo (.bool r) [.junk, .junk, .junk]) := by
  intro a0 a1 a2 r hr
  apply pF 15 [] [] [] [.tmp 6] hr cl42 Try.func42
  intro Φ hΦ hF g
  unfold F_impl_within at hF
  try simp [go_sem, g]
  refine pw_wk ?_
  repeat rw [sq]
  refine pJ hF (fun x3 => [(6, .v (.bool x3))]) (fun x3 hF => ?_) fun _ hj1 hF => ?_
  ·cases hΦ _ (Rn_some hF)
   try simp [go_sem, g]
  ·try simp [go_sem, g]
   refine pwg_F hF (fun h4 hF => ?_) fun h4 hF => ?_
   ·try simp [go_sem, g, h4]
    exact pT (hj1 (decide (a0 ≤ a2))) (Rn_some hF)
   ·try simp [go_sem, g, h4]
    exact pT (hj1 false) (Rn_some hF)
noncomputable def F_impl_isModulus (a0 : Int) : Option (Bool) :=
  (F_impl_within a0 2 2000000000).bind fun z1 =>
  some z1
theorem c_impl_isModulus : ∀ {a0} {r}, F_impl_isModulus a0 = some r → PCalls Try.prog 90 [(.sh, .int .i64 a0)] (Eo (.bool r) [.junk]) := by
  intro a0 r hr
  apply pF 5 [] [] [] [.tmp 2] hr cl90 Try.func90
  intro Φ hΦ hF g
  unfold F_impl_isModulus at hF
  try simp [go_sem, g]
  refine pw_wk ?_
  try simp [go_sem, g]
  refine pC hF [.sh, .sh, .sh] c_impl_within (fun z1 hF => ?_)
  cases hΦ _ (Rn_some hF)
  try simp [go_sem, g]
  refine pw_wk ?_
  try simp [go_sem, g]
noncomputable def F_impl_isPrime (a0 : Int) : Option (Bool) :=
  (((F_impl_isModulus a0).bind fun z4 =>
  if (!z4) = true then (
  some true) else (
  if ((a0.tmod 2) == 0) = true then (
  some (a0 != 2)) else (
  some false)) : Option (Bool)).bind fun x3 =>
  if x3 = true then (
  some false) else (
  ((wloop (σ := Int) (fun s11 =>
  if decide ((i64.wrap (s11 * s11)) ≤ a0) = true then (
  gd (s11 ≠ 0) <|
  if ((a0.tmod s11) == 0) = true then (
  some (.out (.inr false))) else (
  some (.go (i64.wrap (s11 + 2))))) else (
  some (.out (.inl ())))) 3 : Option (Unit ⊕ Bool)).bind (Sum.elim (fun x10 =>
  some true) some))))
theorem c_impl_isPrime : ∀ {a0} {r}, F_impl_isPrime a0 = some r → PCalls Try.prog 79 [(.sh, .int .i64 a0)] (Eo (.bool r) [.junk]) := by
  intro a0 r hr
  apply pF 27 [] [] [] [.tmp 2] hr cl79 Try.func79
  intro Φ hΦ hF g
  unfold F_impl_isPrime at hF
  try simp [go_sem, g]
  refine pw_wk ?_
  repeat rw [sq]
  refine pJ hF (fun x3 => [(0, .v (.int .i64 a0)), (15, .v (.bool x3))]) (fun x3 hF => ?_) fun _ hj1 hF => ?_
  ·repeat rw [sq]
   refine pI hF (fun h7 hF => ?_) (fun h7 hF => ?_)
   ·cases hΦ _ (Rn_some hF)
    try simp [go_sem, g]
    refine pw_wk ?_
    try simp [go_sem, g]
   ·iterate 2 (try simp [go_sem, g]; refine pw_wk ?_)
    repeat rw [sq]
    refine pJs hF (fun x10 => []) (fun x10 hF => ?_) fun _ hj8 hr9 hF => ?_
    ·cases hΦ _ (Rn_some hF)
     try simp [go_sem, g]
     refine pw_wk ?_
     try simp [go_sem, g]
    ·repeat rw [sq]
     rw [pw_block]
     obtain ⟨b18, hb19, hψ15⟩ := hF
     refine pL hb19 (fun s11 => [(0, .v (.int .i64 a0)), (3, .v (.int .i64 s11))]) (fun s11 _ _ ho13 hg14 hF => ?_)
     try simp [go_sem, g]
     refine pw_wk ?_
     repeat rw [sq]
     refine pI hF (fun h16 hF => ?_) (fun h16 hF => ?_)
     ·try simp [go_sem, g]
      refine pw_wk ?_
      repeat rw [sq]
      rw [pw_block]
      obtain ⟨g, hF⟩ := Rz g hF
      try simp [go_sem, g]
      refine pw_wkK [0, 3, 26] (by simp [go_sem, g]; rfl) ?_
      repeat rw [sq]
      refine pI hF (fun h17 hF => ?_) (fun h17 hF => ?_)
      ·cases ho13 _ (Rn_some hF)
       cases hΦ _ (hr9 _ hψ15)
       try simp [go_sem, g]
       refine pw_wk ?_
       try simp [go_sem, g]
      ·try simp [go_sem, g]
       refine pw_wk ?_
       try simp [go_sem, g]
       exact pT (hg14 (i64.wrap (s11 + 2))) (Rn_some hF)
     ·try simp [go_sem, g]
      cases ho13 _ (Rn_some hF)
      exact pT (hj8 ()) hψ15
  ·try simp [go_sem, g]
   refine pC hF [.sh] c_impl_isModulus (fun z4 hF => ?_)
   try simp [go_sem, g]
   refine pwg_F hF (fun h5 hF => ?_) fun h5 hF => ?_
   ·try simp [go_sem, g, h5]
    exact pT (hj1 true) (Rn_some hF)
   ·have g := Ld g 2
    try simp [go_sem, g, h5]
    refine pwg_F hF (fun h6 hF => ?_) fun h6 hF => ?_
    ·try simp [go_sem, g, h6, h5]
     exact pT (hj1 (a0 != 2)) (Rn_some hF)
    ·try simp [go_sem, g, h6, h5]
     exact pT (hj1 false) (Rn_some hF)
noncomputable def F_impl_power (a0 : Int) (a1 : Int) (a2 : Int) : Option (Int) :=
  gd (a2 ≠ 0) <|
  ((wloop (σ := Int × Int × Int) (fun s4 =>
  if decide (0 < s4.2.1) = true then (
  ((if ((i64.wrap ((BitVec.ofInt i64.bits s4.2.1 &&& BitVec.ofInt i64.bits 1).toNat)) == 1) = true then (
  gd (a2 ≠ 0) <|
  some ((i64.wrap (s4.2.2 * s4.1)).tmod a2)) else (
  some s4.2.2) : Option (Int)).bind fun x12 =>
  gd (a2 ≠ 0) <|
  some (.go ((i64.wrap (s4.1 * s4.1)).tmod a2, s4.2.1.fdiv 2, x12)))) else (
  some (.out s4.2.2))) (a0, a1, (1 : Int).tmod a2) : Option (Int)).bind fun x3 =>
  some x3)
theorem c_impl_power : ∀ {a0} {a1} {a2} {r}, F_impl_power a0 a1 a2 = some r → PCalls Try.prog 80 [(.sh, .int .i64 a0), (.sh, .int .i64 a1), (.sh, .int .i64 a2)] (Eo (.int .i64 r) [.junk, .junk, .junk]) := by
  intro a0 a1 a2 r hr
  apply pF 28 [] [] [] [.tmp 6] hr cl80 Try.func80
  intro Φ hΦ hF g
  unfold F_impl_power at hF
  obtain ⟨g, hF⟩ := Rz g hF
  iterate 2 (try simp [go_sem, g]; refine pw_wk ?_)
  repeat rw [sq]
  refine pJ hF (fun x3 => [(7, .v (.int .i64 x3))]) (fun x3 hF => ?_) fun _ hj1 hF => ?_
  ·cases hΦ _ (Rn_some hF)
   try simp [go_sem, g]
   refine pw_wk ?_
   try simp [go_sem, g]
  ·repeat rw [sq]
   rw [pw_block]
   obtain ⟨b14, hb15, hψ8⟩ := hF
   refine pL hb15 (fun s4 => [(0, .v (.int .i64 s4.1)), (1, .v (.int .i64 s4.2.1)), (2, .v (.int .i64 a2)), (7, .v (.int .i64 s4.2.2))]) (fun s4 _ _ ho6 hg7 hF => ?_)
   try simp [go_sem, g]
   refine pw_wk ?_
   repeat rw [sq]
   refine pI hF (fun h9 hF => ?_) (fun h9 hF => ?_)
   ·try simp [go_sem, g]
    refine pw_wk ?_
    repeat rw [sq]
    rw [pw_block]
    try simp [go_sem, g]
    refine pw_wk ?_
    repeat rw [sq]
    refine pJ hF (fun x12 => [(0, .v (.int .i64 s4.1)), (1, .v (.int .i64 s4.2.1)), (2, .v (.int .i64 a2)), (7, .v (.int .i64 x12))]) (fun x12 hF => ?_) fun _ hj10 hF => ?_
    ·obtain ⟨g, hF⟩ := Rz g hF
     try simp [go_sem, g]
     refine pw_wkK [0, 1, 2, 7] (by simp [go_sem, g]; rfl) ?_
     have g := Ls g 1
     try simp [go_sem, g]
     exact pT (hg7 ((i64.wrap (s4.1 * s4.1)).tmod a2, s4.2.1.fdiv 2, x12)) (Rn_some hF)
    ·repeat rw [sq]
     refine pI hF (fun h13 hF => ?_) (fun h13 hF => ?_)
     ·obtain ⟨g, hF⟩ := Rz g hF
      try simp [go_sem, g]
      exact pT (hj10 ((i64.wrap (s4.2.2 * s4.1)).tmod a2)) (Rn_some hF)
     ·try simp [go_sem, g]
      exact pT (hj10 s4.2.2) (Rn_some hF)
   ·try simp [go_sem, g]
    cases ho6 _ (Rn_some hF)
    exact pT (hj1 s4.2.2) hψ8
noncomputable def F_impl_IsValidGroup (a0 : Group) : Option (Bool) :=
  (((F_impl_within a0.P 3 2000000000).bind fun z4 =>
  if z4 = true then (
  (F_impl_within a0.Q 2 (i64.wrap (a0.P - 1))).bind fun z6 =>
  if z6 = true then (
  gd (a0.Q ≠ 0) <|
  if (((i64.wrap (a0.P - 1)).tmod a0.Q) == 0) = true then (
  (F_impl_within a0.G 2 (i64.wrap (a0.P - 1))).bind fun z9 =>
  if z9 = true then (
  (F_impl_isPrime a0.P).bind fun z11 =>
  if z11 = true then (
  (F_impl_isPrime a0.Q).bind fun z13 =>
  if z13 = true then (
  (F_impl_power a0.G a0.Q a0.P).bind fun z15 =>
  some (z15 == 1)) else (
  some false)) else (
  some false)) else (
  some false)) else (
  some false)) else (
  some false)) else (
  some false) : Option (Bool)).bind fun x3 =>
  some x3)
theorem c_impl_IsValidGroup : ∀ {a0} {r}, F_impl_IsValidGroup a0 = some r → PCalls Try.prog 62 [(.sh, .agg [.int .i64 a0.P, .int .i64 a0.Q, .int .i64 a0.G])] (Eo (.bool r) [.junk]) := by
  intro a0 r hr
  apply pF 51 [] [] [] [.tmp 2] hr cl62 Try.func62
  intro Φ hΦ hF g
  unfold F_impl_IsValidGroup at hF
  try simp [go_sem, g]
  refine pw_wk ?_
  repeat rw [sq]
  refine pJ hF (fun x3 => [(2, .v (.bool x3))]) (fun x3 hF => ?_) fun _ hj1 hF => ?_
  ·cases hΦ _ (Rn_some hF)
   try simp [go_sem, g]
  ·try simp [go_sem, g]
   refine pC hF [.sh, .sh, .sh] c_impl_within (fun z4 hF => ?_)
   try simp [go_sem, g]
   refine pwg_F hF (fun h5 hF => ?_) fun h5 hF => ?_
   ·try simp [go_sem, g, h5]
    refine pC hF [.sh, .sh, .sh] c_impl_within (fun z6 hF => ?_)
    try simp [go_sem, g, h5]
    refine pwg_F hF (fun h7 hF => ?_) fun h7 hF => ?_
    ·obtain ⟨g, hF⟩ := Rz g hF
     try simp [go_sem, g, h7]
     refine pwg_F hF (fun h8 hF => ?_) fun h8 hF => ?_
     ·try simp [go_sem, g, h8]
      refine pC hF [.sh, .sh, .sh] c_impl_within (fun z9 hF => ?_)
      try simp [go_sem, g, h8]
      refine pwg_F hF (fun h10 hF => ?_) fun h10 hF => ?_
      ·try simp [go_sem, g, h10]
       refine pC hF [.sh] c_impl_isPrime (fun z11 hF => ?_)
       try simp [go_sem, g, h10]
       refine pwg_F hF (fun h12 hF => ?_) fun h12 hF => ?_
       ·try simp [go_sem, g, h12]
        refine pC hF [.sh] c_impl_isPrime (fun z13 hF => ?_)
        try simp [go_sem, g, h12]
        refine pwg_F hF (fun h14 hF => ?_) fun h14 hF => ?_
        ·try simp [go_sem, g, h14]
         refine pC hF [.sh, .sh, .sh] c_impl_power (fun z15 hF => ?_)
         try simp [go_sem, g, h14]
         exact pT (hj1 (z15 == 1)) (Rn_some hF)
        ·try simp [go_sem, g, h14]
         exact pT (hj1 false) (Rn_some hF)
       ·try simp [go_sem, g, h12]
        exact pT (hj1 false) (Rn_some hF)
      ·try simp [go_sem, g, h10]
       exact pT (hj1 false) (Rn_some hF)
     ·try simp [go_sem, g, h8]
      exact pT (hj1 false) (Rn_some hF)
    ·try simp [go_sem, g, h7]
     exact pT (hj1 false) (Rn_some hF)
   ·try simp [go_sem, g, h5]
    exact pT (hj1 false) (Rn_some hF)
noncomputable def F_impl_IsValidContest (a0 : Contest) : Option (Bool) :=
  ((if decide (a0.Least < 0) = true then (
  some true) else (
  some (decide (a0.Most < a0.Least))) : Option (Bool)).bind fun x3 =>
  if x3 = true then (
  some false) else (
  ((if (a0.Kind == 1) = true then (
  some (a0.Kind == 1)) else (
  some (a0.Kind == 3)) : Option (Bool)).bind fun x8 =>
  if x8 = true then (
  (((F_impl_within a0.Options 1 8).bind fun z14 =>
  if z14 = true then (
  if decide (a0.Most ≤ a0.Options) = true then (
  some (a0.Points == 0)) else (
  some false)) else (
  some false) : Option (Bool)).bind fun x13 =>
  some x13)) else (
  if (a0.Kind == 2) = true then (
  (((F_impl_within a0.Options 1 8).bind fun z21 =>
  if z21 = true then (
  (F_impl_within a0.Points 1 5).bind fun z23 =>
  if z23 = true then (
  some (decide (a0.Most ≤ (i64.wrap (a0.Options * a0.Points))))) else (
  some false)) else (
  some false) : Option (Bool)).bind fun x20 =>
  some x20)) else (
  if (a0.Kind == 4) = true then (
  ((if (a0.Options == 0) = true then (
  if decide (a0.Most ≤ 5) = true then (
  some (a0.Points == 0)) else (
  some false)) else (
  some false) : Option (Bool)).bind fun x28 =>
  some x28)) else (
  some false))))))
theorem c_impl_IsValidContest : ∀ {a0} {r}, F_impl_IsValidContest a0 = some r → PCalls Try.prog 49 [(.sh, .agg [.int .i64 a0.Kind, .int .i64 a0.Options, .int .i64 a0.Least, .int .i64 a0.Most, .int .i64 a0.Points])] (Eo (.bool r) [.junk]) := by
  intro a0 r hr
  apply pF 68 [] [] [] [.tmp 2] hr cl49 Try.func49
  intro Φ hΦ hF g
  unfold F_impl_IsValidContest at hF
  try simp [go_sem, g]
  refine pw_wk ?_
  repeat rw [sq]
  refine pJ hF (fun x3 => [(1, .bl [.int .i64 a0.Kind, .int .i64 a0.Options, .int .i64 a0.Least, .int .i64 a0.Most, .int .i64 a0.Points]), (12, .v (.bool x3))]) (fun x3 hF => ?_) fun _ hj1 hF => ?_
  ·repeat rw [sq]
   refine pI hF (fun h5 hF => ?_) (fun h5 hF => ?_)
   ·cases hΦ _ (Rn_some hF)
    try simp [go_sem, g]
    refine pw_wk ?_
    try simp [go_sem, g]
   ·iterate 2 (try simp [go_sem, g]; refine pw_wk ?_)
    repeat rw [sq]
    rw [pw_block]
    try simp [go_sem, g]
    refine pw_wk ?_
    repeat rw [sq]
    refine pJ hF (fun x8 => [(1, .bl [.int .i64 a0.Kind, .int .i64 a0.Options, .int .i64 a0.Least, .int .i64 a0.Most, .int .i64 a0.Points]), (14, .v (.int .i64 a0.Kind)), (15, .v (.bool x8))]) (fun x8 hF => ?_) fun _ hj6 hF => ?_
    ·repeat rw [sq]
     refine pI hF (fun h10 hF => ?_) (fun h10 hF => ?_)
     ·repeat rw [sq]
      refine pJ hF (fun x13 => [(2, .v (.bool x13))]) (fun x13 hF => ?_) fun _ hj11 hF => ?_
      ·cases hΦ _ (Rn_some hF)
       try simp [go_sem, g]
      ·try simp [go_sem, g]
       refine pC hF [.sh, .sh, .sh] c_impl_within (fun z14 hF => ?_)
       try simp [go_sem, g]
       refine pwg_F hF (fun h15 hF => ?_) fun h15 hF => ?_
       ·try simp [go_sem, g, h15]
        refine pwg_F hF (fun h16 hF => ?_) fun h16 hF => ?_
        ·try simp [go_sem, g, h16]
         exact pT (hj11 (a0.Points == 0)) (Rn_some hF)
        ·try simp [go_sem, g, h16]
         exact pT (hj11 false) (Rn_some hF)
       ·try simp [go_sem, g, h15]
        exact pT (hj11 false) (Rn_some hF)
     ·try simp [go_sem, g]
      refine pw_wk ?_
      repeat rw [sq]
      refine pI hF (fun h17 hF => ?_) (fun h17 hF => ?_)
      ·repeat rw [sq]
       refine pJ hF (fun x20 => [(2, .v (.bool x20))]) (fun x20 hF => ?_) fun _ hj18 hF => ?_
       ·cases hΦ _ (Rn_some hF)
        try simp [go_sem, g]
       ·try simp [go_sem, g]
        refine pC hF [.sh, .sh, .sh] c_impl_within (fun z21 hF => ?_)
        try simp [go_sem, g]
        refine pwg_F hF (fun h22 hF => ?_) fun h22 hF => ?_
        ·try simp [go_sem, g, h22]
         refine pC hF [.sh, .sh, .sh] c_impl_within (fun z23 hF => ?_)
         try simp [go_sem, g, h22]
         refine pwg_F hF (fun h24 hF => ?_) fun h24 hF => ?_
         ·try simp [go_sem, g, h24]
          exact pT (hj18 (decide (a0.Most ≤ (i64.wrap (a0.Options * a0.Points))))) (Rn_some hF)
         ·try simp [go_sem, g, h24]
          exact pT (hj18 false) (Rn_some hF)
        ·try simp [go_sem, g, h22]
         exact pT (hj18 false) (Rn_some hF)
      ·try simp [go_sem, g]
       refine pw_wkK [1, 53] (by simp [go_sem, g]; rfl) ?_
       repeat rw [sq]
       refine pI hF (fun h25 hF => ?_) (fun h25 hF => ?_)
       ·repeat rw [sq]
        refine pJ hF (fun x28 => [(2, .v (.bool x28))]) (fun x28 hF => ?_) fun _ hj26 hF => ?_
        ·cases hΦ _ (Rn_some hF)
         try simp [go_sem, g]
        ·try simp [go_sem, g]
         refine pwg_F hF (fun h29 hF => ?_) fun h29 hF => ?_
         ·try simp [go_sem, g, h29]
          refine pwg_F hF (fun h30 hF => ?_) fun h30 hF => ?_
          ·try simp [go_sem, g, h30]
           exact pT (hj26 (a0.Points == 0)) (Rn_some hF)
          ·try simp [go_sem, g, h30]
           exact pT (hj26 false) (Rn_some hF)
         ·try simp [go_sem, g, h29]
          exact pT (hj26 false) (Rn_some hF)
       ·cases hΦ _ (Rn_some hF)
        iterate 2 (try simp [go_sem, g]; refine pw_wk ?_)
        try simp [go_sem, g]
    ·repeat rw [sq]
     refine pI hF (fun h9 hF => ?_) (fun h9 hF => ?_)
     ·try simp [go_sem, g]
      exact pT (hj6 (a0.Kind == 1)) (Rn_some hF)
     ·try simp [go_sem, g]
      exact pT (hj6 (a0.Kind == 3)) (Rn_some hF)
  ·try simp [go_sem, g]
   refine pwg_F hF (fun h4 hF => ?_) fun h4 hF => ?_
   ·try simp [go_sem, g, h4]
    exact pT (hj1 true) (Rn_some hF)
   ·try simp [go_sem, g, h4]
    exact pT (hj1 (decide (a0.Most < a0.Least))) (Rn_some hF)
noncomputable def F_impl_Contest_base (a0 : Contest) : Option (Int) :=
  if (a0.Kind == 2) = true then (
  some (i64.wrap (a0.Points + 1))) else (
  if (a0.Kind == 3) = true then (
  some (i64.wrap (a0.Options + 1))) else (
  if (a0.Kind == 4) = true then (
  some 27) else (
  some 2)))
theorem c_impl_Contest_base : ∀ {a0} {r}, F_impl_Contest_base a0 = some r → PCalls Try.prog 82 [(.sh, .agg [.int .i64 a0.Kind, .int .i64 a0.Options, .int .i64 a0.Least, .int .i64 a0.Most, .int .i64 a0.Points])] (Eo (.int .i64 r) [.junk]) := by
  intro a0 r hr
  apply pF 17 [] [] [] [.tmp 2] hr cl82 Try.func82
  intro Φ hΦ hF g
  unfold F_impl_Contest_base at hF
  iterate 2 (try simp [go_sem, g]; refine pw_wk ?_)
  repeat rw [sq]
  rw [pw_block]
  try simp [go_sem, g]
  refine pw_wk ?_
  repeat rw [sq]
  refine pI hF (fun h1 hF => ?_) (fun h1 hF => ?_)
  ·try simp [go_sem, g]
   refine pw_wkK [2] (by simp [go_sem, g]; rfl) ?_
   cases hΦ _ (Rn_some hF)
   try simp [go_sem, g]
  ·try simp [go_sem, g]
   refine pw_wk ?_
   repeat rw [sq]
   refine pI hF (fun h2 hF => ?_) (fun h2 hF => ?_)
   ·try simp [go_sem, g]
    refine pw_wkK [2] (by simp [go_sem, g]; rfl) ?_
    cases hΦ _ (Rn_some hF)
    try simp [go_sem, g]
   ·try simp [go_sem, g]
    refine pw_wkK [15] (by simp [go_sem, g]; rfl) ?_
    repeat rw [sq]
    refine pI hF (fun h3 hF => ?_) (fun h3 hF => ?_)
    ·cases hΦ _ (Rn_some hF)
     try simp [go_sem, g]
     refine pw_wk ?_
     try simp [go_sem, g]
    ·cases hΦ _ (Rn_some hF)
     iterate 2 (try simp [go_sem, g]; refine pw_wk ?_)
     try simp [go_sem, g]
noncomputable def F_impl_codeOf (a0 : (List Int)) (a1 : Int) : Option (Int) :=
  ((wloop (σ := Int × Int) (fun s4 =>
  if decide (0 ≤ s4.2) = true then (
  (ix a0 s4.2).bind fun x10 =>
  some (.go (i64.wrap ((i64.wrap (s4.1 * a1)) + x10), i64.wrap (s4.2 - 1)))) else (
  some (.out s4.1))) (0, i64.wrap ((a0.length : Int) - 1)) : Option (Int)).bind fun x3 =>
  some x3)
theorem c_impl_codeOf : ∀ {a0} {a1} {r}, F_impl_codeOf a0 a1 = some r → PCalls Try.prog 81 [(.sh, .sl false 1 (a0.map row_i64)), (.sh, .int .i64 a1)] (Eo (.int .i64 r) [.junk, .junk]) := by
  intro a0 a1 r hr
  apply pF 23 [] [] [] [.tmp 4] hr cl81 Try.func81
  intro Φ hΦ hF g
  unfold F_impl_codeOf at hF
  iterate 3 (try simp [go_sem, g]; try intros; refine pw_wk ?_)
  repeat rw [sq]
  refine pJ hF (fun x3 => [(5, .v (.int .i64 x3))]) (fun x3 hF => ?_) fun _ hj1 hF => ?_
  ·cases hΦ _ (Rn_some hF)
   try simp [go_sem, g]
   refine pw_wk ?_
   try simp [go_sem, g]
  ·repeat rw [sq]
   rw [pw_block]
   obtain ⟨b11, hb12, hψ8⟩ := hF
   refine pL hb12 (fun s4 => [(0, .v (.sl false 1 (a0.map row_i64))), (1, .v (.int .i64 a1)), (5, .v (.int .i64 s4.1)), (6, .v (.int .i64 s4.2))]) (fun s4 _ _ ho6 hg7 hF => ?_)
   try simp [go_sem, g]
   refine pw_wk ?_
   repeat rw [sq]
   refine pI hF (fun h9 hF => ?_) (fun h9 hF => ?_)
   ·try simp [go_sem, g]
    refine pw_wk ?_
    repeat rw [sq]
    rw [pw_block]
    obtain ⟨x10, g, hF⟩ := Rx g hF
    try simp [go_sem, g]
    refine pw_wkK [0, 1, 5, 6] (by simp [go_sem, g]; rfl) ?_
    try simp [go_sem, g]
    exact pT (hg7 (i64.wrap ((i64.wrap (s4.1 * a1)) + x10), i64.wrap (s4.2 - 1))) (Rn_some hF)
   ·try simp [go_sem, g]
    cases ho6 _ (Rn_some hF)
    exact pT (hj1 s4.1) hψ8
noncomputable def F_impl_Contest_greatest (a0 : Contest) : Option (Int) :=
  ((if (a0.Kind == 1) = true then (
  wloop (σ := (List Int) × Int) (fun s5 =>
  if decide (s5.2 < a0.Options) = true then (
  ((if decide ((i64.wrap (a0.Options - a0.Most)) ≤ s5.2) = true then (
  some 1) else (
  some 0) : Option (Int)).bind fun x13 =>
  gd ((s5.1.length + 1) * 8 ≤ 140737488355328 ∧ s5.1.length + 1 ≤ 4611686018427387904) <|
  some (.go (s5.1 ++ [x13], i64.wrap (s5.2 + 1))))) else (
  some (.out s5.1))) ([], 0)) else (
  if (a0.Kind == 2) = true then (
  gd (0 ≤ a0.Options ∧ a0.Options ≤ a0.Options ∧ 8 * a0.Options ≤ 140737488355328 ∧ a0.Options ≤ 4611686018427387904) <|
  (some (List.replicate a0.Options.toNat 0)).bind fun x18 =>
  wloop (σ := (List Int) × Int × Int) (fun s29 =>
  if decide (0 ≤ s29.2.2) = true then (
  (ix s29.1 s29.2.2).bind fun x35 =>
  (ix (s29.1.set s29.2.2.toNat (if a0.Points < s29.2.1 then a0.Points else s29.2.1)) s29.2.2).bind fun x36 =>
  some (.go (s29.1.set s29.2.2.toNat (if a0.Points < s29.2.1 then a0.Points else s29.2.1), i64.wrap (s29.2.1 - x36), i64.wrap (s29.2.2 - 1)))) else (
  some (.out s29.1))) (x18, a0.Most, i64.wrap (a0.Options - 1))) else (
  if (a0.Kind == 3) = true then (
  wloop (σ := (List Int) × Int) (fun s40 =>
  if decide (s40.2 < a0.Most) = true then (
  gd ((s40.1.length + 1) * 8 ≤ 140737488355328 ∧ s40.1.length + 1 ≤ 4611686018427387904) <|
  some (.go (s40.1 ++ [i64.wrap ((i64.wrap ((i64.wrap (a0.Options - a0.Most)) + 1)) + s40.2)], i64.wrap (s40.2 + 1)))) else (
  some (.out s40.1))) ([], 0)) else (
  wloop (σ := (List Int) × Int) (fun s48 =>
  if decide (s48.2 < a0.Most) = true then (
  gd ((s48.1.length + 1) * 8 ≤ 140737488355328 ∧ s48.1.length + 1 ≤ 4611686018427387904) <|
  some (.go (s48.1 ++ [26], i64.wrap (s48.2 + 1)))) else (
  some (.out s48.1))) ([], 0)))) : Option ((List Int))).bind fun x3 =>
  (F_impl_Contest_base a0).bind fun z56 =>
  (F_impl_codeOf x3 z56).bind fun z57 =>
  some z57)
theorem c_impl_Contest_greatest : ∀ {a0} {r}, F_impl_Contest_greatest a0 = some r → PCalls Try.prog 63 [(.sh, .agg [.int .i64 a0.Kind, .int .i64 a0.Options, .int .i64 a0.Least, .int .i64 a0.Most, .int .i64 a0.Points])] (Eo (.int .i64 r) [.junk]) := by
  intro a0 r hr
  apply pF 89 [] [] [] [.tmp 2] hr cl63 Try.func63
  intro Φ hΦ hF g
  unfold F_impl_Contest_greatest at hF
  iterate 3 (try simp [go_sem, g]; refine pw_wk ?_)
  repeat rw [sq]
  refine pJ hF (fun x3 => [(1, .bl [.int .i64 a0.Kind, .int .i64 a0.Options, .int .i64 a0.Least, .int .i64 a0.Most, .int .i64 a0.Points]), (3, .v (.sl true 1 (x3.map row_i64)))]) (fun x3 hF => ?_) fun _ hj1 hF => ?_
  ·try simp [go_sem, g]
   refine pC hF [.sh] c_impl_Contest_base (fun z56 hF => ?_)
   try simp [go_sem, g]
   refine pC hF [.sh, .sh] c_impl_codeOf (fun z57 hF => ?_)
   try simp [go_sem, g]
   refine pw_wkK [2] (by simp [go_sem, g]; rfl) ?_
   cases hΦ _ (Rn_some hF)
   try simp [go_sem, g]
  ·repeat rw [sq]
   rw [pw_block]
   try simp [go_sem, g]
   refine pw_wk ?_
   repeat rw [sq]
   refine pI hF (fun h4 hF => ?_) (fun h4 hF => ?_)
   ·try simp [go_sem, g]
    refine pw_wkK [1, 3, 23, 24] (by simp [go_sem, g]; rfl) ?_
    repeat rw [sq]
    rw [pw_block]
    obtain ⟨b15, hb16, hψ9⟩ := hF
    refine pL hb16 (fun s5 => [(1, .bl [.int .i64 a0.Kind, .int .i64 a0.Options, .int .i64 a0.Least, .int .i64 a0.Most, .int .i64 a0.Points]), (3, .v (.sl true 1 (s5.1.map row_i64))), (23, .v (.int .i64 a0.Options)), (24, .v (.int .i64 s5.2))]) (fun s5 _ _ ho7 hg8 hF => ?_)
    try simp [go_sem, g]
    refine pw_wk ?_
    repeat rw [sq]
    refine pI hF (fun h10 hF => ?_) (fun h10 hF => ?_)
    ·try simp [go_sem, g]
     refine pw_wk ?_
     repeat rw [sq]
     rw [pw_block]
     iterate 2 (try simp [go_sem, g]; refine pw_wk ?_)
     try simp [go_sem, g]
     refine pw_wkK [1, 3, 5, 23, 24, 33] (by simp [go_sem, g]; rfl) ?_
     repeat rw [sq]
     refine pJ hF (fun x13 => [(1, .bl [.int .i64 a0.Kind, .int .i64 a0.Options, .int .i64 a0.Least, .int .i64 a0.Most, .int .i64 a0.Points]), (3, .v (.sl true 1 (s5.1.map row_i64))), (5, .v (.int .i64 x13)), (23, .v (.int .i64 a0.Options)), (24, .v (.int .i64 s5.2))]) (fun x13 hF => ?_) fun _ hj11 hF => ?_
     ·obtain ⟨g, hF⟩ := Rg g hF
      try simp [go_sem, g]
      refine pw_wk ?_
      try simp [go_sem, g]
      exact pT (hg8 (s5.1 ++ [x13], i64.wrap (s5.2 + 1))) (Rn_some hF)
     ·repeat rw [sq]
      refine pI hF (fun h14 hF => ?_) (fun h14 hF => ?_)
      ·try simp [go_sem, g]
       exact pT (hj11 1) (Rn_some hF)
      ·try simp [go_sem, g]
       exact pT (hj11 0) (Rn_some hF)
    ·try simp [go_sem, g]
     cases ho7 _ (Rn_some hF)
     exact pT (hj1 s5.1) hψ9
   ·try simp [go_sem, g]
    refine pw_wkK [1, 3, 11, 39] (by simp [go_sem, g]; rfl) ?_
    repeat rw [sq]
    refine pI hF (fun h17 hF => ?_) (fun h17 hF => ?_)
    ·obtain ⟨g, hF⟩ := Rg g hF
     obtain ⟨x18, e19, hF⟩ := Rn_bind hF
     have g20 : List.replicate a0.Options.toNat ([.int .i64 0] : List PV) = x18.map row_i64 := by injection e19 with e19; rw [← e19]; simp [go_sem]
     iterate 2 (try simp [go_sem, g, g20]; refine pw_wk ?_)
     try simp [go_sem, g, g20]
     refine pw_wkK [1, 3, 6, 7] (by simp [go_sem, g]; rfl) ?_
     repeat rw [sq]
     rw [pw_block]
     obtain ⟨b37, hb38, hψ33⟩ := hF
     refine pL hb38 (fun s29 => [(1, .bl [.int .i64 a0.Kind, .int .i64 a0.Options, .int .i64 a0.Least, .int .i64 a0.Most, .int .i64 a0.Points]), (3, .v (.sl true 1 (s29.1.map row_i64))), (6, .v (.int .i64 s29.2.1)), (7, .v (.int .i64 s29.2.2))]) (fun s29 _ _ ho31 hg32 hF => ?_)
     try simp [go_sem, g]
     refine pw_wk ?_
     repeat rw [sq]
     refine pI hF (fun h34 hF => ?_) (fun h34 hF => ?_)
     ·try simp [go_sem, g]
      refine pw_wk ?_
      repeat rw [sq]
      rw [pw_block]
      obtain ⟨x35, g, hF⟩ := Rx g hF
      try simp [go_sem, g]
      refine pw_wkK [1, 3, 6, 7] (by simp [go_sem, g]; rfl) ?_
      obtain ⟨x36, g, hF⟩ := Rx g hF
      try simp [go_sem, g]
      refine pw_wk ?_
      try simp [go_sem, g]
      exact pT (hg32 (s29.1.set s29.2.2.toNat (if a0.Points < s29.2.1 then a0.Points else s29.2.1), i64.wrap (s29.2.1 - x36), i64.wrap (s29.2.2 - 1))) (Rn_some hF)
     ·try simp [go_sem, g]
      cases ho31 _ (Rn_some hF)
      exact pT (hj1 s29.1) hψ33
    ·try simp [go_sem, g]
     refine pw_wk ?_
     repeat rw [sq]
     refine pI hF (fun h39 hF => ?_) (fun h39 hF => ?_)
     ·try simp [go_sem, g]
      refine pw_wk ?_
      repeat rw [sq]
      rw [pw_block]
      obtain ⟨b46, hb47, hψ44⟩ := hF
      refine pL hb47 (fun s40 => [(1, .bl [.int .i64 a0.Kind, .int .i64 a0.Options, .int .i64 a0.Least, .int .i64 a0.Most, .int .i64 a0.Points]), (3, .v (.sl true 1 (s40.1.map row_i64))), (69, .v (.int .i64 a0.Most)), (70, .v (.int .i64 s40.2))]) (fun s40 _ _ ho42 hg43 hF => ?_)
      try simp [go_sem, g]
      refine pw_wk ?_
      repeat rw [sq]
      refine pI hF (fun h45 hF => ?_) (fun h45 hF => ?_)
      ·try simp [go_sem, g]
       refine pw_wk ?_
       repeat rw [sq]
       rw [pw_block]
       obtain ⟨g, hF⟩ := Rg g hF
       try simp [go_sem, g]
       refine pw_wk ?_
       try simp [go_sem, g]
       refine pw_wkK [1, 3, 69, 70] (by simp [go_sem, g]; rfl) ?_
       try simp [go_sem, g]
       exact pT (hg43 (s40.1 ++ [i64.wrap ((i64.wrap ((i64.wrap (a0.Options - a0.Most)) + 1)) + s40.2)], i64.wrap (s40.2 + 1))) (Rn_some hF)
      ·try simp [go_sem, g]
       cases ho42 _ (Rn_some hF)
       exact pT (hj1 s40.1) hψ44
     ·try simp [go_sem, g]
      refine pw_wk ?_
      repeat rw [sq]
      rw [pw_block]
      obtain ⟨b54, hb55, hψ52⟩ := hF
      refine pL hb55 (fun s48 => [(1, .bl [.int .i64 a0.Kind, .int .i64 a0.Options, .int .i64 a0.Least, .int .i64 a0.Most, .int .i64 a0.Points]), (3, .v (.sl true 1 (s48.1.map row_i64))), (13, .v (.int .i64 a0.Most)), (14, .v (.int .i64 s48.2))]) (fun s48 _ _ ho50 hg51 hF => ?_)
      try simp [go_sem, g]
      refine pw_wk ?_
      repeat rw [sq]
      refine pI hF (fun h53 hF => ?_) (fun h53 hF => ?_)
      ·try simp [go_sem, g]
       refine pw_wk ?_
       repeat rw [sq]
       rw [pw_block]
       obtain ⟨g, hF⟩ := Rg g hF
       try simp [go_sem, g]
       refine pw_wkK [1, 3, 13, 14] (by simp [go_sem, g]; rfl) ?_
       try simp [go_sem, g]
       exact pT (hg51 (s48.1 ++ [26], i64.wrap (s48.2 + 1))) (Rn_some hF)
      ·try simp [go_sem, g]
       cases ho50 _ (Rn_some hF)
       exact pT (hj1 s48.1) hψ52
noncomputable def F_impl_Contest_isForm (a0 : Contest) : Option (Bool) :=
  ((if (a0.Kind == 1) = true then (
  some true) else (
  some (a0.Kind == 2)) : Option (Bool)).bind fun x3 =>
  some x3)
theorem c_impl_Contest_isForm : ∀ {a0} {r}, F_impl_Contest_isForm a0 = some r → PCalls Try.prog 29 [(.sh, .agg [.int .i64 a0.Kind, .int .i64 a0.Options, .int .i64 a0.Least, .int .i64 a0.Most, .int .i64 a0.Points])] (Eo (.bool r) [.junk]) := by
  intro a0 r hr
  apply pF 11 [] [] [] [.tmp 2] hr cl29 Try.func29
  intro Φ hΦ hF g
  unfold F_impl_Contest_isForm at hF
  try simp [go_sem, g]
  refine pw_wk ?_
  repeat rw [sq]
  refine pJ hF (fun x3 => [(2, .v (.bool x3))]) (fun x3 hF => ?_) fun _ hj1 hF => ?_
  ·cases hΦ _ (Rn_some hF)
   try simp [go_sem, g]
  ·try simp [go_sem, g]
   refine pwg_F hF (fun h4 hF => ?_) fun h4 hF => ?_
   ·try simp [go_sem, g, h4]
    exact pT (hj1 true) (Rn_some hF)
   ·try simp [go_sem, g, h4]
    exact pT (hj1 (a0.Kind == 2)) (Rn_some hF)
def D41_1 : List DE := [⟨0, [2], [2], some 2, false, false, false⟩, ⟨1, [5], [], none, false, true, true⟩, ⟨2, [6], [], none, false, false, false⟩, ⟨3, [7], [], none, false, false, false⟩, ⟨4, [3, 8], [3], some 3, false, false, false⟩, ⟨5, [9, 8], [], none, false, true, true⟩, ⟨6, [10, 8], [], none, false, false, false⟩, ⟨7, [8, 11], [], none, false, false, false⟩, ⟨8, [12], [], none, false, false, false⟩, ⟨9, [3, 13], [3], some 3, false, false, false⟩, ⟨10, [14, 13], [], none, false, true, true⟩, ⟨11, [15, 13], [], none, false, false, false⟩, ⟨12, [13, 16], [], none, false, false, false⟩, ⟨13, [17], [], none, false, false, false⟩, ⟨14, [3, 18], [3], some 3, false, false, false⟩, ⟨16, [2, 18], [2], none, false, false, false⟩, ⟨17, [21, 18], [2], some 21, false, false, false⟩, ⟨15, [19, 18], [], none, false, true, true⟩, ⟨18, [20, 22, 18], [], none, false, false, false⟩, ⟨19, [18, 23], [], none, false, false, false⟩]
noncomputable def F_impl_IsSealable (a0 : Group) (a1 : Contest) : Option (Bool) :=
  (((F_impl_IsValidGroup a0).bind fun z4 =>
  if (!z4) = true then (
  some true) else (
  (F_impl_IsValidContest a1).bind fun z6 =>
  if (!z6) = true then (
  some true) else (
  (F_impl_Contest_greatest a1).bind fun z8 =>
  if decide (100000 < z8) = true then (
  some true) else (
  (F_impl_Contest_greatest a1).bind fun z10 =>
  some (decide (a0.Q ≤ z10))))) : Option (Bool)).bind fun x3 =>
  if x3 = true then (
  some false) else (
  (((F_impl_Contest_isForm a1).bind fun z15 =>
  if (!z15) = true then (
  some true) else (
  if decide ((i64.wrap (a1.Most - a1.Least)) < 8) = true then (
  some (decide (a1.Most < a0.Q))) else (
  some false)) : Option (Bool)).bind fun x14 =>
  some x14)))
theorem c_impl_IsSealable : ∀ {a0} {a1} {r}, F_impl_IsSealable a0 a1 = some r → PCalls Try.prog 41 [(.sh, .agg [.int .i64 a0.P, .int .i64 a0.Q, .int .i64 a0.G]), (.sh, .agg [.int .i64 a1.Kind, .int .i64 a1.Options, .int .i64 a1.Least, .int .i64 a1.Most, .int .i64 a1.Points])] (Eo (.bool r) [.junk, .junk]) := by
  intro a0 a1 r hr
  apply pF 43 [] [] [] [.tmp 4] hr cl41 Try.func41
  intro Φ hΦ hF g
  unfold F_impl_IsSealable at hF
  try simp [go_sem, g]
  refine pw_wk ?_
  repeat rw [sq]
  refine pJ hF (fun x3 => [(2, .bl [.int .i64 a0.P, .int .i64 a0.Q, .int .i64 a0.G]), (3, .bl [.int .i64 a1.Kind, .int .i64 a1.Options, .int .i64 a1.Least, .int .i64 a1.Most, .int .i64 a1.Points]), (24, .v (.bool x3))]) (fun x3 hF => ?_) fun _ hj1 hF => ?_
  ·repeat rw [sq]
   refine pI hF (fun h11 hF => ?_) (fun h11 hF => ?_)
   ·cases hΦ _ (Rn_some hF)
    try simp [go_sem, g]
    refine pw_wk ?_
    try simp [go_sem, g]
   ·try simp [go_sem, g]
    refine pw_wk ?_
    repeat rw [sq]
    refine pJ hF (fun x14 => [(4, .v (.bool x14))]) (fun x14 hF => ?_) fun _ hj12 hF => ?_
    ·cases hΦ _ (Rn_some hF)
     try simp [go_sem, g]
    ·try simp [go_sem, g]
     refine pC hF [.sh] c_impl_Contest_isForm (fun z15 hF => ?_)
     try simp [go_sem, g]
     refine pwg_F hF (fun h16 hF => ?_) fun h16 hF => ?_
     ·try simp [go_sem, g, h16]
      exact pT (hj12 true) (Rn_some hF)
     ·try simp [go_sem, g, h16]
      refine pwg_F hF (fun h17 hF => ?_) fun h17 hF => ?_
      ·try simp [go_sem, g, h17, h16]
       exact pT (hj12 (decide (a1.Most < a0.Q))) (Rn_some hF)
      ·try simp [go_sem, g, h17, h16]
       exact pT (hj12 false) (Rn_some hF)
  ·repeat rw [sq]
   refine pw_draw D41_1 follows (by kernel_rfl) rfl ?_
   try simp only [go_sem, D41_1]
   try simp [go_sem, g]
   refine pC hF [.sh] c_impl_IsValidGroup (fun z4 hF => ?_)
   try simp [go_sem, g]
   refine pwgD_F hF (fun h5 hF => ?_) fun h5 hF => ?_
   ·try simp [go_sem, g, h5]
    exact pT (hj1 true) (Rn_some hF)
   ·try simp [go_sem, g, h5]
    refine pC hF [.sh] c_impl_IsValidContest (fun z6 hF => ?_)
    try simp [go_sem, g, h5]
    refine pwgD_F hF (fun h7 hF => ?_) fun h7 hF => ?_
    ·try simp [go_sem, g, h7]
     exact pT (hj1 true) (Rn_some hF)
    ·try simp [go_sem, g, h7]
     refine pC hF [.sh] c_impl_Contest_greatest (fun z8 hF => ?_)
     try simp [go_sem, g, h7]
     refine pwgD_F hF (fun h9 hF => ?_) fun h9 hF => ?_
     ·try simp [go_sem, g, h9]
      exact pT (hj1 true) (Rn_some hF)
     ·try simp [go_sem, g, h9]
      refine pC hF [.sh] c_impl_Contest_greatest (fun z10 hF => ?_)
      try simp [go_sem, g, h9]
      exact pT (hj1 (decide (a0.Q ≤ z10))) (Rn_some hF)
noncomputable def F_impl_isDigest (a0 : Int) : Option (Bool) :=
  (F_impl_within a0 0 4611686018427387903).bind fun z1 =>
  some z1
theorem c_impl_isDigest : ∀ {a0} {r}, F_impl_isDigest a0 = some r → PCalls Try.prog 43 [(.sh, .int .i64 a0)] (Eo (.bool r) [.junk]) := by
  intro a0 r hr
  apply pF 5 [] [] [] [.tmp 2] hr cl43 Try.func43
  intro Φ hΦ hF g
  unfold F_impl_isDigest at hF
  try simp [go_sem, g]
  refine pw_wk ?_
  try simp [go_sem, g]
  refine pC hF [.sh, .sh, .sh] c_impl_within (fun z1 hF => ?_)
  cases hΦ _ (Rn_some hF)
  try simp [go_sem, g]
  refine pw_wk ?_
  try simp [go_sem, g]
noncomputable def F_impl_Contest_most (a0 : Contest) : Option (Int) :=
  if (a0.Kind == 2) = true then (
  some a0.Points) else (
  some 1)
theorem c_impl_Contest_most : ∀ {a0} {r}, F_impl_Contest_most a0 = some r → PCalls Try.prog 44 [(.sh, .agg [.int .i64 a0.Kind, .int .i64 a0.Options, .int .i64 a0.Least, .int .i64 a0.Most, .int .i64 a0.Points])] (Eo (.int .i64 r) [.junk]) := by
  intro a0 r hr
  apply pF 8 [] [] [] [.tmp 2] hr cl44 Try.func44
  intro Φ hΦ hF g
  unfold F_impl_Contest_most at hF
  iterate 2 (try simp [go_sem, g]; refine pw_wk ?_)
  repeat rw [sq]
  refine pI hF (fun h1 hF => ?_) (fun h1 hF => ?_)
  ·cases hΦ _ (Rn_some hF)
   try simp [go_sem, g]
   refine pw_wk ?_
   try simp [go_sem, g]
  ·cases hΦ _ (Rn_some hF)
   iterate 2 (try simp [go_sem, g]; refine pw_wk ?_)
   try simp [go_sem, g]
noncomputable def F_impl_labelled (a0 : ByteArray) (a1 : (List Int)) : Option ((List Int)) :=
  ((wloop (σ := (List Int) × Int) (fun s4 =>
  if decide (s4.2 < (a0.size : Int)) = true then (
  (ixs a0 s4.2).bind fun x10 =>
  gd ((s4.1.length + 1) * 8 ≤ 140737488355328 ∧ s4.1.length + 1 ≤ 4611686018427387904) <|
  some (.go (s4.1 ++ [i64.wrap x10], i64.wrap (s4.2 + 1)))) else (
  some (.out s4.1))) ([(a0.size : Int)], 0) : Option ((List Int))).bind fun x3 =>
  gd ((x3.length + a1.length) * 8 ≤ 140737488355328 ∧ x3.length + a1.length ≤ 4611686018427387904) <|
  some (x3 ++ a1))
theorem c_impl_labelled : ∀ {a0} {a1} {r}, F_impl_labelled a0 a1 = some r → PCalls Try.prog 92 [(.sh, .str a0), (.sh, .sl false 1 (a1.map row_i64))] (Eo (.sl true 1 (r.map row_i64)) [.junk, .junk]) := by
  intro a0 a1 r hr
  apply pF 26 [] [] [] [.tmp 4] hr cl92 Try.func92
  intro Φ hΦ hF g
  unfold F_impl_labelled at hF
  iterate 3 (try simp [go_sem, g]; refine pw_wk ?_)
  repeat rw [sq]
  refine pJ hF (fun x3 => [(1, .v (.sl false 1 (a1.map row_i64))), (5, .v (.sl true 1 (x3.map row_i64)))]) (fun x3 hF => ?_) fun _ hj1 hF => ?_
  ·obtain ⟨g, hF⟩ := Rg g hF
   try simp [go_sem, g]
   refine pw_wkK [4] (by simp [go_sem, g]; rfl) ?_
   cases hΦ _ (Rn_some hF)
   try simp [go_sem, g]
  ·repeat rw [sq]
   rw [pw_block]
   obtain ⟨b11, hb12, hψ8⟩ := hF
   refine pL hb12 (fun s4 => [(0, .v (.str a0)), (1, .v (.sl false 1 (a1.map row_i64))), (5, .v (.sl true 1 (s4.1.map row_i64))), (11, .v (.int .i64 (a0.size : Int))), (12, .v (.int .i64 s4.2))]) (fun s4 _ _ ho6 hg7 hF => ?_)
   try simp [go_sem, g]
   refine pw_wk ?_
   repeat rw [sq]
   refine pI hF (fun h9 hF => ?_) (fun h9 hF => ?_)
   ·try simp [go_sem, g]
    refine pw_wk ?_
    repeat rw [sq]
    rw [pw_block]
    try simp [go_sem, g]
    refine pw_wkK [0, 1, 5, 6, 11, 12] (by simp [go_sem, g]; rfl) ?_
    obtain ⟨x10, g, hF⟩ := Rxs g hF
    obtain ⟨g, hF⟩ := Rg g hF
    try simp [go_sem, g]
    refine pw_wk ?_
    try simp [go_sem, g]
    exact pT (hg7 (s4.1 ++ [i64.wrap x10], i64.wrap (s4.2 + 1))) (Rn_some hF)
   ·try simp [go_sem, g]
    cases ho6 _ (Rn_some hF)
    exact pT (hj1 s4.1) hψ8
noncomputable def F_impl_areAll_1__impl_isDigest (a0 : Int) : Option (Bool) :=
  (F_impl_isDigest a0).bind fun z1 =>
  some (!z1)
theorem c_impl_areAll_1__impl_isDigest : ∀ {a0} {r}, F_impl_areAll_1__impl_isDigest a0 = some r → PCalls Try.prog 85 [(.sh, .int .i64 a0), (.sh, .fp [.func (.func 43) [] []])] (Eo (.bool r) [.junk, .junk]) := by
  intro a0 r hr
  apply pF 8 [] [] [] [.tmp 3] hr cl85 Try.func85
  intro Φ hΦ hF g
  unfold F_impl_areAll_1__impl_isDigest at hF
  try simp [go_sem, g]
  refine pw_wk ?_
  try simp [go_sem, g]
  refine pC hF [.sh] c_impl_isDigest (fun z1 hF => ?_)
  cases hΦ _ (Rn_some hF)
  try simp [go_sem, g]
  refine pw_wk ?_
  try simp [go_sem, g]
noncomputable def F_slices_IndexFunc_int_int__impl_areAll_1_impl_isDigest (a0 : (List Int)) : Option (Int) :=
  ((rloop (σ := Unit) (fun i5 s4 =>
  (ix a0 i5).bind fun x11 =>
  (F_impl_areAll_1__impl_isDigest x11).bind fun z12 =>
  if z12 = true then (
  some (.out (.inr i5))) else (
  some (.go ()))) (fun s4 => .inl ()) (a0.length) 0 () : Option (Unit ⊕ Int)).bind (Sum.elim (fun x3 =>
  some (-1)) some))
theorem c_slices_IndexFunc_int_int__impl_areAll_1_impl_isDigest : ∀ {a0} {r}, F_slices_IndexFunc_int_int__impl_areAll_1_impl_isDigest a0 = some r → PCalls Try.prog 93 [(.sh, .sl false 1 (a0.map row_i64)), (.sh, .func (.func 85) [] [.fp [.func (.func 43) [] []]])] (Eo (.int .i64 r) [.junk, .junk]) := by
  intro a0 r hr
  apply pF 19 [] [] [] [.tmp 4] hr cl93 Try.func93
  intro Φ hΦ hF g
  unfold F_slices_IndexFunc_int_int__impl_areAll_1_impl_isDigest at hF
  iterate 2 (try simp [go_sem, g]; try intros; refine pw_wk ?_)
  repeat rw [sq]
  refine pJs hF (fun x3 => []) (fun x3 hF => ?_) fun _ hj1 hr2 hF => ?_
  ·cases hΦ _ (Rn_some hF)
   try simp [go_sem, g]
   refine pw_wk ?_
   try simp [go_sem, g]
  ·repeat rw [sq]
   rw [pw_block]
   obtain ⟨b14, hb15, hψ8⟩ := hF
   refine pR hb15 (fun i5 s4 => [(0, .v (.sl false 1 (a0.map row_i64))), (1, .v (.func (.func 85) [] [.fp [.func (.func 43) [] []]])), (7, .v (.int .i64 (a0.length : Int))), (8, .v (.int .i64 i5))]) (fun s4 _ hN16 => ?_) (fun i5 s4 _ _ hi9 hi10 ho6 hg7 hF => ?_)
   ·subst hN16
    try simp [go_sem]
    refine pw_wk ?_
    repeat rw [sq]
    refine pw_cond_f (by simp [go_sem]) ?_
    try simp [go_sem]
    exact pT (hj1 ()) hψ8 (by simp [go_sem])
   ·try simp [go_sem, g]
    refine pw_wk ?_
    repeat rw [sq]
    refine pw_cond_t (by simp [go_sem, g, hi9, hi10]) ?_
    try simp [go_sem, g]
    refine pw_wk ?_
    repeat rw [sq]
    rw [pw_block]
    obtain ⟨x11, g, hF⟩ := Rx g hF
    try simp [go_sem, g]
    refine pw_wk ?_
    try simp [go_sem, g]
    refine pC hF [.sh] c_impl_areAll_1__impl_isDigest (fun z12 hF => ?_)
    try simp [go_sem, g]
    refine pw_wkK [0, 1, 5, 7, 8, 16] (by simp [go_sem, g]; rfl) ?_
    repeat rw [sq]
    refine pI hF (fun h13 hF => ?_) (fun h13 hF => ?_)
    ·cases ho6 _ (Rn_some hF)
     cases hΦ _ (hr2 _ hψ8)
     try simp [go_sem, g]
     refine pw_wk ?_
     try simp [go_sem, g]
    ·try simp [go_sem, g]
     refine pw_wk ?_
     try simp [go_sem, g]
     exact pT (hg7 ()) (Rn_some hF) (by simp [go_sem, g, wr_i hi9 hi10 (by assumption)])
noncomputable def F_slices_ContainsFunc_int_int__impl_areAll_1_impl_isDigest (a0 : (List Int)) : Option (Bool) :=
  (F_slices_IndexFunc_int_int__impl_areAll_1_impl_isDigest a0).bind fun z1 =>
  some (decide (0 ≤ z1))
theorem c_slices_ContainsFunc_int_int__impl_areAll_1_impl_isDigest : ∀ {a0} {r}, F_slices_ContainsFunc_int_int__impl_areAll_1_impl_isDigest a0 = some r → PCalls Try.prog 84 [(.sh, .sl false 1 (a0.map row_i64)), (.sh, .func (.func 85) [] [.fp [.func (.func 43) [] []]])] (Eo (.bool r) [.junk, .junk]) := by
  intro a0 r hr
  apply pF 9 [] [] [] [.tmp 4] hr cl84 Try.func84
  intro Φ hΦ hF g
  unfold F_slices_ContainsFunc_int_int__impl_areAll_1_impl_isDigest at hF
  try simp [go_sem, g]
  refine pw_wk ?_
  try simp [go_sem, g]
  refine pC hF [.sh, .sh] c_slices_IndexFunc_int_int__impl_areAll_1_impl_isDigest (fun z1 hF => ?_)
  cases hΦ _ (Rn_some hF)
  try simp [go_sem, g]
  refine pw_wk ?_
  try simp [go_sem, g]
noncomputable def F_impl_areAll__impl_isDigest (a0 : (List Int)) : Option (Bool) :=
  (F_slices_ContainsFunc_int_int__impl_areAll_1_impl_isDigest a0).bind fun z1 =>
  some (!z1)
theorem c_impl_areAll__impl_isDigest : ∀ {a0} {r}, F_impl_areAll__impl_isDigest a0 = some r → PCalls Try.prog 66 [(.sh, .sl false 1 (a0.map row_i64)), (.sh, .func (.func 43) [] [])] (Eo (.bool r) [.junk, .junk]) := by
  intro a0 r hr
  apply pF 9 [] [] [1000000] [.tmp 4] hr cl66 Try.func66
  intro Φ hΦ hF g
  unfold F_impl_areAll__impl_isDigest at hF
  try simp [go_sem, g]
  refine pw_wk ?_
  try simp [go_sem, g]
  refine pC hF [.sh, .sh] c_slices_ContainsFunc_int_int__impl_areAll_1_impl_isDigest (fun z1 hF => ?_)
  cases hΦ _ (Rn_some hF)
  try simp [go_sem, g]
  refine pw_wk ?_
  try simp [go_sem, g]
noncomputable def F_impl_areDigests (a0 : (List Int)) : Option (Bool) :=
  ((if decide ((a0.length : Int) ≤ 400) = true then (
  (F_impl_areAll__impl_isDigest a0).bind fun z5 =>
  some z5) else (
  some false) : Option (Bool)).bind fun x3 =>
  some x3)
theorem c_impl_areDigests : ∀ {a0} {r}, F_impl_areDigests a0 = some r → PCalls Try.prog 98 [(.sh, .sl false 1 (a0.map row_i64))] (Eo (.bool r) [.junk]) := by
  intro a0 r hr
  apply pF 10 [] [] [] [.tmp 2] hr cl98 Try.func98
  intro Φ hΦ hF g
  unfold F_impl_areDigests at hF
  try simp [go_sem, g]
  refine pw_wk ?_
  repeat rw [sq]
  refine pJ hF (fun x3 => [(2, .v (.bool x3))]) (fun x3 hF => ?_) fun _ hj1 hF => ?_
  ·cases hΦ _ (Rn_some hF)
   try simp [go_sem, g]
  ·try simp [go_sem, g]
   try intros
   refine pwg_F hF (fun h4 hF => ?_) fun h4 hF => ?_
   ·try simp [go_sem, g, h4]
    refine pC hF [.sh, .sh] c_impl_areAll__impl_isDigest (fun z5 hF => ?_)
    try simp [go_sem, g, h4]
    exact pT (hj1 z5) (Rn_some hF)
   ·try simp [go_sem, g, h4]
    exact pT (hj1 false) (Rn_some hF)
noncomputable def F_impl_hash (a0 : (List Int)) : Option (Int) :=
  gd (([(a0.length : Int)].length + a0.length) * 8 ≤ 140737488355328 ∧ [(a0.length : Int)].length + a0.length ≤ 4611686018427387904) <|
  (some ([(a0.length : Int)] ++ a0)).bind fun x1 =>
  ((rloop (σ := Int × Int) (fun i7 s6 =>
  (ix x1 i7).bind fun x13 =>
  some (.go ((i64.wrap ((i64.wrap ((i64.wrap (48271 * ((i64.wrap ((i64.wrap ((i64.wrap (48271 * s6.1)) + (i64.wrap ((BitVec.ofInt i64.bits x13 &&& BitVec.ofInt i64.bits 2147483647).toNat)))) + 1)).tmod 2147483647))) + (x13.fdiv 2147483648))) + 1)).tmod 2147483647, (i64.wrap ((i64.wrap ((i64.wrap (69621 * ((i64.wrap ((i64.wrap ((i64.wrap (69621 * s6.2)) + (i64.wrap ((BitVec.ofInt i64.bits x13 &&& BitVec.ofInt i64.bits 2147483647).toNat)))) + 1)).tmod 2147483647))) + (x13.fdiv 2147483648))) + 1)).tmod 2147483647))) (fun s6 => (s6.1, s6.2)) (x1.length) 0 (1, 2) : Option ((Int × Int))).bind fun x5 =>
  some (i64.wrap ((i64.wrap (x5.1 * 2147483648)) + x5.2)))
theorem c_impl_hash : ∀ {a0} {r}, F_impl_hash a0 = some r → PCalls Try.prog 99 [(.sh, .sl false 1 (a0.map row_i64))] (Eo (.int .i64 r) [.junk]) := by
  intro a0 r hr
  apply pF 52 [] [] [] [.tmp 2] hr cl99 Try.func99
  intro Φ hΦ hF g
  unfold F_impl_hash at hF
  obtain ⟨g, hF⟩ := Rg g hF
  obtain ⟨x1, e2, hF⟩ := Rn_bind hF
  have g := And.intro g (show [.int .i64 (a0.length : Int)] :: (List.map row_i64 a0) = x1.map row_i64 by injection e2 with e2; rw [← e2]; simp [go_sem])
  iterate 2 (try simp [go_sem, g]; try intros; refine pw_wk ?_)
  try simp [go_sem, g]
  try intros
  refine pw_wkK [3, 4, 13, 14, 15] (by simp [go_sem, g]; rfl) ?_
  repeat rw [sq]
  refine pJ hF (fun x5 => [(3, .v (.int .i64 x5.1)), (4, .v (.int .i64 x5.2))]) (fun x5 hF => ?_) fun _ hj3 hF => ?_
  ·have g := Ls g 31
   cases hΦ _ (Rn_some hF)
   try simp [go_sem, g]
   refine pw_wk ?_
   try simp [go_sem, g]
  ·repeat rw [sq]
   rw [pw_block]
   obtain ⟨b14, hb15, hψ10⟩ := hF
   refine pR hb15 (fun i7 s6 => [(3, .v (.int .i64 s6.1)), (4, .v (.int .i64 s6.2)), (13, .v (.sl true 1 (x1.map row_i64))), (14, .v (.int .i64 (x1.length : Int))), (15, .v (.int .i64 i7))]) (fun s6 _ hN16 => ?_) (fun i7 s6 _ _ hi11 hi12 ho8 hg9 hF => ?_)
   ·subst hN16
    try simp [go_sem]
    refine pw_wk ?_
    repeat rw [sq]
    refine pw_cond_f (by simp [go_sem]) ?_
    try simp [go_sem]
    exact pT (hj3 (s6.1, s6.2)) hψ10 (by simp [go_sem])
   ·try simp [go_sem, g]
    refine pw_wk ?_
    repeat rw [sq]
    refine pw_cond_t (by simp [go_sem, g, hi11, hi12]) ?_
    try simp [go_sem, g]
    refine pw_wk ?_
    repeat rw [sq]
    rw [pw_block]
    obtain ⟨x13, g, hF⟩ := Rx g hF
    have g := Ls g 31
    try simp [go_sem, g]
    refine pw_wk ?_
    try simp [go_sem, g]
    refine pw_wkK [3, 4, 7, 8, 13, 14, 15] (by simp [go_sem, g]; rfl) ?_
    have g := Ld g 2147483647
    try simp [go_sem, g]
    refine pw_wk ?_
    try simp [go_sem, g]
    refine pw_wkK [3, 4, 7, 8, 13, 14, 15] (by simp [go_sem, g]; rfl) ?_
    try simp [go_sem, g]
    refine pw_wk ?_
    try simp [go_sem, g]
    refine pw_wkK [3, 4, 13, 14, 15] (by simp [go_sem, g]; rfl) ?_
    try simp [go_sem, g]
    exact pT (hg9 ((i64.wrap ((i64.wrap ((i64.wrap (48271 * ((i64.wrap ((i64.wrap ((i64.wrap (48271 * s6.1)) + (i64.wrap ((BitVec.ofInt i64.bits x13 &&& BitVec.ofInt i64.bits 2147483647).toNat)))) + 1)).tmod 2147483647))) + (x13.fdiv 2147483648))) + 1)).tmod 2147483647, (i64.wrap ((i64.wrap ((i64.wrap (69621 * ((i64.wrap ((i64.wrap ((i64.wrap (69621 * s6.2)) + (i64.wrap ((BitVec.ofInt i64.bits x13 &&& BitVec.ofInt i64.bits 2147483647).toNat)))) + 1)).tmod 2147483647))) + (x13.fdiv 2147483648))) + 1)).tmod 2147483647)) (Rn_some hF) (by simp [go_sem, g, wr_i hi11 hi12 (by assumption)])
noncomputable def F_impl_HashInts (a0 : (List Int)) : Option (Int × Bool) :=
  (F_impl_areDigests a0).bind fun z1 =>
  if (!z1) = true then (
  some (0, false)) else (
  (F_impl_hash a0).bind fun z3 =>
  some (z3, true))
theorem c_impl_HashInts : ∀ {a0} {r}, F_impl_HashInts a0 = some r → PCalls Try.prog 91 [(.sh, .sl false 1 (a0.map row_i64))] (Eo (.tup [.int .i64 r.1, .bool r.2]) [.junk]) := by
  intro a0 r hr
  apply pF 9 [] [] [] [.tmp 2, .tmp 3] hr cl91 Try.func91
  intro Φ hΦ hF g
  unfold F_impl_HashInts at hF
  try simp [go_sem, g]
  refine pw_wk ?_
  try simp [go_sem, g]
  refine pC hF [.sh] c_impl_areDigests (fun z1 hF => ?_)
  try simp [go_sem, g]
  refine pw_wk ?_
  repeat rw [sq]
  refine pI hF (fun h2 hF => ?_) (fun h2 hF => ?_)
  ·cases hΦ _ (Rn_some hF)
   try simp [go_sem, g]
   refine pw_wk ?_
   try simp [go_sem, g]
  ·try simp [go_sem, g]
   refine pw_wk ?_
   try simp [go_sem, g]
   refine pC hF [.sh] c_impl_hash (fun z3 hF => ?_)
   cases hΦ _ (Rn_some hF)
   try simp [go_sem, g]
   refine pw_wk ?_
   try simp [go_sem, g]
noncomputable def F_impl_HashLabelled (a0 : ByteArray) (a1 : (List Int)) : Option (Int × Bool) :=
  ((if decide (40 < (a0.size : Int)) = true then (
  some true) else (
  some (decide (400 < (a1.length : Int)))) : Option (Bool)).bind fun x3 =>
  if x3 = true then (
  some (0, false)) else (
  (F_impl_labelled a0 a1).bind fun z6 =>
  (F_impl_HashInts z6).bind fun z7 =>
  some (z7.1, z7.2)))
theorem c_impl_HashLabelled : ∀ {a0} {a1} {r}, F_impl_HashLabelled a0 a1 = some r → PCalls Try.prog 83 [(.sh, .str a0), (.sh, .sl false 1 (a1.map row_i64))] (Eo (.tup [.int .i64 r.1, .bool r.2]) [.junk, .junk]) := by
  intro a0 a1 r hr
  apply pF 20 [] [] [] [.tmp 4, .tmp 5] hr cl83 Try.func83
  intro Φ hΦ hF g
  unfold F_impl_HashLabelled at hF
  try simp [go_sem, g]
  refine pw_wk ?_
  repeat rw [sq]
  refine pJ hF (fun x3 => [(0, .v (.str a0)), (1, .v (.sl false 1 (a1.map row_i64))), (13, .v (.bool x3))]) (fun x3 hF => ?_) fun _ hj1 hF => ?_
  ·repeat rw [sq]
   refine pI hF (fun h5 hF => ?_) (fun h5 hF => ?_)
   ·cases hΦ _ (Rn_some hF)
    try simp [go_sem, g]
    refine pw_wk ?_
    try simp [go_sem, g]
   ·try simp [go_sem, g]
    refine pw_wk ?_
    try simp [go_sem, g]
    refine pC hF [.sh, .sh] c_impl_labelled (fun z6 hF => ?_)
    try simp [go_sem, g]
    refine pC hF [.sh] c_impl_HashInts (fun z7 hF => ?_)
    try simp [go_sem, g]
    refine pw_wkK [4, 5] (by simp [go_sem, g]; rfl) ?_
    cases hΦ _ (Rn_some hF)
    try simp [go_sem, g]
  ·try simp [go_sem, g]
   refine pwg_F hF (fun h4 hF => ?_) fun h4 hF => ?_
   ·try simp [go_sem, g, h4]
    exact pT (hj1 true) (Rn_some hF)
   ·try simp [go_sem, g, h4]
    try intros
    exact pT (hj1 (decide (400 < (a1.length : Int)))) (Rn_some hF)
def D64_7 : List DE := [⟨0, [9], [], none, false, false, false⟩, ⟨1, [3], [3], none, false, false, false⟩, ⟨2, [32], [3], some 32, false, false, false⟩, ⟨3, [33], [], none, false, false, false⟩, ⟨4, [31, 34], [], none, false, false, false⟩, ⟨5, [35], [], none, false, false, false⟩, ⟨6, [3], [3], none, false, false, false⟩, ⟨7, [37], [3], some 37, false, false, false⟩, ⟨8, [38], [], none, false, false, false⟩, ⟨9, [3], [3], none, false, false, false⟩, ⟨10, [40], [3], some 40, false, false, false⟩, ⟨11, [39, 41], [], none, false, false, false⟩, ⟨12, [3], [3], none, false, false, false⟩, ⟨13, [43], [3], some 43, false, false, false⟩, ⟨14, [36, 42, 44], [], none, false, true, true⟩, ⟨15, [45], [], none, false, false, false⟩]
noncomputable def F_impl_Group_derive (a0 : Group) (a1 : ByteArray) (a2 : Int) : Option (Int × Bool) :=
  ((wloop (σ := Int) (fun s4 =>
  if decide (s4 < 1000) = true then (
  (F_impl_HashLabelled a1 [a0.P, a0.Q, a0.G, a2, s4]).bind fun z10 =>
  if (!z10.2) = true then (
  some (.out (.inr (0, false)))) else (
  gd (i64.wrap (a0.P - 1) ≠ 0) <|
  gd (a0.Q ≠ 0) <|
  (F_impl_power (i64.wrap (1 + (z10.1.tmod (i64.wrap (a0.P - 1))))) (i64.wrap ((i64.wrap (a0.P - 1)).tdiv a0.Q)) a0.P).bind fun z12 =>
  if (z12 != 1) = true then (
  some (.out (.inr (z12, true)))) else (
  some (.go (i64.wrap (s4 + 1)))))) else (
  some (.out (.inl ())))) 0 : Option (Unit ⊕ (Int × Bool))).bind (Sum.elim (fun x3 =>
  some (0, false)) some))
theorem c_impl_Group_derive : ∀ {a0} {a1} {a2} {r}, F_impl_Group_derive a0 a1 a2 = some r → PCalls Try.prog 64 [(.sh, .agg [.int .i64 a0.P, .int .i64 a0.Q, .int .i64 a0.G]), (.sh, .str a1), (.sh, .int .i64 a2)] (Eo (.tup [.int .i64 r.1, .bool r.2]) [.junk, .junk, .junk]) := by
  intro a0 a1 a2 r hr
  apply pF 50 [] [] [] [.tmp 6, .tmp 7] hr cl64 Try.func64
  intro Φ hΦ hF g
  unfold F_impl_Group_derive at hF
  iterate 2 (try simp [go_sem, g]; refine pw_wk ?_)
  repeat rw [sq]
  refine pJs hF (fun x3 => []) (fun x3 hF => ?_) fun _ hj1 hr2 hF => ?_
  ·cases hΦ _ (Rn_some hF)
   try simp [go_sem, g]
   refine pw_wk ?_
   try simp [go_sem, g]
  ·repeat rw [sq]
   rw [pw_block]
   obtain ⟨b14, hb15, hψ8⟩ := hF
   refine pL hb15 (fun s4 => [(1, .v (.str a1)), (2, .v (.int .i64 a2)), (3, .bl [.int .i64 a0.P, .int .i64 a0.Q, .int .i64 a0.G]), (12, .v (.int .i64 s4))]) (fun s4 _ _ ho6 hg7 hF => ?_)
   try simp [go_sem, g]
   refine pw_wk ?_
   repeat rw [sq]
   refine pI hF (fun h9 hF => ?_) (fun h9 hF => ?_)
   ·try simp [go_sem, g]
    refine pw_wk ?_
    repeat rw [sq]
    rw [pw_block]
    try simp [go_sem, g]
    refine pw_wk ?_
    try simp [go_sem, g]
    refine pC hF [.sh, .sh] c_impl_HashLabelled (fun z10 hF => ?_)
    try simp [go_sem, g]
    refine pw_wkK [1, 2, 3, 9, 10, 12] (by simp [go_sem, g]; rfl) ?_
    try simp [go_sem, g]
    refine pw_wk ?_
    repeat rw [sq]
    refine pI hF (fun h11 hF => ?_) (fun h11 hF => ?_)
    ·cases ho6 _ (Rn_some hF)
     cases hΦ _ (hr2 _ hψ8)
     try simp [go_sem, g]
     refine pw_wk ?_
     try simp [go_sem, g]
    ·try simp [go_sem, g]
     refine pw_wk ?_
     repeat rw [sq]
     refine pw_draw D64_7 follows (by kernel_rfl) rfl ?_
     try simp only [go_sem, D64_7]
     obtain ⟨g, hF⟩ := Rz g hF
     obtain ⟨g, hF⟩ := Rz g hF
     try simp [go_sem, g]
     refine pC hF [.sh, .sh, .sh] c_impl_power (fun z12 hF => ?_)
     try simp [go_sem, g]
     refine pw_wkK [1, 2, 3, 11, 12] (by simp [go_sem, g]; rfl) ?_
     try simp [go_sem, g]
     refine pw_wk ?_
     repeat rw [sq]
     refine pI hF (fun h13 hF => ?_) (fun h13 hF => ?_)
     ·cases ho6 _ (Rn_some hF)
      cases hΦ _ (hr2 _ hψ8)
      try simp [go_sem, g]
      refine pw_wk ?_
      try simp [go_sem, g]
     ·try simp [go_sem, g]
      refine pw_wk ?_
      try simp [go_sem, g]
      exact pT (hg7 (i64.wrap (s4 + 1))) (Rn_some hF)
   ·try simp [go_sem, g]
    cases ho6 _ (Rn_some hF)
    exact pT (hj1 ()) hψ8
noncomputable def F_impl_Group_basesOf (a0 : Group) (a1 : Int) : Option (Bases × Bool) :=
  (F_impl_Group_derive a0 (⟨#[104]⟩ : ByteArray) 0).bind fun z1 =>
  ((wloop (σ := Int × (List Int) × Bool × Int) (fun s16 =>
  if decide (s16.2.2.2 < a1) = true then (
  (F_impl_Group_derive a0 (⟨#[104, 115]⟩ : ByteArray) s16.2.2.2).bind fun z22 =>
  ((if s16.2.2.1 = true then (
  some z22.2) else (
  some false) : Option (Bool)).bind fun x25 =>
  gd ((s16.2.1.length + 1) * 8 ≤ 140737488355328 ∧ s16.2.1.length + 1 ≤ 4611686018427387904) <|
  some (.go (s16.1, s16.2.1 ++ [z22.1], x25, i64.wrap (s16.2.2.2 + 1))))) else (
  some (.out (s16.1, s16.2.1, s16.2.2.1)))) (z1.1, [], true, 0) : Option ((Int × (List Int) × Bool))).bind fun x4 =>
  ((if (!z1.2) = true then (
  some true) else (
  some (!x4.2.2)) : Option (Bool)).bind fun x31 =>
  if x31 = true then (
  some ((Bases.mk 0 []), false)) else (
  some ((Bases.mk x4.1 x4.2.1), true))))
theorem c_impl_Group_basesOf : ∀ {a0} {a1} {r}, F_impl_Group_basesOf a0 a1 = some r → PCalls Try.prog 45 [(.sh, .agg [.int .i64 a0.P, .int .i64 a0.Q, .int .i64 a0.G]), (.sh, .int .i64 a1)] (Eo (.tup [.agg [.int .i64 r.1.H, .sl true 1 (r.1.Hs.map row_i64)], .bool r.2]) [.junk, .junk]) := by
  intro a0 a1 r hr
  apply pF 49 [] [] [] [.cell 4 70, .tmp 5] hr cl45 Try.func45
  intro Φ hΦ hF g
  unfold F_impl_Group_basesOf at hF
  try simp [go_sem, g]
  refine pw_wk ?_
  try simp [go_sem, g]
  refine pC hF [.sh, .sh, .sh] c_impl_Group_derive (fun z1 hF => ?_)
  try simp [go_sem, g]
  refine pw_wkK [1, 2, 4, 6, 7] (by simp [go_sem, g]; rfl) ?_
  iterate 2 (try simp [go_sem, g]; refine pw_wk ?_)
  repeat rw [sq]
  refine pJ hF (fun x4 => [(4, .bl [.int .i64 0, .sl true 1 []]), (7, .v (.bool z1.2)), (8, .bl [.int .i64 x4.1, .sl true 1 (x4.2.1.map row_i64)]), (9, .v (.bool x4.2.2))]) (fun x4 hF => ?_) fun _ hj2 hF => ?_
  ·repeat rw [sq]
   refine pJ hF (fun x31 => [(4, .bl [.int .i64 0, .sl true 1 []]), (8, .bl [.int .i64 x4.1, .sl true 1 (x4.2.1.map row_i64)]), (46, .v (.bool x31))]) (fun x31 hF => ?_) fun _ hj29 hF => ?_
   ·repeat rw [sq]
    refine pI hF (fun h33 hF => ?_) (fun h33 hF => ?_)
    ·try simp [go_sem, g]
     refine pw_wkK [4, 5] (by simp [go_sem, g]; rfl) ?_
     cases hΦ _ (Rn_some hF)
     try simp [go_sem, g]
    ·try simp [go_sem, g]
     refine pw_wk ?_
     try simp [go_sem, g]
     refine pw_wkK [4, 5] (by simp [go_sem, g]; rfl) ?_
     cases hΦ _ (Rn_some hF)
     try simp [go_sem, g]
   ·try simp [go_sem, g]
    refine pwg_F hF (fun h32 hF => ?_) fun h32 hF => ?_
    ·try simp [go_sem, g, h32]
     exact pT (hj29 true) (Rn_some hF)
    ·try simp [go_sem, g, h32]
     exact pT (hj29 (!x4.2.2)) (Rn_some hF)
  ·repeat rw [sq]
   rw [pw_block]
   obtain ⟨b27, hb28, hψ20⟩ := hF
   refine pL hb28 (fun s16 => [(2, .bl [.int .i64 a0.P, .int .i64 a0.Q, .int .i64 a0.G]), (4, .bl [.int .i64 0, .sl true 1 []]), (7, .v (.bool z1.2)), (8, .bl [.int .i64 s16.1, .sl true 1 (s16.2.1.map row_i64)]), (9, .v (.bool s16.2.2.1)), (20, .v (.int .i64 a1)), (21, .v (.int .i64 s16.2.2.2))]) (fun s16 _ _ ho18 hg19 hF => ?_)
   try simp [go_sem, g]
   refine pw_wk ?_
   repeat rw [sq]
   refine pI hF (fun h21 hF => ?_) (fun h21 hF => ?_)
   ·try simp [go_sem, g]
    refine pw_wk ?_
    repeat rw [sq]
    rw [pw_block]
    try simp [go_sem, g]
    refine pw_wkK [2, 4, 7, 8, 9, 10, 20, 21] (by simp [go_sem, g]; rfl) ?_
    try simp [go_sem, g]
    refine pC hF [.sh, .sh, .sh] c_impl_Group_derive (fun z22 hF => ?_)
    try simp [go_sem, g]
    refine pw_wk ?_
    repeat rw [sq]
    refine pJ hF (fun x25 => [(2, .bl [.int .i64 a0.P, .int .i64 a0.Q, .int .i64 a0.G]), (4, .bl [.int .i64 0, .sl true 1 []]), (7, .v (.bool z1.2)), (8, .bl [.int .i64 s16.1, .sl true 1 (s16.2.1.map row_i64)]), (9, .v (.bool x25)), (11, .v (.int .i64 z22.1)), (20, .v (.int .i64 a1)), (21, .v (.int .i64 s16.2.2.2))]) (fun x25 hF => ?_) fun _ hj23 hF => ?_
    ·obtain ⟨g, hF⟩ := Rg g hF
     try simp [go_sem, g]
     refine pw_wkK [2, 4, 7, 8, 9, 20, 21] (by simp [go_sem, g]; rfl) ?_
     try simp [go_sem, g]
     exact pT (hg19 (s16.1, s16.2.1 ++ [z22.1], x25, i64.wrap (s16.2.2.2 + 1))) (Rn_some hF)
    ·try simp [go_sem, g]
     refine pwg_F hF (fun h26 hF => ?_) fun h26 hF => ?_
     ·try simp [go_sem, g, h26]
      exact pT (hj23 z22.2) (Rn_some hF)
     ·try simp [go_sem, g, h26]
      exact pT (hj23 false) (Rn_some hF)
   ·try simp [go_sem, g]
    cases ho18 _ (Rn_some hF)
    exact pT (hj2 (s16.1, s16.2.1, s16.2.2.1)) hψ20
def D26_3 : List DE := [⟨0, [1], [1], none, false, false, false⟩, ⟨1, [49], [1], some 49, false, false, false⟩, ⟨2, [50], [], none, false, true, true⟩, ⟨3, [51], [], none, false, false, false⟩, ⟨4, [1, 52], [1], none, false, false, false⟩, ⟨5, [53, 52], [1], some 53, false, false, false⟩, ⟨6, [1, 52], [1], none, false, false, false⟩, ⟨7, [55, 52], [1], some 55, false, false, false⟩, ⟨10, [1, 52], [1], none, false, false, false⟩, ⟨11, [59, 52], [1], none, false, false, false⟩, ⟨12, [60, 52], [1], some 60, false, false, false⟩, ⟨8, [56, 52], [], none, false, true, true⟩, ⟨9, [54, 57, 52], [], none, false, false, false⟩, ⟨13, [58, 61, 52], [], none, false, false, false⟩, ⟨14, [52, 62], [], none, false, false, false⟩]
noncomputable def F_impl_IsValidPlan (a0 : Plan) : Option (Bool) :=
  (((F_impl_IsSealable a0.Gr a0.Ct).bind fun z4 =>
  if (!z4) = true then (
  some true) else (
  if decide (a0.Gr.Q ≤ 7) = true then (
  some true) else (
  (F_impl_within a0.Trustees 1 4).bind fun z7 =>
  if (!z7) = true then (
  some true) else (
  (F_impl_within a0.Threshold 1 a0.Trustees).bind fun z9 =>
  if (!z9) = true then (
  some true) else (
  (F_impl_within a0.Mixers 0 3).bind fun z11 =>
  if (!z11) = true then (
  some true) else (
  (F_impl_within a0.Voters 1 12).bind fun z13 =>
  if (!z13) = true then (
  some true) else (
  (F_impl_isDigest a0.Seed).bind fun z15 =>
  some (!z15))))))) : Option (Bool)).bind fun x3 =>
  if x3 = true then (
  some false) else (
  (((F_impl_Contest_isForm a0.Ct).bind fun z20 =>
  if z20 = true then (
  (F_impl_Contest_most a0.Ct).bind fun z22 =>
  some (decide (a0.Gr.Q ≤ (i64.wrap (a0.Voters * z22))))) else (
  some false) : Option (Bool)).bind fun x19 =>
  if x19 = true then (
  some false) else (
  (F_impl_Group_basesOf a0.Gr 12).bind fun z24 =>
  some z24.2))))
theorem c_impl_IsValidPlan : ∀ {a0} {r}, F_impl_IsValidPlan a0 = some r → PCalls Try.prog 26 [(.sh, .agg [.int .i64 a0.Gr.P, .int .i64 a0.Gr.Q, .int .i64 a0.Gr.G, .int .i64 a0.Ct.Kind, .int .i64 a0.Ct.Options, .int .i64 a0.Ct.Least, .int .i64 a0.Ct.Most, .int .i64 a0.Ct.Points, .int .i64 a0.Threshold, .int .i64 a0.Trustees, .int .i64 a0.Mixers, .int .i64 a0.Voters, .int .i64 a0.Seed])] (Eo (.bool r) [.junk]) := by
  intro a0 r hr
  apply pF 71 [] [] [] [.tmp 2] hr cl26 Try.func26
  intro Φ hΦ hF g
  unfold F_impl_IsValidPlan at hF
  try simp [go_sem, g]
  refine pw_wk ?_
  repeat rw [sq]
  refine pJ hF (fun x3 => [(1, .bl [.int .i64 a0.Gr.P, .int .i64 a0.Gr.Q, .int .i64 a0.Gr.G, .int .i64 a0.Ct.Kind, .int .i64 a0.Ct.Options, .int .i64 a0.Ct.Least, .int .i64 a0.Ct.Most, .int .i64 a0.Ct.Points, .int .i64 a0.Threshold, .int .i64 a0.Trustees, .int .i64 a0.Mixers, .int .i64 a0.Voters, .int .i64 a0.Seed]), (48, .v (.bool x3))]) (fun x3 hF => ?_) fun _ hj1 hF => ?_
  ·repeat rw [sq]
   refine pI hF (fun h16 hF => ?_) (fun h16 hF => ?_)
   ·cases hΦ _ (Rn_some hF)
    try simp [go_sem, g]
    refine pw_wk ?_
    try simp [go_sem, g]
   ·try simp [go_sem, g]
    refine pw_wk ?_
    repeat rw [sq]
    refine pJ hF (fun x19 => [(1, .bl [.int .i64 a0.Gr.P, .int .i64 a0.Gr.Q, .int .i64 a0.Gr.G, .int .i64 a0.Ct.Kind, .int .i64 a0.Ct.Options, .int .i64 a0.Ct.Least, .int .i64 a0.Ct.Most, .int .i64 a0.Ct.Points, .int .i64 a0.Threshold, .int .i64 a0.Trustees, .int .i64 a0.Mixers, .int .i64 a0.Voters, .int .i64 a0.Seed]), (63, .v (.bool x19))]) (fun x19 hF => ?_) fun _ hj17 hF => ?_
    ·repeat rw [sq]
     refine pI hF (fun h23 hF => ?_) (fun h23 hF => ?_)
     ·cases hΦ _ (Rn_some hF)
      try simp [go_sem, g]
      refine pw_wk ?_
      try simp [go_sem, g]
     ·try simp [go_sem, g]
      refine pw_wk ?_
      try simp [go_sem, g]
      refine pC hF [.sh, .sh] c_impl_Group_basesOf (fun z24 hF => ?_)
      try simp [go_sem, g]
      refine pw_wkK [4] (by simp [go_sem, g]; rfl) ?_
      cases hΦ _ (Rn_some hF)
      try simp [go_sem, g]
      refine pw_wk ?_
      try simp [go_sem, g]
    ·repeat rw [sq]
     refine pw_draw D26_3 follows (by kernel_rfl) rfl ?_
     try simp only [go_sem, D26_3]
     try simp [go_sem, g]
     refine pC hF [.sh] c_impl_Contest_isForm (fun z20 hF => ?_)
     try simp [go_sem, g]
     refine pwgD_F hF (fun h21 hF => ?_) fun h21 hF => ?_
     ·try simp [go_sem, g, h21]
      refine pC hF [.sh] c_impl_Contest_most (fun z22 hF => ?_)
      try simp [go_sem, g, h21]
      exact pT (hj17 (decide (a0.Gr.Q ≤ (i64.wrap (a0.Voters * z22))))) (Rn_some hF)
     ·try simp [go_sem, g, h21]
      exact pT (hj17 false) (Rn_some hF)
  ·try simp [go_sem, g]
   refine pC hF [.sh, .sh] c_impl_IsSealable (fun z4 hF => ?_)
   try simp [go_sem, g]
   refine pwg_F hF (fun h5 hF => ?_) fun h5 hF => ?_
   ·try simp [go_sem, g, h5]
    exact pT (hj1 true) (Rn_some hF)
   ·try simp [go_sem, g, h5]
    refine pwg_F hF (fun h6 hF => ?_) fun h6 hF => ?_
    ·try simp [go_sem, g, h6]
     exact pT (hj1 true) (Rn_some hF)
    ·try simp [go_sem, g, h6]
     refine pC hF [.sh, .sh, .sh] c_impl_within (fun z7 hF => ?_)
     try simp [go_sem, g, h6]
     refine pwg_F hF (fun h8 hF => ?_) fun h8 hF => ?_
     ·try simp [go_sem, g, h8]
      exact pT (hj1 true) (Rn_some hF)
     ·try simp [go_sem, g, h8]
      refine pC hF [.sh, .sh, .sh] c_impl_within (fun z9 hF => ?_)
      try simp [go_sem, g, h8]
      refine pwg_F hF (fun h10 hF => ?_) fun h10 hF => ?_
      ·try simp [go_sem, g, h10]
       exact pT (hj1 true) (Rn_some hF)
      ·try simp [go_sem, g, h10]
       refine pC hF [.sh, .sh, .sh] c_impl_within (fun z11 hF => ?_)
       try simp [go_sem, g, h10]
       refine pwg_F hF (fun h12 hF => ?_) fun h12 hF => ?_
       ·try simp [go_sem, g, h12]
        exact pT (hj1 true) (Rn_some hF)
       ·try simp [go_sem, g, h12]
        refine pC hF [.sh, .sh, .sh] c_impl_within (fun z13 hF => ?_)
        try simp [go_sem, g, h12]
        refine pwg_F hF (fun h14 hF => ?_) fun h14 hF => ?_
        ·try simp [go_sem, g, h14]
         exact pT (hj1 true) (Rn_some hF)
        ·try simp [go_sem, g, h14]
         refine pC hF [.sh] c_impl_isDigest (fun z15 hF => ?_)
         try simp [go_sem, g, h14]
         exact pT (hj1 (!z15)) (Rn_some hF)
noncomputable def F_impl_Contest_isVote_1_ (a0 : Int) (a1c0 : Int) (a1c1 : Int) (a1c2 : Int) (a1c3 : Int) (a1c4 : Int) : Option (Bool) :=
  (F_impl_within a0 0 a1c4).bind fun z1 =>
  some z1
theorem c_impl_Contest_isVote_1_ : ∀ {a0} {a1c0} {a1c1} {a1c2} {a1c3} {a1c4} {r}, F_impl_Contest_isVote_1_ a0 a1c0 a1c1 a1c2 a1c3 a1c4 = some r → PCalls Try.prog 67 [(.sh, .int .i64 a0), (.sh, .fp [.int .i64 a1c0, .int .i64 a1c1, .int .i64 a1c2, .int .i64 a1c3, .int .i64 a1c4])] (Eo (.bool r) [.junk, .junk]) := by
  intro a0 a1c0 a1c1 a1c2 a1c3 a1c4 r hr
  apply pF 8 [] [] [] [.tmp 3] hr cl67 Try.func67
  intro Φ hΦ hF g
  unfold F_impl_Contest_isVote_1_ at hF
  try simp [go_sem, g]
  refine pw_wk ?_
  try simp [go_sem, g]
  refine pC hF [.sh, .sh, .sh] c_impl_within (fun z1 hF => ?_)
  cases hΦ _ (Rn_some hF)
  try simp [go_sem, g]
  refine pw_wk ?_
  try simp [go_sem, g]
noncomputable def F_impl_areAll_1__impl_Contest_isVote_1 (a0 : Int) (a1c0u0c0 : Int) (a1c0u0c1 : Int) (a1c0u0c2 : Int) (a1c0u0c3 : Int) (a1c0u0c4 : Int) : Option (Bool) :=
  (F_impl_Contest_isVote_1_ a0 a1c0u0c0 a1c0u0c1 a1c0u0c2 a1c0u0c3 a1c0u0c4).bind fun z1 =>
  some (!z1)
theorem c_impl_areAll_1__impl_Contest_isVote_1 : ∀ {a0} {a1c0u0c0} {a1c0u0c1} {a1c0u0c2} {a1c0u0c3} {a1c0u0c4} {r}, F_impl_areAll_1__impl_Contest_isVote_1 a0 a1c0u0c0 a1c0u0c1 a1c0u0c2 a1c0u0c3 a1c0u0c4 = some r → PCalls Try.prog 85 [(.sh, .int .i64 a0), (.sh, .fp [.func (.func 67) [] [.fp [.int .i64 a1c0u0c0, .int .i64 a1c0u0c1, .int .i64 a1c0u0c2, .int .i64 a1c0u0c3, .int .i64 a1c0u0c4]]])] (Eo (.bool r) [.junk, .junk]) := by
  intro a0 a1c0u0c0 a1c0u0c1 a1c0u0c2 a1c0u0c3 a1c0u0c4 r hr
  apply pF 8 [] [] [] [.tmp 3] hr cl85 Try.func85
  intro Φ hΦ hF g
  unfold F_impl_areAll_1__impl_Contest_isVote_1 at hF
  try simp [go_sem, g]
  refine pw_wk ?_
  try simp [go_sem, g]
  refine pC hF [.sh] c_impl_Contest_isVote_1_ (fun z1 hF => ?_)
  cases hΦ _ (Rn_some hF)
  try simp [go_sem, g]
  refine pw_wk ?_
  try simp [go_sem, g]
noncomputable def F_slices_IndexFunc_int_int__impl_areAll_1_impl_Contest_isVote_1 (a0 : (List Int)) (a1u0c0u0c0 : Int) (a1u0c0u0c1 : Int) (a1u0c0u0c2 : Int) (a1u0c0u0c3 : Int) (a1u0c0u0c4 : Int) : Option (Int) :=
  ((rloop (σ := Unit) (fun i5 s4 =>
  (ix a0 i5).bind fun x11 =>
  (F_impl_areAll_1__impl_Contest_isVote_1 x11 a1u0c0u0c0 a1u0c0u0c1 a1u0c0u0c2 a1u0c0u0c3 a1u0c0u0c4).bind fun z12 =>
  if z12 = true then (
  some (.out (.inr i5))) else (
  some (.go ()))) (fun s4 => .inl ()) (a0.length) 0 () : Option (Unit ⊕ Int)).bind (Sum.elim (fun x3 =>
  some (-1)) some))
theorem c_slices_IndexFunc_int_int__impl_areAll_1_impl_Contest_isVote_1 : ∀ {a0} {a1u0c0u0c0} {a1u0c0u0c1} {a1u0c0u0c2} {a1u0c0u0c3} {a1u0c0u0c4} {r}, F_slices_IndexFunc_int_int__impl_areAll_1_impl_Contest_isVote_1 a0 a1u0c0u0c0 a1u0c0u0c1 a1u0c0u0c2 a1u0c0u0c3 a1u0c0u0c4 = some r → PCalls Try.prog 93 [(.sh, .sl false 1 (a0.map row_i64)), (.sh, .func (.func 85) [] [.fp [.func (.func 67) [] [.fp [.int .i64 a1u0c0u0c0, .int .i64 a1u0c0u0c1, .int .i64 a1u0c0u0c2, .int .i64 a1u0c0u0c3, .int .i64 a1u0c0u0c4]]]])] (Eo (.int .i64 r) [.junk, .junk]) := by
  intro a0 a1u0c0u0c0 a1u0c0u0c1 a1u0c0u0c2 a1u0c0u0c3 a1u0c0u0c4 r hr
  apply pF 19 [] [] [] [.tmp 4] hr cl93 Try.func93
  intro Φ hΦ hF g
  unfold F_slices_IndexFunc_int_int__impl_areAll_1_impl_Contest_isVote_1 at hF
  iterate 2 (try simp [go_sem, g]; try intros; refine pw_wk ?_)
  repeat rw [sq]
  refine pJs hF (fun x3 => []) (fun x3 hF => ?_) fun _ hj1 hr2 hF => ?_
  ·cases hΦ _ (Rn_some hF)
   try simp [go_sem, g]
   refine pw_wk ?_
   try simp [go_sem, g]
  ·repeat rw [sq]
   rw [pw_block]
   obtain ⟨b14, hb15, hψ8⟩ := hF
   refine pR hb15 (fun i5 s4 => [(0, .v (.sl false 1 (a0.map row_i64))), (1, .v (.func (.func 85) [] [.fp [.func (.func 67) [] [.fp [.int .i64 a1u0c0u0c0, .int .i64 a1u0c0u0c1, .int .i64 a1u0c0u0c2, .int .i64 a1u0c0u0c3, .int .i64 a1u0c0u0c4]]]])), (7, .v (.int .i64 (a0.length : Int))), (8, .v (.int .i64 i5))]) (fun s4 _ hN16 => ?_) (fun i5 s4 _ _ hi9 hi10 ho6 hg7 hF => ?_)
   ·subst hN16
    try simp [go_sem]
    refine pw_wk ?_
    repeat rw [sq]
    refine pw_cond_f (by simp [go_sem]) ?_
    try simp [go_sem]
    exact pT (hj1 ()) hψ8 (by simp [go_sem])
   ·try simp [go_sem, g]
    refine pw_wk ?_
    repeat rw [sq]
    refine pw_cond_t (by simp [go_sem, g, hi9, hi10]) ?_
    try simp [go_sem, g]
    refine pw_wk ?_
    repeat rw [sq]
    rw [pw_block]
    obtain ⟨x11, g, hF⟩ := Rx g hF
    try simp [go_sem, g]
    refine pw_wk ?_
    try simp [go_sem, g]
    refine pC hF [.sh] c_impl_areAll_1__impl_Contest_isVote_1 (fun z12 hF => ?_)
    try simp [go_sem, g]
    refine pw_wkK [0, 1, 5, 7, 8, 16] (by simp [go_sem, g]; rfl) ?_
    repeat rw [sq]
    refine pI hF (fun h13 hF => ?_) (fun h13 hF => ?_)
    ·cases ho6 _ (Rn_some hF)
     cases hΦ _ (hr2 _ hψ8)
     try simp [go_sem, g]
     refine pw_wk ?_
     try simp [go_sem, g]
    ·try simp [go_sem, g]
     refine pw_wk ?_
     try simp [go_sem, g]
     exact pT (hg7 ()) (Rn_some hF) (by simp [go_sem, g, wr_i hi9 hi10 (by assumption)])
noncomputable def F_slices_ContainsFunc_int_int__impl_areAll_1_impl_Contest_isVote_1 (a0 : (List Int)) (a1u0c0u0c0 : Int) (a1u0c0u0c1 : Int) (a1u0c0u0c2 : Int) (a1u0c0u0c3 : Int) (a1u0c0u0c4 : Int) : Option (Bool) :=
  (F_slices_IndexFunc_int_int__impl_areAll_1_impl_Contest_isVote_1 a0 a1u0c0u0c0 a1u0c0u0c1 a1u0c0u0c2 a1u0c0u0c3 a1u0c0u0c4).bind fun z1 =>
  some (decide (0 ≤ z1))
theorem c_slices_ContainsFunc_int_int__impl_areAll_1_impl_Contest_isVote_1 : ∀ {a0} {a1u0c0u0c0} {a1u0c0u0c1} {a1u0c0u0c2} {a1u0c0u0c3} {a1u0c0u0c4} {r}, F_slices_ContainsFunc_int_int__impl_areAll_1_impl_Contest_isVote_1 a0 a1u0c0u0c0 a1u0c0u0c1 a1u0c0u0c2 a1u0c0u0c3 a1u0c0u0c4 = some r → PCalls Try.prog 84 [(.sh, .sl false 1 (a0.map row_i64)), (.sh, .func (.func 85) [] [.fp [.func (.func 67) [] [.fp [.int .i64 a1u0c0u0c0, .int .i64 a1u0c0u0c1, .int .i64 a1u0c0u0c2, .int .i64 a1u0c0u0c3, .int .i64 a1u0c0u0c4]]]])] (Eo (.bool r) [.junk, .junk]) := by
  intro a0 a1u0c0u0c0 a1u0c0u0c1 a1u0c0u0c2 a1u0c0u0c3 a1u0c0u0c4 r hr
  apply pF 9 [] [] [] [.tmp 4] hr cl84 Try.func84
  intro Φ hΦ hF g
  unfold F_slices_ContainsFunc_int_int__impl_areAll_1_impl_Contest_isVote_1 at hF
  try simp [go_sem, g]
  refine pw_wk ?_
  try simp [go_sem, g]
  refine pC hF [.sh, .sh] c_slices_IndexFunc_int_int__impl_areAll_1_impl_Contest_isVote_1 (fun z1 hF => ?_)
  cases hΦ _ (Rn_some hF)
  try simp [go_sem, g]
  refine pw_wk ?_
  try simp [go_sem, g]
noncomputable def F_impl_areAll__impl_Contest_isVote_1 (a0 : (List Int)) (a1u0c0 : Int) (a1u0c1 : Int) (a1u0c2 : Int) (a1u0c3 : Int) (a1u0c4 : Int) : Option (Bool) :=
  (F_slices_ContainsFunc_int_int__impl_areAll_1_impl_Contest_isVote_1 a0 a1u0c0 a1u0c1 a1u0c2 a1u0c3 a1u0c4).bind fun z1 =>
  some (!z1)
theorem c_impl_areAll__impl_Contest_isVote_1 : ∀ {a0} {a1u0c0} {a1u0c1} {a1u0c2} {a1u0c3} {a1u0c4} {r}, F_impl_areAll__impl_Contest_isVote_1 a0 a1u0c0 a1u0c1 a1u0c2 a1u0c3 a1u0c4 = some r → PCalls Try.prog 66 [(.sh, .sl false 1 (a0.map row_i64)), (.sh, .func (.func 67) [] [.fp [.int .i64 a1u0c0, .int .i64 a1u0c1, .int .i64 a1u0c2, .int .i64 a1u0c3, .int .i64 a1u0c4]])] (Eo (.bool r) [.junk, .junk]) := by
  intro a0 a1u0c0 a1u0c1 a1u0c2 a1u0c3 a1u0c4 r hr
  apply pF 9 [] [] [1000000] [.tmp 4] hr cl66 Try.func66
  intro Φ hΦ hF g
  unfold F_impl_areAll__impl_Contest_isVote_1 at hF
  try simp [go_sem, g]
  refine pw_wk ?_
  try simp [go_sem, g]
  refine pC hF [.sh, .sh] c_slices_ContainsFunc_int_int__impl_areAll_1_impl_Contest_isVote_1 (fun z1 hF => ?_)
  cases hΦ _ (Rn_some hF)
  try simp [go_sem, g]
  refine pw_wk ?_
  try simp [go_sem, g]
noncomputable def F_impl_Contest_isVote_2_ (a0 : Int) (a1c0 : Int) (a2c0 : Int) : Option (Bool) :=
  (F_impl_within a0 a1c0 a2c0).bind fun z1 =>
  some z1
theorem c_impl_Contest_isVote_2_ : ∀ {a0} {a1c0} {a2c0} {r}, F_impl_Contest_isVote_2_ a0 a1c0 a2c0 = some r → PCalls Try.prog 68 [(.sh, .int .i64 a0), (.sh, .fp [.int .i64 a1c0]), (.sh, .fp [.int .i64 a2c0])] (Eo (.bool r) [.junk, .junk, .junk]) := by
  intro a0 a1c0 a2c0 r hr
  apply pF 9 [] [] [] [.tmp 4] hr cl68 Try.func68
  intro Φ hΦ hF g
  unfold F_impl_Contest_isVote_2_ at hF
  try simp [go_sem, g]
  refine pw_wk ?_
  try simp [go_sem, g]
  refine pC hF [.sh, .sh, .sh] c_impl_within (fun z1 hF => ?_)
  cases hΦ _ (Rn_some hF)
  try simp [go_sem, g]
  refine pw_wk ?_
  try simp [go_sem, g]
noncomputable def F_impl_areAll_1__impl_Contest_isVote_2 (a0 : Int) (a1c0u0c0 : Int) (a1c0u1c0 : Int) : Option (Bool) :=
  (F_impl_Contest_isVote_2_ a0 a1c0u0c0 a1c0u1c0).bind fun z1 =>
  some (!z1)
theorem c_impl_areAll_1__impl_Contest_isVote_2 : ∀ {a0} {a1c0u0c0} {a1c0u1c0} {r}, F_impl_areAll_1__impl_Contest_isVote_2 a0 a1c0u0c0 a1c0u1c0 = some r → PCalls Try.prog 85 [(.sh, .int .i64 a0), (.sh, .fp [.func (.func 68) [] [.fp [.int .i64 a1c0u0c0], .fp [.int .i64 a1c0u1c0]]])] (Eo (.bool r) [.junk, .junk]) := by
  intro a0 a1c0u0c0 a1c0u1c0 r hr
  apply pF 8 [] [] [] [.tmp 3] hr cl85 Try.func85
  intro Φ hΦ hF g
  unfold F_impl_areAll_1__impl_Contest_isVote_2 at hF
  try simp [go_sem, g]
  refine pw_wk ?_
  try simp [go_sem, g]
  refine pC hF [.sh] c_impl_Contest_isVote_2_ (fun z1 hF => ?_)
  cases hΦ _ (Rn_some hF)
  try simp [go_sem, g]
  refine pw_wk ?_
  try simp [go_sem, g]
noncomputable def F_slices_IndexFunc_int_int__impl_areAll_1_impl_Contest_isVote_2 (a0 : (List Int)) (a1u0c0u0c0 : Int) (a1u0c0u1c0 : Int) : Option (Int) :=
  ((rloop (σ := Unit) (fun i5 s4 =>
  (ix a0 i5).bind fun x11 =>
  (F_impl_areAll_1__impl_Contest_isVote_2 x11 a1u0c0u0c0 a1u0c0u1c0).bind fun z12 =>
  if z12 = true then (
  some (.out (.inr i5))) else (
  some (.go ()))) (fun s4 => .inl ()) (a0.length) 0 () : Option (Unit ⊕ Int)).bind (Sum.elim (fun x3 =>
  some (-1)) some))
theorem c_slices_IndexFunc_int_int__impl_areAll_1_impl_Contest_isVote_2 : ∀ {a0} {a1u0c0u0c0} {a1u0c0u1c0} {r}, F_slices_IndexFunc_int_int__impl_areAll_1_impl_Contest_isVote_2 a0 a1u0c0u0c0 a1u0c0u1c0 = some r → PCalls Try.prog 93 [(.sh, .sl false 1 (a0.map row_i64)), (.sh, .func (.func 85) [] [.fp [.func (.func 68) [] [.fp [.int .i64 a1u0c0u0c0], .fp [.int .i64 a1u0c0u1c0]]]])] (Eo (.int .i64 r) [.junk, .junk]) := by
  intro a0 a1u0c0u0c0 a1u0c0u1c0 r hr
  apply pF 19 [] [] [] [.tmp 4] hr cl93 Try.func93
  intro Φ hΦ hF g
  unfold F_slices_IndexFunc_int_int__impl_areAll_1_impl_Contest_isVote_2 at hF
  iterate 2 (try simp [go_sem, g]; try intros; refine pw_wk ?_)
  repeat rw [sq]
  refine pJs hF (fun x3 => []) (fun x3 hF => ?_) fun _ hj1 hr2 hF => ?_
  ·cases hΦ _ (Rn_some hF)
   try simp [go_sem, g]
   refine pw_wk ?_
   try simp [go_sem, g]
  ·repeat rw [sq]
   rw [pw_block]
   obtain ⟨b14, hb15, hψ8⟩ := hF
   refine pR hb15 (fun i5 s4 => [(0, .v (.sl false 1 (a0.map row_i64))), (1, .v (.func (.func 85) [] [.fp [.func (.func 68) [] [.fp [.int .i64 a1u0c0u0c0], .fp [.int .i64 a1u0c0u1c0]]]])), (7, .v (.int .i64 (a0.length : Int))), (8, .v (.int .i64 i5))]) (fun s4 _ hN16 => ?_) (fun i5 s4 _ _ hi9 hi10 ho6 hg7 hF => ?_)
   ·subst hN16
    try simp [go_sem]
    refine pw_wk ?_
    repeat rw [sq]
    refine pw_cond_f (by simp [go_sem]) ?_
    try simp [go_sem]
    exact pT (hj1 ()) hψ8 (by simp [go_sem])
   ·try simp [go_sem, g]
    refine pw_wk ?_
    repeat rw [sq]
    refine pw_cond_t (by simp [go_sem, g, hi9, hi10]) ?_
    try simp [go_sem, g]
    refine pw_wk ?_
    repeat rw [sq]
    rw [pw_block]
    obtain ⟨x11, g, hF⟩ := Rx g hF
    try simp [go_sem, g]
    refine pw_wk ?_
    try simp [go_sem, g]
    refine pC hF [.sh] c_impl_areAll_1__impl_Contest_isVote_2 (fun z12 hF => ?_)
    try simp [go_sem, g]
    refine pw_wkK [0, 1, 5, 7, 8, 16] (by simp [go_sem, g]; rfl) ?_
    repeat rw [sq]
    refine pI hF (fun h13 hF => ?_) (fun h13 hF => ?_)
    ·cases ho6 _ (Rn_some hF)
     cases hΦ _ (hr2 _ hψ8)
     try simp [go_sem, g]
     refine pw_wk ?_
     try simp [go_sem, g]
    ·try simp [go_sem, g]
     refine pw_wk ?_
     try simp [go_sem, g]
     exact pT (hg7 ()) (Rn_some hF) (by simp [go_sem, g, wr_i hi9 hi10 (by assumption)])
noncomputable def F_slices_ContainsFunc_int_int__impl_areAll_1_impl_Contest_isVote_2 (a0 : (List Int)) (a1u0c0u0c0 : Int) (a1u0c0u1c0 : Int) : Option (Bool) :=
  (F_slices_IndexFunc_int_int__impl_areAll_1_impl_Contest_isVote_2 a0 a1u0c0u0c0 a1u0c0u1c0).bind fun z1 =>
  some (decide (0 ≤ z1))
theorem c_slices_ContainsFunc_int_int__impl_areAll_1_impl_Contest_isVote_2 : ∀ {a0} {a1u0c0u0c0} {a1u0c0u1c0} {r}, F_slices_ContainsFunc_int_int__impl_areAll_1_impl_Contest_isVote_2 a0 a1u0c0u0c0 a1u0c0u1c0 = some r → PCalls Try.prog 84 [(.sh, .sl false 1 (a0.map row_i64)), (.sh, .func (.func 85) [] [.fp [.func (.func 68) [] [.fp [.int .i64 a1u0c0u0c0], .fp [.int .i64 a1u0c0u1c0]]]])] (Eo (.bool r) [.junk, .junk]) := by
  intro a0 a1u0c0u0c0 a1u0c0u1c0 r hr
  apply pF 9 [] [] [] [.tmp 4] hr cl84 Try.func84
  intro Φ hΦ hF g
  unfold F_slices_ContainsFunc_int_int__impl_areAll_1_impl_Contest_isVote_2 at hF
  try simp [go_sem, g]
  refine pw_wk ?_
  try simp [go_sem, g]
  refine pC hF [.sh, .sh] c_slices_IndexFunc_int_int__impl_areAll_1_impl_Contest_isVote_2 (fun z1 hF => ?_)
  cases hΦ _ (Rn_some hF)
  try simp [go_sem, g]
  refine pw_wk ?_
  try simp [go_sem, g]
noncomputable def F_impl_areAll__impl_Contest_isVote_2 (a0 : (List Int)) (a1u0c0 : Int) (a1u1c0 : Int) : Option (Bool) :=
  (F_slices_ContainsFunc_int_int__impl_areAll_1_impl_Contest_isVote_2 a0 a1u0c0 a1u1c0).bind fun z1 =>
  some (!z1)
theorem c_impl_areAll__impl_Contest_isVote_2 : ∀ {a0} {a1u0c0} {a1u1c0} {r}, F_impl_areAll__impl_Contest_isVote_2 a0 a1u0c0 a1u1c0 = some r → PCalls Try.prog 66 [(.sh, .sl false 1 (a0.map row_i64)), (.sh, .func (.func 68) [] [.fp [.int .i64 a1u0c0], .fp [.int .i64 a1u1c0]])] (Eo (.bool r) [.junk, .junk]) := by
  intro a0 a1u0c0 a1u1c0 r hr
  apply pF 9 [] [] [1000000] [.tmp 4] hr cl66 Try.func66
  intro Φ hΦ hF g
  unfold F_impl_areAll__impl_Contest_isVote_2 at hF
  try simp [go_sem, g]
  refine pw_wk ?_
  try simp [go_sem, g]
  refine pC hF [.sh, .sh] c_slices_ContainsFunc_int_int__impl_areAll_1_impl_Contest_isVote_2 (fun z1 hF => ?_)
  cases hΦ _ (Rn_some hF)
  try simp [go_sem, g]
  refine pw_wk ?_
  try simp [go_sem, g]
noncomputable def F_cmp_isNaN_int (a0 : Int) : Option (Bool) :=
  some (a0 != a0)
theorem c_cmp_isNaN_int : ∀ {a0} {r}, F_cmp_isNaN_int a0 = some r → PCalls Try.prog 94 [(.sh, .int .i64 a0)] (Eo (.bool r) [.junk]) := by
  intro a0 r hr
  apply pF 6 [] [] [] [.tmp 2] hr cl94 Try.func94
  intro Φ hΦ hF g
  unfold F_cmp_isNaN_int at hF
  cases hΦ _ (Rn_some hF)
  iterate 2 (try simp [go_sem, g]; refine pw_wk ?_)
  try simp [go_sem, g]
noncomputable def F_cmp_Less_int (a0 : Int) (a1 : Int) : Option (Bool) :=
  (((F_cmp_isNaN_int a0).bind fun z4 =>
  if z4 = true then (
  (F_cmp_isNaN_int a1).bind fun z6 =>
  if (!z6) = true then (
  some true) else (
  some (decide (a0 < a1)))) else (
  some (decide (a0 < a1))) : Option (Bool)).bind fun x3 =>
  some x3)
theorem c_cmp_Less_int : ∀ {a0} {a1} {r}, F_cmp_Less_int a0 a1 = some r → PCalls Try.prog 86 [(.sh, .int .i64 a0), (.sh, .int .i64 a1)] (Eo (.bool r) [.junk, .junk]) := by
  intro a0 a1 r hr
  apply pF 17 [] [] [] [.tmp 4] hr cl86 Try.func86
  intro Φ hΦ hF g
  unfold F_cmp_Less_int at hF
  try simp [go_sem, g]
  refine pw_wk ?_
  repeat rw [sq]
  refine pJ hF (fun x3 => [(4, .v (.bool x3))]) (fun x3 hF => ?_) fun _ hj1 hF => ?_
  ·cases hΦ _ (Rn_some hF)
   try simp [go_sem, g]
  ·try simp [go_sem, g]
   refine pC hF [.sh] c_cmp_isNaN_int (fun z4 hF => ?_)
   try simp [go_sem, g]
   refine pwg_F hF (fun h5 hF => ?_) fun h5 hF => ?_
   ·try simp [go_sem, g, h5]
    refine pC hF [.sh] c_cmp_isNaN_int (fun z6 hF => ?_)
    try simp [go_sem, g, h5]
    refine pwg_F hF (fun h7 hF => ?_) fun h7 hF => ?_
    ·try simp [go_sem, g, h7]
     exact pT (hj1 true) (Rn_some hF)
    ·try simp [go_sem, g, h7]
     exact pT (hj1 (decide (a0 < a1))) (Rn_some hF)
   ·try simp [go_sem, g, h5]
    exact pT (hj1 (decide (a0 < a1))) (Rn_some hF)
def D69_4 : List DE := [⟨0, [0], [], none, false, false, false⟩, ⟨1, [3], [], none, false, false, false⟩, ⟨2, [11, 12], [], none, false, false, false⟩, ⟨3, [13], [], none, false, false, false⟩, ⟨4, [0], [], none, false, false, false⟩, ⟨5, [3], [], none, false, false, false⟩, ⟨6, [16], [], none, false, false, false⟩, ⟨7, [15, 17], [], none, false, false, false⟩, ⟨8, [18], [], none, false, false, false⟩, ⟨9, [14, 19], [], none, false, true, true⟩]
noncomputable def F_slices_IsSorted_int_int (a0 : (List Int)) : Option (Bool) :=
  ((wloop (σ := Int) (fun s4 =>
  if decide (0 < s4) = true then (
  (ix a0 s4).bind fun x10 =>
  (ix a0 (i64.wrap (s4 - 1))).bind fun x11 =>
  (F_cmp_Less_int x10 x11).bind fun z12 =>
  if z12 = true then (
  some (.out (.inr false))) else (
  some (.go (i64.wrap (s4 - 1))))) else (
  some (.out (.inl ())))) (i64.wrap ((a0.length : Int) - 1)) : Option (Unit ⊕ Bool)).bind (Sum.elim (fun x3 =>
  some true) some))
theorem c_slices_IsSorted_int_int : ∀ {a0} {r}, F_slices_IsSorted_int_int a0 = some r → PCalls Try.prog 69 [(.sh, .sl false 1 (a0.map row_i64))] (Eo (.bool r) [.junk]) := by
  intro a0 r hr
  apply pF 21 [] [] [] [.tmp 2] hr cl69 Try.func69
  intro Φ hΦ hF g
  unfold F_slices_IsSorted_int_int at hF
  iterate 2 (try simp [go_sem, g]; try intros; refine pw_wk ?_)
  repeat rw [sq]
  refine pJs hF (fun x3 => []) (fun x3 hF => ?_) fun _ hj1 hr2 hF => ?_
  ·cases hΦ _ (Rn_some hF)
   try simp [go_sem, g]
   refine pw_wk ?_
   try simp [go_sem, g]
  ·repeat rw [sq]
   rw [pw_block]
   obtain ⟨b14, hb15, hψ8⟩ := hF
   refine pL hb15 (fun s4 => [(0, .v (.sl false 1 (a0.map row_i64))), (3, .v (.int .i64 s4))]) (fun s4 _ _ ho6 hg7 hF => ?_)
   try simp [go_sem, g]
   refine pw_wk ?_
   repeat rw [sq]
   refine pI hF (fun h9 hF => ?_) (fun h9 hF => ?_)
   ·try simp [go_sem, g]
    refine pw_wk ?_
    repeat rw [sq]
    rw [pw_block]
    repeat rw [sq]
    refine pw_draw D69_4 follows (by kernel_rfl) rfl ?_
    try simp only [go_sem, D69_4]
    obtain ⟨x10, g, hF⟩ := Rx g hF
    obtain ⟨x11, g, hF⟩ := Rx g hF
    try simp [go_sem, g]
    refine pC hF [.sh, .sh] c_cmp_Less_int (fun z12 hF => ?_)
    try simp [go_sem, g]
    refine pw_wkK [0, 3, 20] (by simp [go_sem, g]; rfl) ?_
    repeat rw [sq]
    refine pI hF (fun h13 hF => ?_) (fun h13 hF => ?_)
    ·cases ho6 _ (Rn_some hF)
     cases hΦ _ (hr2 _ hψ8)
     try simp [go_sem, g]
     refine pw_wk ?_
     try simp [go_sem, g]
    ·try simp [go_sem, g]
     refine pw_wk ?_
     try simp [go_sem, g]
     exact pT (hg7 (i64.wrap (s4 - 1))) (Rn_some hF)
   ·try simp [go_sem, g]
    cases ho6 _ (Rn_some hF)
    exact pT (hj1 ()) hψ8
noncomputable def F_slices_Index_int_int (a0 : (List Int)) (a1 : Int) : Option (Int) :=
  ((rloop (σ := Unit) (fun i5 s4 =>
  (ix a0 i5).bind fun x11 =>
  if (a1 == x11) = true then (
  some (.out (.inr i5))) else (
  some (.go ()))) (fun s4 => .inl ()) (a0.length) 0 () : Option (Unit ⊕ Int)).bind (Sum.elim (fun x3 =>
  some (-1)) some))
theorem c_slices_Index_int_int : ∀ {a0} {a1} {r}, F_slices_Index_int_int a0 a1 = some r → PCalls Try.prog 95 [(.sh, .sl false 1 (a0.map row_i64)), (.sh, .int .i64 a1)] (Eo (.int .i64 r) [.junk, .junk]) := by
  intro a0 a1 r hr
  apply pF 19 [] [] [] [.tmp 4] hr cl95 Try.func95
  intro Φ hΦ hF g
  unfold F_slices_Index_int_int at hF
  iterate 2 (try simp [go_sem, g]; try intros; refine pw_wk ?_)
  repeat rw [sq]
  refine pJs hF (fun x3 => []) (fun x3 hF => ?_) fun _ hj1 hr2 hF => ?_
  ·cases hΦ _ (Rn_some hF)
   try simp [go_sem, g]
   refine pw_wk ?_
   try simp [go_sem, g]
  ·repeat rw [sq]
   rw [pw_block]
   obtain ⟨b13, hb14, hψ8⟩ := hF
   refine pR hb14 (fun i5 s4 => [(0, .v (.sl false 1 (a0.map row_i64))), (1, .v (.int .i64 a1)), (7, .v (.int .i64 (a0.length : Int))), (8, .v (.int .i64 i5))]) (fun s4 _ hN15 => ?_) (fun i5 s4 _ _ hi9 hi10 ho6 hg7 hF => ?_)
   ·subst hN15
    try simp [go_sem]
    refine pw_wk ?_
    repeat rw [sq]
    refine pw_cond_f (by simp [go_sem]) ?_
    try simp [go_sem]
    exact pT (hj1 ()) hψ8 (by simp [go_sem])
   ·try simp [go_sem, g]
    refine pw_wk ?_
    repeat rw [sq]
    refine pw_cond_t (by simp [go_sem, g, hi9, hi10]) ?_
    try simp [go_sem, g]
    refine pw_wk ?_
    repeat rw [sq]
    rw [pw_block]
    obtain ⟨x11, g, hF⟩ := Rx g hF
    try simp [go_sem, g]
    refine pw_wk ?_
    try simp [go_sem, g]
    refine pw_wkK [0, 1, 5, 7, 8, 16] (by simp [go_sem, g]; rfl) ?_
    repeat rw [sq]
    refine pI hF (fun h12 hF => ?_) (fun h12 hF => ?_)
    ·cases ho6 _ (Rn_some hF)
     cases hΦ _ (hr2 _ hψ8)
     try simp [go_sem, g]
     refine pw_wk ?_
     try simp [go_sem, g]
    ·try simp [go_sem, g]
     refine pw_wk ?_
     try simp [go_sem, g]
     exact pT (hg7 ()) (Rn_some hF) (by simp [go_sem, g, wr_i hi9 hi10 (by assumption)])
noncomputable def F_slices_Contains_int_int (a0 : (List Int)) (a1 : Int) : Option (Bool) :=
  (F_slices_Index_int_int a0 a1).bind fun z1 =>
  some (decide (0 ≤ z1))
theorem c_slices_Contains_int_int : ∀ {a0} {a1} {r}, F_slices_Contains_int_int a0 a1 = some r → PCalls Try.prog 87 [(.sh, .sl false 1 (a0.map row_i64)), (.sh, .int .i64 a1)] (Eo (.bool r) [.junk, .junk]) := by
  intro a0 a1 r hr
  apply pF 9 [] [] [] [.tmp 4] hr cl87 Try.func87
  intro Φ hΦ hF g
  unfold F_slices_Contains_int_int at hF
  try simp [go_sem, g]
  refine pw_wk ?_
  try simp [go_sem, g]
  refine pC hF [.sh, .sh] c_slices_Index_int_int (fun z1 hF => ?_)
  cases hΦ _ (Rn_some hF)
  try simp [go_sem, g]
  refine pw_wk ?_
  try simp [go_sem, g]
noncomputable def F_impl_areDifferent (a0 : (List Int)) : Option (Bool) :=
  ((rloop (σ := Unit) (fun i5 s4 =>
  (ix a0 i5).bind fun x11 =>
  gd (0 ≤ i5) <|
  gd (0 ≤ i5.toNat ∧ i5.toNat ≤ a0.length) <|
  (F_slices_Contains_int_int ((a0.take i5.toNat).drop 0) x11).bind fun z12 =>
  if z12 = true then (
  some (.out (.inr false))) else (
  some (.go ()))) (fun s4 => .inl ()) (a0.length) 0 () : Option (Unit ⊕ Bool)).bind (Sum.elim (fun x3 =>
  some true) some))
theorem c_impl_areDifferent : ∀ {a0} {r}, F_impl_areDifferent a0 = some r → PCalls Try.prog 70 [(.sh, .sl false 1 (a0.map row_i64))] (Eo (.bool r) [.junk]) := by
  intro a0 r hr
  apply pF 18 [] [] [] [.tmp 2] hr cl70 Try.func70
  intro Φ hΦ hF g
  unfold F_impl_areDifferent at hF
  iterate 2 (try simp [go_sem, g]; try intros; refine pw_wk ?_)
  repeat rw [sq]
  refine pJs hF (fun x3 => []) (fun x3 hF => ?_) fun _ hj1 hr2 hF => ?_
  ·cases hΦ _ (Rn_some hF)
   try simp [go_sem, g]
   refine pw_wk ?_
   try simp [go_sem, g]
  ·repeat rw [sq]
   rw [pw_block]
   obtain ⟨b14, hb15, hψ8⟩ := hF
   refine pR hb15 (fun i5 s4 => [(0, .v (.sl false 1 (a0.map row_i64))), (5, .v (.sl false 1 (a0.map row_i64))), (6, .v (.int .i64 (a0.length : Int))), (7, .v (.int .i64 i5))]) (fun s4 _ hN16 => ?_) (fun i5 s4 _ _ hi9 hi10 ho6 hg7 hF => ?_)
   ·subst hN16
    try simp [go_sem]
    refine pw_wk ?_
    repeat rw [sq]
    refine pw_cond_f (by simp [go_sem]) ?_
    try simp [go_sem]
    exact pT (hj1 ()) hψ8 (by simp [go_sem])
   ·try simp [go_sem, g]
    refine pw_wk ?_
    repeat rw [sq]
    refine pw_cond_t (by simp [go_sem, g, hi9, hi10]) ?_
    try simp [go_sem, g]
    refine pw_wk ?_
    repeat rw [sq]
    rw [pw_block]
    obtain ⟨x11, g, hF⟩ := Rx g hF
    try simp [go_sem, g]
    refine pw_wkK [0, 3, 4, 5, 6, 7] (by simp [go_sem, g]; rfl) ?_
    obtain ⟨g, hF⟩ := Rg g hF
    obtain ⟨g, hF⟩ := Rg g hF
    try simp [go_sem, g]
    refine pC hF [.sh, .sh] c_slices_Contains_int_int (fun z12 hF => ?_)
    try simp [go_sem, g]
    refine pw_wk ?_
    repeat rw [sq]
    refine pI hF (fun h13 hF => ?_) (fun h13 hF => ?_)
    ·cases ho6 _ (Rn_some hF)
     cases hΦ _ (hr2 _ hψ8)
     try simp [go_sem, g]
     refine pw_wk ?_
     try simp [go_sem, g]
    ·try simp [go_sem, g]
     refine pw_wk ?_
     try simp [go_sem, g]
     exact pT (hg7 ()) (Rn_some hF) (by simp [go_sem, g, wr_i hi9 hi10 (by assumption)])
def D48_1x1 : List DE := [⟨0, [1], [], none, false, false, false⟩, ⟨1, [10], [], none, false, false, false⟩, ⟨2, [2], [], none, false, false, false⟩, ⟨3, [12], [], none, false, false, false⟩, ⟨4, [13], [], none, false, false, false⟩, ⟨5, [], [], none, false, false, false⟩, ⟨6, [], [], none, false, false, false⟩, ⟨7, [11], [], none, false, false, false⟩, ⟨8, [6], [6], some 6, false, false, false⟩, ⟨9, [7, 14], [7], some 7, false, false, false⟩]
def D48_6 : List DE := [⟨0, [2], [], none, false, false, false⟩, ⟨1, [30], [], none, false, false, false⟩, ⟨2, [], [], none, false, false, false⟩, ⟨3, [6], [6], some 6, false, false, false⟩, ⟨4, [7, 31], [7], some 7, false, false, false⟩]
noncomputable def F_impl_Contest_isVote (a0 : Contest) (a1 : (List Int)) : Option (Bool) :=
  ((if (a0.Kind == 2) = true then (
  ((if ((a1.length : Int) != a0.Options) = true then (
  some true) else (
  (F_impl_areAll__impl_Contest_isVote_1 a1 a0.Kind a0.Options a0.Least a0.Most a0.Points).bind fun z9 =>
  some (!z9)) : Option (Bool)).bind fun x7 =>
  if x7 = true then (
  some (.inr false)) else (
  rloop (σ := Int) (fun i12 s11 =>
  (ix a1 i12).bind fun x18 =>
  some (.go (i64.wrap (s11 + x18)))) (fun s11 => .inl (s11, 0, a0.Points)) (a1.length) 0 0))) else (
  if (a0.Kind == 4) = true then (
  some (.inl ((a1.length : Int), 1, 26))) else (
  some (.inl ((a1.length : Int), 0, i64.wrap (a0.Options - 1))))) : Option ((Int × Int × Int) ⊕ Bool)).bind (Sum.elim (fun x3 =>
  (((F_impl_within x3.1 a0.Least a0.Most).bind fun z27 =>
  if (!z27) = true then (
  some true) else (
  (F_impl_areAll__impl_Contest_isVote_2 a1 x3.2.1 x3.2.2).bind fun z29 =>
  some (!z29)) : Option (Bool)).bind fun x26 =>
  if x26 = true then (
  some false) else (
  if (a0.Kind == 1) = true then (
  (((F_slices_IsSorted_int_int a1).bind fun z35 =>
  if z35 = true then (
  (F_impl_areDifferent a1).bind fun z37 =>
  some z37) else (
  some false) : Option (Bool)).bind fun x34 =>
  some x34)) else (
  if (a0.Kind == 3) = true then (
  (F_impl_areDifferent a1).bind fun z39 =>
  some z39) else (
  some true))))) some))
theorem c_impl_Contest_isVote : ∀ {a0} {a1} {r}, F_impl_Contest_isVote a0 a1 = some r → PCalls Try.prog 48 [(.sh, .agg [.int .i64 a0.Kind, .int .i64 a0.Options, .int .i64 a0.Least, .int .i64 a0.Most, .int .i64 a0.Points]), (.sh, .sl false 1 (a1.map row_i64))] (Eo (.bool r) [.junk, .junk]) := by
  intro a0 a1 r hr
  apply pF 71 [] [2] [2, 1000000] [.tmp 4] hr cl48 Try.func48
  intro Φ hΦ hF g
  unfold F_impl_Contest_isVote at hF
  try simp [go_sem, g]
  refine pw_wk ?_
  repeat rw [sq]
  refine pw_draw D48_1x1 follows (by kernel_rfl) rfl ?_
  try simp only [go_sem, D48_1x1]
  try simp [go_sem, g]
  try intros
  refine pw_wkK [1, 2, 5, 6, 7] (by simp [go_sem, g]; rfl) ?_
  try simp [go_sem, g]
  refine pw_wk ?_
  repeat rw [sq]
  refine pJs hF (fun x3 => [(1, .v (.sl false 1 (a1.map row_i64))), (2, .v (.fp [.int .i64 a0.Kind, .int .i64 a0.Options, .int .i64 a0.Least, .int .i64 a0.Most, .int .i64 a0.Points])), (5, .v (.int .i64 x3.1)), (6, .bl [.int .i64 x3.2.1]), (7, .bl [.int .i64 x3.2.2])]) (fun x3 hF => ?_) fun _ hj1 hr2 hF => ?_
  ·repeat rw [sq]
   refine pJ hF (fun x26 => [(1, .v (.sl false 1 (a1.map row_i64))), (2, .v (.fp [.int .i64 a0.Kind, .int .i64 a0.Options, .int .i64 a0.Least, .int .i64 a0.Most, .int .i64 a0.Points])), (56, .v (.bool x26))]) (fun x26 hF => ?_) fun _ hj24 hF => ?_
   ·repeat rw [sq]
    refine pI hF (fun h30 hF => ?_) (fun h30 hF => ?_)
    ·cases hΦ _ (Rn_some hF)
     try simp [go_sem, g]
     refine pw_wk ?_
     try simp [go_sem, g]
    ·iterate 2 (try simp [go_sem, g]; refine pw_wk ?_)
     repeat rw [sq]
     rw [pw_block]
     try simp [go_sem, g]
     refine pw_wk ?_
     repeat rw [sq]
     refine pI hF (fun h31 hF => ?_) (fun h31 hF => ?_)
     ·repeat rw [sq]
      refine pJ hF (fun x34 => [(4, .v (.bool x34))]) (fun x34 hF => ?_) fun _ hj32 hF => ?_
      ·cases hΦ _ (Rn_some hF)
       try simp [go_sem, g]
      ·try simp [go_sem, g]
       refine pC hF [.sh] c_slices_IsSorted_int_int (fun z35 hF => ?_)
       try simp [go_sem, g]
       refine pwg_F hF (fun h36 hF => ?_) fun h36 hF => ?_
       ·try simp [go_sem, g, h36]
        refine pC hF [.sh] c_impl_areDifferent (fun z37 hF => ?_)
        try simp [go_sem, g, h36]
        exact pT (hj32 z37) (Rn_some hF)
       ·try simp [go_sem, g, h36]
        exact pT (hj32 false) (Rn_some hF)
     ·try simp [go_sem, g]
      refine pw_wk ?_
      repeat rw [sq]
      refine pI hF (fun h38 hF => ?_) (fun h38 hF => ?_)
      ·try simp [go_sem, g]
       refine pC hF [.sh] c_impl_areDifferent (fun z39 hF => ?_)
       try simp [go_sem, g]
       refine pw_wkK [4] (by simp [go_sem, g]; rfl) ?_
       cases hΦ _ (Rn_some hF)
       try simp [go_sem, g]
      ·cases hΦ _ (Rn_some hF)
       iterate 2 (try simp [go_sem, g]; refine pw_wk ?_)
       try simp [go_sem, g]
   ·try simp [go_sem, g]
    refine pC hF [.sh, .sh, .sh] c_impl_within (fun z27 hF => ?_)
    try simp [go_sem, g]
    refine pwg_F hF (fun h28 hF => ?_) fun h28 hF => ?_
    ·try simp [go_sem, g, h28]
     exact pT (hj24 true) (Rn_some hF)
    ·try simp [go_sem, g, h28]
     refine pC hF [.sh, .sh] c_impl_areAll__impl_Contest_isVote_2 (fun z29 hF => ?_)
     try simp [go_sem, g, h28]
     exact pT (hj24 (!z29)) (Rn_some hF)
  ·repeat rw [sq]
   rw [pw_block]
   try simp [go_sem, g]
   refine pw_wk ?_
   repeat rw [sq]
   refine pI hF (fun h4 hF => ?_) (fun h4 hF => ?_)
   ·repeat rw [sq]
    refine pJ hF (fun x7 => [(1, .v (.sl false 1 (a1.map row_i64))), (2, .v (.fp [.int .i64 a0.Kind, .int .i64 a0.Options, .int .i64 a0.Least, .int .i64 a0.Most, .int .i64 a0.Points])), (6, .bl [.int .i64 0]), (7, .bl [.int .i64 (i64.wrap (a0.Options - 1))]), (29, .v (.bool x7))]) (fun x7 hF => ?_) fun _ hj5 hF => ?_
    ·repeat rw [sq]
     refine pI hF (fun h10 hF => ?_) (fun h10 hF => ?_)
     ·cases hΦ _ (hr2 _ (Rn_some hF))
      try simp [go_sem, g]
      refine pw_wk ?_
      try simp [go_sem, g]
     ·try simp [go_sem, g]
      refine pw_wk ?_
      repeat rw [sq]
      refine pw_draw D48_6 follows (by kernel_rfl) rfl ?_
      try simp only [go_sem, D48_6]
      try simp [go_sem, g]
      try intros
      refine pw_wk ?_
      try simp [go_sem, g]
      try intros
      refine pw_wkK [1, 2, 5, 6, 7, 32, 33, 34] (by simp [go_sem, g]; rfl) ?_
      repeat rw [sq]
      rw [pw_block]
      obtain ⟨b19, hb20, hψ15⟩ := hF
      refine pR hb20 (fun i12 s11 => [(1, .v (.sl false 1 (a1.map row_i64))), (2, .v (.fp [.int .i64 a0.Kind, .int .i64 a0.Options, .int .i64 a0.Least, .int .i64 a0.Most, .int .i64 a0.Points])), (5, .v (.int .i64 s11)), (6, .bl [.int .i64 0]), (7, .bl [.int .i64 a0.Points]), (32, .v (.sl false 1 (a1.map row_i64))), (33, .v (.int .i64 (a1.length : Int))), (34, .v (.int .i64 i12))]) (fun s11 _ hN21 => ?_) (fun i12 s11 _ _ hi16 hi17 ho13 hg14 hF => ?_)
      ·subst hN21
       try simp [go_sem]
       refine pw_wk ?_
       repeat rw [sq]
       refine pw_cond_f (by simp [go_sem]) ?_
       try simp [go_sem]
       exact pT (hj1 (s11, 0, a0.Points)) hψ15 (by simp [go_sem])
      ·try simp [go_sem, g]
       refine pw_wk ?_
       repeat rw [sq]
       refine pw_cond_t (by simp [go_sem, g, hi16, hi17]) ?_
       try simp [go_sem, g]
       refine pw_wk ?_
       repeat rw [sq]
       rw [pw_block]
       obtain ⟨x18, g, hF⟩ := Rx g hF
       iterate 2 (try simp [go_sem, g]; refine pw_wk ?_)
       try simp [go_sem, g]
       exact pT (hg14 (i64.wrap (s11 + x18))) (Rn_some hF) (by simp [go_sem, g, wr_i hi16 hi17 (by assumption)])
    ·try simp [go_sem, g]
     try intros
     refine pwg_F hF (fun h8 hF => ?_) fun h8 hF => ?_
     ·try simp [go_sem, g, h8]
      exact pT (hj5 true) (Rn_some hF)
     ·try simp [go_sem, g, h8]
      refine pC hF [.sh, .sh] c_impl_areAll__impl_Contest_isVote_1 (fun z9 hF => ?_)
      try simp [go_sem, g, h8]
      exact pT (hj5 (!z9)) (Rn_some hF)
   ·try simp [go_sem, g]
    refine pw_wk ?_
    repeat rw [sq]
    refine pI hF (fun h23 hF => ?_) (fun h23 hF => ?_)
    ·try simp [go_sem, g]
     exact pT (hj1 ((a1.length : Int), 1, 26)) (Rn_some hF)
    ·try simp [go_sem, g]
     exact pT (hj1 ((a1.length : Int), 0, i64.wrap (a0.Options - 1))) (Rn_some hF)
noncomputable def F_impl_Plan_areCastings_1_ (a0 : Casting) (a1c0 : Int) (a1c1 : Int) (a1c2 : Int) (a1c3 : Int) (a1c4 : Int) (a1c5 : Int) (a1c6 : Int) (a1c7 : Int) (a1c8 : Int) (a1c9 : Int) (a1c10 : Int) (a1c11 : Int) (a1c12 : Int) : Option (Bool) :=
  (((F_impl_within a0.Voter 0 (i64.wrap (a1c11 - 1))).bind fun z4 =>
  if (!z4) = true then (
  some true) else (
  (F_impl_Contest_isVote (Contest.mk a1c3 a1c4 a1c5 a1c6 a1c7) a0.Vote).bind fun z6 =>
  some (!z6)) : Option (Bool)).bind fun x3 =>
  some x3)
theorem c_impl_Plan_areCastings_1_ : ∀ {a0} {a1c0} {a1c1} {a1c2} {a1c3} {a1c4} {a1c5} {a1c6} {a1c7} {a1c8} {a1c9} {a1c10} {a1c11} {a1c12} {r}, F_impl_Plan_areCastings_1_ a0 a1c0 a1c1 a1c2 a1c3 a1c4 a1c5 a1c6 a1c7 a1c8 a1c9 a1c10 a1c11 a1c12 = some r → PCalls Try.prog 47 [(.sh, .agg [.int .i64 a0.Voter, .sl false 1 (a0.Vote.map row_i64)]), (.sh, .fp [.int .i64 a1c0, .int .i64 a1c1, .int .i64 a1c2, .int .i64 a1c3, .int .i64 a1c4, .int .i64 a1c5, .int .i64 a1c6, .int .i64 a1c7, .int .i64 a1c8, .int .i64 a1c9, .int .i64 a1c10, .int .i64 a1c11, .int .i64 a1c12])] (Eo (.bool r) [.junk, .junk]) := by
  intro a0 a1c0 a1c1 a1c2 a1c3 a1c4 a1c5 a1c6 a1c7 a1c8 a1c9 a1c10 a1c11 a1c12 r hr
  apply pF 19 [] [] [] [.tmp 3] hr cl47 Try.func47
  intro Φ hΦ hF g
  unfold F_impl_Plan_areCastings_1_ at hF
  try simp [go_sem, g]
  refine pw_wk ?_
  repeat rw [sq]
  refine pJ hF (fun x3 => [(3, .v (.bool x3))]) (fun x3 hF => ?_) fun _ hj1 hF => ?_
  ·cases hΦ _ (Rn_some hF)
   try simp [go_sem, g]
  ·try simp [go_sem, g]
   refine pC hF [.sh, .sh, .sh] c_impl_within (fun z4 hF => ?_)
   try simp [go_sem, g]
   refine pwg_F hF (fun h5 hF => ?_) fun h5 hF => ?_
   ·try simp [go_sem, g, h5]
    exact pT (hj1 true) (Rn_some hF)
   ·try simp [go_sem, g, h5]
    refine pC hF [.sh, .sh] c_impl_Contest_isVote (fun z6 hF => ?_)
    try simp [go_sem, g, h5]
    exact pT (hj1 (!z6)) (Rn_some hF)
noncomputable def F_slices_IndexFunc_impl_Casting_impl_Casting__impl_Plan_areCastings_1 (a0 : (List Casting)) (a1u0c0 : Int) (a1u0c1 : Int) (a1u0c2 : Int) (a1u0c3 : Int) (a1u0c4 : Int) (a1u0c5 : Int) (a1u0c6 : Int) (a1u0c7 : Int) (a1u0c8 : Int) (a1u0c9 : Int) (a1u0c10 : Int) (a1u0c11 : Int) (a1u0c12 : Int) : Option (Int) :=
  ((rloop (σ := Unit) (fun i5 s4 =>
  (ix a0 i5).bind fun x11 =>
  (F_impl_Plan_areCastings_1_ x11 a1u0c0 a1u0c1 a1u0c2 a1u0c3 a1u0c4 a1u0c5 a1u0c6 a1u0c7 a1u0c8 a1u0c9 a1u0c10 a1u0c11 a1u0c12).bind fun z12 =>
  if z12 = true then (
  some (.out (.inr i5))) else (
  some (.go ()))) (fun s4 => .inl ()) (a0.length) 0 () : Option (Unit ⊕ Int)).bind (Sum.elim (fun x3 =>
  some (-1)) some))
theorem c_slices_IndexFunc_impl_Casting_impl_Casting__impl_Plan_areCastings_1 : ∀ {a0} {a1u0c0} {a1u0c1} {a1u0c2} {a1u0c3} {a1u0c4} {a1u0c5} {a1u0c6} {a1u0c7} {a1u0c8} {a1u0c9} {a1u0c10} {a1u0c11} {a1u0c12} {r}, F_slices_IndexFunc_impl_Casting_impl_Casting__impl_Plan_areCastings_1 a0 a1u0c0 a1u0c1 a1u0c2 a1u0c3 a1u0c4 a1u0c5 a1u0c6 a1u0c7 a1u0c8 a1u0c9 a1u0c10 a1u0c11 a1u0c12 = some r → PCalls Try.prog 65 [(.sh, .sl false 2 (a0.map row_Casting_z)), (.sh, .func (.func 47) [] [.fp [.int .i64 a1u0c0, .int .i64 a1u0c1, .int .i64 a1u0c2, .int .i64 a1u0c3, .int .i64 a1u0c4, .int .i64 a1u0c5, .int .i64 a1u0c6, .int .i64 a1u0c7, .int .i64 a1u0c8, .int .i64 a1u0c9, .int .i64 a1u0c10, .int .i64 a1u0c11, .int .i64 a1u0c12]])] (Eo (.int .i64 r) [.junk, .junk]) := by
  intro a0 a1u0c0 a1u0c1 a1u0c2 a1u0c3 a1u0c4 a1u0c5 a1u0c6 a1u0c7 a1u0c8 a1u0c9 a1u0c10 a1u0c11 a1u0c12 r hr
  apply pF 19 [] [] [] [.tmp 4] hr cl65 Try.func65
  intro Φ hΦ hF g
  unfold F_slices_IndexFunc_impl_Casting_impl_Casting__impl_Plan_areCastings_1 at hF
  iterate 2 (try simp [go_sem, g]; try intros; refine pw_wk ?_)
  repeat rw [sq]
  refine pJs hF (fun x3 => []) (fun x3 hF => ?_) fun _ hj1 hr2 hF => ?_
  ·cases hΦ _ (Rn_some hF)
   try simp [go_sem, g]
   refine pw_wk ?_
   try simp [go_sem, g]
  ·repeat rw [sq]
   rw [pw_block]
   obtain ⟨b14, hb15, hψ8⟩ := hF
   refine pR hb15 (fun i5 s4 => [(0, .v (.sl false 2 (a0.map row_Casting_z))), (1, .v (.func (.func 47) [] [.fp [.int .i64 a1u0c0, .int .i64 a1u0c1, .int .i64 a1u0c2, .int .i64 a1u0c3, .int .i64 a1u0c4, .int .i64 a1u0c5, .int .i64 a1u0c6, .int .i64 a1u0c7, .int .i64 a1u0c8, .int .i64 a1u0c9, .int .i64 a1u0c10, .int .i64 a1u0c11, .int .i64 a1u0c12]])), (7, .v (.int .i64 (a0.length : Int))), (8, .v (.int .i64 i5))]) (fun s4 _ hN16 => ?_) (fun i5 s4 _ _ hi9 hi10 ho6 hg7 hF => ?_)
   ·subst hN16
    try simp [go_sem]
    refine pw_wk ?_
    repeat rw [sq]
    refine pw_cond_f (by simp [go_sem]) ?_
    try simp [go_sem]
    exact pT (hj1 ()) hψ8 (by simp [go_sem])
   ·try simp [go_sem, g]
    refine pw_wk ?_
    repeat rw [sq]
    refine pw_cond_t (by simp [go_sem, g, hi9, hi10]) ?_
    try simp [go_sem, g]
    refine pw_wk ?_
    repeat rw [sq]
    rw [pw_block]
    obtain ⟨x11, g, hF⟩ := Rx g hF
    try simp [go_sem, g]
    refine pw_wk ?_
    try simp [go_sem, g]
    refine pC hF [.sh] c_impl_Plan_areCastings_1_ (fun z12 hF => ?_)
    try simp [go_sem, g]
    refine pw_wkK [0, 1, 5, 7, 8, 16] (by simp [go_sem, g]; rfl) ?_
    repeat rw [sq]
    refine pI hF (fun h13 hF => ?_) (fun h13 hF => ?_)
    ·cases ho6 _ (Rn_some hF)
     cases hΦ _ (hr2 _ hψ8)
     try simp [go_sem, g]
     refine pw_wk ?_
     try simp [go_sem, g]
    ·try simp [go_sem, g]
     refine pw_wk ?_
     try simp [go_sem, g]
     exact pT (hg7 ()) (Rn_some hF) (by simp [go_sem, g, wr_i hi9 hi10 (by assumption)])
noncomputable def F_slices_ContainsFunc_impl_Casting_impl_Casting__impl_Plan_areCastings_1 (a0 : (List Casting)) (a1u0c0 : Int) (a1u0c1 : Int) (a1u0c2 : Int) (a1u0c3 : Int) (a1u0c4 : Int) (a1u0c5 : Int) (a1u0c6 : Int) (a1u0c7 : Int) (a1u0c8 : Int) (a1u0c9 : Int) (a1u0c10 : Int) (a1u0c11 : Int) (a1u0c12 : Int) : Option (Bool) :=
  (F_slices_IndexFunc_impl_Casting_impl_Casting__impl_Plan_areCastings_1 a0 a1u0c0 a1u0c1 a1u0c2 a1u0c3 a1u0c4 a1u0c5 a1u0c6 a1u0c7 a1u0c8 a1u0c9 a1u0c10 a1u0c11 a1u0c12).bind fun z1 =>
  some (decide (0 ≤ z1))
theorem c_slices_ContainsFunc_impl_Casting_impl_Casting__impl_Plan_areCastings_1 : ∀ {a0} {a1u0c0} {a1u0c1} {a1u0c2} {a1u0c3} {a1u0c4} {a1u0c5} {a1u0c6} {a1u0c7} {a1u0c8} {a1u0c9} {a1u0c10} {a1u0c11} {a1u0c12} {r}, F_slices_ContainsFunc_impl_Casting_impl_Casting__impl_Plan_areCastings_1 a0 a1u0c0 a1u0c1 a1u0c2 a1u0c3 a1u0c4 a1u0c5 a1u0c6 a1u0c7 a1u0c8 a1u0c9 a1u0c10 a1u0c11 a1u0c12 = some r → PCalls Try.prog 46 [(.sh, .sl false 2 (a0.map row_Casting_z)), (.sh, .func (.func 47) [] [.fp [.int .i64 a1u0c0, .int .i64 a1u0c1, .int .i64 a1u0c2, .int .i64 a1u0c3, .int .i64 a1u0c4, .int .i64 a1u0c5, .int .i64 a1u0c6, .int .i64 a1u0c7, .int .i64 a1u0c8, .int .i64 a1u0c9, .int .i64 a1u0c10, .int .i64 a1u0c11, .int .i64 a1u0c12]])] (Eo (.bool r) [.junk, .junk]) := by
  intro a0 a1u0c0 a1u0c1 a1u0c2 a1u0c3 a1u0c4 a1u0c5 a1u0c6 a1u0c7 a1u0c8 a1u0c9 a1u0c10 a1u0c11 a1u0c12 r hr
  apply pF 9 [] [] [] [.tmp 4] hr cl46 Try.func46
  intro Φ hΦ hF g
  unfold F_slices_ContainsFunc_impl_Casting_impl_Casting__impl_Plan_areCastings_1 at hF
  try simp [go_sem, g]
  refine pw_wk ?_
  try simp [go_sem, g]
  refine pC hF [.sh, .sh] c_slices_IndexFunc_impl_Casting_impl_Casting__impl_Plan_areCastings_1 (fun z1 hF => ?_)
  cases hΦ _ (Rn_some hF)
  try simp [go_sem, g]
  refine pw_wk ?_
  try simp [go_sem, g]
noncomputable def F_impl_Plan_areCastings (a0 : Plan) (a1 : (List Casting)) : Option (Bool) :=
  ((if decide ((a1.length : Int) ≤ 16) = true then (
  (F_slices_ContainsFunc_impl_Casting_impl_Casting__impl_Plan_areCastings_1 a1 a0.Gr.P a0.Gr.Q a0.Gr.G a0.Ct.Kind a0.Ct.Options a0.Ct.Least a0.Ct.Most a0.Ct.Points a0.Threshold a0.Trustees a0.Mixers a0.Voters a0.Seed).bind fun z5 =>
  some (!z5)) else (
  some false) : Option (Bool)).bind fun x3 =>
  some x3)
theorem c_impl_Plan_areCastings : ∀ {a0} {a1} {r}, F_impl_Plan_areCastings a0 a1 = some r → PCalls Try.prog 27 [(.sh, .agg [.int .i64 a0.Gr.P, .int .i64 a0.Gr.Q, .int .i64 a0.Gr.G, .int .i64 a0.Ct.Kind, .int .i64 a0.Ct.Options, .int .i64 a0.Ct.Least, .int .i64 a0.Ct.Most, .int .i64 a0.Ct.Points, .int .i64 a0.Threshold, .int .i64 a0.Trustees, .int .i64 a0.Mixers, .int .i64 a0.Voters, .int .i64 a0.Seed]), (.sh, .sl false 2 (a1.map row_Casting_z))] (Eo (.bool r) [.junk, .junk]) := by
  intro a0 a1 r hr
  apply pF 14 [] [] [1000000] [.tmp 4] hr cl27 Try.func27
  intro Φ hΦ hF g
  unfold F_impl_Plan_areCastings at hF
  try simp [go_sem, g]
  refine pw_wk ?_
  repeat rw [sq]
  refine pJ hF (fun x3 => [(4, .v (.bool x3))]) (fun x3 hF => ?_) fun _ hj1 hF => ?_
  ·cases hΦ _ (Rn_some hF)
   try simp [go_sem, g]
  ·try simp [go_sem, g]
   try intros
   refine pwg_F hF (fun h4 hF => ?_) fun h4 hF => ?_
   ·try simp [go_sem, g, h4]
    refine pC hF [.sh, .sh] c_slices_ContainsFunc_impl_Casting_impl_Casting__impl_Plan_areCastings_1 (fun z5 hF => ?_)
    try simp [go_sem, g, h4]
    exact pT (hj1 (!z5)) (Rn_some hF)
   ·try simp [go_sem, g, h4]
    exact pT (hj1 false) (Rn_some hF)
noncomputable def F_slices_Clone_int_int (a0 : (List Int)) : Option (List Int) :=
  gd (a0.length * 8 ≤ 140737488355328 ∧ a0.length ≤ 4611686018427387904) <|
  some a0
theorem c_slices_Clone_int_int {a0 : (List Int)} {r : (List Int)} (hr : F_slices_Clone_int_int a0 = some r) : PCalls Try.prog 28 [(.sh, .sl false 1 (a0.map row_i64))] (Eo (.sl true 1 (r.map row_i64)) [.junk]) := by
  apply pcalls_lf 8 [] [] [1000000] [.tmp 2] hr cl28 Try.func28 rfl rfl rfl
  · exact ⟨by simp, rfl⟩
  intro Φ hΦ hF
  unfold F_slices_Clone_int_int at hF
  obtain ⟨g, hF⟩ := Rn_gd hF
  have h1 := hΦ _ (Rn_some hF)
  subst h1
  try simp [go_sem]
  refine pw_wkL [(0, .v (.sl false 1 (a0.map row_i64)))] (by simp [go_sem]) ?_
  try simp [go_sem]
  refine pw1_nil rfl rfl (by simp [go_sem]) rfl (by rfl) fun b hb => ?_
  try simp [go_sem]
  refine pw_wk ?_
  repeat rw [pw_seq]
  cases b
  · refine pw_cond_f (by simp [go_sem]) ?_
    try simp [go_sem]
    refine pw_wk ?_
    try simp [go_sem, g]
    refine pw_wk ?_
    try simp [go_sem, g]
  · have hb0 : a0 = [] := by
      cases a0 with
      | nil => rfl
      | cons x l => exact absurd (hb (by simp)) (by simp)
    subst hb0
    refine pw_cond_t (by simp [go_sem]) ?_
    try simp [go_sem]
    refine pw_wk ?_
    try simp [go_sem]
noncomputable def F_impl_Contest_choices (a0 : Contest) (a1 : (List Int)) : Option ((List Int)) :=
  gd (0 ≤ a0.Options ∧ a0.Options ≤ a0.Options ∧ 8 * a0.Options ≤ 140737488355328 ∧ a0.Options ≤ 4611686018427387904) <|
  (some (List.replicate a0.Options.toNat 0)).bind fun x1 =>
  ((rloop (σ := (List Int)) (fun i17 s16 =>
  (ix a1 i17).bind fun x23 =>
  (ix s16 x23).bind fun x24 =>
  some (.go (s16.set x23.toNat 1))) (fun s16 => s16) (a1.length) 0 x1 : Option ((List Int))).bind fun x6 =>
  some x6)
theorem c_impl_Contest_choices : ∀ {a0} {a1} {r}, F_impl_Contest_choices a0 a1 = some r → PCalls Try.prog 88 [(.sh, .agg [.int .i64 a0.Kind, .int .i64 a0.Options, .int .i64 a0.Least, .int .i64 a0.Most, .int .i64 a0.Points]), (.sh, .sl false 1 (a1.map row_i64))] (Eo (.sl true 1 (r.map row_i64)) [.junk, .junk]) := by
  intro a0 a1 r hr
  apply pF 22 [] [] [] [.tmp 4] hr cl88 Try.func88
  intro Φ hΦ hF g
  unfold F_impl_Contest_choices at hF
  obtain ⟨g, hF⟩ := Rg g hF
  obtain ⟨x1, e2, hF⟩ := Rn_bind hF
  have g3 : List.replicate a0.Options.toNat ([.int .i64 0] : List PV) = x1.map row_i64 := by injection e2 with e2; rw [← e2]; simp [go_sem]
  iterate 3 (try simp [go_sem, g, g3]; try intros; refine pw_wk ?_)
  repeat rw [sq]
  refine pJ hF (fun x6 => [(5, .v (.sl true 1 (x6.map row_i64)))]) (fun x6 hF => ?_) fun _ hj4 hF => ?_
  ·try simp [go_sem, g]
   refine pw_wkK [4] (by simp [go_sem, g]; rfl) ?_
   cases hΦ _ (Rn_some hF)
   try simp [go_sem, g]
  ·repeat rw [sq]
   rw [pw_block]
   obtain ⟨b25, hb26, hψ20⟩ := hF
   refine pR hb26 (fun i17 s16 => [(5, .v (.sl true 1 (s16.map row_i64))), (11, .v (.sl false 1 (a1.map row_i64))), (12, .v (.int .i64 (a1.length : Int))), (13, .v (.int .i64 i17))]) (fun s16 _ hN27 => ?_) (fun i17 s16 _ _ hi21 hi22 ho18 hg19 hF => ?_)
   ·subst hN27
    try simp [go_sem]
    refine pw_wk ?_
    repeat rw [sq]
    refine pw_cond_f (by simp [go_sem]) ?_
    try simp [go_sem]
    exact pT (hj4 s16) hψ20 (by simp [go_sem])
   ·try simp [go_sem, g]
    refine pw_wkK [5, 11, 12, 13, 14] (by simp [go_sem, g]; rfl) ?_
    repeat rw [sq]
    refine pw_cond_t (by simp [go_sem, g, hi21, hi22]) ?_
    try simp [go_sem, g]
    refine pw_wk ?_
    repeat rw [sq]
    rw [pw_block]
    obtain ⟨x23, g, hF⟩ := Rx g hF
    obtain ⟨x24, g, hF⟩ := Rx g hF
    iterate 2 (try simp [go_sem, g]; refine pw_wk ?_)
    try simp [go_sem, g]
    exact pT (hg19 (s16.set x23.toNat 1)) (Rn_some hF) (by simp [go_sem, g, wr_i hi21 hi22 (by assumption)])
noncomputable def F_impl_Contest_digits (a0 : Contest) (a1 : (List Int)) : Option ((List Int)) :=
  if (a0.Kind == 1) = true then (
  (F_impl_Contest_choices a0 a1).bind fun z2 =>
  some z2) else (
  if (a0.Kind == 3) = true then (
  ((rloop (σ := (List Int)) (fun i8 s7 =>
  (ix a1 i8).bind fun x14 =>
  gd ((s7.length + 1) * 8 ≤ 140737488355328 ∧ s7.length + 1 ≤ 4611686018427387904) <|
  some (.go (s7 ++ [i64.wrap (x14 + 1)]))) (fun s7 => s7) (a1.length) 0 [] : Option ((List Int))).bind fun x6 =>
  some x6)) else (
  (F_slices_Clone_int_int a1).bind fun z19 =>
  some z19))
theorem c_impl_Contest_digits : ∀ {a0} {a1} {r}, F_impl_Contest_digits a0 a1 = some r → PCalls Try.prog 71 [(.sh, .agg [.int .i64 a0.Kind, .int .i64 a0.Options, .int .i64 a0.Least, .int .i64 a0.Most, .int .i64 a0.Points]), (.sh, .sl false 1 (a1.map row_i64))] (Eo (.sl true 1 (r.map row_i64)) [.junk, .junk]) := by
  intro a0 a1 r hr
  apply pF 33 [] [] [] [.tmp 4] hr cl71 Try.func71
  intro Φ hΦ hF g
  unfold F_impl_Contest_digits at hF
  iterate 2 (try simp [go_sem, g]; refine pw_wk ?_)
  repeat rw [sq]
  rw [pw_block]
  try simp [go_sem, g]
  refine pw_wk ?_
  repeat rw [sq]
  refine pI hF (fun h1 hF => ?_) (fun h1 hF => ?_)
  ·try simp [go_sem, g]
   refine pC hF [.sh, .sh] c_impl_Contest_choices (fun z2 hF => ?_)
   try simp [go_sem, g]
   refine pw_wkK [4] (by simp [go_sem, g]; rfl) ?_
   cases hΦ _ (Rn_some hF)
   try simp [go_sem, g]
  ·try simp [go_sem, g]
   refine pw_wk ?_
   repeat rw [sq]
   refine pI hF (fun h3 hF => ?_) (fun h3 hF => ?_)
   ·try simp [go_sem, g]
    refine pw_wkK [1, 5] (by simp [go_sem, g]; rfl) ?_
    try simp [go_sem, g]
    try intros
    refine pw_wk ?_
    repeat rw [sq]
    refine pJ hF (fun x6 => [(5, .v (.sl true 1 (x6.map row_i64)))]) (fun x6 hF => ?_) fun _ hj4 hF => ?_
    ·cases hΦ _ (Rn_some hF)
     try simp [go_sem, g]
     refine pw_wk ?_
     try simp [go_sem, g]
    ·repeat rw [sq]
     rw [pw_block]
     obtain ⟨b15, hb16, hψ11⟩ := hF
     refine pR hb16 (fun i8 s7 => [(5, .v (.sl true 1 (s7.map row_i64))), (18, .v (.sl false 1 (a1.map row_i64))), (19, .v (.int .i64 (a1.length : Int))), (20, .v (.int .i64 i8))]) (fun s7 _ hN17 => ?_) (fun i8 s7 _ _ hi12 hi13 ho9 hg10 hF => ?_)
     ·subst hN17
      try simp [go_sem]
      refine pw_wk ?_
      repeat rw [sq]
      refine pw_cond_f (by simp [go_sem]) ?_
      try simp [go_sem]
      exact pT (hj4 s7) hψ11 (by simp [go_sem])
     ·try simp [go_sem, g]
      refine pw_wk ?_
      repeat rw [sq]
      refine pw_cond_t (by simp [go_sem, g, hi12, hi13]) ?_
      try simp [go_sem, g]
      refine pw_wk ?_
      repeat rw [sq]
      rw [pw_block]
      obtain ⟨x14, g, hF⟩ := Rx g hF
      obtain ⟨g, hF⟩ := Rg g hF
      try simp [go_sem, g]
      refine pw_wk ?_
      try simp [go_sem, g]
      refine pw_wkK [5, 18, 19, 20] (by simp [go_sem, g]; rfl) ?_
      try simp [go_sem, g]
      exact pT (hg10 (s7 ++ [i64.wrap (x14 + 1)])) (Rn_some hF) (by simp [go_sem, g, wr_i hi12 hi13 (by assumption)])
   ·try simp [go_sem, g]
    refine pw_wk ?_
    try simp [go_sem, g]
    refine pC hF [.sh] c_slices_Clone_int_int (fun z19 hF => ?_)
    try simp [go_sem, g]
    refine pw_wkK [4] (by simp [go_sem, g]; rfl) ?_
    cases hΦ _ (Rn_some hF)
    try simp [go_sem, g]
def D72_1 : List DE := [⟨0, [2], [2], some 2, false, false, false⟩, ⟨1, [1], [], none, false, false, false⟩, ⟨3, [2], [2], some 2, false, false, false⟩, ⟨2, [5, 6], [], none, false, true, true⟩, ⟨4, [8], [], none, false, true, true⟩, ⟨5, [7, 9], [], none, false, true, true⟩, ⟨6, [10], [], none, false, false, false⟩]
noncomputable def F_impl_Contest_code (a0 : Contest) (a1 : (List Int)) : Option (Int) :=
  (F_impl_Contest_digits a0 a1).bind fun z1 =>
  (F_impl_Contest_base a0).bind fun z2 =>
  (F_impl_codeOf z1 z2).bind fun z3 =>
  some z3
theorem c_impl_Contest_code : ∀ {a0} {a1} {r}, F_impl_Contest_code a0 a1 = some r → PCalls Try.prog 72 [(.sh, .agg [.int .i64 a0.Kind, .int .i64 a0.Options, .int .i64 a0.Least, .int .i64 a0.Most, .int .i64 a0.Points]), (.sh, .sl false 1 (a1.map row_i64))] (Eo (.int .i64 r) [.junk, .junk]) := by
  intro a0 a1 r hr
  apply pF 11 [] [] [] [.tmp 4] hr cl72 Try.func72
  intro Φ hΦ hF g
  unfold F_impl_Contest_code at hF
  try simp [go_sem, g]
  refine pw_wk ?_
  repeat rw [sq]
  refine pw_draw D72_1 follows (by kernel_rfl) rfl ?_
  try simp only [go_sem, D72_1]
  try simp [go_sem, g]
  refine pC hF [.sh, .sh] c_impl_Contest_digits (fun z1 hF => ?_)
  try simp [go_sem, g]
  refine pC hF [.sh] c_impl_Contest_base (fun z2 hF => ?_)
  try simp [go_sem, g]
  refine pC hF [.sh, .sh] c_impl_codeOf (fun z3 hF => ?_)
  cases hΦ _ (Rn_some hF)
  try simp [go_sem, g]
  refine pw_wk ?_
  try simp [go_sem, g]
noncomputable def F_impl_Contest_exponents (a0 : Contest) (a1 : (List Int)) : Option ((List Int)) :=
  ((if (a0.Kind == 1) = true then (
  some true) else (
  some (a0.Kind == 2)) : Option (Bool)).bind fun x3 =>
  if x3 = true then (
  (F_impl_Contest_digits a0 a1).bind fun z6 =>
  some z6) else (
  (F_impl_Contest_code a0 a1).bind fun z7 =>
  some [z7]))
theorem c_impl_Contest_exponents : ∀ {a0} {a1} {r}, F_impl_Contest_exponents a0 a1 = some r → PCalls Try.prog 50 [(.sh, .agg [.int .i64 a0.Kind, .int .i64 a0.Options, .int .i64 a0.Least, .int .i64 a0.Most, .int .i64 a0.Points]), (.sh, .sl false 1 (a1.map row_i64))] (Eo (.sl true 1 (r.map row_i64)) [.junk, .junk]) := by
  intro a0 a1 r hr
  apply pF 20 [] [] [] [.tmp 4] hr cl50 Try.func50
  intro Φ hΦ hF g
  unfold F_impl_Contest_exponents at hF
  try simp [go_sem, g]
  refine pw_wk ?_
  repeat rw [sq]
  refine pJ hF (fun x3 => [(1, .v (.sl false 1 (a1.map row_i64))), (2, .bl [.int .i64 a0.Kind, .int .i64 a0.Options, .int .i64 a0.Least, .int .i64 a0.Most, .int .i64 a0.Points]), (12, .v (.bool x3))]) (fun x3 hF => ?_) fun _ hj1 hF => ?_
  ·repeat rw [sq]
   refine pI hF (fun h5 hF => ?_) (fun h5 hF => ?_)
   ·try simp [go_sem, g]
    refine pC hF [.sh, .sh] c_impl_Contest_digits (fun z6 hF => ?_)
    cases hΦ _ (Rn_some hF)
    try simp [go_sem, g]
    refine pw_wk ?_
    try simp [go_sem, g]
   ·try simp [go_sem, g]
    refine pw_wk ?_
    try simp [go_sem, g]
    refine pC hF [.sh, .sh] c_impl_Contest_code (fun z7 hF => ?_)
    cases hΦ _ (Rn_some hF)
    try simp [go_sem, g]
    refine pw_wk ?_
    try simp [go_sem, g]
  ·try simp [go_sem, g]
   refine pwg_F hF (fun h4 hF => ?_) fun h4 hF => ?_
   ·try simp [go_sem, g, h4]
    exact pT (hj1 true) (Rn_some hF)
   ·try simp [go_sem, g, h4]
    exact pT (hj1 (a0.Kind == 2)) (Rn_some hF)
noncomputable def F_impl_TallyVotes (a0 : Contest) (a1 : (List (List Int))) : Option ((List Int) × Bool) :=
  (((F_impl_IsValidContest a0).bind fun z4 =>
  if (!z4) = true then (
  some true) else (
  (F_impl_Contest_isForm a0).bind fun z6 =>
  if (!z6) = true then (
  some true) else (
  some (decide (24 < (a1.length : Int))))) : Option (Bool)).bind fun x3 =>
  if x3 = true then (
  some ([], false)) else (
  gd (0 ≤ a0.Options ∧ a0.Options ≤ a0.Options ∧ 8 * a0.Options ≤ 140737488355328 ∧ a0.Options ≤ 4611686018427387904) <|
  (some (List.replicate a0.Options.toNat 0)).bind fun x9 =>
  ((rloop (σ := (List Int)) (fun i52 s51 =>
  (((ix a1 i52).bind fun x61 =>
  (F_impl_Contest_isVote a0 x61).bind fun z62 =>
  if (!z62) = true then (
  some (.inr (.out (.inr ([], false))))) else (
  (F_impl_Contest_exponents a0 x61).bind fun z64 =>
  rloop (σ := (List Int)) (fun i75 s74 =>
  (ix z64 i75).bind fun x81 =>
  (ix s74 i75).bind fun x82 =>
  some (.go (s74.set i75.toNat (i64.wrap (x82 + x81))))) (fun s74 => .inl s74) (z64.length) 0 s51) : Option ((List Int) ⊕ (Stp (List Int) ((List Int) ⊕ ((List Int) × Bool))))).bind (Sum.elim (fun x60 =>
  some (.go x60)) some))) (fun s51 => .inl s51) (a1.length) 0 x9 : Option ((List Int) ⊕ ((List Int) × Bool))).bind (Sum.elim (fun x14 =>
  some (x14, true)) some))))
end Go.Pm
