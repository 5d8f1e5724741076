/-
  Plain functions and their walks. Written by wip/tools/lift.py.
-/
import Derived.Test.YthdjiekgolgmfaaPS
namespace Go.Pm
open Go.Am
open Go.Proofs
set_option maxRecDepth 100000
attribute [local irreducible] pw pwx pw1 pwg qv qz qf
set_option linter.unusedSimpArgs false
set_option linter.unusedVariables false
structure Group where
  P : Int
  Q : Int
  G : Int
structure Cipher where
  A : Int
  B : Int
def row_i64 (x : Int) : List PV := [.int .i64 x]
@[go_sem] theorem row_i64_eq {x : Int} : row_i64 x = [.int .i64 x] := (rfl)
@[go_sem] theorem row_i64_drop {l : List Int} : List.map (List.map drop ∘ row_i64) l = l.map row_i64 := by refine List.map_congr_left fun x _ => ?_; simp [-List.map_set, go_sem]
@[go_sem] theorem row_i64_drop' {l : List Int} : List.map (List.map drop) (l.map row_i64) = l.map row_i64 := by rw [List.map_map]; exact row_i64_drop
@[go_sem] theorem row_i64_set {l : List Int} {i : Nat} {a : Int} : (l.map row_i64).set i [.int .i64 a] = (l.set i a).map row_i64 := by simp [List.map_set, go_sem]
def row_Cipher (x : Cipher) : List PV := [.int .i64 x.A, .int .i64 x.B]
@[go_sem] theorem row_Cipher_eq {x : Cipher} : row_Cipher x = [.int .i64 x.A, .int .i64 x.B] := (rfl)
@[go_sem] theorem row_Cipher_drop {l : List Cipher} : List.map (List.map drop ∘ row_Cipher) l = l.map row_Cipher := by refine List.map_congr_left fun x _ => ?_; simp [-List.map_set, go_sem]
@[go_sem] theorem row_Cipher_drop' {l : List Cipher} : List.map (List.map drop) (l.map row_Cipher) = l.map row_Cipher := by rw [List.map_map]; exact row_Cipher_drop
@[go_sem] theorem row_Cipher_set {l : List Cipher} {i : Nat} {A : Int} {B : Int} : (l.map row_Cipher).set i [.int .i64 A, .int .i64 B] = (l.set i (Cipher.mk A B)).map row_Cipher := by simp [List.map_set, go_sem]
noncomputable def F_laws_toGroup (a0 : Group) : Option (Group) :=
  some a0
theorem c_laws_toGroup {a0 : Group} {r : Group} (hr : F_laws_toGroup a0 = some r) : PCalls Try.prog 18 [(.sh, .agg [.int .i64 a0.P, .int .i64 a0.Q, .int .i64 a0.G])] (Eo (.agg [.int .i64 r.P, .int .i64 r.Q, .int .i64 r.G]) [.junk]) := by
  apply pcalls_lf 14 [] [] [] [.cell 2 39] hr cl18 Try.func18 rfl rfl rfl
  · exact ⟨by simp, rfl⟩
  intro Φ hΦ hF
  unfold F_laws_toGroup at hF
  iterate 3 (try simp [-List.map_set, go_sem]; refine pw_wk ?_)
  try simp [-List.map_set, go_sem]
  refine pw_wkK [1, 2, 3] (by simp [-List.map_set, go_sem]; rfl) ?_
  cases hΦ _ (Rn_some hF)
  iterate 2 (try simp [-List.map_set, go_sem]; refine pw_wk ?_)
  try simp [-List.map_set, go_sem]
noncomputable def F_laws_toCipher (a0 : Cipher) : Option (Cipher) :=
  some a0
theorem c_laws_toCipher {a0 : Cipher} {r : Cipher} (hr : F_laws_toCipher a0 = some r) : PCalls Try.prog 19 [(.sh, .agg [.int .i64 a0.A, .int .i64 a0.B])] (Eo (.agg [.int .i64 r.A, .int .i64 r.B]) [.junk]) := by
  apply pcalls_lf 11 [] [] [] [.cell 2 41] hr cl19 Try.func19 rfl rfl rfl
  · exact ⟨by simp, rfl⟩
  intro Φ hΦ hF
  unfold F_laws_toCipher at hF
  iterate 3 (try simp [-List.map_set, go_sem]; refine pw_wk ?_)
  try simp [-List.map_set, go_sem]
  refine pw_wkK [2, 3] (by simp [-List.map_set, go_sem]; rfl) ?_
  cases hΦ _ (Rn_some hF)
  try simp [-List.map_set, go_sem]
  refine pw_wk ?_
  try simp [-List.map_set, go_sem]
noncomputable def F_laws_toIntS (a0 : (List Int)) : Option ((List Int)) :=
  gd (0 ≤ (a0.length : Int) ∧ (a0.length : Int) ≤ (a0.length : Int) ∧ 8 * (a0.length : Int) ≤ 140737488355328 ∧ (a0.length : Int) ≤ 4611686018427387904) <|
  (some (List.replicate a0.length 0)).bind fun x4 =>
  ((wloop (σ := (List Int) × Int) (β := (List Int)) (fun s30 =>
  if decide (s30.2 < (a0.length : Int)) = true then (
  (ix a0 s30.2).bind fun x40 =>
  (ix s30.1 s30.2).bind fun x43 =>
  some (.go (s30.1.set s30.2.toNat x40, IntKind.i64.wrap (s30.2 + 1)))) else (
  some (.out s30.1))) (x4, 0) : Option ((List Int))).bind fun (x12 : (List Int)) =>
  some x12)
theorem c_laws_toIntS {a0 : (List Int)} {r : (List Int)} (hr : F_laws_toIntS a0 = some r) : PCalls Try.prog 20 [(.sh, .sl false 1 (a0.map row_i64))] (Eo (.sl true 1 (r.map row_i64)) [.junk]) := by
  apply pcalls_lf 22 [] [] [] [.tmp 2] hr cl20 Try.func20 rfl rfl rfl
  · exact ⟨by simp, rfl⟩
  intro Φ hΦ hF
  unfold F_laws_toIntS at hF
  obtain ⟨g1, hF2⟩ := Rn_gd hF
  have g3 := g1
  try simp at g3
  obtain ⟨x4, e5, hF6⟩ := Rn_bind hF2
  have g7 : List.replicate a0.length ([.int .i64 0] : List PV) = x4.map row_i64 := by injection e5 with e5; rw [← e5]; simp [-List.map_set, go_sem]
  iterate 3 (try simp [-List.map_set, go_sem, g1, g3, g7]; try intros; refine pw_wk ?_)
  repeat rw [sq]
  refine pw_joinF (fun (x12 : (List Int)) => [(3, .v (.sl true 1 (x12.map row_i64)))]) hF6 ?_ ?_
  ·intro x12 hF13
   cases hΦ _ (Rn_some hF13)
   try simp [-List.map_set, go_sem, g1, g3]
   refine pw_wk ?_
   try simp [-List.map_set, go_sem, g1, g3]
  ·intro ψ10 hj8 hF11
   repeat rw [sq]
   rw [pw_block]
   obtain ⟨b46, hb47, hψ34⟩ := hF11
   refine pw_wloop (fun (s30 : (List Int) × Int) => [(0, .v (.sl false 1 (a0.map row_i64))), (3, .v (.sl true 1 (s30.1.map row_i64))), (4, .v (.int .i64 s30.2))]) hb47 (by simp [-List.map_set, go_sem, g1, g3]) ?_
   intro s30 φ35 N36 ho32 hg33 hF37
   try simp [-List.map_set, go_sem, g1, g3]
   try intros
   refine pw_wkK [0, 3, 4, 11] (by simp [-List.map_set, go_sem, g1, g3]; rfl) ?_
   repeat rw [sq]
   refine pw_cF hF37 (by simp [-List.map_set, go_sem, g1, g3]) (fun h38 hF39 => ?_) fun h38 hF39 => ?_
   ·try simp [-List.map_set, go_sem, g1, g3]
    refine pw_wk ?_
    repeat rw [sq]
    rw [pw_block]
    obtain ⟨x40, g41, hF42⟩ := Rn_ix hF39
    obtain ⟨x43, g44, hF45⟩ := Rn_ix hF42
    try simp [-List.map_set, go_sem, g1, g3, g41, g44]
    refine pw_wk ?_
    try simp [-List.map_set, go_sem, g1, g3, g41, g44]
    exact hg33 (s30.1.set s30.2.toNat x40, IntKind.i64.wrap (s30.2 + 1)) _ (by simp [-List.map_set, go_sem, g1, g3, g41, g44]) (Rn_some hF45)
   ·try simp [-List.map_set, go_sem, g1, g3]
    cases ho32 _ (Rn_some hF39)
    exact hj8 s30.1 _ (by simp [-List.map_set, go_sem, g1, g3]) hψ34
noncomputable def F_spec_l1In (a0 : Int) (a1 : Int) (a2 : Int) : Option (Bool) :=
  ((if decide (a1 ≤ a0) = true then (
  some (decide (a0 ≤ a2))) else (
  some false) : Option (Bool)).bind fun (x5 : Bool) =>
  some x5)
theorem c_spec_l1In {a0 : Int} {a1 : Int} {a2 : Int} {r : Bool} (hr : F_spec_l1In a0 a1 a2 = some r) : PCalls Try.prog 54 [(.sh, .int .i64 a0), (.sh, .int .i64 a1), (.sh, .int .i64 a2)] (Eo (.bool r) [.junk, .junk, .junk]) := by
  apply pcalls_lf 15 [] [] [] [.tmp 6] hr cl54 Try.func54 rfl rfl rfl
  · exact ⟨by simp, rfl⟩
  intro Φ hΦ hF
  unfold F_spec_l1In at hF
  try simp [-List.map_set, go_sem]
  refine pw_wk ?_
  repeat rw [sq]
  refine pw_joinF (fun (x5 : Bool) => [(6, .v (.bool x5))]) hF ?_ ?_
  ·intro x5 hF6
   cases hΦ _ (Rn_some hF6)
   try simp [-List.map_set, go_sem]
  ·intro ψ3 hj1 hF4
   try simp [-List.map_set, go_sem]
   refine pwg_F hF4 (fun h7 hF8 => ?_) fun h7 hF8 => ?_
   ·try simp [-List.map_set, go_sem, h7]
    exact hj1 (decide (a0 ≤ a2)) _ (by simp [-List.map_set, go_sem]) (Rn_some hF8)
   ·try simp [-List.map_set, go_sem, h7]
    exact hj1 false _ (by simp [-List.map_set, go_sem]) (Rn_some hF8)
noncomputable def F_spec_nPower (a0 : Int) (a1 : Int) (a2 : Int) : Option (Int) :=
  gd (a2 ≠ 0) <|
  ((wloop (σ := Int × Int × Int) (β := Int) (fun s9 =>
  if decide (0 < s9.2.1) = true then (
  ((if ((s9.2.1.tmod 2) == 1) = true then (
  gd (a2 ≠ 0) <|
  some ((IntKind.i64.wrap (s9.2.2 * s9.1)).tmod a2)) else (
  some s9.2.2) : Option (Int)).bind fun (x24 : Int) =>
  gd (a2 ≠ 0) <|
  some (.go ((IntKind.i64.wrap (s9.1 * s9.1)).tmod a2, IntKind.i64.wrap (s9.2.1.tdiv 2), x24)))) else (
  some (.out s9.2.2))) (a0, a1, (1 : Int).tmod a2) : Option (Int)).bind fun (x7 : Int) =>
  some x7)
theorem c_spec_nPower {a0 : Int} {a1 : Int} {a2 : Int} {r : Int} (hr : F_spec_nPower a0 a1 a2 = some r) : PCalls Try.prog 90 [(.sh, .int .i64 a0), (.sh, .int .i64 a1), (.sh, .int .i64 a2)] (Eo (.int .i64 r) [.junk, .junk, .junk]) := by
  apply pcalls_lf 28 [] [] [] [.tmp 6] hr cl90 Try.func90 rfl rfl rfl
  · exact ⟨by simp, rfl⟩
  intro Φ hΦ hF
  unfold F_spec_nPower at hF
  obtain ⟨g1, hF2⟩ := Rn_nz hF
  iterate 2 (try simp [-List.map_set, go_sem, g1]; refine pw_wk ?_)
  repeat rw [sq]
  refine pw_joinF (fun (x7 : Int) => [(7, .v (.int .i64 x7))]) hF2 ?_ ?_
  ·intro x7 hF8
   cases hΦ _ (Rn_some hF8)
   try simp [-List.map_set, go_sem, g1]
   refine pw_wk ?_
   try simp [-List.map_set, go_sem, g1]
  ·intro ψ5 hj3 hF6
   repeat rw [sq]
   rw [pw_block]
   obtain ⟨b33, hb34, hψ13⟩ := hF6
   refine pw_wloop (fun (s9 : Int × Int × Int) => [(0, .v (.int .i64 s9.1)), (1, .v (.int .i64 s9.2.1)), (2, .v (.int .i64 a2)), (7, .v (.int .i64 s9.2.2))]) hb34 (by simp [-List.map_set, go_sem, g1]) ?_
   intro s9 φ14 N15 ho11 hg12 hF16
   try simp [-List.map_set, go_sem, g1]
   refine pw_wk ?_
   repeat rw [sq]
   refine pw_cF hF16 (by simp [-List.map_set, go_sem, g1]) (fun h17 hF18 => ?_) fun h17 hF18 => ?_
   ·try simp [-List.map_set, go_sem, g1]
    refine pw_wk ?_
    repeat rw [sq]
    rw [pw_block]
    have g19 := fun x => divV_ne (b := 2) (x := x) (by decide)
    try simp [-List.map_set, go_sem, g1, g19]
    refine pw_wk ?_
    repeat rw [sq]
    refine pw_joinF (fun (x24 : Int) => [(0, .v (.int .i64 s9.1)), (1, .v (.int .i64 s9.2.1)), (2, .v (.int .i64 a2)), (7, .v (.int .i64 x24))]) hF18 ?_ ?_
    ·intro x24 hF25
     obtain ⟨g30, hF31⟩ := Rn_nz hF25
     try simp [-List.map_set, go_sem, g1, g19, g30]
     refine pw_wkK [0, 1, 2, 7] (by simp [-List.map_set, go_sem, g1, g19, g30]; rfl) ?_
     have g32 := fun x => divV_ne (b := 2) (x := x) (by decide)
     try simp [-List.map_set, go_sem, g1, g19, g30, g32]
     exact hg12 ((IntKind.i64.wrap (s9.1 * s9.1)).tmod a2, IntKind.i64.wrap (s9.2.1.tdiv 2), x24) _ (by simp [-List.map_set, go_sem, g1, g19, g30, g32]) (Rn_some hF31)
    ·intro ψ22 hj20 hF23
     repeat rw [sq]
     refine pw_cF hF23 (by simp [-List.map_set, go_sem, g1, g19]) (fun h26 hF27 => ?_) fun h26 hF27 => ?_
     ·obtain ⟨g28, hF29⟩ := Rn_nz hF27
      try simp [-List.map_set, go_sem, g1, g19, g28]
      exact hj20 ((IntKind.i64.wrap (s9.2.2 * s9.1)).tmod a2) _ (by simp [-List.map_set, go_sem, g1, g19, g28]) (Rn_some hF29)
     ·try simp [-List.map_set, go_sem, g1, g19]
      exact hj20 s9.2.2 _ (by simp [-List.map_set, go_sem, g1, g19]) (Rn_some hF27)
   ·try simp [-List.map_set, go_sem, g1]
    cases ho11 _ (Rn_some hF18)
    exact hj3 s9.2.2 _ (by simp [-List.map_set, go_sem, g1]) hψ13
noncomputable def F_spec_nPrime (a0 : Int) : Option (Bool) :=
  if decide (a0 < 2) = true then (
  some false) else (
  ((wloop (σ := Int) (β := Unit ⊕ Bool) (fun s9 =>
  if decide ((IntKind.i64.wrap (s9 * s9)) ≤ a0) = true then (
  gd (s9 ≠ 0) <|
  if ((a0.tmod s9) == 0) = true then (
  some (.out (.inr false))) else (
  some (.go (IntKind.i64.wrap (s9 + 1))))) else (
  some (.out (.inl ())))) 2 : Option (Unit ⊕ Bool)).bind (Sum.elim (fun (x7 : Unit) =>
  some true) some)))
theorem c_spec_nPrime {a0 : Int} {r : Bool} (hr : F_spec_nPrime a0 = some r) : PCalls Try.prog 71 [(.sh, .int .i64 a0)] (Eo (.bool r) [.junk]) := by
  apply pcalls_lf 17 [] [] [] [.tmp 2] hr cl71 Try.func71 rfl rfl rfl
  · exact ⟨by simp, rfl⟩
  intro Φ hΦ hF
  unfold F_spec_nPrime at hF
  iterate 2 (try simp [-List.map_set, go_sem]; refine pw_wk ?_)
  repeat rw [sq]
  refine pw_cF hF (by simp [-List.map_set, go_sem]) (fun h1 hF2 => ?_) fun h1 hF2 => ?_
  ·cases hΦ _ (Rn_some hF2)
   try simp [-List.map_set, go_sem]
   refine pw_wk ?_
   try simp [-List.map_set, go_sem]
  ·iterate 2 (try simp [-List.map_set, go_sem]; refine pw_wk ?_)
   repeat rw [sq]
   refine pw_joinS (fun (x7 : Unit) => []) hF2 ?_ ?_
   ·intro x7 hF8
    cases hΦ _ (Rn_some hF8)
    try simp [-List.map_set, go_sem]
    refine pw_wk ?_
    try simp [-List.map_set, go_sem]
   ·intro ψ5 hj3 hr4 hF6
    repeat rw [sq]
    rw [pw_block]
    obtain ⟨b23, hb24, hψ13⟩ := hF6
    refine pw_wloop (fun (s9 : Int) => [(0, .v (.int .i64 a0)), (3, .v (.int .i64 s9))]) hb24 (by simp [-List.map_set, go_sem]) ?_
    intro s9 φ14 N15 ho11 hg12 hF16
    try simp [-List.map_set, go_sem]
    refine pw_wk ?_
    repeat rw [sq]
    refine pw_cF hF16 (by simp [-List.map_set, go_sem]) (fun h17 hF18 => ?_) fun h17 hF18 => ?_
    ·try simp [-List.map_set, go_sem]
     refine pw_wk ?_
     repeat rw [sq]
     rw [pw_block]
     obtain ⟨g19, hF20⟩ := Rn_nz hF18
     try simp [-List.map_set, go_sem, g19]
     refine pw_wkK [0, 3, 16] (by simp [-List.map_set, go_sem, g19]; rfl) ?_
     repeat rw [sq]
     refine pw_cF hF20 (by simp [-List.map_set, go_sem, g19]) (fun h21 hF22 => ?_) fun h21 hF22 => ?_
     ·cases ho11 _ (Rn_some hF22)
      cases hΦ _ (hr4 _ hψ13)
      try simp [-List.map_set, go_sem, g19]
      refine pw_wk ?_
      try simp [-List.map_set, go_sem, g19]
     ·try simp [-List.map_set, go_sem, g19]
      refine pw_wk ?_
      try simp [-List.map_set, go_sem, g19]
      exact hg12 (IntKind.i64.wrap (s9 + 1)) _ (by simp [-List.map_set, go_sem, g19]) (Rn_some hF22)
    ·try simp [-List.map_set, go_sem]
     cases ho11 _ (Rn_some hF18)
     exact hj3 () _ (by simp [-List.map_set, go_sem]) hψ13
noncomputable def F_spec_l2Good (a0 : Group) : Option (Bool) :=
  (((F_spec_l1In a0.P 3 2000000000).bind fun z7 =>
  if z7 = true then (
  (F_spec_l1In a0.Q 2 (IntKind.i64.wrap (a0.P - 1))).bind fun z11 =>
  if z11 = true then (
  gd (a0.Q ≠ 0) <|
  if (((IntKind.i64.wrap (a0.P - 1)).tmod a0.Q) == 0) = true then (
  (F_spec_l1In a0.G 2 (IntKind.i64.wrap (a0.P - 1))).bind fun z19 =>
  if z19 = true then (
  (F_spec_nPower a0.G a0.Q a0.P).bind fun z23 =>
  if (z23 == 1) = true then (
  (F_spec_nPrime a0.Q).bind fun z27 =>
  if z27 = true then (
  (F_spec_nPrime a0.P).bind fun z31 =>
  some z31) else (
  some false)) else (
  some false)) else (
  some false)) else (
  some false)) else (
  some false)) else (
  some false) : Option (Bool)).bind fun (x5 : Bool) =>
  some x5)
theorem c_spec_l2Good {a0 : Group} {r : Bool} (hr : F_spec_l2Good a0 = some r) : PCalls Try.prog 89 [(.sh, .agg [.int .i64 a0.P, .int .i64 a0.Q, .int .i64 a0.G])] (Eo (.bool r) [.junk]) := by
  apply pcalls_lf 51 [] [] [] [.tmp 2] hr cl89 Try.func89 rfl rfl rfl
  · exact ⟨by simp, rfl⟩
  intro Φ hΦ hF
  unfold F_spec_l2Good at hF
  try simp [-List.map_set, go_sem]
  refine pw_wk ?_
  repeat rw [sq]
  refine pw_joinF (fun (x5 : Bool) => [(2, .v (.bool x5))]) hF ?_ ?_
  ·intro x5 hF6
   cases hΦ _ (Rn_some hF6)
   try simp [-List.map_set, go_sem]
  ·intro ψ3 hj1 hF4
   try simp [-List.map_set, go_sem]
   refine pw_cl hF4 [.sh, .sh, .sh] c_spec_l1In rfl rfl (by (try simp [-List.map_set, go_sem, clE]); first | rfl | done) (by rfl) (by (try simp [-List.map_set, go_sem]); first | rfl | done) fun z7 hF8 => ⟨by simp [go_sem], ?_⟩
   try simp [-List.map_set, go_sem]
   refine pwg_F hF8 (fun h9 hF10 => ?_) fun h9 hF10 => ?_
   ·try simp [-List.map_set, go_sem, h9]
    refine pw_cl hF10 [.sh, .sh, .sh] c_spec_l1In rfl rfl (by (try simp [-List.map_set, go_sem, clE]); first | rfl | done) (by rfl) (by (try simp [-List.map_set, go_sem]); first | rfl | done) fun z11 hF12 => ⟨by simp [go_sem], ?_⟩
    try simp [-List.map_set, go_sem, h9]
    refine pwg_F hF12 (fun h13 hF14 => ?_) fun h13 hF14 => ?_
    ·obtain ⟨g15, hF16⟩ := Rn_nz hF14
     try simp [-List.map_set, go_sem, g15, h13]
     refine pwg_F hF16 (fun h17 hF18 => ?_) fun h17 hF18 => ?_
     ·try simp [-List.map_set, go_sem, g15, h17]
      refine pw_cl hF18 [.sh, .sh, .sh] c_spec_l1In rfl rfl (by (try simp [-List.map_set, go_sem, clE, g15]); first | rfl | done) (by rfl) (by (try simp [-List.map_set, go_sem, g15]); first | rfl | done) fun z19 hF20 => ⟨by simp [go_sem], ?_⟩
      try simp [-List.map_set, go_sem, g15, h17]
      refine pwg_F hF20 (fun h21 hF22 => ?_) fun h21 hF22 => ?_
      ·try simp [-List.map_set, go_sem, g15, h21]
       refine pw_cl hF22 [.sh, .sh, .sh] c_spec_nPower rfl rfl (by (try simp [-List.map_set, go_sem, clE, g15]); first | rfl | done) (by rfl) (by (try simp [-List.map_set, go_sem, g15]); first | rfl | done) fun z23 hF24 => ⟨by simp [go_sem], ?_⟩
       try simp [-List.map_set, go_sem, g15, h21]
       refine pwg_F hF24 (fun h25 hF26 => ?_) fun h25 hF26 => ?_
       ·try simp [-List.map_set, go_sem, g15, h25]
        refine pw_cl hF26 [.sh] c_spec_nPrime rfl rfl (by (try simp [-List.map_set, go_sem, clE, g15]); first | rfl | done) (by rfl) (by (try simp [-List.map_set, go_sem, g15]); first | rfl | done) fun z27 hF28 => ⟨by simp [go_sem], ?_⟩
        try simp [-List.map_set, go_sem, g15, h25]
        refine pwg_F hF28 (fun h29 hF30 => ?_) fun h29 hF30 => ?_
        ·try simp [-List.map_set, go_sem, g15, h29]
         refine pw_cl hF30 [.sh] c_spec_nPrime rfl rfl (by (try simp [-List.map_set, go_sem, clE, g15]); first | rfl | done) (by rfl) (by (try simp [-List.map_set, go_sem, g15]); first | rfl | done) fun z31 hF32 => ⟨by simp [go_sem], ?_⟩
         try simp [-List.map_set, go_sem, g15, h29]
         exact hj1 z31 _ (by simp [-List.map_set, go_sem, g15]) (Rn_some hF32)
        ·try simp [-List.map_set, go_sem, g15, h29]
         exact hj1 false _ (by simp [-List.map_set, go_sem, g15]) (Rn_some hF30)
       ·try simp [-List.map_set, go_sem, g15, h25]
        exact hj1 false _ (by simp [-List.map_set, go_sem, g15]) (Rn_some hF26)
      ·try simp [-List.map_set, go_sem, g15, h21]
       exact hj1 false _ (by simp [-List.map_set, go_sem, g15]) (Rn_some hF22)
     ·try simp [-List.map_set, go_sem, g15, h17]
      exact hj1 false _ (by simp [-List.map_set, go_sem, g15]) (Rn_some hF18)
    ·try simp [-List.map_set, go_sem, h13]
     exact hj1 false _ (by simp [-List.map_set, go_sem]) (Rn_some hF14)
   ·try simp [-List.map_set, go_sem, h9]
    exact hj1 false _ (by simp [-List.map_set, go_sem]) (Rn_some hF10)
noncomputable def F_spec_sGroup (a0 : Group) : Option (Bool) :=
  (((F_spec_l2Good a0).bind fun z7 =>
  if z7 = true then (
  some (decide (7 < a0.Q))) else (
  some false) : Option (Bool)).bind fun (x5 : Bool) =>
  some x5)
theorem c_spec_sGroup {a0 : Group} {r : Bool} (hr : F_spec_sGroup a0 = some r) : PCalls Try.prog 49 [(.sh, .agg [.int .i64 a0.P, .int .i64 a0.Q, .int .i64 a0.G])] (Eo (.bool r) [.junk]) := by
  apply pcalls_lf 10 [] [] [] [.tmp 2] hr cl49 Try.func49 rfl rfl rfl
  · exact ⟨by simp, rfl⟩
  intro Φ hΦ hF
  unfold F_spec_sGroup at hF
  try simp [-List.map_set, go_sem]
  refine pw_wk ?_
  repeat rw [sq]
  refine pw_joinF (fun (x5 : Bool) => [(2, .v (.bool x5))]) hF ?_ ?_
  ·intro x5 hF6
   cases hΦ _ (Rn_some hF6)
   try simp [-List.map_set, go_sem]
  ·intro ψ3 hj1 hF4
   try simp [-List.map_set, go_sem]
   refine pw_cl hF4 [.sh] c_spec_l2Good rfl rfl (by (try simp [-List.map_set, go_sem, clE]); first | rfl | done) (by rfl) (by (try simp [-List.map_set, go_sem]); first | rfl | done) fun z7 hF8 => ⟨by simp [go_sem], ?_⟩
   try simp [-List.map_set, go_sem]
   refine pwg_F hF8 (fun h9 hF10 => ?_) fun h9 hF10 => ?_
   ·try simp [-List.map_set, go_sem, h9]
    exact hj1 (decide (7 < a0.Q)) _ (by simp [-List.map_set, go_sem]) (Rn_some hF10)
   ·try simp [-List.map_set, go_sem, h9]
    exact hj1 false _ (by simp [-List.map_set, go_sem]) (Rn_some hF10)
noncomputable def F_spec_gIs (a0 : Group) (a1 : (List Int)) : Option (Bool) :=
  ((rloop (σ := Unit) (β := Unit ⊕ Bool) (fun i8 s7 =>
  (ix a1 i8).bind fun x17 =>
  (((F_spec_l1In x17 1 (IntKind.i64.wrap (a0.P - 1))).bind fun z26 =>
  if (!z26) = true then (
  some true) else (
  (F_spec_nPower x17 a0.Q a0.P).bind fun z30 =>
  some (z30 != 1)) : Option (Bool)).bind fun (x24 : Bool) =>
  if x24 = true then (
  some (.out (.inr false))) else (
  some (.go ())))) (fun s7 => .inl ()) (a1.length) 0 () : Option (Unit ⊕ Bool)).bind (Sum.elim (fun (x5 : Unit) =>
  some true) some))
theorem c_spec_gIs {a0 : Group} {a1 : (List Int)} {r : Bool} (hr : F_spec_gIs a0 a1 = some r) : PCalls Try.prog 51 [(.sh, .agg [.int .i64 a0.P, .int .i64 a0.Q, .int .i64 a0.G]), (.sh, .sl false 1 (a1.map row_i64))] (Eo (.bool r) [.junk, .junk]) := by
  apply pcalls_lf 29 [] [] [] [.tmp 4] hr cl51 Try.func51 rfl rfl rfl
  · exact ⟨by simp, rfl⟩
  intro Φ hΦ hF
  unfold F_spec_gIs at hF
  iterate 2 (try simp [-List.map_set, go_sem]; try intros; refine pw_wk ?_)
  repeat rw [sq]
  refine pw_joinS (fun (x5 : Unit) => []) hF ?_ ?_
  ·intro x5 hF6
   cases hΦ _ (Rn_some hF6)
   try simp [-List.map_set, go_sem]
   refine pw_wk ?_
   try simp [-List.map_set, go_sem]
  ·intro ψ3 hj1 hr2 hF4
   repeat rw [sq]
   rw [pw_block]
   obtain ⟨b34, hb35, hψ11⟩ := hF4
   refine pw_rloop (fun (i8 : Int) (s7 : Unit) => [(2, .bl [.int .i64 a0.P, .int .i64 a0.Q, .int .i64 a0.G]), (7, .v (.sl false 1 (a1.map row_i64))), (8, .v (.int .i64 (a1.length : Int))), (9, .v (.int .i64 i8))]) hb35 (by simp [-List.map_set, go_sem]) ?_ ?_
   ·intro s7 N37 hN36
    subst hN36
    try simp [-List.map_set, go_sem]
    refine pw_wk ?_
    repeat rw [sq]
    refine pw_cond_f (by simp [-List.map_set, go_sem]) ?_
    try simp [-List.map_set, go_sem]
    exact hj1 () _ (by simp [-List.map_set, go_sem]) hψ11
   ·intro i8 s7 φ12 N13 hi15 hi16 ho9 hg10 hF14
    rw [Int.zero_add] at hi16
    try simp [-List.map_set, go_sem]
    refine pw_wk ?_
    repeat rw [sq]
    refine pw_cond_t (by simp [-List.map_set, go_sem, hi15, hi16]) ?_
    try simp [-List.map_set, go_sem]
    refine pw_wk ?_
    repeat rw [sq]
    rw [pw_block]
    obtain ⟨x17, g18, hF19⟩ := Rn_ix hF14
    try simp [-List.map_set, go_sem, g18]
    refine pw_wk ?_
    repeat rw [sq]
    refine pw_joinF (fun (x24 : Bool) => [(2, .bl [.int .i64 a0.P, .int .i64 a0.Q, .int .i64 a0.G]), (7, .v (.sl false 1 (a1.map row_i64))), (8, .v (.int .i64 (a1.length : Int))), (9, .v (.int .i64 i8)), (27, .v (.bool x24))]) hF19 ?_ ?_
    ·intro x24 hF25
     repeat rw [sq]
     refine pw_cF hF25 (by simp [-List.map_set, go_sem, g18]) (fun h32 hF33 => ?_) fun h32 hF33 => ?_
     ·try simp [-List.map_set, go_sem, g18]
      refine pw_wkK [4] (by simp [-List.map_set, go_sem, g18]; rfl) ?_
      cases ho9 _ (Rn_some hF33)
      cases hΦ _ (hr2 _ hψ11)
      try simp [-List.map_set, go_sem, g18]
     ·try simp [-List.map_set, go_sem, g18]
      refine pw_wk ?_
      try simp [-List.map_set, go_sem, g18]
      exact hg10 () _ (by simp [-List.map_set, go_sem, g18, wr_i hi15 hi16 (by assumption)]) (Rn_some hF33)
    ·intro ψ22 hj20 hF23
     try simp [-List.map_set, go_sem, g18]
     refine pw_cl hF23 [.sh, .sh, .sh] c_spec_l1In rfl rfl (by (try simp [-List.map_set, go_sem, clE, g18]); first | rfl | done) (by rfl) (by (try simp [-List.map_set, go_sem, g18]); first | rfl | done) fun z26 hF27 => ⟨by simp [go_sem], ?_⟩
     try simp [-List.map_set, go_sem, g18]
     refine pwg_F hF27 (fun h28 hF29 => ?_) fun h28 hF29 => ?_
     ·try simp [-List.map_set, go_sem, g18, h28]
      exact hj20 true _ (by simp [-List.map_set, go_sem, g18]) (Rn_some hF29)
     ·try simp [-List.map_set, go_sem, g18, h28]
      refine pw_cl hF29 [.sh, .sh, .sh] c_spec_nPower rfl rfl (by (try simp [-List.map_set, go_sem, clE, g18]); first | rfl | done) (by rfl) (by (try simp [-List.map_set, go_sem, g18]); first | rfl | done) fun z30 hF31 => ⟨by simp [go_sem], ?_⟩
      try simp [-List.map_set, go_sem, g18, h28]
      exact hj20 (z30 != 1) _ (by simp [-List.map_set, go_sem, g18]) (Rn_some hF31)
noncomputable def F_spec_eGood (a0 : Group) (a1 : (List Cipher)) : Option (Bool) :=
  if decide (24 < (a1.length : Int)) = true then (
  some false) else (
  ((rloop (σ := Unit) (β := Unit ⊕ Bool) (fun i10 s9 =>
  (ix a1 i10).bind fun x19 =>
  (F_spec_gIs a0 [x19.A, x19.B]).bind fun z22 =>
  if (!z22) = true then (
  some (.out (.inr false))) else (
  some (.go ()))) (fun s9 => .inl ()) (a1.length) 0 () : Option (Unit ⊕ Bool)).bind (Sum.elim (fun (x7 : Unit) =>
  some true) some)))
theorem c_spec_eGood {a0 : Group} {a1 : (List Cipher)} {r : Bool} (hr : F_spec_eGood a0 a1 = some r) : PCalls Try.prog 50 [(.sh, .agg [.int .i64 a0.P, .int .i64 a0.Q, .int .i64 a0.G]), (.sh, .sl false 2 (a1.map row_Cipher))] (Eo (.bool r) [.junk, .junk]) := by
  apply pcalls_lf 25 [] [] [] [.tmp 4] hr cl50 Try.func50 rfl rfl rfl
  · exact ⟨by simp, rfl⟩
  intro Φ hΦ hF
  unfold F_spec_eGood at hF
  iterate 2 (try simp [-List.map_set, go_sem]; try intros; refine pw_wk ?_)
  repeat rw [sq]
  refine pw_cF hF (by simp [-List.map_set, go_sem]) (fun h1 hF2 => ?_) fun h1 hF2 => ?_
  ·cases hΦ _ (Rn_some hF2)
   try simp [-List.map_set, go_sem]
   refine pw_wk ?_
   try simp [-List.map_set, go_sem]
  ·iterate 2 (try simp [-List.map_set, go_sem]; try intros; refine pw_wk ?_)
   repeat rw [sq]
   refine pw_joinS (fun (x7 : Unit) => []) hF2 ?_ ?_
   ·intro x7 hF8
    cases hΦ _ (Rn_some hF8)
    try simp [-List.map_set, go_sem]
    refine pw_wk ?_
    try simp [-List.map_set, go_sem]
   ·intro ψ5 hj3 hr4 hF6
    repeat rw [sq]
    rw [pw_block]
    obtain ⟨b26, hb27, hψ13⟩ := hF6
    refine pw_rloop (fun (i10 : Int) (s9 : Unit) => [(2, .bl [.int .i64 a0.P, .int .i64 a0.Q, .int .i64 a0.G]), (10, .v (.sl false 2 (a1.map row_Cipher))), (11, .v (.int .i64 (a1.length : Int))), (12, .v (.int .i64 i10))]) hb27 (by simp [-List.map_set, go_sem]) ?_ ?_
    ·intro s9 N29 hN28
     subst hN28
     try simp [-List.map_set, go_sem]
     refine pw_wk ?_
     repeat rw [sq]
     refine pw_cond_f (by simp [-List.map_set, go_sem]) ?_
     try simp [-List.map_set, go_sem]
     exact hj3 () _ (by simp [-List.map_set, go_sem]) hψ13
    ·intro i10 s9 φ14 N15 hi17 hi18 ho11 hg12 hF16
     rw [Int.zero_add] at hi18
     try simp [-List.map_set, go_sem]
     refine pw_wk ?_
     repeat rw [sq]
     refine pw_cond_t (by simp [-List.map_set, go_sem, hi17, hi18]) ?_
     try simp [-List.map_set, go_sem]
     refine pw_wk ?_
     repeat rw [sq]
     rw [pw_block]
     obtain ⟨x19, g20, hF21⟩ := Rn_ix hF16
     try simp [-List.map_set, go_sem, g20]
     refine pw_wkK [2, 6, 10, 11, 12] (by simp [-List.map_set, go_sem, g20]; rfl) ?_
     try simp [-List.map_set, go_sem, g20]
     refine pw_cl hF21 [.sh, .sh] c_spec_gIs rfl rfl (by (try simp [-List.map_set, go_sem, clE, g20]); first | rfl | done) (by rfl) (by (try simp [-List.map_set, go_sem, g20]); first | rfl | done) fun z22 hF23 => ⟨by simp [go_sem], ?_⟩
     try simp [-List.map_set, go_sem, g20]
     refine pw_wk ?_
     repeat rw [sq]
     refine pw_cF hF23 (by simp [-List.map_set, go_sem, g20]) (fun h24 hF25 => ?_) fun h24 hF25 => ?_
     ·cases ho11 _ (Rn_some hF25)
      cases hΦ _ (hr4 _ hψ13)
      try simp [-List.map_set, go_sem, g20]
      refine pw_wk ?_
      try simp [-List.map_set, go_sem, g20]
     ·try simp [-List.map_set, go_sem, g20]
      refine pw_wk ?_
      try simp [-List.map_set, go_sem, g20]
      exact hg12 () _ (by simp [-List.map_set, go_sem, g20, wr_i hi17 hi18 (by assumption)]) (Rn_some hF25)
noncomputable def F_spec_l1All (a0 : (List Int)) (a1 : Int) (a2 : Int) : Option (Bool) :=
  ((rloop (σ := Unit) (β := Unit ⊕ Bool) (fun i8 s7 =>
  (ix a0 i8).bind fun x17 =>
  (F_spec_l1In x17 a1 a2).bind fun z20 =>
  if (!z20) = true then (
  some (.out (.inr false))) else (
  some (.go ()))) (fun s7 => .inl ()) (a0.length) 0 () : Option (Unit ⊕ Bool)).bind (Sum.elim (fun (x5 : Unit) =>
  some true) some))
theorem c_spec_l1All {a0 : (List Int)} {a1 : Int} {a2 : Int} {r : Bool} (hr : F_spec_l1All a0 a1 a2 = some r) : PCalls Try.prog 91 [(.sh, .sl false 1 (a0.map row_i64)), (.sh, .int .i64 a1), (.sh, .int .i64 a2)] (Eo (.bool r) [.junk, .junk, .junk]) := by
  apply pcalls_lf 21 [] [] [] [.tmp 6] hr cl91 Try.func91 rfl rfl rfl
  · exact ⟨by simp, rfl⟩
  intro Φ hΦ hF
  unfold F_spec_l1All at hF
  iterate 2 (try simp [-List.map_set, go_sem]; try intros; refine pw_wk ?_)
  repeat rw [sq]
  refine pw_joinS (fun (x5 : Unit) => []) hF ?_ ?_
  ·intro x5 hF6
   cases hΦ _ (Rn_some hF6)
   try simp [-List.map_set, go_sem]
   refine pw_wk ?_
   try simp [-List.map_set, go_sem]
  ·intro ψ3 hj1 hr2 hF4
   repeat rw [sq]
   rw [pw_block]
   obtain ⟨b24, hb25, hψ11⟩ := hF4
   refine pw_rloop (fun (i8 : Int) (s7 : Unit) => [(1, .v (.int .i64 a1)), (2, .v (.int .i64 a2)), (9, .v (.sl false 1 (a0.map row_i64))), (10, .v (.int .i64 (a0.length : Int))), (11, .v (.int .i64 i8))]) hb25 (by simp [-List.map_set, go_sem]) ?_ ?_
   ·intro s7 N27 hN26
    subst hN26
    try simp [-List.map_set, go_sem]
    refine pw_wk ?_
    repeat rw [sq]
    refine pw_cond_f (by simp [-List.map_set, go_sem]) ?_
    try simp [-List.map_set, go_sem]
    exact hj1 () _ (by simp [-List.map_set, go_sem]) hψ11
   ·intro i8 s7 φ12 N13 hi15 hi16 ho9 hg10 hF14
    rw [Int.zero_add] at hi16
    try simp [-List.map_set, go_sem]
    refine pw_wk ?_
    repeat rw [sq]
    refine pw_cond_t (by simp [-List.map_set, go_sem, hi15, hi16]) ?_
    try simp [-List.map_set, go_sem]
    refine pw_wk ?_
    repeat rw [sq]
    rw [pw_block]
    obtain ⟨x17, g18, hF19⟩ := Rn_ix hF14
    try simp [-List.map_set, go_sem, g18]
    refine pw_wk ?_
    try simp [-List.map_set, go_sem, g18]
    refine pw_cl hF19 [.sh, .sh, .sh] c_spec_l1In rfl rfl (by (try simp [-List.map_set, go_sem, clE, g18]); first | rfl | done) (by rfl) (by (try simp [-List.map_set, go_sem, g18]); first | rfl | done) fun z20 hF21 => ⟨by simp [go_sem], ?_⟩
    try simp [-List.map_set, go_sem, g18]
    refine pw_wkK [1, 2, 9, 10, 11, 19] (by simp [-List.map_set, go_sem, g18]; rfl) ?_
    repeat rw [sq]
    refine pw_cF hF21 (by simp [-List.map_set, go_sem, g18]) (fun h22 hF23 => ?_) fun h22 hF23 => ?_
    ·cases ho9 _ (Rn_some hF23)
     cases hΦ _ (hr2 _ hψ11)
     try simp [-List.map_set, go_sem, g18]
     refine pw_wk ?_
     try simp [-List.map_set, go_sem, g18]
    ·try simp [-List.map_set, go_sem, g18]
     refine pw_wk ?_
     try simp [-List.map_set, go_sem, g18]
     exact hg10 () _ (by simp [-List.map_set, go_sem, g18, wr_i hi15 hi16 (by assumption)]) (Rn_some hF23)
noncomputable def F_spec_l1Has (a0 : (List Int)) (a1 : Int) : Option (Bool) :=
  ((rloop (σ := Unit) (β := Unit ⊕ Bool) (fun i8 s7 =>
  (ix a0 i8).bind fun x17 =>
  if (x17 == a1) = true then (
  some (.out (.inr true))) else (
  some (.go ()))) (fun s7 => .inl ()) (a0.length) 0 () : Option (Unit ⊕ Bool)).bind (Sum.elim (fun (x5 : Unit) =>
  some false) some))
theorem c_spec_l1Has {a0 : (List Int)} {a1 : Int} {r : Bool} (hr : F_spec_l1Has a0 a1 = some r) : PCalls Try.prog 55 [(.sh, .sl false 1 (a0.map row_i64)), (.sh, .int .i64 a1)] (Eo (.bool r) [.junk, .junk]) := by
  apply pcalls_lf 17 [] [] [] [.tmp 4] hr cl55 Try.func55 rfl rfl rfl
  · exact ⟨by simp, rfl⟩
  intro Φ hΦ hF
  unfold F_spec_l1Has at hF
  iterate 2 (try simp [-List.map_set, go_sem]; try intros; refine pw_wk ?_)
  repeat rw [sq]
  refine pw_joinS (fun (x5 : Unit) => []) hF ?_ ?_
  ·intro x5 hF6
   cases hΦ _ (Rn_some hF6)
   try simp [-List.map_set, go_sem]
   refine pw_wk ?_
   try simp [-List.map_set, go_sem]
  ·intro ψ3 hj1 hr2 hF4
   repeat rw [sq]
   rw [pw_block]
   obtain ⟨b22, hb23, hψ11⟩ := hF4
   refine pw_rloop (fun (i8 : Int) (s7 : Unit) => [(1, .v (.int .i64 a1)), (7, .v (.sl false 1 (a0.map row_i64))), (8, .v (.int .i64 (a0.length : Int))), (9, .v (.int .i64 i8))]) hb23 (by simp [-List.map_set, go_sem]) ?_ ?_
   ·intro s7 N25 hN24
    subst hN24
    try simp [-List.map_set, go_sem]
    refine pw_wk ?_
    repeat rw [sq]
    refine pw_cond_f (by simp [-List.map_set, go_sem]) ?_
    try simp [-List.map_set, go_sem]
    exact hj1 () _ (by simp [-List.map_set, go_sem]) hψ11
   ·intro i8 s7 φ12 N13 hi15 hi16 ho9 hg10 hF14
    rw [Int.zero_add] at hi16
    try simp [-List.map_set, go_sem]
    refine pw_wk ?_
    repeat rw [sq]
    refine pw_cond_t (by simp [-List.map_set, go_sem, hi15, hi16]) ?_
    try simp [-List.map_set, go_sem]
    refine pw_wk ?_
    repeat rw [sq]
    rw [pw_block]
    obtain ⟨x17, g18, hF19⟩ := Rn_ix hF14
    try simp [-List.map_set, go_sem, g18]
    refine pw_wk ?_
    try simp [-List.map_set, go_sem, g18]
    refine pw_wkK [1, 7, 8, 9, 15] (by simp [-List.map_set, go_sem, g18]; rfl) ?_
    repeat rw [sq]
    refine pw_cF hF19 (by simp [-List.map_set, go_sem, g18]) (fun h20 hF21 => ?_) fun h20 hF21 => ?_
    ·cases ho9 _ (Rn_some hF21)
     cases hΦ _ (hr2 _ hψ11)
     try simp [-List.map_set, go_sem, g18]
     refine pw_wk ?_
     try simp [-List.map_set, go_sem, g18]
    ·try simp [-List.map_set, go_sem, g18]
     refine pw_wk ?_
     try simp [-List.map_set, go_sem, g18]
     exact hg10 () _ (by simp [-List.map_set, go_sem, g18, wr_i hi15 hi16 (by assumption)]) (Rn_some hF21)
noncomputable def F_spec_yPoints (a0 : (List Int)) : Option (Bool) :=
  ((rloop (σ := Unit) (β := Unit ⊕ Bool) (fun i8 s7 =>
  (ix a0 i8).bind fun x17 =>
  gd (0 ≤ i8) <|
  gd (0 ≤ i8.toNat ∧ i8.toNat ≤ a0.length) <|
  (F_spec_l1Has ((a0.take i8.toNat).drop 0) x17).bind fun z26 =>
  if z26 = true then (
  some (.out (.inr false))) else (
  some (.go ()))) (fun s7 => .inl ()) (a0.length) 0 () : Option (Unit ⊕ Bool)).bind (Sum.elim (fun (x5 : Unit) =>
  some true) some))
theorem c_spec_yPoints {a0 : (List Int)} {r : Bool} (hr : F_spec_yPoints a0 = some r) : PCalls Try.prog 92 [(.sh, .sl false 1 (a0.map row_i64))] (Eo (.bool r) [.junk]) := by
  apply pcalls_lf 18 [] [] [] [.tmp 2] hr cl92 Try.func92 rfl rfl rfl
  · exact ⟨by simp, rfl⟩
  intro Φ hΦ hF
  unfold F_spec_yPoints at hF
  iterate 2 (try simp [-List.map_set, go_sem]; try intros; refine pw_wk ?_)
  repeat rw [sq]
  refine pw_joinS (fun (x5 : Unit) => []) hF ?_ ?_
  ·intro x5 hF6
   cases hΦ _ (Rn_some hF6)
   try simp [-List.map_set, go_sem]
   refine pw_wk ?_
   try simp [-List.map_set, go_sem]
  ·intro ψ3 hj1 hr2 hF4
   repeat rw [sq]
   rw [pw_block]
   obtain ⟨b30, hb31, hψ11⟩ := hF4
   refine pw_rloop (fun (i8 : Int) (s7 : Unit) => [(0, .v (.sl false 1 (a0.map row_i64))), (5, .v (.sl false 1 (a0.map row_i64))), (6, .v (.int .i64 (a0.length : Int))), (7, .v (.int .i64 i8))]) hb31 (by simp [-List.map_set, go_sem]) ?_ ?_
   ·intro s7 N33 hN32
    subst hN32
    try simp [-List.map_set, go_sem]
    refine pw_wk ?_
    repeat rw [sq]
    refine pw_cond_f (by simp [-List.map_set, go_sem]) ?_
    try simp [-List.map_set, go_sem]
    exact hj1 () _ (by simp [-List.map_set, go_sem]) hψ11
   ·intro i8 s7 φ12 N13 hi15 hi16 ho9 hg10 hF14
    rw [Int.zero_add] at hi16
    try simp [-List.map_set, go_sem]
    refine pw_wk ?_
    repeat rw [sq]
    refine pw_cond_t (by simp [-List.map_set, go_sem, hi15, hi16]) ?_
    try simp [-List.map_set, go_sem]
    refine pw_wk ?_
    repeat rw [sq]
    rw [pw_block]
    obtain ⟨x17, g18, hF19⟩ := Rn_ix hF14
    try simp [-List.map_set, go_sem, g18]
    refine pw_wkK [0, 3, 4, 5, 6, 7] (by simp [-List.map_set, go_sem, g18]; rfl) ?_
    obtain ⟨g20, hF21⟩ := Rn_gd hF19
    have g22 := g20
    try simp at g22
    obtain ⟨g23, hF24⟩ := Rn_gd hF21
    have g25 := g23
    try simp at g25
    try simp [-List.map_set, go_sem, g18, g20, g22, g23, g25]
    refine pw_cl hF24 [.sh, .sh] c_spec_l1Has rfl rfl (by (try simp [-List.map_set, go_sem, clE, g18, g20, g22, g23, g25]); first | rfl | done) (by rfl) (by (try simp [-List.map_set, go_sem, g18, g20, g22, g23, g25]); first | rfl | done) fun z26 hF27 => ⟨by simp [go_sem], ?_⟩
    try simp [-List.map_set, go_sem, g18, g20, g22, g23, g25]
    refine pw_wk ?_
    repeat rw [sq]
    refine pw_cF hF27 (by simp [-List.map_set, go_sem, g18, g20, g22, g23, g25]) (fun h28 hF29 => ?_) fun h28 hF29 => ?_
    ·cases ho9 _ (Rn_some hF29)
     cases hΦ _ (hr2 _ hψ11)
     try simp [-List.map_set, go_sem, g18, g20, g22, g23, g25]
     refine pw_wk ?_
     try simp [-List.map_set, go_sem, g18, g20, g22, g23, g25]
    ·try simp [-List.map_set, go_sem, g18, g20, g22, g23, g25]
     refine pw_wk ?_
     try simp [-List.map_set, go_sem, g18, g20, g22, g23, g25]
     exact hg10 () _ (by simp [-List.map_set, go_sem, g18, g20, g22, g23, g25, wr_i hi15 hi16 (by assumption)]) (Rn_some hF29)
noncomputable def F_spec_wTrustees (a0 : (List Int)) : Option (Bool) :=
  (((F_spec_l1All a0 1 7).bind fun z7 =>
  if z7 = true then (
  (F_spec_yPoints a0).bind fun z11 =>
  some z11) else (
  some false) : Option (Bool)).bind fun (x5 : Bool) =>
  some x5)
theorem c_spec_wTrustees {a0 : (List Int)} {r : Bool} (hr : F_spec_wTrustees a0 = some r) : PCalls Try.prog 52 [(.sh, .sl false 1 (a0.map row_i64))] (Eo (.bool r) [.junk]) := by
  apply pcalls_lf 9 [] [] [] [.tmp 2] hr cl52 Try.func52 rfl rfl rfl
  · exact ⟨by simp, rfl⟩
  intro Φ hΦ hF
  unfold F_spec_wTrustees at hF
  try simp [-List.map_set, go_sem]
  refine pw_wk ?_
  repeat rw [sq]
  refine pw_joinF (fun (x5 : Bool) => [(2, .v (.bool x5))]) hF ?_ ?_
  ·intro x5 hF6
   cases hΦ _ (Rn_some hF6)
   try simp [-List.map_set, go_sem]
  ·intro ψ3 hj1 hF4
   try simp [-List.map_set, go_sem]
   refine pw_cl hF4 [.sh, .sh, .sh] c_spec_l1All rfl rfl (by (try simp [-List.map_set, go_sem, clE]); first | rfl | done) (by rfl) (by (try simp [-List.map_set, go_sem]); first | rfl | done) fun z7 hF8 => ⟨by simp [go_sem], ?_⟩
   try simp [-List.map_set, go_sem]
   refine pwg_F hF8 (fun h9 hF10 => ?_) fun h9 hF10 => ?_
   ·try simp [-List.map_set, go_sem, h9]
    refine pw_cl hF10 [.sh] c_spec_yPoints rfl rfl (by (try simp [-List.map_set, go_sem, clE]); first | rfl | done) (by rfl) (by (try simp [-List.map_set, go_sem]); first | rfl | done) fun z11 hF12 => ⟨by simp [go_sem], ?_⟩
    try simp [-List.map_set, go_sem, h9]
    exact hj1 z11 _ (by simp [-List.map_set, go_sem]) (Rn_some hF12)
   ·try simp [-List.map_set, go_sem, h9]
    exact hj1 false _ (by simp [-List.map_set, go_sem]) (Rn_some hF10)
noncomputable def F_spec_gExps (a0 : Group) (a1 : (List Int)) : Option (Bool) :=
  (F_spec_l1All a1 0 (IntKind.i64.wrap (a0.Q - 1))).bind fun z1 =>
  some z1
theorem c_spec_gExps {a0 : Group} {a1 : (List Int)} {r : Bool} (hr : F_spec_gExps a0 a1 = some r) : PCalls Try.prog 53 [(.sh, .agg [.int .i64 a0.P, .int .i64 a0.Q, .int .i64 a0.G]), (.sh, .sl false 1 (a1.map row_i64))] (Eo (.bool r) [.junk, .junk]) := by
  apply pcalls_lf 10 [] [] [] [.tmp 4] hr cl53 Try.func53 rfl rfl rfl
  · exact ⟨by simp, rfl⟩
  intro Φ hΦ hF
  unfold F_spec_gExps at hF
  try simp [-List.map_set, go_sem]
  refine pw_wk ?_
  try simp [-List.map_set, go_sem]
  refine pw_cl hF [.sh, .sh, .sh] c_spec_l1All rfl rfl (by (try simp [-List.map_set, go_sem, clE]); first | rfl | done) (by rfl) (by (try simp [-List.map_set, go_sem]); first | rfl | done) fun z1 hF2 => ⟨by simp [go_sem], ?_⟩
  cases hΦ _ (Rn_some hF2)
  try simp [-List.map_set, go_sem]
  refine pw_wk ?_
  try simp [-List.map_set, go_sem]
noncomputable def F_spec_nMod (a0 : Int) (a1 : Int) : Option (Int) :=
  gd (a1 ≠ 0) <|
  gd (a1 ≠ 0) <|
  some ((IntKind.i64.wrap ((a0.tmod a1) + a1)).tmod a1)
theorem c_spec_nMod {a0 : Int} {a1 : Int} {r : Int} (hr : F_spec_nMod a0 a1 = some r) : PCalls Try.prog 93 [(.sh, .int .i64 a0), (.sh, .int .i64 a1)] (Eo (.int .i64 r) [.junk, .junk]) := by
  apply pcalls_lf 12 [] [] [] [.tmp 4] hr cl93 Try.func93 rfl rfl rfl
  · exact ⟨by simp, rfl⟩
  intro Φ hΦ hF
  unfold F_spec_nMod at hF
  obtain ⟨g1, hF2⟩ := Rn_nz hF
  obtain ⟨g3, hF4⟩ := Rn_nz hF2
  cases hΦ _ (Rn_some hF4)
  iterate 2 (try simp [-List.map_set, go_sem, g1, g3]; refine pw_wk ?_)
  try simp [-List.map_set, go_sem, g1, g3]
noncomputable def F_spec_nInverse (a0 : Int) (a1 : Int) : Option (Int × Bool) :=
  (F_spec_nMod a0 a1).bind fun z1 =>
  ((wloop (σ := Int × Int × Int × Int) (β := (Int × Int)) (fun s9 =>
  if (s9.2.1 != 0) = true then (
  gd (s9.2.1 ≠ 0) <|
  some (.go (s9.2.1, IntKind.i64.wrap (s9.1 - (IntKind.i64.wrap ((IntKind.i64.wrap (s9.1.tdiv s9.2.1)) * s9.2.1))), s9.2.2.2, IntKind.i64.wrap (s9.2.2.1 - (IntKind.i64.wrap ((IntKind.i64.wrap (s9.1.tdiv s9.2.1)) * s9.2.2.2)))))) else (
  some (.out (s9.1, s9.2.2.1)))) (z1, a1, 1, 0) : Option ((Int × Int))).bind fun (x7 : Int × Int) =>
  (F_spec_nMod x7.2 a1).bind fun z23 =>
  some (z23, (x7.1 == 1)))
theorem c_spec_nInverse {a0 : Int} {a1 : Int} {r : Int × Bool} (hr : F_spec_nInverse a0 a1 = some r) : PCalls Try.prog 94 [(.sh, .int .i64 a0), (.sh, .int .i64 a1)] (Eo (.tup [.int .i64 r.1, .bool r.2]) [.junk, .junk]) := by
  apply pcalls_lf 41 [] [] [] [.tmp 4, .tmp 5] hr cl94 Try.func94 rfl rfl rfl
  · exact ⟨by simp, rfl⟩
  intro Φ hΦ hF
  unfold F_spec_nInverse at hF
  try simp [-List.map_set, go_sem]
  refine pw_wk ?_
  try simp [-List.map_set, go_sem]
  refine pw_cl hF [.sh, .sh] c_spec_nMod rfl rfl (by (try simp [-List.map_set, go_sem, clE]); first | rfl | done) (by rfl) (by (try simp [-List.map_set, go_sem]); first | rfl | done) fun z1 hF2 => ⟨by simp [go_sem], ?_⟩
  try simp [-List.map_set, go_sem]
  refine pw_wk ?_
  try simp [-List.map_set, go_sem]
  refine pw_wkK [1, 6, 7, 8, 9] (by simp [-List.map_set, go_sem]; rfl) ?_
  repeat rw [sq]
  refine pw_joinF (fun (x7 : Int × Int) => [(1, .v (.int .i64 a1)), (6, .v (.int .i64 x7.1)), (8, .v (.int .i64 x7.2))]) hF2 ?_ ?_
  ·intro x7 hF8
   try simp [-List.map_set, go_sem]
   refine pw_cl hF8 [.sh, .sh] c_spec_nMod rfl rfl (by (try simp [-List.map_set, go_sem, clE]); first | rfl | done) (by rfl) (by (try simp [-List.map_set, go_sem]); first | rfl | done) fun z23 hF24 => ⟨by simp [go_sem], ?_⟩
   cases hΦ _ (Rn_some hF24)
   try simp [-List.map_set, go_sem]
   refine pw_wk ?_
   try simp [-List.map_set, go_sem]
  ·intro ψ5 hj3 hF6
   repeat rw [sq]
   rw [pw_block]
   obtain ⟨b21, hb22, hψ13⟩ := hF6
   refine pw_wloop (fun (s9 : Int × Int × Int × Int) => [(1, .v (.int .i64 a1)), (6, .v (.int .i64 s9.1)), (7, .v (.int .i64 s9.2.1)), (8, .v (.int .i64 s9.2.2.1)), (9, .v (.int .i64 s9.2.2.2))]) hb22 (by simp [-List.map_set, go_sem]) ?_
   intro s9 φ14 N15 ho11 hg12 hF16
   try simp [-List.map_set, go_sem]
   refine pw_wk ?_
   repeat rw [sq]
   refine pw_cF hF16 (by simp [-List.map_set, go_sem]) (fun h17 hF18 => ?_) fun h17 hF18 => ?_
   ·try simp [-List.map_set, go_sem]
    refine pw_wk ?_
    repeat rw [sq]
    rw [pw_block]
    obtain ⟨g19, hF20⟩ := Rn_nz hF18
    try simp [-List.map_set, go_sem, g19]
    refine pw_wk ?_
    try simp [-List.map_set, go_sem, g19]
    refine pw_wkK [1, 7, 9, 11, 12] (by simp [-List.map_set, go_sem, g19]; rfl) ?_
    iterate 3 (try simp [-List.map_set, go_sem, g19]; refine pw_wk ?_)
    try simp [-List.map_set, go_sem, g19]
    exact hg12 (s9.2.1, IntKind.i64.wrap (s9.1 - (IntKind.i64.wrap ((IntKind.i64.wrap (s9.1.tdiv s9.2.1)) * s9.2.1))), s9.2.2.2, IntKind.i64.wrap (s9.2.2.1 - (IntKind.i64.wrap ((IntKind.i64.wrap (s9.1.tdiv s9.2.1)) * s9.2.2.2)))) _ (by simp [-List.map_set, go_sem, g19]) (Rn_some hF20)
   ·try simp [-List.map_set, go_sem]
    cases ho11 _ (Rn_some hF18)
    exact hj3 (s9.1, s9.2.2.1) _ (by simp [-List.map_set, go_sem]) hψ13
noncomputable def F_spec_yLagrange (a0 : Int) (a1 : (List Int)) (a2 : Int) : Option ((List Int)) :=
  ((rloop (σ := (List Int)) (β := (List Int)) (fun i8 s7 =>
  (ix a1 i8).bind fun x17 =>
  ((rloop (σ := Int × Int) (β := (Int × Int)) (fun i27 s26 =>
  (((ix a1 i27).bind fun x42 =>
  if (i27 != i8) = true then (
  (F_spec_nMod (IntKind.i64.wrap (a2 - x42)) a0).bind fun z47 =>
  gd (a0 ≠ 0) <|
  (F_spec_nMod (IntKind.i64.wrap (x17 - x42)) a0).bind fun z51 =>
  gd (a0 ≠ 0) <|
  some ((IntKind.i64.wrap (s26.1 * z47)).tmod a0, (IntKind.i64.wrap (s26.2 * z51)).tmod a0)) else (
  some (s26.1, s26.2)) : Option ((Int × Int))).bind fun (x40 : Int × Int) =>
  some (.go (x40.1, x40.2)))) (fun s26 => (s26.1, s26.2)) (a1.length) 0 (1, 1) : Option ((Int × Int))).bind fun (x24 : Int × Int) =>
  (F_spec_nInverse x24.2 a0).bind fun z59 =>
  gd (a0 ≠ 0) <|
  gd ((s7.length + 1) * 8 ≤ 140737488355328 ∧ s7.length + 1 ≤ 4611686018427387904) <|
  some (.go (s7 ++ [(IntKind.i64.wrap (x24.1 * z59.1)).tmod a0])))) (fun s7 => s7) (a1.length) 0 [] : Option ((List Int))).bind fun (x5 : (List Int)) =>
  some x5)
theorem c_spec_yLagrange {a0 : Int} {a1 : (List Int)} {a2 : Int} {r : (List Int)} (hr : F_spec_yLagrange a0 a1 a2 = some r) : PCalls Try.prog 56 [(.sh, .int .i64 a0), (.sh, .sl false 1 (a1.map row_i64)), (.sh, .int .i64 a2)] (Eo (.sl true 1 (r.map row_i64)) [.junk, .junk, .junk]) := by
  apply pcalls_lf 68 [] [] [] [.tmp 6] hr cl56 Try.func56 rfl rfl rfl
  · exact ⟨by simp, rfl⟩
  intro Φ hΦ hF
  unfold F_spec_yLagrange at hF
  iterate 3 (try simp [-List.map_set, go_sem]; try intros; refine pw_wk ?_)
  repeat rw [sq]
  refine pw_joinF (fun (x5 : (List Int)) => [(7, .v (.sl true 1 (x5.map row_i64)))]) hF ?_ ?_
  ·intro x5 hF6
   cases hΦ _ (Rn_some hF6)
   try simp [-List.map_set, go_sem]
   refine pw_wk ?_
   try simp [-List.map_set, go_sem]
  ·intro ψ3 hj1 hF4
   repeat rw [sq]
   rw [pw_block]
   obtain ⟨b66, hb67, hψ11⟩ := hF4
   refine pw_rloop (fun (i8 : Int) (s7 : (List Int)) => [(0, .v (.int .i64 a0)), (1, .v (.sl false 1 (a1.map row_i64))), (2, .v (.int .i64 a2)), (7, .v (.sl true 1 (s7.map row_i64))), (16, .v (.sl false 1 (a1.map row_i64))), (17, .v (.int .i64 (a1.length : Int))), (18, .v (.int .i64 i8))]) hb67 (by simp [-List.map_set, go_sem]) ?_ ?_
   ·intro s7 N69 hN68
    subst hN68
    try simp [-List.map_set, go_sem]
    refine pw_wk ?_
    repeat rw [sq]
    refine pw_cond_f (by simp [-List.map_set, go_sem]) ?_
    try simp [-List.map_set, go_sem]
    exact hj1 s7 _ (by simp [-List.map_set, go_sem]) hψ11
   ·intro i8 s7 φ12 N13 hi15 hi16 ho9 hg10 hF14
    rw [Int.zero_add] at hi16
    try simp [-List.map_set, go_sem]
    refine pw_wk ?_
    repeat rw [sq]
    refine pw_cond_t (by simp [-List.map_set, go_sem, hi15, hi16]) ?_
    try simp [-List.map_set, go_sem]
    refine pw_wk ?_
    repeat rw [sq]
    rw [pw_block]
    obtain ⟨x17, g18, hF19⟩ := Rn_ix hF14
    try simp [-List.map_set, go_sem, g18]
    refine pw_wkK [0, 1, 2, 7, 8, 9, 16, 17, 18] (by simp [-List.map_set, go_sem, g18]; rfl) ?_
    iterate 2 (try simp [-List.map_set, go_sem, g18]; try intros; refine pw_wk ?_)
    repeat rw [sq]
    refine pw_joinF (fun (x24 : Int × Int) => [(0, .v (.int .i64 a0)), (1, .v (.sl false 1 (a1.map row_i64))), (2, .v (.int .i64 a2)), (7, .v (.sl true 1 (s7.map row_i64))), (10, .v (.int .i64 x24.1)), (11, .v (.int .i64 x24.2)), (16, .v (.sl false 1 (a1.map row_i64))), (17, .v (.int .i64 (a1.length : Int))), (18, .v (.int .i64 i8))]) hF19 ?_ ?_
    ·intro x24 hF25
     try simp [-List.map_set, go_sem, g18]
     refine pw_cl hF25 [.sh, .sh] c_spec_nInverse rfl rfl (by (try simp [-List.map_set, go_sem, clE, g18]); first | rfl | done) (by rfl) (by (try simp [-List.map_set, go_sem, g18]); first | rfl | done) fun z59 hF60 => ⟨by simp [go_sem], ?_⟩
     try simp [-List.map_set, go_sem, g18]
     refine pw_wkK [0, 1, 2, 7, 10, 14, 16, 17, 18] (by simp [-List.map_set, go_sem, g18]; rfl) ?_
     obtain ⟨g61, hF62⟩ := Rn_nz hF60
     obtain ⟨g63, hF64⟩ := Rn_gd hF62
     have g65 := g63
     try simp at g65
     try simp [-List.map_set, go_sem, g18, g61, g63, g65]
     refine pw_wk ?_
     try simp [-List.map_set, go_sem, g18, g61, g63, g65]
     exact hg10 (s7 ++ [(IntKind.i64.wrap (x24.1 * z59.1)).tmod a0]) _ (by simp [-List.map_set, go_sem, g18, g61, g63, g65, wr_i hi15 hi16 (by assumption)]) (Rn_some hF64)
    ·intro ψ22 hj20 hF23
     repeat rw [sq]
     rw [pw_block]
     obtain ⟨b55, hb56, hψ30⟩ := hF23
     refine pw_rloop (fun (i27 : Int) (s26 : Int × Int) => [(0, .v (.int .i64 a0)), (1, .v (.sl false 1 (a1.map row_i64))), (2, .v (.int .i64 a2)), (7, .v (.sl true 1 (s7.map row_i64))), (8, .v (.int .i64 i8)), (9, .v (.int .i64 x17)), (10, .v (.int .i64 s26.1)), (11, .v (.int .i64 s26.2)), (16, .v (.sl false 1 (a1.map row_i64))), (17, .v (.int .i64 (a1.length : Int))), (18, .v (.int .i64 i8)), (23, .v (.sl false 1 (a1.map row_i64))), (24, .v (.int .i64 (a1.length : Int))), (25, .v (.int .i64 i27))]) hb56 (by simp [-List.map_set, go_sem, g18]) ?_ ?_
     ·intro s26 N58 hN57
      subst hN57
      try simp [-List.map_set, go_sem]
      refine pw_wk ?_
      repeat rw [sq]
      refine pw_cond_f (by simp [-List.map_set, go_sem]) ?_
      try simp [-List.map_set, go_sem]
      exact hj20 (s26.1, s26.2) _ (by simp [-List.map_set, go_sem]) hψ30
     ·intro i27 s26 φ31 N32 hi34 hi35 ho28 hg29 hF33
      rw [Int.zero_add] at hi35
      try simp [-List.map_set, go_sem, g18]
      refine pw_wk ?_
      repeat rw [sq]
      refine pw_cond_t (by simp [-List.map_set, go_sem, g18, hi34, hi35]) ?_
      try simp [-List.map_set, go_sem, g18]
      refine pw_wk ?_
      repeat rw [sq]
      refine pw_joinF (fun (x40 : Int × Int) => [(0, .v (.int .i64 a0)), (1, .v (.sl false 1 (a1.map row_i64))), (2, .v (.int .i64 a2)), (7, .v (.sl true 1 (s7.map row_i64))), (8, .v (.int .i64 i8)), (9, .v (.int .i64 x17)), (10, .v (.int .i64 x40.1)), (11, .v (.int .i64 x40.2)), (16, .v (.sl false 1 (a1.map row_i64))), (17, .v (.int .i64 (a1.length : Int))), (18, .v (.int .i64 i8)), (23, .v (.sl false 1 (a1.map row_i64))), (24, .v (.int .i64 (a1.length : Int))), (25, .v (.int .i64 i27))]) hF33 ?_ ?_
      ·intro x40 hF41
       try simp [-List.map_set, go_sem, g18]
       exact hg29 (x40.1, x40.2) _ (by simp [-List.map_set, go_sem, g18, wr_i hi34 hi35 (by assumption)]) (Rn_some hF41)
      ·intro ψ38 hj36 hF39
       repeat rw [sq]
       rw [pw_block]
       obtain ⟨x42, g43, hF44⟩ := Rn_ix hF39
       try simp [-List.map_set, go_sem, g18, g43]
       refine pw_wkK [0, 1, 2, 7, 8, 9, 10, 11, 12, 13, 16, 17, 18, 23, 24, 25] (by simp [-List.map_set, go_sem, g18, g43]; rfl) ?_
       try simp [-List.map_set, go_sem, g18, g43]
       refine pw_wk ?_
       repeat rw [sq]
       refine pw_cF hF44 (by simp [-List.map_set, go_sem, g18, g43]) (fun h45 hF46 => ?_) fun h45 hF46 => ?_
       ·try simp [-List.map_set, go_sem, g18, g43]
        refine pw_cl hF46 [.sh, .sh] c_spec_nMod rfl rfl (by (try simp [-List.map_set, go_sem, clE, g18, g43]); first | rfl | done) (by rfl) (by (try simp [-List.map_set, go_sem, g18, g43]); first | rfl | done) fun z47 hF48 => ⟨by simp [go_sem], ?_⟩
        obtain ⟨g49, hF50⟩ := Rn_nz hF48
        try simp [-List.map_set, go_sem, g18, g43, g49]
        refine pw_wkK [0, 1, 2, 7, 8, 9, 10, 11, 13, 16, 17, 18, 23, 24, 25] (by simp [-List.map_set, go_sem, g18, g43, g49]; rfl) ?_
        try simp [-List.map_set, go_sem, g18, g43, g49]
        refine pw_cl hF50 [.sh, .sh] c_spec_nMod rfl rfl (by (try simp [-List.map_set, go_sem, clE, g18, g43, g49]); first | rfl | done) (by rfl) (by (try simp [-List.map_set, go_sem, g18, g43, g49]); first | rfl | done) fun z51 hF52 => ⟨by simp [go_sem], ?_⟩
        obtain ⟨g53, hF54⟩ := Rn_nz hF52
        try simp [-List.map_set, go_sem, g18, g43, g49, g53]
        exact hj36 ((IntKind.i64.wrap (s26.1 * z47)).tmod a0, (IntKind.i64.wrap (s26.2 * z51)).tmod a0) _ (by simp [-List.map_set, go_sem, g18, g43, g49, g53]) (Rn_some hF54)
       ·try simp [-List.map_set, go_sem, g18, g43]
        exact hj36 (s26.1, s26.2) _ (by simp [-List.map_set, go_sem, g18, g43]) (Rn_some hF46)
noncomputable def F_spec_gInv (a0 : Group) (a1 : Int) : Option (Int) :=
  (F_spec_nPower a1 (IntKind.i64.wrap (a0.Q - 1)) a0.P).bind fun z1 =>
  some z1
theorem c_spec_gInv {a0 : Group} {a1 : Int} {r : Int} (hr : F_spec_gInv a0 a1 = some r) : PCalls Try.prog 59 [(.sh, .agg [.int .i64 a0.P, .int .i64 a0.Q, .int .i64 a0.G]), (.sh, .int .i64 a1)] (Eo (.int .i64 r) [.junk, .junk]) := by
  apply pcalls_lf 12 [] [] [] [.tmp 4] hr cl59 Try.func59 rfl rfl rfl
  · exact ⟨by simp, rfl⟩
  intro Φ hΦ hF
  unfold F_spec_gInv at hF
  try simp [-List.map_set, go_sem]
  refine pw_wk ?_
  try simp [-List.map_set, go_sem]
  refine pw_cl hF [.sh, .sh, .sh] c_spec_nPower rfl rfl (by (try simp [-List.map_set, go_sem, clE]); first | rfl | done) (by rfl) (by (try simp [-List.map_set, go_sem]); first | rfl | done) fun z1 hF2 => ⟨by simp [go_sem], ?_⟩
  try simp [-List.map_set, go_sem]
  refine pw_wkK [4] (by simp [-List.map_set, go_sem]; rfl) ?_
  cases hΦ _ (Rn_some hF2)
  try simp [-List.map_set, go_sem]
noncomputable def F_spec_gMul (a0 : Group) (a1 : (List Int)) : Option (Int) :=
  ((rloop (σ := Int) (β := Int) (fun i8 s7 =>
  (ix a1 i8).bind fun x17 =>
  gd (a0.P ≠ 0) <|
  some (.go ((IntKind.i64.wrap (s7 * x17)).tmod a0.P))) (fun s7 => s7) (a1.length) 0 1 : Option (Int)).bind fun (x5 : Int) =>
  some x5)
theorem c_spec_gMul {a0 : Group} {a1 : (List Int)} {r : Int} (hr : F_spec_gMul a0 a1 = some r) : PCalls Try.prog 58 [(.sh, .agg [.int .i64 a0.P, .int .i64 a0.Q, .int .i64 a0.G]), (.sh, .sl false 1 (a1.map row_i64))] (Eo (.int .i64 r) [.junk, .junk]) := by
  apply pcalls_lf 22 [] [] [] [.tmp 4] hr cl58 Try.func58 rfl rfl rfl
  · exact ⟨by simp, rfl⟩
  intro Φ hΦ hF
  unfold F_spec_gMul at hF
  iterate 3 (try simp [-List.map_set, go_sem]; try intros; refine pw_wk ?_)
  repeat rw [sq]
  refine pw_joinF (fun (x5 : Int) => [(5, .v (.int .i64 x5))]) hF ?_ ?_
  ·intro x5 hF6
   cases hΦ _ (Rn_some hF6)
   try simp [-List.map_set, go_sem]
   refine pw_wk ?_
   try simp [-List.map_set, go_sem]
  ·intro ψ3 hj1 hF4
   repeat rw [sq]
   rw [pw_block]
   obtain ⟨b22, hb23, hψ11⟩ := hF4
   refine pw_rloop (fun (i8 : Int) (s7 : Int) => [(2, .bl [.int .i64 a0.P, .int .i64 a0.Q, .int .i64 a0.G]), (5, .v (.int .i64 s7)), (8, .v (.sl false 1 (a1.map row_i64))), (9, .v (.int .i64 (a1.length : Int))), (10, .v (.int .i64 i8))]) hb23 (by simp [-List.map_set, go_sem]) ?_ ?_
   ·intro s7 N25 hN24
    subst hN24
    try simp [-List.map_set, go_sem]
    refine pw_wk ?_
    repeat rw [sq]
    refine pw_cond_f (by simp [-List.map_set, go_sem]) ?_
    try simp [-List.map_set, go_sem]
    exact hj1 s7 _ (by simp [-List.map_set, go_sem]) hψ11
   ·intro i8 s7 φ12 N13 hi15 hi16 ho9 hg10 hF14
    rw [Int.zero_add] at hi16
    try simp [-List.map_set, go_sem]
    refine pw_wk ?_
    repeat rw [sq]
    refine pw_cond_t (by simp [-List.map_set, go_sem, hi15, hi16]) ?_
    try simp [-List.map_set, go_sem]
    refine pw_wk ?_
    repeat rw [sq]
    rw [pw_block]
    obtain ⟨x17, g18, hF19⟩ := Rn_ix hF14
    try simp [-List.map_set, go_sem, g18]
    refine pw_wkK [2, 5, 7, 8, 9, 10] (by simp [-List.map_set, go_sem, g18]; rfl) ?_
    obtain ⟨g20, hF21⟩ := Rn_nz hF19
    try simp [-List.map_set, go_sem, g18, g20]
    refine pw_wk ?_
    try simp [-List.map_set, go_sem, g18, g20]
    exact hg10 ((IntKind.i64.wrap (s7 * x17)).tmod a0.P) _ (by simp [-List.map_set, go_sem, g18, g20, wr_i hi15 hi16 (by assumption)]) (Rn_some hF21)
noncomputable def F_spec_gExp (a0 : Group) (a1 : Int) (a2 : Int) : Option (Int) :=
  (F_spec_nMod a2 a0.Q).bind fun z1 =>
  (F_spec_nPower a1 z1 a0.P).bind fun z3 =>
  some z3
theorem c_spec_gExp {a0 : Group} {a1 : Int} {a2 : Int} {r : Int} (hr : F_spec_gExp a0 a1 a2 = some r) : PCalls Try.prog 57 [(.sh, .agg [.int .i64 a0.P, .int .i64 a0.Q, .int .i64 a0.G]), (.sh, .int .i64 a1), (.sh, .int .i64 a2)] (Eo (.int .i64 r) [.junk, .junk, .junk]) := by
  apply pcalls_lf 15 [] [] [] [.tmp 6] hr cl57 Try.func57 rfl rfl rfl
  · exact ⟨by simp, rfl⟩
  intro Φ hΦ hF
  unfold F_spec_gExp at hF
  try simp [-List.map_set, go_sem]
  refine pw_wk ?_
  repeat rw [sq]
  refine pw_draw D57_1 follows (by kernel_rfl) rfl ?_
  try simp only [go_sem, D57_1]
  try simp [-List.map_set, go_sem]
  refine pw_cl hF [.sh, .sh] c_spec_nMod rfl rfl (by (try simp [-List.map_set, go_sem, clE]); first | rfl | done) (by rfl) (by (try simp [-List.map_set, go_sem]); first | rfl | done) fun z1 hF2 => ⟨by simp [go_sem], ?_⟩
  try simp [-List.map_set, go_sem]
  refine pw_cl hF2 [.sh, .sh, .sh] c_spec_nPower rfl rfl (by (try simp [-List.map_set, go_sem, clE]); first | rfl | done) (by rfl) (by (try simp [-List.map_set, go_sem]); first | rfl | done) fun z3 hF4 => ⟨by simp [go_sem], ?_⟩
  try simp [-List.map_set, go_sem]
  refine pw_wkK [6] (by simp [-List.map_set, go_sem]; rfl) ?_
  cases hΦ _ (Rn_some hF4)
  try simp [-List.map_set, go_sem]
noncomputable def F_spec_SimulatePartial (a0 : Group) (a1 : Cipher) (a2 : Int) (a3 : (List Int)) (a4 : (List Int)) (a5 : Int) : Option (Int × Bool) :=
  (((F_spec_sGroup a0).bind fun z7 =>
  if (!z7) = true then (
  some true) else (
  (F_spec_eGood a0 [a1]).bind fun z11 =>
  if (!z11) = true then (
  some true) else (
  (F_spec_gIs a0 [a2]).bind fun z15 =>
  if (!z15) = true then (
  some true) else (
  (F_spec_wTrustees a3).bind fun z19 =>
  if (!z19) = true then (
  some true) else (
  if ((a4.length : Int) != (a3.length : Int)) = true then (
  some true) else (
  (F_spec_gExps a0 a4).bind fun z25 =>
  if (!z25) = true then (
  some true) else (
  (F_spec_l1In a5 1 7).bind fun z29 =>
  if (!z29) = true then (
  some true) else (
  (F_spec_l1Has a3 a5).bind fun z33 =>
  some z33))))))) : Option (Bool)).bind fun (x5 : Bool) =>
  if x5 = true then (
  some (0, false)) else (
  gd (([0].length + a3.length) * 8 ≤ 140737488355328 ∧ [0].length + a3.length ≤ 4611686018427387904) <|
  (F_spec_yLagrange a0.Q ([0] ++ a3) a5).bind fun z40 =>
  (ix z40 0).bind fun x42 =>
  (F_spec_gInv a0 a2).bind fun z45 =>
  (F_spec_gMul a0 [a1.B, z45]).bind fun z47 =>
  (F_spec_gExp a0 z47 x42).bind fun z49 =>
  ((rloop (σ := Int) (β := Int) (fun i58 s57 =>
  (ix a4 i58).bind fun x67 =>
  (ix z40 (IntKind.i64.wrap (i58 + 1))).bind fun x70 =>
  (F_spec_gExp a0 a1.A (IntKind.i64.wrap (x67 * x70))).bind fun z73 =>
  (F_spec_gMul a0 [s57, z73]).bind fun z75 =>
  some (.go z75)) (fun s57 => s57) (a4.length) 0 z49 : Option (Int)).bind fun (x55 : Int) =>
  some (x55, true))))
theorem c_spec_SimulatePartial {a0 : Group} {a1 : Cipher} {a2 : Int} {a3 : (List Int)} {a4 : (List Int)} {a5 : Int} {r : Int × Bool} (hr : F_spec_SimulatePartial a0 a1 a2 a3 a4 a5 = some r) : PCalls Try.prog 17 [(.sh, .agg [.int .i64 a0.P, .int .i64 a0.Q, .int .i64 a0.G]), (.sh, .agg [.int .i64 a1.A, .int .i64 a1.B]), (.sh, .int .i64 a2), (.sh, .sl false 1 (a3.map row_i64)), (.sh, .sl false 1 (a4.map row_i64)), (.sh, .int .i64 a5)] (Eo (.tup [.int .i64 r.1, .bool r.2]) [.junk, .junk, .junk, .junk, .junk, .junk]) := by
  apply pcalls_lf 107 [] [] [] [.tmp 12, .tmp 13] hr cl17 Try.func17 rfl rfl rfl
  · exact ⟨by simp, rfl⟩
  intro Φ hΦ hF
  unfold F_spec_SimulatePartial at hF
  try simp [-List.map_set, go_sem]
  refine pw_wk ?_
  repeat rw [sq]
  refine pw_joinF (fun (x5 : Bool) => [(2, .v (.int .i64 a2)), (3, .v (.sl false 1 (a3.map row_i64))), (4, .v (.sl false 1 (a4.map row_i64))), (5, .v (.int .i64 a5)), (6, .bl [.int .i64 a0.P, .int .i64 a0.Q, .int .i64 a0.G]), (7, .bl [.int .i64 a1.A, .int .i64 a1.B]), (62, .v (.bool x5))]) hF ?_ ?_
  ·intro x5 hF6
   repeat rw [sq]
   refine pw_cF hF6 (by simp [-List.map_set, go_sem]) (fun h35 hF36 => ?_) fun h35 hF36 => ?_
   ·cases hΦ _ (Rn_some hF36)
    try simp [-List.map_set, go_sem]
    refine pw_wk ?_
    try simp [-List.map_set, go_sem]
   ·try simp [-List.map_set, go_sem]
    refine pw_wk ?_
    repeat rw [sq]
    refine pw_draw D17_3 follows (by kernel_rfl) rfl ?_
    try simp only [go_sem, D17_3]
    obtain ⟨g37, hF38⟩ := Rn_gd hF36
    have g39 := g37
    try simp at g39
    try simp [-List.map_set, go_sem, g37, g39]
    refine pw_cl hF38 [.sh, .sh, .sh] c_spec_yLagrange rfl rfl (by (try simp [-List.map_set, go_sem, clE, g37, g39]); first | rfl | done) (by rfl) (by (try simp [-List.map_set, go_sem, g37, g39]); first | rfl | done) fun z40 hF41 => ⟨by simp [go_sem], ?_⟩
    try simp [-List.map_set, go_sem, g37, g39]
    refine pw_wkK [2, 4, 6, 7, 14] (by simp [-List.map_set, go_sem, g37, g39]; rfl) ?_
    repeat rw [sq]
    refine pw_draw D17_4 follows (by kernel_rfl) rfl ?_
    try simp only [go_sem, D17_4]
    obtain ⟨x42, g43, hF44⟩ := Rn_ixn 0 rfl hF41
    try simp [-List.map_set, go_sem, g37, g39, g43]
    refine pw_clD hF44 c_spec_gInv rfl (by (try simp [-List.map_set, go_sem, clE, g37, g39, g43]); first | rfl | done) (by rfl) (by (try simp [-List.map_set, go_sem, g37, g39, g43]); first | rfl | done) fun z45 hF46 => ⟨by simp [go_sem], ?_⟩
    try simp [-List.map_set, go_sem, g37, g39, g43]
    refine pw_clD hF46 c_spec_gMul rfl (by (try simp [-List.map_set, go_sem, clE, g37, g39, g43]); first | rfl | done) (by rfl) (by (try simp [-List.map_set, go_sem, g37, g39, g43]); first | rfl | done) fun z47 hF48 => ⟨by simp [go_sem], ?_⟩
    try simp [-List.map_set, go_sem, g37, g39, g43]
    refine pw_cl hF48 [.sh, .sh, .sh] c_spec_gExp rfl rfl (by (try simp [-List.map_set, go_sem, clE, g37, g39, g43]); first | rfl | done) (by rfl) (by (try simp [-List.map_set, go_sem, g37, g39, g43]); first | rfl | done) fun z49 hF50 => ⟨by simp [go_sem], ?_⟩
    try simp [-List.map_set, go_sem, g37, g39, g43]
    refine pw_wkK [4, 6, 7, 14, 15] (by simp [-List.map_set, go_sem, g37, g39, g43]; rfl) ?_
    try simp [-List.map_set, go_sem, g37, g39, g43]
    try intros
    refine pw_wk ?_
    repeat rw [sq]
    refine pw_joinF (fun (x55 : Int) => [(15, .v (.int .i64 x55))]) hF50 ?_ ?_
    ·intro x55 hF56
     cases hΦ _ (Rn_some hF56)
     try simp [-List.map_set, go_sem, g37, g39, g43]
     refine pw_wk ?_
     try simp [-List.map_set, go_sem, g37, g39, g43]
    ·intro ψ53 hj51 hF54
     repeat rw [sq]
     rw [pw_block]
     obtain ⟨b77, hb78, hψ61⟩ := hF54
     refine pw_rloop (fun (i58 : Int) (s57 : Int) => [(6, .bl [.int .i64 a0.P, .int .i64 a0.Q, .int .i64 a0.G]), (7, .bl [.int .i64 a1.A, .int .i64 a1.B]), (14, .v (.sl true 1 (z40.map row_i64))), (15, .v (.int .i64 s57)), (83, .v (.sl false 1 (a4.map row_i64))), (84, .v (.int .i64 (a4.length : Int))), (85, .v (.int .i64 i58))]) hb78 (by simp [-List.map_set, go_sem, g37, g39, g43]) ?_ ?_
     ·intro s57 N80 hN79
      subst hN79
      try simp [-List.map_set, go_sem]
      refine pw_wk ?_
      repeat rw [sq]
      refine pw_cond_f (by simp [-List.map_set, go_sem]) ?_
      try simp [-List.map_set, go_sem]
      exact hj51 s57 _ (by simp [-List.map_set, go_sem]) hψ61
     ·intro i58 s57 φ62 N63 hi65 hi66 ho59 hg60 hF64
      rw [Int.zero_add] at hi66
      try simp [-List.map_set, go_sem, g37, g39, g43]
      refine pw_wk ?_
      repeat rw [sq]
      refine pw_cond_t (by simp [-List.map_set, go_sem, g37, g39, g43, hi65, hi66]) ?_
      try simp [-List.map_set, go_sem, g37, g39, g43]
      refine pw_wk ?_
      repeat rw [sq]
      rw [pw_block]
      obtain ⟨x67, g68, hF69⟩ := Rn_ix hF64
      try simp [-List.map_set, go_sem, g37, g39, g43, g68]
      refine pw_wk ?_
      repeat rw [sq]
      refine pw_draw D17_8 follows (by kernel_rfl) rfl ?_
      try simp only [go_sem, D17_8]
      obtain ⟨x70, g71, hF72⟩ := Rn_ix hF69
      try simp [-List.map_set, go_sem, g37, g39, g43, g68, g71]
      refine pw_cl hF72 [.sh, .sh, .sh] c_spec_gExp rfl rfl (by (try simp [-List.map_set, go_sem, clE, g37, g39, g43, g68, g71]); first | rfl | done) (by rfl) (by (try simp [-List.map_set, go_sem, g37, g39, g43, g68, g71]); first | rfl | done) fun z73 hF74 => ⟨by simp [go_sem], ?_⟩
      try simp [-List.map_set, go_sem, g37, g39, g43, g68, g71]
      refine pw_cl hF74 [.sh, .sh] c_spec_gMul rfl rfl (by (try simp [-List.map_set, go_sem, clE, g37, g39, g43, g68, g71]); first | rfl | done) (by rfl) (by (try simp [-List.map_set, go_sem, g37, g39, g43, g68, g71]); first | rfl | done) fun z75 hF76 => ⟨by simp [go_sem], ?_⟩
      try simp [-List.map_set, go_sem, g37, g39, g43, g68, g71]
      refine pw_wkK [6, 7, 14, 15, 83, 84, 85] (by simp [-List.map_set, go_sem, g37, g39, g43, g68, g71]; rfl) ?_
      try simp [-List.map_set, go_sem, g37, g39, g43, g68, g71]
      exact hg60 z75 _ (by simp [-List.map_set, go_sem, g37, g39, g43, g68, g71, wr_i hi65 hi66 (by assumption)]) (Rn_some hF76)
  ·intro ψ3 hj1 hF4
   try simp [-List.map_set, go_sem]
   refine pw_cl hF4 [.sh] c_spec_sGroup rfl rfl (by (try simp [-List.map_set, go_sem, clE]); first | rfl | done) (by rfl) (by (try simp [-List.map_set, go_sem]); first | rfl | done) fun z7 hF8 => ⟨by simp [go_sem], ?_⟩
   try simp [-List.map_set, go_sem]
   refine pwg_F hF8 (fun h9 hF10 => ?_) fun h9 hF10 => ?_
   ·try simp [-List.map_set, go_sem, h9]
    exact hj1 true _ (by simp [-List.map_set, go_sem]) (Rn_some hF10)
   ·try simp [-List.map_set, go_sem, h9]
    refine pw_cl hF10 [.sh, .sh] c_spec_eGood rfl rfl (by (try simp [-List.map_set, go_sem, clE]); first | rfl | done) (by rfl) (by (try simp [-List.map_set, go_sem]); first | rfl | done) fun z11 hF12 => ⟨by simp [go_sem], ?_⟩
    try simp [-List.map_set, go_sem, h9]
    refine pwg_F hF12 (fun h13 hF14 => ?_) fun h13 hF14 => ?_
    ·try simp [-List.map_set, go_sem, h13]
     exact hj1 true _ (by simp [-List.map_set, go_sem]) (Rn_some hF14)
    ·try simp [-List.map_set, go_sem, h13]
     refine pw_cl hF14 [.sh, .sh] c_spec_gIs rfl rfl (by (try simp [-List.map_set, go_sem, clE]); first | rfl | done) (by rfl) (by (try simp [-List.map_set, go_sem]); first | rfl | done) fun z15 hF16 => ⟨by simp [go_sem], ?_⟩
     try simp [-List.map_set, go_sem, h13]
     refine pwg_F hF16 (fun h17 hF18 => ?_) fun h17 hF18 => ?_
     ·try simp [-List.map_set, go_sem, h17]
      exact hj1 true _ (by simp [-List.map_set, go_sem]) (Rn_some hF18)
     ·try simp [-List.map_set, go_sem, h17]
      refine pw_cl hF18 [.sh] c_spec_wTrustees rfl rfl (by (try simp [-List.map_set, go_sem, clE]); first | rfl | done) (by rfl) (by (try simp [-List.map_set, go_sem]); first | rfl | done) fun z19 hF20 => ⟨by simp [go_sem], ?_⟩
      try simp [-List.map_set, go_sem, h17]
      refine pwg_F hF20 (fun h21 hF22 => ?_) fun h21 hF22 => ?_
      ·try simp [-List.map_set, go_sem, h21]
       exact hj1 true _ (by simp [-List.map_set, go_sem]) (Rn_some hF22)
      ·try simp [-List.map_set, go_sem, h21]
       try intros
       refine pwg_F hF22 (fun h23 hF24 => ?_) fun h23 hF24 => ?_
       ·try simp [-List.map_set, go_sem, h23]
        exact hj1 true _ (by simp [-List.map_set, go_sem]) (Rn_some hF24)
       ·try simp [-List.map_set, go_sem, h23]
        refine pw_cl hF24 [.sh, .sh] c_spec_gExps rfl rfl (by (try simp [-List.map_set, go_sem, clE]); first | rfl | done) (by rfl) (by (try simp [-List.map_set, go_sem]); first | rfl | done) fun z25 hF26 => ⟨by simp [go_sem], ?_⟩
        try simp [-List.map_set, go_sem, h23]
        refine pwg_F hF26 (fun h27 hF28 => ?_) fun h27 hF28 => ?_
        ·try simp [-List.map_set, go_sem, h27]
         exact hj1 true _ (by simp [-List.map_set, go_sem]) (Rn_some hF28)
        ·try simp [-List.map_set, go_sem, h27]
         refine pw_cl hF28 [.sh, .sh, .sh] c_spec_l1In rfl rfl (by (try simp [-List.map_set, go_sem, clE]); first | rfl | done) (by rfl) (by (try simp [-List.map_set, go_sem]); first | rfl | done) fun z29 hF30 => ⟨by simp [go_sem], ?_⟩
         try simp [-List.map_set, go_sem, h27]
         refine pwg_F hF30 (fun h31 hF32 => ?_) fun h31 hF32 => ?_
         ·try simp [-List.map_set, go_sem, h31]
          exact hj1 true _ (by simp [-List.map_set, go_sem]) (Rn_some hF32)
         ·try simp [-List.map_set, go_sem, h31]
          refine pw_cl hF32 [.sh, .sh] c_spec_l1Has rfl rfl (by (try simp [-List.map_set, go_sem, clE]); first | rfl | done) (by rfl) (by (try simp [-List.map_set, go_sem]); first | rfl | done) fun z33 hF34 => ⟨by simp [go_sem], ?_⟩
          try simp [-List.map_set, go_sem, h31]
          exact hj1 z33 _ (by simp [-List.map_set, go_sem]) (Rn_some hF34)
noncomputable def F_impl_within (a0 : Int) (a1 : Int) (a2 : Int) : Option (Bool) :=
  ((if decide (a1 ≤ a0) = true then (
  some (decide (a0 ≤ a2))) else (
  some false) : Option (Bool)).bind fun (x5 : Bool) =>
  some x5)
theorem c_impl_within {a0 : Int} {a1 : Int} {a2 : Int} {r : Bool} (hr : F_impl_within a0 a1 a2 = some r) : PCalls Try.prog 74 [(.sh, .int .i64 a0), (.sh, .int .i64 a1), (.sh, .int .i64 a2)] (Eo (.bool r) [.junk, .junk, .junk]) := by
  apply pcalls_lf 15 [] [] [] [.tmp 6] hr cl74 Try.func74 rfl rfl rfl
  · exact ⟨by simp, rfl⟩
  intro Φ hΦ hF
  unfold F_impl_within at hF
  try simp [-List.map_set, go_sem]
  refine pw_wk ?_
  repeat rw [sq]
  refine pw_joinF (fun (x5 : Bool) => [(6, .v (.bool x5))]) hF ?_ ?_
  ·intro x5 hF6
   cases hΦ _ (Rn_some hF6)
   try simp [-List.map_set, go_sem]
  ·intro ψ3 hj1 hF4
   try simp [-List.map_set, go_sem]
   refine pwg_F hF4 (fun h7 hF8 => ?_) fun h7 hF8 => ?_
   ·try simp [-List.map_set, go_sem, h7]
    exact hj1 (decide (a0 ≤ a2)) _ (by simp [-List.map_set, go_sem]) (Rn_some hF8)
   ·try simp [-List.map_set, go_sem, h7]
    exact hj1 false _ (by simp [-List.map_set, go_sem]) (Rn_some hF8)
noncomputable def F_impl_isModulus (a0 : Int) : Option (Bool) :=
  (F_impl_within a0 2 2000000000).bind fun z1 =>
  some z1
theorem c_impl_isModulus {a0 : Int} {r : Bool} (hr : F_impl_isModulus a0 = some r) : PCalls Try.prog 106 [(.sh, .int .i64 a0)] (Eo (.bool r) [.junk]) := by
  apply pcalls_lf 5 [] [] [] [.tmp 2] hr cl106 Try.func106 rfl rfl rfl
  · exact ⟨by simp, rfl⟩
  intro Φ hΦ hF
  unfold F_impl_isModulus at hF
  try simp [-List.map_set, go_sem]
  refine pw_wk ?_
  try simp [-List.map_set, go_sem]
  refine pw_cl hF [.sh, .sh, .sh] c_impl_within rfl rfl (by (try simp [-List.map_set, go_sem, clE]); first | rfl | done) (by rfl) (by (try simp [-List.map_set, go_sem]); first | rfl | done) fun z1 hF2 => ⟨by simp [go_sem], ?_⟩
  cases hΦ _ (Rn_some hF2)
  try simp [-List.map_set, go_sem]
  refine pw_wk ?_
  try simp [-List.map_set, go_sem]
noncomputable def F_impl_isPrime (a0 : Int) : Option (Bool) :=
  (((F_impl_isModulus a0).bind fun z7 =>
  if (!z7) = true then (
  some true) else (
  if ((a0.tmod 2) == 0) = true then (
  some (a0 != 2)) else (
  some false)) : Option (Bool)).bind fun (x5 : Bool) =>
  if x5 = true then (
  some false) else (
  ((wloop (σ := Int) (β := Unit ⊕ Bool) (fun s22 =>
  if decide ((IntKind.i64.wrap (s22 * s22)) ≤ a0) = true then (
  gd (s22 ≠ 0) <|
  if ((a0.tmod s22) == 0) = true then (
  some (.out (.inr false))) else (
  some (.go (IntKind.i64.wrap (s22 + 2))))) else (
  some (.out (.inl ())))) 3 : Option (Unit ⊕ Bool)).bind (Sum.elim (fun (x20 : Unit) =>
  some true) some))))
theorem c_impl_isPrime {a0 : Int} {r : Bool} (hr : F_impl_isPrime a0 = some r) : PCalls Try.prog 73 [(.sh, .int .i64 a0)] (Eo (.bool r) [.junk]) := by
  apply pcalls_lf 27 [] [] [] [.tmp 2] hr cl73 Try.func73 rfl rfl rfl
  · exact ⟨by simp, rfl⟩
  intro Φ hΦ hF
  unfold F_impl_isPrime at hF
  try simp [-List.map_set, go_sem]
  refine pw_wk ?_
  repeat rw [sq]
  refine pw_joinF (fun (x5 : Bool) => [(0, .v (.int .i64 a0)), (15, .v (.bool x5))]) hF ?_ ?_
  ·intro x5 hF6
   repeat rw [sq]
   refine pw_cF hF6 (by simp [-List.map_set, go_sem]) (fun h14 hF15 => ?_) fun h14 hF15 => ?_
   ·cases hΦ _ (Rn_some hF15)
    try simp [-List.map_set, go_sem]
    refine pw_wk ?_
    try simp [-List.map_set, go_sem]
   ·iterate 2 (try simp [-List.map_set, go_sem]; refine pw_wk ?_)
    repeat rw [sq]
    refine pw_joinS (fun (x20 : Unit) => []) hF15 ?_ ?_
    ·intro x20 hF21
     cases hΦ _ (Rn_some hF21)
     try simp [-List.map_set, go_sem]
     refine pw_wk ?_
     try simp [-List.map_set, go_sem]
    ·intro ψ18 hj16 hr17 hF19
     repeat rw [sq]
     rw [pw_block]
     obtain ⟨b36, hb37, hψ26⟩ := hF19
     refine pw_wloop (fun (s22 : Int) => [(0, .v (.int .i64 a0)), (3, .v (.int .i64 s22))]) hb37 (by simp [-List.map_set, go_sem]) ?_
     intro s22 φ27 N28 ho24 hg25 hF29
     try simp [-List.map_set, go_sem]
     refine pw_wk ?_
     repeat rw [sq]
     refine pw_cF hF29 (by simp [-List.map_set, go_sem]) (fun h30 hF31 => ?_) fun h30 hF31 => ?_
     ·try simp [-List.map_set, go_sem]
      refine pw_wk ?_
      repeat rw [sq]
      rw [pw_block]
      obtain ⟨g32, hF33⟩ := Rn_nz hF31
      try simp [-List.map_set, go_sem, g32]
      refine pw_wkK [0, 3, 26] (by simp [-List.map_set, go_sem, g32]; rfl) ?_
      repeat rw [sq]
      refine pw_cF hF33 (by simp [-List.map_set, go_sem, g32]) (fun h34 hF35 => ?_) fun h34 hF35 => ?_
      ·cases ho24 _ (Rn_some hF35)
       cases hΦ _ (hr17 _ hψ26)
       try simp [-List.map_set, go_sem, g32]
       refine pw_wk ?_
       try simp [-List.map_set, go_sem, g32]
      ·try simp [-List.map_set, go_sem, g32]
       refine pw_wk ?_
       try simp [-List.map_set, go_sem, g32]
       exact hg25 (IntKind.i64.wrap (s22 + 2)) _ (by simp [-List.map_set, go_sem, g32]) (Rn_some hF35)
     ·try simp [-List.map_set, go_sem]
      cases ho24 _ (Rn_some hF31)
      exact hj16 () _ (by simp [-List.map_set, go_sem]) hψ26
  ·intro ψ3 hj1 hF4
   try simp [-List.map_set, go_sem]
   refine pw_cl hF4 [.sh] c_impl_isModulus rfl rfl (by (try simp [-List.map_set, go_sem, clE]); first | rfl | done) (by rfl) (by (try simp [-List.map_set, go_sem]); first | rfl | done) fun z7 hF8 => ⟨by simp [go_sem], ?_⟩
   try simp [-List.map_set, go_sem]
   refine pwg_F hF8 (fun h9 hF10 => ?_) fun h9 hF10 => ?_
   ·try simp [-List.map_set, go_sem, h9]
    exact hj1 true _ (by simp [-List.map_set, go_sem]) (Rn_some hF10)
   ·have g11 := fun x => divV_ne (b := 2) (x := x) (by decide)
    try simp [-List.map_set, go_sem, g11, h9]
    refine pwg_F hF10 (fun h12 hF13 => ?_) fun h12 hF13 => ?_
    ·try simp [-List.map_set, go_sem, g11, h12, h9]
     exact hj1 (a0 != 2) _ (by simp [-List.map_set, go_sem, g11]) (Rn_some hF13)
    ·try simp [-List.map_set, go_sem, g11, h12, h9]
     exact hj1 false _ (by simp [-List.map_set, go_sem, g11]) (Rn_some hF13)
noncomputable def F_impl_power (a0 : Int) (a1 : Int) (a2 : Int) : Option (Int) :=
  gd (a2 ≠ 0) <|
  ((wloop (σ := Int × Int × Int) (β := Int) (fun s9 =>
  if decide (0 < s9.2.1) = true then (
  ((if ((IntKind.i64.wrap ((BitVec.ofInt IntKind.i64.bits s9.2.1 &&& BitVec.ofInt IntKind.i64.bits 1).toNat)) == 1) = true then (
  gd (a2 ≠ 0) <|
  some ((IntKind.i64.wrap (s9.2.2 * s9.1)).tmod a2)) else (
  some s9.2.2) : Option (Int)).bind fun (x23 : Int) =>
  gd (a2 ≠ 0) <|
  some (.go ((IntKind.i64.wrap (s9.1 * s9.1)).tmod a2, s9.2.1.fdiv 2, x23)))) else (
  some (.out s9.2.2))) (a0, a1, (1 : Int).tmod a2) : Option (Int)).bind fun (x7 : Int) =>
  some x7)
theorem c_impl_power {a0 : Int} {a1 : Int} {a2 : Int} {r : Int} (hr : F_impl_power a0 a1 a2 = some r) : PCalls Try.prog 96 [(.sh, .int .i64 a0), (.sh, .int .i64 a1), (.sh, .int .i64 a2)] (Eo (.int .i64 r) [.junk, .junk, .junk]) := by
  apply pcalls_lf 28 [] [] [] [.tmp 6] hr cl96 Try.func96 rfl rfl rfl
  · exact ⟨by simp, rfl⟩
  intro Φ hΦ hF
  unfold F_impl_power at hF
  obtain ⟨g1, hF2⟩ := Rn_nz hF
  iterate 2 (try simp [-List.map_set, go_sem, g1]; refine pw_wk ?_)
  repeat rw [sq]
  refine pw_joinF (fun (x7 : Int) => [(7, .v (.int .i64 x7))]) hF2 ?_ ?_
  ·intro x7 hF8
   cases hΦ _ (Rn_some hF8)
   try simp [-List.map_set, go_sem, g1]
   refine pw_wk ?_
   try simp [-List.map_set, go_sem, g1]
  ·intro ψ5 hj3 hF6
   repeat rw [sq]
   rw [pw_block]
   obtain ⟨b32, hb33, hψ13⟩ := hF6
   refine pw_wloop (fun (s9 : Int × Int × Int) => [(0, .v (.int .i64 s9.1)), (1, .v (.int .i64 s9.2.1)), (2, .v (.int .i64 a2)), (7, .v (.int .i64 s9.2.2))]) hb33 (by simp [-List.map_set, go_sem, g1]) ?_
   intro s9 φ14 N15 ho11 hg12 hF16
   try simp [-List.map_set, go_sem, g1]
   refine pw_wk ?_
   repeat rw [sq]
   refine pw_cF hF16 (by simp [-List.map_set, go_sem, g1]) (fun h17 hF18 => ?_) fun h17 hF18 => ?_
   ·try simp [-List.map_set, go_sem, g1]
    refine pw_wk ?_
    repeat rw [sq]
    rw [pw_block]
    try simp [-List.map_set, go_sem, g1]
    refine pw_wk ?_
    repeat rw [sq]
    refine pw_joinF (fun (x23 : Int) => [(0, .v (.int .i64 s9.1)), (1, .v (.int .i64 s9.2.1)), (2, .v (.int .i64 a2)), (7, .v (.int .i64 x23))]) hF18 ?_ ?_
    ·intro x23 hF24
     obtain ⟨g29, hF30⟩ := Rn_nz hF24
     try simp [-List.map_set, go_sem, g1, g29]
     refine pw_wkK [0, 1, 2, 7] (by simp [-List.map_set, go_sem, g1, g29]; rfl) ?_
     have g31 := fun x => shV0_ge (b := 1) (x := x) (by decide)
     try simp [-List.map_set, go_sem, g1, g29, g31]
     exact hg12 ((IntKind.i64.wrap (s9.1 * s9.1)).tmod a2, s9.2.1.fdiv 2, x23) _ (by simp [-List.map_set, go_sem, g1, g29, g31]) (Rn_some hF30)
    ·intro ψ21 hj19 hF22
     repeat rw [sq]
     refine pw_cF hF22 (by simp [-List.map_set, go_sem, g1]) (fun h25 hF26 => ?_) fun h25 hF26 => ?_
     ·obtain ⟨g27, hF28⟩ := Rn_nz hF26
      try simp [-List.map_set, go_sem, g1, g27]
      exact hj19 ((IntKind.i64.wrap (s9.2.2 * s9.1)).tmod a2) _ (by simp [-List.map_set, go_sem, g1, g27]) (Rn_some hF28)
     ·try simp [-List.map_set, go_sem, g1]
      exact hj19 s9.2.2 _ (by simp [-List.map_set, go_sem, g1]) (Rn_some hF26)
   ·try simp [-List.map_set, go_sem, g1]
    cases ho11 _ (Rn_some hF18)
    exact hj3 s9.2.2 _ (by simp [-List.map_set, go_sem, g1]) hψ13
noncomputable def F_impl_IsValidGroup (a0 : Group) : Option (Bool) :=
  (((F_impl_within a0.P 3 2000000000).bind fun z7 =>
  if z7 = true then (
  (F_impl_within a0.Q 2 (IntKind.i64.wrap (a0.P - 1))).bind fun z11 =>
  if z11 = true then (
  gd (a0.Q ≠ 0) <|
  if (((IntKind.i64.wrap (a0.P - 1)).tmod a0.Q) == 0) = true then (
  (F_impl_within a0.G 2 (IntKind.i64.wrap (a0.P - 1))).bind fun z19 =>
  if z19 = true then (
  (F_impl_isPrime a0.P).bind fun z23 =>
  if z23 = true then (
  (F_impl_isPrime a0.Q).bind fun z27 =>
  if z27 = true then (
  (F_impl_power a0.G a0.Q a0.P).bind fun z31 =>
  some (z31 == 1)) else (
  some false)) else (
  some false)) else (
  some false)) else (
  some false)) else (
  some false)) else (
  some false) : Option (Bool)).bind fun (x5 : Bool) =>
  some x5)
theorem c_impl_IsValidGroup {a0 : Group} {r : Bool} (hr : F_impl_IsValidGroup a0 = some r) : PCalls Try.prog 95 [(.sh, .agg [.int .i64 a0.P, .int .i64 a0.Q, .int .i64 a0.G])] (Eo (.bool r) [.junk]) := by
  apply pcalls_lf 51 [] [] [] [.tmp 2] hr cl95 Try.func95 rfl rfl rfl
  · exact ⟨by simp, rfl⟩
  intro Φ hΦ hF
  unfold F_impl_IsValidGroup at hF
  try simp [-List.map_set, go_sem]
  refine pw_wk ?_
  repeat rw [sq]
  refine pw_joinF (fun (x5 : Bool) => [(2, .v (.bool x5))]) hF ?_ ?_
  ·intro x5 hF6
   cases hΦ _ (Rn_some hF6)
   try simp [-List.map_set, go_sem]
  ·intro ψ3 hj1 hF4
   try simp [-List.map_set, go_sem]
   refine pw_cl hF4 [.sh, .sh, .sh] c_impl_within rfl rfl (by (try simp [-List.map_set, go_sem, clE]); first | rfl | done) (by rfl) (by (try simp [-List.map_set, go_sem]); first | rfl | done) fun z7 hF8 => ⟨by simp [go_sem], ?_⟩
   try simp [-List.map_set, go_sem]
   refine pwg_F hF8 (fun h9 hF10 => ?_) fun h9 hF10 => ?_
   ·try simp [-List.map_set, go_sem, h9]
    refine pw_cl hF10 [.sh, .sh, .sh] c_impl_within rfl rfl (by (try simp [-List.map_set, go_sem, clE]); first | rfl | done) (by rfl) (by (try simp [-List.map_set, go_sem]); first | rfl | done) fun z11 hF12 => ⟨by simp [go_sem], ?_⟩
    try simp [-List.map_set, go_sem, h9]
    refine pwg_F hF12 (fun h13 hF14 => ?_) fun h13 hF14 => ?_
    ·obtain ⟨g15, hF16⟩ := Rn_nz hF14
     try simp [-List.map_set, go_sem, g15, h13]
     refine pwg_F hF16 (fun h17 hF18 => ?_) fun h17 hF18 => ?_
     ·try simp [-List.map_set, go_sem, g15, h17]
      refine pw_cl hF18 [.sh, .sh, .sh] c_impl_within rfl rfl (by (try simp [-List.map_set, go_sem, clE, g15]); first | rfl | done) (by rfl) (by (try simp [-List.map_set, go_sem, g15]); first | rfl | done) fun z19 hF20 => ⟨by simp [go_sem], ?_⟩
      try simp [-List.map_set, go_sem, g15, h17]
      refine pwg_F hF20 (fun h21 hF22 => ?_) fun h21 hF22 => ?_
      ·try simp [-List.map_set, go_sem, g15, h21]
       refine pw_cl hF22 [.sh] c_impl_isPrime rfl rfl (by (try simp [-List.map_set, go_sem, clE, g15]); first | rfl | done) (by rfl) (by (try simp [-List.map_set, go_sem, g15]); first | rfl | done) fun z23 hF24 => ⟨by simp [go_sem], ?_⟩
       try simp [-List.map_set, go_sem, g15, h21]
       refine pwg_F hF24 (fun h25 hF26 => ?_) fun h25 hF26 => ?_
       ·try simp [-List.map_set, go_sem, g15, h25]
        refine pw_cl hF26 [.sh] c_impl_isPrime rfl rfl (by (try simp [-List.map_set, go_sem, clE, g15]); first | rfl | done) (by rfl) (by (try simp [-List.map_set, go_sem, g15]); first | rfl | done) fun z27 hF28 => ⟨by simp [go_sem], ?_⟩
        try simp [-List.map_set, go_sem, g15, h25]
        refine pwg_F hF28 (fun h29 hF30 => ?_) fun h29 hF30 => ?_
        ·try simp [-List.map_set, go_sem, g15, h29]
         refine pw_cl hF30 [.sh, .sh, .sh] c_impl_power rfl rfl (by (try simp [-List.map_set, go_sem, clE, g15]); first | rfl | done) (by rfl) (by (try simp [-List.map_set, go_sem, g15]); first | rfl | done) fun z31 hF32 => ⟨by simp [go_sem], ?_⟩
         try simp [-List.map_set, go_sem, g15, h29]
         exact hj1 (z31 == 1) _ (by simp [-List.map_set, go_sem, g15]) (Rn_some hF32)
        ·try simp [-List.map_set, go_sem, g15, h29]
         exact hj1 false _ (by simp [-List.map_set, go_sem, g15]) (Rn_some hF30)
       ·try simp [-List.map_set, go_sem, g15, h25]
        exact hj1 false _ (by simp [-List.map_set, go_sem, g15]) (Rn_some hF26)
      ·try simp [-List.map_set, go_sem, g15, h21]
       exact hj1 false _ (by simp [-List.map_set, go_sem, g15]) (Rn_some hF22)
     ·try simp [-List.map_set, go_sem, g15, h17]
      exact hj1 false _ (by simp [-List.map_set, go_sem, g15]) (Rn_some hF18)
    ·try simp [-List.map_set, go_sem, h13]
     exact hj1 false _ (by simp [-List.map_set, go_sem]) (Rn_some hF14)
   ·try simp [-List.map_set, go_sem, h9]
    exact hj1 false _ (by simp [-List.map_set, go_sem]) (Rn_some hF10)
noncomputable def F_impl_isSharing (a0 : Group) : Option (Bool) :=
  ((if decide (7 < a0.Q) = true then (
  (F_impl_IsValidGroup a0).bind fun z9 =>
  some z9) else (
  some false) : Option (Bool)).bind fun (x5 : Bool) =>
  some x5)
theorem c_impl_isSharing {a0 : Group} {r : Bool} (hr : F_impl_isSharing a0 = some r) : PCalls Try.prog 60 [(.sh, .agg [.int .i64 a0.P, .int .i64 a0.Q, .int .i64 a0.G])] (Eo (.bool r) [.junk]) := by
  apply pcalls_lf 10 [] [] [] [.tmp 2] hr cl60 Try.func60 rfl rfl rfl
  · exact ⟨by simp, rfl⟩
  intro Φ hΦ hF
  unfold F_impl_isSharing at hF
  try simp [-List.map_set, go_sem]
  refine pw_wk ?_
  repeat rw [sq]
  refine pw_joinF (fun (x5 : Bool) => [(2, .v (.bool x5))]) hF ?_ ?_
  ·intro x5 hF6
   cases hΦ _ (Rn_some hF6)
   try simp [-List.map_set, go_sem]
  ·intro ψ3 hj1 hF4
   try simp [-List.map_set, go_sem]
   refine pwg_F hF4 (fun h7 hF8 => ?_) fun h7 hF8 => ?_
   ·try simp [-List.map_set, go_sem, h7]
    refine pw_cl hF8 [.sh] c_impl_IsValidGroup rfl rfl (by (try simp [-List.map_set, go_sem, clE]); first | rfl | done) (by rfl) (by (try simp [-List.map_set, go_sem]); first | rfl | done) fun z9 hF10 => ⟨by simp [go_sem], ?_⟩
    try simp [-List.map_set, go_sem, h7]
    exact hj1 z9 _ (by simp [-List.map_set, go_sem]) (Rn_some hF10)
   ·try simp [-List.map_set, go_sem, h7]
    exact hj1 false _ (by simp [-List.map_set, go_sem]) (Rn_some hF8)
noncomputable def F_impl_Group_has (a0 : Group) (a1 : Int) : Option (Bool) :=
  (((F_impl_within a1 1 (IntKind.i64.wrap (a0.P - 1))).bind fun z7 =>
  if z7 = true then (
  (F_impl_power a1 a0.Q a0.P).bind fun z11 =>
  some (z11 == 1)) else (
  some false) : Option (Bool)).bind fun (x5 : Bool) =>
  some x5)
theorem c_impl_Group_has {a0 : Group} {a1 : Int} {r : Bool} (hr : F_impl_Group_has a0 a1 = some r) : PCalls Try.prog 62 [(.sh, .agg [.int .i64 a0.P, .int .i64 a0.Q, .int .i64 a0.G]), (.sh, .int .i64 a1)] (Eo (.bool r) [.junk, .junk]) := by
  apply pcalls_lf 19 [] [] [] [.tmp 4] hr cl62 Try.func62 rfl rfl rfl
  · exact ⟨by simp, rfl⟩
  intro Φ hΦ hF
  unfold F_impl_Group_has at hF
  try simp [-List.map_set, go_sem]
  refine pw_wk ?_
  repeat rw [sq]
  refine pw_joinF (fun (x5 : Bool) => [(4, .v (.bool x5))]) hF ?_ ?_
  ·intro x5 hF6
   cases hΦ _ (Rn_some hF6)
   try simp [-List.map_set, go_sem]
  ·intro ψ3 hj1 hF4
   try simp [-List.map_set, go_sem]
   refine pw_cl hF4 [.sh, .sh, .sh] c_impl_within rfl rfl (by (try simp [-List.map_set, go_sem, clE]); first | rfl | done) (by rfl) (by (try simp [-List.map_set, go_sem]); first | rfl | done) fun z7 hF8 => ⟨by simp [go_sem], ?_⟩
   try simp [-List.map_set, go_sem]
   refine pwg_F hF8 (fun h9 hF10 => ?_) fun h9 hF10 => ?_
   ·try simp [-List.map_set, go_sem, h9]
    refine pw_cl hF10 [.sh, .sh, .sh] c_impl_power rfl rfl (by (try simp [-List.map_set, go_sem, clE]); first | rfl | done) (by rfl) (by (try simp [-List.map_set, go_sem]); first | rfl | done) fun z11 hF12 => ⟨by simp [go_sem], ?_⟩
    try simp [-List.map_set, go_sem, h9]
    exact hj1 (z11 == 1) _ (by simp [-List.map_set, go_sem]) (Rn_some hF12)
   ·try simp [-List.map_set, go_sem, h9]
    exact hj1 false _ (by simp [-List.map_set, go_sem]) (Rn_some hF10)
noncomputable def F_impl_Group_hasCipher (a0 : Group) (a1 : Cipher) : Option (Bool) :=
  (((F_impl_Group_has a0 a1.A).bind fun z7 =>
  if z7 = true then (
  (F_impl_Group_has a0 a1.B).bind fun z11 =>
  some z11) else (
  some false) : Option (Bool)).bind fun (x5 : Bool) =>
  some x5)
theorem c_impl_Group_hasCipher {a0 : Group} {a1 : Cipher} {r : Bool} (hr : F_impl_Group_hasCipher a0 a1 = some r) : PCalls Try.prog 61 [(.sh, .agg [.int .i64 a0.P, .int .i64 a0.Q, .int .i64 a0.G]), (.sh, .agg [.int .i64 a1.A, .int .i64 a1.B])] (Eo (.bool r) [.junk, .junk]) := by
  apply pcalls_lf 15 [] [] [] [.tmp 4] hr cl61 Try.func61 rfl rfl rfl
  · exact ⟨by simp, rfl⟩
  intro Φ hΦ hF
  unfold F_impl_Group_hasCipher at hF
  try simp [-List.map_set, go_sem]
  refine pw_wk ?_
  repeat rw [sq]
  refine pw_joinF (fun (x5 : Bool) => [(4, .v (.bool x5))]) hF ?_ ?_
  ·intro x5 hF6
   cases hΦ _ (Rn_some hF6)
   try simp [-List.map_set, go_sem]
  ·intro ψ3 hj1 hF4
   try simp [-List.map_set, go_sem]
   refine pw_cl hF4 [.sh, .sh] c_impl_Group_has rfl rfl (by (try simp [-List.map_set, go_sem, clE]); first | rfl | done) (by rfl) (by (try simp [-List.map_set, go_sem]); first | rfl | done) fun z7 hF8 => ⟨by simp [go_sem], ?_⟩
   try simp [-List.map_set, go_sem]
   refine pwg_F hF8 (fun h9 hF10 => ?_) fun h9 hF10 => ?_
   ·try simp [-List.map_set, go_sem, h9]
    refine pw_cl hF10 [.sh, .sh] c_impl_Group_has rfl rfl (by (try simp [-List.map_set, go_sem, clE]); first | rfl | done) (by rfl) (by (try simp [-List.map_set, go_sem]); first | rfl | done) fun z11 hF12 => ⟨by simp [go_sem], ?_⟩
    try simp [-List.map_set, go_sem, h9]
    exact hj1 z11 _ (by simp [-List.map_set, go_sem]) (Rn_some hF12)
   ·try simp [-List.map_set, go_sem, h9]
    exact hj1 false _ (by simp [-List.map_set, go_sem]) (Rn_some hF10)
noncomputable def F_impl_isTrustee (a0 : Int) : Option (Bool) :=
  (F_impl_within a0 1 7).bind fun z1 =>
  some z1
theorem c_impl_isTrustee {a0 : Int} {r : Bool} (hr : F_impl_isTrustee a0 = some r) : PCalls Try.prog 64 [(.sh, .int .i64 a0)] (Eo (.bool r) [.junk]) := by
  apply pcalls_lf 5 [] [] [] [.tmp 2] hr cl64 Try.func64 rfl rfl rfl
  · exact ⟨by simp, rfl⟩
  intro Φ hΦ hF
  unfold F_impl_isTrustee at hF
  try simp [-List.map_set, go_sem]
  refine pw_wk ?_
  try simp [-List.map_set, go_sem]
  refine pw_cl hF [.sh, .sh, .sh] c_impl_within rfl rfl (by (try simp [-List.map_set, go_sem, clE]); first | rfl | done) (by rfl) (by (try simp [-List.map_set, go_sem]); first | rfl | done) fun z1 hF2 => ⟨by simp [go_sem], ?_⟩
  cases hΦ _ (Rn_some hF2)
  try simp [-List.map_set, go_sem]
  refine pw_wk ?_
  try simp [-List.map_set, go_sem]
noncomputable def F_impl_areAll_1__impl_isTrustee (a0 : Int) : Option (Bool) :=
  (F_impl_isTrustee a0).bind fun z1 =>
  some (!z1)
theorem c_impl_areAll_1__impl_isTrustee {a0 : Int} {r : Bool} (hr : F_impl_areAll_1__impl_isTrustee a0 = some r) : PCalls Try.prog 115 [(.sh, .int .i64 a0), (.sh, .fp [.func (.func 64) [] []])] (Eo (.bool r) [.junk, .junk]) := by
  apply pcalls_lf 8 [] [] [] [.tmp 3] hr cl115 Try.func115 rfl rfl rfl
  · exact ⟨by simp, rfl⟩
  intro Φ hΦ hF
  unfold F_impl_areAll_1__impl_isTrustee at hF
  try simp [-List.map_set, go_sem]
  refine pw_wk ?_
  try simp [-List.map_set, go_sem]
  refine pw_cl hF [.sh] c_impl_isTrustee rfl rfl (by (try simp [-List.map_set, go_sem, clE]); first | rfl | done) (by rfl) (by (try simp [-List.map_set, go_sem]); first | rfl | done) fun z1 hF2 => ⟨by simp [go_sem], ?_⟩
  cases hΦ _ (Rn_some hF2)
  try simp [-List.map_set, go_sem]
  refine pw_wk ?_
  try simp [-List.map_set, go_sem]
noncomputable def F_slices_IndexFunc_int_int__impl_areAll_1_impl_isTrustee (a0 : (List Int)) : Option (Int) :=
  ((rloop (σ := Unit) (β := Unit ⊕ Int) (fun i8 s7 =>
  (ix a0 i8).bind fun x17 =>
  (F_impl_areAll_1__impl_isTrustee x17).bind fun z20 =>
  if z20 = true then (
  some (.out (.inr i8))) else (
  some (.go ()))) (fun s7 => .inl ()) (a0.length) 0 () : Option (Unit ⊕ Int)).bind (Sum.elim (fun (x5 : Unit) =>
  some (-1)) some))
theorem c_slices_IndexFunc_int_int__impl_areAll_1_impl_isTrustee {a0 : (List Int)} {r : Int} (hr : F_slices_IndexFunc_int_int__impl_areAll_1_impl_isTrustee a0 = some r) : PCalls Try.prog 122 [(.sh, .sl false 1 (a0.map row_i64)), (.sh, .func (.func 115) [] [.fp [.func (.func 64) [] []]])] (Eo (.int .i64 r) [.junk, .junk]) := by
  apply pcalls_lf 19 [] [] [] [.tmp 4] hr cl122 Try.func122 rfl rfl rfl
  · exact ⟨by simp, rfl⟩
  intro Φ hΦ hF
  unfold F_slices_IndexFunc_int_int__impl_areAll_1_impl_isTrustee at hF
  iterate 2 (try simp [-List.map_set, go_sem]; try intros; refine pw_wk ?_)
  repeat rw [sq]
  refine pw_joinS (fun (x5 : Unit) => []) hF ?_ ?_
  ·intro x5 hF6
   cases hΦ _ (Rn_some hF6)
   try simp [-List.map_set, go_sem]
   refine pw_wk ?_
   try simp [-List.map_set, go_sem]
  ·intro ψ3 hj1 hr2 hF4
   repeat rw [sq]
   rw [pw_block]
   obtain ⟨b24, hb25, hψ11⟩ := hF4
   refine pw_rloop (fun (i8 : Int) (s7 : Unit) => [(0, .v (.sl false 1 (a0.map row_i64))), (1, .v (.func (.func 115) [] [.fp [.func (.func 64) [] []]])), (7, .v (.int .i64 (a0.length : Int))), (8, .v (.int .i64 i8))]) hb25 (by simp [-List.map_set, go_sem]) ?_ ?_
   ·intro s7 N27 hN26
    subst hN26
    try simp [-List.map_set, go_sem]
    refine pw_wk ?_
    repeat rw [sq]
    refine pw_cond_f (by simp [-List.map_set, go_sem]) ?_
    try simp [-List.map_set, go_sem]
    exact hj1 () _ (by simp [-List.map_set, go_sem]) hψ11
   ·intro i8 s7 φ12 N13 hi15 hi16 ho9 hg10 hF14
    rw [Int.zero_add] at hi16
    try simp [-List.map_set, go_sem]
    refine pw_wk ?_
    repeat rw [sq]
    refine pw_cond_t (by simp [-List.map_set, go_sem, hi15, hi16]) ?_
    try simp [-List.map_set, go_sem]
    refine pw_wk ?_
    repeat rw [sq]
    rw [pw_block]
    obtain ⟨x17, g18, hF19⟩ := Rn_ix hF14
    try simp [-List.map_set, go_sem, g18]
    refine pw_wk ?_
    try simp [-List.map_set, go_sem, g18]
    refine pw_cl hF19 [.sh] c_impl_areAll_1__impl_isTrustee rfl rfl (by (try simp [-List.map_set, go_sem, clE, g18]); first | rfl | done) (by rfl) (by (try simp [-List.map_set, go_sem, g18]); first | rfl | done) fun z20 hF21 => ⟨by simp [go_sem], ?_⟩
    try simp [-List.map_set, go_sem, g18]
    refine pw_wkK [0, 1, 5, 7, 8, 16] (by simp [-List.map_set, go_sem, g18]; rfl) ?_
    repeat rw [sq]
    refine pw_cF hF21 (by simp [-List.map_set, go_sem, g18]) (fun h22 hF23 => ?_) fun h22 hF23 => ?_
    ·cases ho9 _ (Rn_some hF23)
     cases hΦ _ (hr2 _ hψ11)
     try simp [-List.map_set, go_sem, g18]
     refine pw_wk ?_
     try simp [-List.map_set, go_sem, g18]
    ·try simp [-List.map_set, go_sem, g18]
     refine pw_wk ?_
     try simp [-List.map_set, go_sem, g18]
     exact hg10 () _ (by simp [-List.map_set, go_sem, g18, wr_i hi15 hi16 (by assumption)]) (Rn_some hF23)
noncomputable def F_slices_ContainsFunc_int_int__impl_areAll_1_impl_isTrustee (a0 : (List Int)) : Option (Bool) :=
  (F_slices_IndexFunc_int_int__impl_areAll_1_impl_isTrustee a0).bind fun z1 =>
  some (decide (0 ≤ z1))
theorem c_slices_ContainsFunc_int_int__impl_areAll_1_impl_isTrustee {a0 : (List Int)} {r : Bool} (hr : F_slices_ContainsFunc_int_int__impl_areAll_1_impl_isTrustee a0 = some r) : PCalls Try.prog 114 [(.sh, .sl false 1 (a0.map row_i64)), (.sh, .func (.func 115) [] [.fp [.func (.func 64) [] []]])] (Eo (.bool r) [.junk, .junk]) := by
  apply pcalls_lf 9 [] [] [] [.tmp 4] hr cl114 Try.func114 rfl rfl rfl
  · exact ⟨by simp, rfl⟩
  intro Φ hΦ hF
  unfold F_slices_ContainsFunc_int_int__impl_areAll_1_impl_isTrustee at hF
  try simp [-List.map_set, go_sem]
  refine pw_wk ?_
  try simp [-List.map_set, go_sem]
  refine pw_cl hF [.sh, .sh] c_slices_IndexFunc_int_int__impl_areAll_1_impl_isTrustee rfl rfl (by (try simp [-List.map_set, go_sem, clE]); first | rfl | done) (by rfl) (by (try simp [-List.map_set, go_sem]); first | rfl | done) fun z1 hF2 => ⟨by simp [go_sem], ?_⟩
  cases hΦ _ (Rn_some hF2)
  try simp [-List.map_set, go_sem]
  refine pw_wk ?_
  try simp [-List.map_set, go_sem]
noncomputable def F_impl_areAll__impl_isTrustee (a0 : (List Int)) : Option (Bool) :=
  (F_slices_ContainsFunc_int_int__impl_areAll_1_impl_isTrustee a0).bind fun z1 =>
  some (!z1)
theorem c_impl_areAll__impl_isTrustee {a0 : (List Int)} {r : Bool} (hr : F_impl_areAll__impl_isTrustee a0 = some r) : PCalls Try.prog 97 [(.sh, .sl false 1 (a0.map row_i64)), (.sh, .func (.func 64) [] [])] (Eo (.bool r) [.junk, .junk]) := by
  apply pcalls_lf 9 [] [] [3] [.tmp 4] hr cl97 Try.func97 rfl rfl rfl
  · exact ⟨by simp, rfl⟩
  intro Φ hΦ hF
  unfold F_impl_areAll__impl_isTrustee at hF
  try simp [-List.map_set, go_sem]
  refine pw_wk ?_
  try simp [-List.map_set, go_sem]
  refine pw_cl hF [.sh, .sh] c_slices_ContainsFunc_int_int__impl_areAll_1_impl_isTrustee rfl rfl (by (try simp [-List.map_set, go_sem, clE]); first | rfl | done) (by rfl) (by (try simp [-List.map_set, go_sem]); first | rfl | done) fun z1 hF2 => ⟨by simp [go_sem], ?_⟩
  cases hΦ _ (Rn_some hF2)
  try simp [-List.map_set, go_sem]
  refine pw_wk ?_
  try simp [-List.map_set, go_sem]
noncomputable def F_slices_Index_int_int (a0 : (List Int)) (a1 : Int) : Option (Int) :=
  ((rloop (σ := Unit) (β := Unit ⊕ Int) (fun i8 s7 =>
  (ix a0 i8).bind fun x17 =>
  if (a1 == x17) = true then (
  some (.out (.inr i8))) else (
  some (.go ()))) (fun s7 => .inl ()) (a0.length) 0 () : Option (Unit ⊕ Int)).bind (Sum.elim (fun (x5 : Unit) =>
  some (-1)) some))
theorem c_slices_Index_int_int {a0 : (List Int)} {a1 : Int} {r : Int} (hr : F_slices_Index_int_int a0 a1 = some r) : PCalls Try.prog 99 [(.sh, .sl false 1 (a0.map row_i64)), (.sh, .int .i64 a1)] (Eo (.int .i64 r) [.junk, .junk]) := by
  apply pcalls_lf 19 [] [] [] [.tmp 4] hr cl99 Try.func99 rfl rfl rfl
  · exact ⟨by simp, rfl⟩
  intro Φ hΦ hF
  unfold F_slices_Index_int_int at hF
  iterate 2 (try simp [-List.map_set, go_sem]; try intros; refine pw_wk ?_)
  repeat rw [sq]
  refine pw_joinS (fun (x5 : Unit) => []) hF ?_ ?_
  ·intro x5 hF6
   cases hΦ _ (Rn_some hF6)
   try simp [-List.map_set, go_sem]
   refine pw_wk ?_
   try simp [-List.map_set, go_sem]
  ·intro ψ3 hj1 hr2 hF4
   repeat rw [sq]
   rw [pw_block]
   obtain ⟨b22, hb23, hψ11⟩ := hF4
   refine pw_rloop (fun (i8 : Int) (s7 : Unit) => [(0, .v (.sl false 1 (a0.map row_i64))), (1, .v (.int .i64 a1)), (7, .v (.int .i64 (a0.length : Int))), (8, .v (.int .i64 i8))]) hb23 (by simp [-List.map_set, go_sem]) ?_ ?_
   ·intro s7 N25 hN24
    subst hN24
    try simp [-List.map_set, go_sem]
    refine pw_wk ?_
    repeat rw [sq]
    refine pw_cond_f (by simp [-List.map_set, go_sem]) ?_
    try simp [-List.map_set, go_sem]
    exact hj1 () _ (by simp [-List.map_set, go_sem]) hψ11
   ·intro i8 s7 φ12 N13 hi15 hi16 ho9 hg10 hF14
    rw [Int.zero_add] at hi16
    try simp [-List.map_set, go_sem]
    refine pw_wk ?_
    repeat rw [sq]
    refine pw_cond_t (by simp [-List.map_set, go_sem, hi15, hi16]) ?_
    try simp [-List.map_set, go_sem]
    refine pw_wk ?_
    repeat rw [sq]
    rw [pw_block]
    obtain ⟨x17, g18, hF19⟩ := Rn_ix hF14
    try simp [-List.map_set, go_sem, g18]
    refine pw_wk ?_
    try simp [-List.map_set, go_sem, g18]
    refine pw_wkK [0, 1, 5, 7, 8, 16] (by simp [-List.map_set, go_sem, g18]; rfl) ?_
    repeat rw [sq]
    refine pw_cF hF19 (by simp [-List.map_set, go_sem, g18]) (fun h20 hF21 => ?_) fun h20 hF21 => ?_
    ·cases ho9 _ (Rn_some hF21)
     cases hΦ _ (hr2 _ hψ11)
     try simp [-List.map_set, go_sem, g18]
     refine pw_wk ?_
     try simp [-List.map_set, go_sem, g18]
    ·try simp [-List.map_set, go_sem, g18]
     refine pw_wk ?_
     try simp [-List.map_set, go_sem, g18]
     exact hg10 () _ (by simp [-List.map_set, go_sem, g18, wr_i hi15 hi16 (by assumption)]) (Rn_some hF21)
noncomputable def F_slices_Contains_int_int (a0 : (List Int)) (a1 : Int) : Option (Bool) :=
  (F_slices_Index_int_int a0 a1).bind fun z1 =>
  some (decide (0 ≤ z1))
theorem c_slices_Contains_int_int {a0 : (List Int)} {a1 : Int} {r : Bool} (hr : F_slices_Contains_int_int a0 a1 = some r) : PCalls Try.prog 65 [(.sh, .sl false 1 (a0.map row_i64)), (.sh, .int .i64 a1)] (Eo (.bool r) [.junk, .junk]) := by
  apply pcalls_lf 9 [] [] [] [.tmp 4] hr cl65 Try.func65 rfl rfl rfl
  · exact ⟨by simp, rfl⟩
  intro Φ hΦ hF
  unfold F_slices_Contains_int_int at hF
  try simp [-List.map_set, go_sem]
  refine pw_wk ?_
  try simp [-List.map_set, go_sem]
  refine pw_cl hF [.sh, .sh] c_slices_Index_int_int rfl rfl (by (try simp [-List.map_set, go_sem, clE]); first | rfl | done) (by rfl) (by (try simp [-List.map_set, go_sem]); first | rfl | done) fun z1 hF2 => ⟨by simp [go_sem], ?_⟩
  cases hΦ _ (Rn_some hF2)
  try simp [-List.map_set, go_sem]
  refine pw_wk ?_
  try simp [-List.map_set, go_sem]
noncomputable def F_impl_areDifferent (a0 : (List Int)) : Option (Bool) :=
  ((rloop (σ := Unit) (β := Unit ⊕ Bool) (fun i8 s7 =>
  (ix a0 i8).bind fun x17 =>
  gd (0 ≤ i8) <|
  gd (0 ≤ i8.toNat ∧ i8.toNat ≤ a0.length) <|
  (F_slices_Contains_int_int ((a0.take i8.toNat).drop 0) x17).bind fun z26 =>
  if z26 = true then (
  some (.out (.inr false))) else (
  some (.go ()))) (fun s7 => .inl ()) (a0.length) 0 () : Option (Unit ⊕ Bool)).bind (Sum.elim (fun (x5 : Unit) =>
  some true) some))
theorem c_impl_areDifferent {a0 : (List Int)} {r : Bool} (hr : F_impl_areDifferent a0 = some r) : PCalls Try.prog 98 [(.sh, .sl false 1 (a0.map row_i64))] (Eo (.bool r) [.junk]) := by
  apply pcalls_lf 18 [] [] [] [.tmp 2] hr cl98 Try.func98 rfl rfl rfl
  · exact ⟨by simp, rfl⟩
  intro Φ hΦ hF
  unfold F_impl_areDifferent at hF
  iterate 2 (try simp [-List.map_set, go_sem]; try intros; refine pw_wk ?_)
  repeat rw [sq]
  refine pw_joinS (fun (x5 : Unit) => []) hF ?_ ?_
  ·intro x5 hF6
   cases hΦ _ (Rn_some hF6)
   try simp [-List.map_set, go_sem]
   refine pw_wk ?_
   try simp [-List.map_set, go_sem]
  ·intro ψ3 hj1 hr2 hF4
   repeat rw [sq]
   rw [pw_block]
   obtain ⟨b30, hb31, hψ11⟩ := hF4
   refine pw_rloop (fun (i8 : Int) (s7 : Unit) => [(0, .v (.sl false 1 (a0.map row_i64))), (5, .v (.sl false 1 (a0.map row_i64))), (6, .v (.int .i64 (a0.length : Int))), (7, .v (.int .i64 i8))]) hb31 (by simp [-List.map_set, go_sem]) ?_ ?_
   ·intro s7 N33 hN32
    subst hN32
    try simp [-List.map_set, go_sem]
    refine pw_wk ?_
    repeat rw [sq]
    refine pw_cond_f (by simp [-List.map_set, go_sem]) ?_
    try simp [-List.map_set, go_sem]
    exact hj1 () _ (by simp [-List.map_set, go_sem]) hψ11
   ·intro i8 s7 φ12 N13 hi15 hi16 ho9 hg10 hF14
    rw [Int.zero_add] at hi16
    try simp [-List.map_set, go_sem]
    refine pw_wk ?_
    repeat rw [sq]
    refine pw_cond_t (by simp [-List.map_set, go_sem, hi15, hi16]) ?_
    try simp [-List.map_set, go_sem]
    refine pw_wk ?_
    repeat rw [sq]
    rw [pw_block]
    obtain ⟨x17, g18, hF19⟩ := Rn_ix hF14
    try simp [-List.map_set, go_sem, g18]
    refine pw_wkK [0, 3, 4, 5, 6, 7] (by simp [-List.map_set, go_sem, g18]; rfl) ?_
    obtain ⟨g20, hF21⟩ := Rn_gd hF19
    have g22 := g20
    try simp at g22
    obtain ⟨g23, hF24⟩ := Rn_gd hF21
    have g25 := g23
    try simp at g25
    try simp [-List.map_set, go_sem, g18, g20, g22, g23, g25]
    refine pw_cl hF24 [.sh, .sh] c_slices_Contains_int_int rfl rfl (by (try simp [-List.map_set, go_sem, clE, g18, g20, g22, g23, g25]); first | rfl | done) (by rfl) (by (try simp [-List.map_set, go_sem, g18, g20, g22, g23, g25]); first | rfl | done) fun z26 hF27 => ⟨by simp [go_sem], ?_⟩
    try simp [-List.map_set, go_sem, g18, g20, g22, g23, g25]
    refine pw_wk ?_
    repeat rw [sq]
    refine pw_cF hF27 (by simp [-List.map_set, go_sem, g18, g20, g22, g23, g25]) (fun h28 hF29 => ?_) fun h28 hF29 => ?_
    ·cases ho9 _ (Rn_some hF29)
     cases hΦ _ (hr2 _ hψ11)
     try simp [-List.map_set, go_sem, g18, g20, g22, g23, g25]
     refine pw_wk ?_
     try simp [-List.map_set, go_sem, g18, g20, g22, g23, g25]
    ·try simp [-List.map_set, go_sem, g18, g20, g22, g23, g25]
     refine pw_wk ?_
     try simp [-List.map_set, go_sem, g18, g20, g22, g23, g25]
     exact hg10 () _ (by simp [-List.map_set, go_sem, g18, g20, g22, g23, g25, wr_i hi15 hi16 (by assumption)]) (Rn_some hF29)
noncomputable def F_impl_areTrustees (a0 : (List Int)) : Option (Bool) :=
  (((F_impl_areAll__impl_isTrustee a0).bind fun z7 =>
  if z7 = true then (
  (F_impl_areDifferent a0).bind fun z11 =>
  some z11) else (
  some false) : Option (Bool)).bind fun (x5 : Bool) =>
  some x5)
theorem c_impl_areTrustees {a0 : (List Int)} {r : Bool} (hr : F_impl_areTrustees a0 = some r) : PCalls Try.prog 63 [(.sh, .sl false 1 (a0.map row_i64))] (Eo (.bool r) [.junk]) := by
  apply pcalls_lf 9 [] [] [] [.tmp 2] hr cl63 Try.func63 rfl rfl rfl
  · exact ⟨by simp, rfl⟩
  intro Φ hΦ hF
  unfold F_impl_areTrustees at hF
  try simp [-List.map_set, go_sem]
  refine pw_wk ?_
  repeat rw [sq]
  refine pw_joinF (fun (x5 : Bool) => [(2, .v (.bool x5))]) hF ?_ ?_
  ·intro x5 hF6
   cases hΦ _ (Rn_some hF6)
   try simp [-List.map_set, go_sem]
  ·intro ψ3 hj1 hF4
   try simp [-List.map_set, go_sem]
   refine pw_cl hF4 [.sh, .sh] c_impl_areAll__impl_isTrustee rfl rfl (by (try simp [-List.map_set, go_sem, clE]); first | rfl | done) (by rfl) (by (try simp [-List.map_set, go_sem]); first | rfl | done) fun z7 hF8 => ⟨by simp [go_sem], ?_⟩
   try simp [-List.map_set, go_sem]
   refine pwg_F hF8 (fun h9 hF10 => ?_) fun h9 hF10 => ?_
   ·try simp [-List.map_set, go_sem, h9]
    refine pw_cl hF10 [.sh] c_impl_areDifferent rfl rfl (by (try simp [-List.map_set, go_sem, clE]); first | rfl | done) (by rfl) (by (try simp [-List.map_set, go_sem]); first | rfl | done) fun z11 hF12 => ⟨by simp [go_sem], ?_⟩
    try simp [-List.map_set, go_sem, h9]
    exact hj1 z11 _ (by simp [-List.map_set, go_sem]) (Rn_some hF12)
   ·try simp [-List.map_set, go_sem, h9]
    exact hj1 false _ (by simp [-List.map_set, go_sem]) (Rn_some hF10)
noncomputable def F_impl_Group_isExp (a0 : Group) (a1 : Int) : Option (Bool) :=
  (F_impl_within a1 0 (IntKind.i64.wrap (a0.Q - 1))).bind fun z1 =>
  some z1
theorem c_impl_Group_isExp {a0 : Group} {a1 : Int} {r : Bool} (hr : F_impl_Group_isExp a0 a1 = some r) : PCalls Try.prog 100 [(.sh, .agg [.int .i64 a0.P, .int .i64 a0.Q, .int .i64 a0.G]), (.sh, .int .i64 a1)] (Eo (.bool r) [.junk, .junk]) := by
  apply pcalls_lf 10 [] [] [] [.tmp 4] hr cl100 Try.func100 rfl rfl rfl
  · exact ⟨by simp, rfl⟩
  intro Φ hΦ hF
  unfold F_impl_Group_isExp at hF
  try simp [-List.map_set, go_sem]
  refine pw_wk ?_
  try simp [-List.map_set, go_sem]
  refine pw_cl hF [.sh, .sh, .sh] c_impl_within rfl rfl (by (try simp [-List.map_set, go_sem, clE]); first | rfl | done) (by rfl) (by (try simp [-List.map_set, go_sem]); first | rfl | done) fun z1 hF2 => ⟨by simp [go_sem], ?_⟩
  cases hΦ _ (Rn_some hF2)
  try simp [-List.map_set, go_sem]
  refine pw_wk ?_
  try simp [-List.map_set, go_sem]
noncomputable def F_impl_areAll_1__impl_Group_isExp (a0 : Int) (a1c0x0 : Group) : Option (Bool) :=
  (F_impl_Group_isExp a1c0x0 a0).bind fun z1 =>
  some (!z1)
theorem c_impl_areAll_1__impl_Group_isExp {a0 : Int} {a1c0x0 : Group} {r : Bool} (hr : F_impl_areAll_1__impl_Group_isExp a0 a1c0x0 = some r) : PCalls Try.prog 115 [(.sh, .int .i64 a0), (.sh, .fp [.func (.func 100) [.agg [.int .i64 a1c0x0.P, .int .i64 a1c0x0.Q, .int .i64 a1c0x0.G]] []])] (Eo (.bool r) [.junk, .junk]) := by
  apply pcalls_lf 8 [] [] [] [.tmp 3] hr cl115 Try.func115 rfl rfl rfl
  · exact ⟨by simp, rfl⟩
  intro Φ hΦ hF
  unfold F_impl_areAll_1__impl_Group_isExp at hF
  try simp [-List.map_set, go_sem]
  refine pw_wk ?_
  try simp [-List.map_set, go_sem]
  refine pw_cl hF [.sh] c_impl_Group_isExp rfl rfl (by (try simp [-List.map_set, go_sem, clE]); first | rfl | done) (by rfl) (by (try simp [-List.map_set, go_sem]); first | rfl | done) fun z1 hF2 => ⟨by simp [go_sem], ?_⟩
  cases hΦ _ (Rn_some hF2)
  try simp [-List.map_set, go_sem]
  refine pw_wk ?_
  try simp [-List.map_set, go_sem]
noncomputable def F_slices_IndexFunc_int_int__impl_areAll_1_impl_Group_isExp (a0 : (List Int)) (a1u0c0x0 : Group) : Option (Int) :=
  ((rloop (σ := Unit) (β := Unit ⊕ Int) (fun i8 s7 =>
  (ix a0 i8).bind fun x17 =>
  (F_impl_areAll_1__impl_Group_isExp x17 a1u0c0x0).bind fun z20 =>
  if z20 = true then (
  some (.out (.inr i8))) else (
  some (.go ()))) (fun s7 => .inl ()) (a0.length) 0 () : Option (Unit ⊕ Int)).bind (Sum.elim (fun (x5 : Unit) =>
  some (-1)) some))
theorem c_slices_IndexFunc_int_int__impl_areAll_1_impl_Group_isExp {a0 : (List Int)} {a1u0c0x0 : Group} {r : Int} (hr : F_slices_IndexFunc_int_int__impl_areAll_1_impl_Group_isExp a0 a1u0c0x0 = some r) : PCalls Try.prog 122 [(.sh, .sl false 1 (a0.map row_i64)), (.sh, .func (.func 115) [] [.fp [.func (.func 100) [.agg [.int .i64 a1u0c0x0.P, .int .i64 a1u0c0x0.Q, .int .i64 a1u0c0x0.G]] []]])] (Eo (.int .i64 r) [.junk, .junk]) := by
  apply pcalls_lf 19 [] [] [] [.tmp 4] hr cl122 Try.func122 rfl rfl rfl
  · exact ⟨by simp, rfl⟩
  intro Φ hΦ hF
  unfold F_slices_IndexFunc_int_int__impl_areAll_1_impl_Group_isExp at hF
  iterate 2 (try simp [-List.map_set, go_sem]; try intros; refine pw_wk ?_)
  repeat rw [sq]
  refine pw_joinS (fun (x5 : Unit) => []) hF ?_ ?_
  ·intro x5 hF6
   cases hΦ _ (Rn_some hF6)
   try simp [-List.map_set, go_sem]
   refine pw_wk ?_
   try simp [-List.map_set, go_sem]
  ·intro ψ3 hj1 hr2 hF4
   repeat rw [sq]
   rw [pw_block]
   obtain ⟨b24, hb25, hψ11⟩ := hF4
   refine pw_rloop (fun (i8 : Int) (s7 : Unit) => [(0, .v (.sl false 1 (a0.map row_i64))), (1, .v (.func (.func 115) [] [.fp [.func (.func 100) [.agg [.int .i64 a1u0c0x0.P, .int .i64 a1u0c0x0.Q, .int .i64 a1u0c0x0.G]] []]])), (7, .v (.int .i64 (a0.length : Int))), (8, .v (.int .i64 i8))]) hb25 (by simp [-List.map_set, go_sem]) ?_ ?_
   ·intro s7 N27 hN26
    subst hN26
    try simp [-List.map_set, go_sem]
    refine pw_wk ?_
    repeat rw [sq]
    refine pw_cond_f (by simp [-List.map_set, go_sem]) ?_
    try simp [-List.map_set, go_sem]
    exact hj1 () _ (by simp [-List.map_set, go_sem]) hψ11
   ·intro i8 s7 φ12 N13 hi15 hi16 ho9 hg10 hF14
    rw [Int.zero_add] at hi16
    try simp [-List.map_set, go_sem]
    refine pw_wk ?_
    repeat rw [sq]
    refine pw_cond_t (by simp [-List.map_set, go_sem, hi15, hi16]) ?_
    try simp [-List.map_set, go_sem]
    refine pw_wk ?_
    repeat rw [sq]
    rw [pw_block]
    obtain ⟨x17, g18, hF19⟩ := Rn_ix hF14
    try simp [-List.map_set, go_sem, g18]
    refine pw_wk ?_
    try simp [-List.map_set, go_sem, g18]
    refine pw_cl hF19 [.sh] c_impl_areAll_1__impl_Group_isExp rfl rfl (by (try simp [-List.map_set, go_sem, clE, g18]); first | rfl | done) (by rfl) (by (try simp [-List.map_set, go_sem, g18]); first | rfl | done) fun z20 hF21 => ⟨by simp [go_sem], ?_⟩
    try simp [-List.map_set, go_sem, g18]
    refine pw_wkK [0, 1, 5, 7, 8, 16] (by simp [-List.map_set, go_sem, g18]; rfl) ?_
    repeat rw [sq]
    refine pw_cF hF21 (by simp [-List.map_set, go_sem, g18]) (fun h22 hF23 => ?_) fun h22 hF23 => ?_
    ·cases ho9 _ (Rn_some hF23)
     cases hΦ _ (hr2 _ hψ11)
     try simp [-List.map_set, go_sem, g18]
     refine pw_wk ?_
     try simp [-List.map_set, go_sem, g18]
    ·try simp [-List.map_set, go_sem, g18]
     refine pw_wk ?_
     try simp [-List.map_set, go_sem, g18]
     exact hg10 () _ (by simp [-List.map_set, go_sem, g18, wr_i hi15 hi16 (by assumption)]) (Rn_some hF23)
noncomputable def F_slices_ContainsFunc_int_int__impl_areAll_1_impl_Group_isExp (a0 : (List Int)) (a1u0c0x0 : Group) : Option (Bool) :=
  (F_slices_IndexFunc_int_int__impl_areAll_1_impl_Group_isExp a0 a1u0c0x0).bind fun z1 =>
  some (decide (0 ≤ z1))
theorem c_slices_ContainsFunc_int_int__impl_areAll_1_impl_Group_isExp {a0 : (List Int)} {a1u0c0x0 : Group} {r : Bool} (hr : F_slices_ContainsFunc_int_int__impl_areAll_1_impl_Group_isExp a0 a1u0c0x0 = some r) : PCalls Try.prog 114 [(.sh, .sl false 1 (a0.map row_i64)), (.sh, .func (.func 115) [] [.fp [.func (.func 100) [.agg [.int .i64 a1u0c0x0.P, .int .i64 a1u0c0x0.Q, .int .i64 a1u0c0x0.G]] []]])] (Eo (.bool r) [.junk, .junk]) := by
  apply pcalls_lf 9 [] [] [] [.tmp 4] hr cl114 Try.func114 rfl rfl rfl
  · exact ⟨by simp, rfl⟩
  intro Φ hΦ hF
  unfold F_slices_ContainsFunc_int_int__impl_areAll_1_impl_Group_isExp at hF
  try simp [-List.map_set, go_sem]
  refine pw_wk ?_
  try simp [-List.map_set, go_sem]
  refine pw_cl hF [.sh, .sh] c_slices_IndexFunc_int_int__impl_areAll_1_impl_Group_isExp rfl rfl (by (try simp [-List.map_set, go_sem, clE]); first | rfl | done) (by rfl) (by (try simp [-List.map_set, go_sem]); first | rfl | done) fun z1 hF2 => ⟨by simp [go_sem], ?_⟩
  cases hΦ _ (Rn_some hF2)
  try simp [-List.map_set, go_sem]
  refine pw_wk ?_
  try simp [-List.map_set, go_sem]
noncomputable def F_impl_areAll__impl_Group_isExp (a0 : (List Int)) (a1x0 : Group) : Option (Bool) :=
  (F_slices_ContainsFunc_int_int__impl_areAll_1_impl_Group_isExp a0 a1x0).bind fun z1 =>
  some (!z1)
theorem c_impl_areAll__impl_Group_isExp {a0 : (List Int)} {a1x0 : Group} {r : Bool} (hr : F_impl_areAll__impl_Group_isExp a0 a1x0 = some r) : PCalls Try.prog 97 [(.sh, .sl false 1 (a0.map row_i64)), (.sh, .func (.func 100) [.agg [.int .i64 a1x0.P, .int .i64 a1x0.Q, .int .i64 a1x0.G]] [])] (Eo (.bool r) [.junk, .junk]) := by
  apply pcalls_lf 9 [] [] [3] [.tmp 4] hr cl97 Try.func97 rfl rfl rfl
  · exact ⟨by simp, rfl⟩
  intro Φ hΦ hF
  unfold F_impl_areAll__impl_Group_isExp at hF
  try simp [-List.map_set, go_sem]
  refine pw_wk ?_
  try simp [-List.map_set, go_sem]
  refine pw_cl hF [.sh, .sh] c_slices_ContainsFunc_int_int__impl_areAll_1_impl_Group_isExp rfl rfl (by (try simp [-List.map_set, go_sem, clE]); first | rfl | done) (by rfl) (by (try simp [-List.map_set, go_sem]); first | rfl | done) fun z1 hF2 => ⟨by simp [go_sem], ?_⟩
  cases hΦ _ (Rn_some hF2)
  try simp [-List.map_set, go_sem]
  refine pw_wk ?_
  try simp [-List.map_set, go_sem]
noncomputable def F_impl_Group_areExps (a0 : Group) (a1 : (List Int)) : Option (Bool) :=
  (F_impl_areAll__impl_Group_isExp a1 a0).bind fun z1 =>
  some z1
theorem c_impl_Group_areExps {a0 : Group} {a1 : (List Int)} {r : Bool} (hr : F_impl_Group_areExps a0 a1 = some r) : PCalls Try.prog 66 [(.sh, .agg [.int .i64 a0.P, .int .i64 a0.Q, .int .i64 a0.G]), (.sh, .sl false 1 (a1.map row_i64))] (Eo (.bool r) [.junk, .junk]) := by
  apply pcalls_lf 9 [] [] [] [.tmp 4] hr cl66 Try.func66 rfl rfl rfl
  · exact ⟨by simp, rfl⟩
  intro Φ hΦ hF
  unfold F_impl_Group_areExps at hF
  try simp [-List.map_set, go_sem]
  refine pw_wk ?_
  try simp [-List.map_set, go_sem]
  refine pw_cl hF [.sh, .sh] c_impl_areAll__impl_Group_isExp rfl rfl (by (try simp [-List.map_set, go_sem, clE]); first | rfl | done) (by rfl) (by (try simp [-List.map_set, go_sem]); first | rfl | done) fun z1 hF2 => ⟨by simp [go_sem], ?_⟩
  cases hΦ _ (Rn_some hF2)
  try simp [-List.map_set, go_sem]
  refine pw_wk ?_
  try simp [-List.map_set, go_sem]
noncomputable def F_slices_Clone_int_int (a0 : (List Int)) : Option (List Int) :=
  gd (a0.length * 8 ≤ 140737488355328 ∧ a0.length ≤ 4611686018427387904) <|
  some a0
theorem c_slices_Clone_int_int {a0 : (List Int)} {r : (List Int)} (hr : F_slices_Clone_int_int a0 = some r) : PCalls Try.prog 111 [(.sh, .sl false 1 (a0.map row_i64))] (Eo (.sl true 1 (r.map row_i64)) [.junk]) := by
  apply pcalls_lf 8 [] [] [1000000] [.tmp 2] hr cl111 Try.func111 rfl rfl rfl
  · exact ⟨by simp, rfl⟩
  intro Φ hΦ hF
  unfold F_slices_Clone_int_int at hF
  obtain ⟨g, hF⟩ := Rn_gd hF
  have h1 := hΦ _ (Rn_some hF)
  subst h1
  try simp [-List.map_set, go_sem]
  refine pw_wkL [(0, .v (.sl false 1 (a0.map row_i64)))] (by simp [-List.map_set, go_sem]) ?_
  try simp [-List.map_set, go_sem]
  refine pw1_nil rfl rfl (by simp [go_sem]) rfl (by rfl) fun b hb => ?_
  try simp [-List.map_set, go_sem]
  refine pw_wk ?_
  repeat rw [pw_seq]
  cases b
  · refine pw_cond_f (by simp [-List.map_set, go_sem]) ?_
    try simp [-List.map_set, go_sem]
    refine pw_wk ?_
    try simp [-List.map_set, go_sem, g]
    refine pw_wk ?_
    try simp [-List.map_set, go_sem, g]
  · have hb0 : a0 = [] := by
      cases a0 with
      | nil => rfl
      | cons x l => exact absurd (hb (by simp)) (by simp)
    subst hb0
    refine pw_cond_t (by simp [-List.map_set, go_sem]) ?_
    try simp [-List.map_set, go_sem]
    refine pw_wk ?_
    try simp [-List.map_set, go_sem]
theorem del116 : DelC Try.prog 116 := by
  intro id n c i j cells H hb hij hjn hnc hcl hn hi
  have e1 : elemTy Try.prog 36 = some 3 := by kernel_rfl
  have e2 : tsz Try.prog 3 = some (false, 1, 8, [.int .i64 0]) := by kernel_rfl
  refine acalls_intro cl116 Try.func116 rfl rfl (by simp [Try.f116]) fun hw => ?_
  have hne : ((i : Int) == (j : Int)) = false := by simp; omega
  have w0 : ¬ (i = j) := by omega
  have w1 : ¬ (n - i = 0) := by omega
  have w2 : i ≤ j := by omega
  have w3 : i ≤ c := by omega
  have w4 : j ≤ n := hjn
  have a1 : (0 : Int) ≤ (i : Int) := by omega
  have a2 : (0 : Int) ≤ (j : Int) := by omega
  have a3 : (0 : Int) ≤ (n : Int) := by omega
  simp [Try.f116, awp, aops, aop, ahp, aplain, plainOps, matl, mat, plainV, putO, athen, FR.put, FR.init, rdv, rda, binV, binInt, okConst, e1, e2, Am.lenV, sliceV, sliceBnds, bnd, bndM, hne, w0, w1, w2, w3, w4, hnc, a1, a2, a3, Int.toNat_natCast]
  refine ⟨follows, D116_5, by kernel_rfl, ?_⟩
  have w5 : i ≤ i + (n - j) := by omega
  have w6 : i + (n - j) ≤ n := by omega
  have w7 : i + (n - j) ≤ c := by omega
  by_cases hz : n - j = 0
  · have w8 : ¬ n = i := by omega
    have hz2 : n = j := by omega
    subst hz2
    have w9 : ¬ n - i = 0 := by omega
    simp [D116_5, dops, dop, gop, dcond, okL, okS, okR, DE.ex, awp, athen, aops, aop, ahp, aplain, plainOps, matl, mat, plainV, putO, FR.put, FR.init, rdv, rda, binV, binInt, okConst, e1, e2, Am.lenV, sliceV, sliceBnds, bnd, bndM, srcV, appendV, hne, w0, w1, w2, w3, w4, w5, w6, w7, w8, w9, hnc, a1, a2, a3, Int.toNat_natCast, solid, hb]
    have hne0 : List.replicate (n - i) (Value.int IntKind.i64 0) ≠ [] := fun e => by
      have := congrArg List.length e
      simp at this; omega
    obtain ⟨cs, hp⟩ := putAt_ok (cs := cells) hne0 (n := i) (by simp; omega)
    obtain ⟨q1, q2, q3, q4⟩ := putAt_get hne0 hp
    refine ⟨cs, hp, ?_⟩
    simp [aend, resL, resV, resT, FR.put]
    refine ⟨cs, rfl, q1, fun q hq => ?_⟩
    rw [if_pos hq]
    exact q3 q (by omega)
  · have w8 : ¬ (i + (n - j) = i) := by omega
    have w9 : ¬ (n - (i + (n - j)) = 0) := by omega
    have hl1 : ((cells.drop j).take (n - j)).length = n - j := by simp; omega
    have hne1 : (cells.drop j).take (n - j) ≠ [] := fun e => by
      have := congrArg List.length e
      rw [hl1] at this; simp at this; omega
    obtain ⟨cs1, hp1⟩ := putAt_ok (cs := cells) hne1 (n := i) (by rw [hl1]; omega)
    obtain ⟨q1, q2, q3, q4⟩ := putAt_get hne1 hp1
    have hT : takeN (n - j) (cells.drop j) = some ((cells.drop j).take (n - j)) := takeN_ok (by simp; omega)
    have hsol : ((cells.drop j).take (n - j)).all solid = true := by
      rw [List.all_eq_true]
      intro x hx
      obtain ⟨t, ht⟩ := List.getElem?_of_mem hx
      have htl : t < n - j := by
        have := (List.getElem?_eq_some_iff.1 ht).1
        rw [hl1] at this; exact this
      rw [List.getElem?_take_of_lt htl, List.getElem?_drop] at ht
      obtain ⟨m, hm⟩ := hi (j + t) (by omega)
      rw [hm] at ht
      cases ht; rfl
    have hsol2 : ∀ x, x ∈ List.take (n - j) (List.drop j cells) → solid x = true := List.all_eq_true.1 hsol
    have hfit1 : i ≤ cells.length := by omega
    have hfit2 : (i + (n - j)) * 8 ≤ 140737488355328 := by omega
    have hfit3 : i + (n - j) ≤ 4611686018427387904 := by omega
    have hld : H.load id j = some (cells.drop j) := by simp [AH.load, hb]
    have hne2 : List.replicate (n - (i + (n - j))) (Value.int IntKind.i64 0) ≠ [] := fun e => by
      have := congrArg List.length e
      simp at this; omega
    obtain ⟨cs2, hp2⟩ := putAt_ok (cs := cs1) hne2 (n := i + (n - j)) (by simp; omega)
    obtain ⟨r1, r2, r3, r4⟩ := putAt_get hne2 hp2
    have hset : ∀ k k', (H.set id k).set id k' = H.set id k' := fun k k' => by
      simp only [AH.set, AH.mk.injEq, true_and]
      funext x
      split <;> rfl
    have hsb : ∀ k, (H.set id k).b id = k := fun k => by simp [AH.set]
    have a4 : (0 : Int) ≤ (i : Int) + ((n - j : Nat) : Int) := by omega
    have a5 : ((i : Int) + ((n - j : Nat) : Int)).toNat = i + (n - j) := by omega
    have hs1 : ∀ k (m : Int), solid (Value.int k m) = true := fun _ _ => rfl
    have hns : ¬ ∃ x, x ∈ List.take (n - j) (List.drop j cells) ∧ solid x = false := fun ⟨x, h1, h2⟩ => by rw [hsol2 x h1] at h2; cases h2
    simp [D116_5, dops, dop, gop, dcond, okL, okS, okR, DE.ex, awp, athen, aops, aop, ahp, aplain, plainOps, matl, mat, plainV, putO, FR.put, FR.init, rdv, rda, binV, binInt, okConst, e1, e2, Am.lenV, sliceV, sliceBnds, bnd, bndM, srcV, appendV, hne, w0, w1, w2, w3, w4, w5, w6, w7, w8, w9, hnc, a1, a2, a3, Int.toNat_natCast, hs1, hns, a4, a5, hb, hz, hT, hp1, hld, hsol2, hfit1, hfit2, hfit3, hset, hsb]
    refine ⟨cs2, hp2, ?_⟩
    simp [aend, resL, resV, resT, FR.put]
    refine ⟨cs2, rfl, r1.trans q1, fun q hq => ?_⟩
    rw [hl1] at q3 q4
    rw [r3 q (by omega)]
    by_cases hqi : q < i
    · rw [if_pos hqi]
      exact q3 q (by omega)
    · rw [if_neg hqi]
      have := q4 (q - i) (by omega)
      rw [show i + (q - i) = q by omega, List.getElem?_take_of_lt (by omega), List.getElem?_drop] at this
      rw [this]
      congr 1; omega
def F_slices_Delete_int_int__mv0 (a0 : List Int) (a1 : Int) (a2 : Int) : Option (List Int) :=
  gd (0 ≤ a1 ∧ a1 < a2 ∧ a2 ≤ a0.length ∧ a0.length * 8 ≤ 140737488355328) <|
  some (a0.take a1.toNat ++ a0.drop a2.toNat)
theorem c_slices_Delete_int_int__mv0 {a0 : List Int} {a1 a2 : Int} {r : List Int} (hr : F_slices_Delete_int_int__mv0 a0 a1 a2 = some r) : PCalls Try.prog 116 [(.mv, .sl true 1 (a0.map row_i64)), (.sh, .int .i64 a1), (.sh, .int .i64 a2)] (Eo (.sl true 1 (r.map row_i64)) [.junk, .junk, .junk]) := by
  have hF : Rn _ (fun x => x = r) := ⟨r, hr, rfl⟩
  unfold F_slices_Delete_int_int__mv0 at hF
  obtain ⟨⟨g0, g1, g2, g3⟩, hF⟩ := Rn_gd hF
  have h1 := Rn_some hF
  subst h1
  obtain ⟨i, rfl⟩ := Int.eq_ofNat_of_zero_le g0
  obtain ⟨j, rfl⟩ := Int.eq_ofNat_of_zero_le (Int.le_trans g0 (Int.le_of_lt g1))
  exact del_calls del116 cl116 row_i64 (fun _ => rfl) (by omega) (by omega) (by omega)
noncomputable def F_impl_mod (a0 : Int) (a1 : Int) : Option (Int) :=
  gd (a1 ≠ 0) <|
  gd (a1 ≠ 0) <|
  some ((IntKind.i64.wrap ((a0.tmod a1) + a1)).tmod a1)
theorem c_impl_mod {a0 : Int} {a1 : Int} {r : Int} (hr : F_impl_mod a0 a1 = some r) : PCalls Try.prog 103 [(.sh, .int .i64 a0), (.sh, .int .i64 a1)] (Eo (.int .i64 r) [.junk, .junk]) := by
  apply pcalls_lf 12 [] [] [] [.tmp 4] hr cl103 Try.func103 rfl rfl rfl
  · exact ⟨by simp, rfl⟩
  intro Φ hΦ hF
  unfold F_impl_mod at hF
  obtain ⟨g1, hF2⟩ := Rn_nz hF
  obtain ⟨g3, hF4⟩ := Rn_nz hF2
  cases hΦ _ (Rn_some hF4)
  iterate 2 (try simp [-List.map_set, go_sem, g1, g3]; refine pw_wk ?_)
  try simp [-List.map_set, go_sem, g1, g3]
noncomputable def F_impl_mulPolys (a0 : Int) (a1 : (List Int)) (a2 : (List Int)) : Option ((List Int)) :=
  ((if ((a1.length : Int) == 0) = true then (
  some true) else (
  some ((a2.length : Int) == 0)) : Option (Bool)).bind fun (x5 : Bool) =>
  if x5 = true then (
  some []) else (
  gd (0 ≤ (IntKind.i64.wrap ((IntKind.i64.wrap ((a1.length : Int) + (a2.length : Int))) - 1)) ∧ (IntKind.i64.wrap ((IntKind.i64.wrap ((a1.length : Int) + (a2.length : Int))) - 1)) ≤ (IntKind.i64.wrap ((IntKind.i64.wrap ((a1.length : Int) + (a2.length : Int))) - 1)) ∧ 8 * (IntKind.i64.wrap ((IntKind.i64.wrap ((a1.length : Int) + (a2.length : Int))) - 1)) ≤ 140737488355328 ∧ (IntKind.i64.wrap ((IntKind.i64.wrap ((a1.length : Int) + (a2.length : Int))) - 1)) ≤ 4611686018427387904) <|
  (some (List.replicate ((IntKind.i64.wrap ((IntKind.i64.wrap ((a1.length : Int) + (a2.length : Int))) - 1)).toNat) 0)).bind fun x14 =>
  ((rloop (σ := (List Int)) (β := (List Int)) (fun i88 s87 =>
  (((ix a1 i88).bind fun x103 =>
  rloop (σ := (List Int)) (β := (List Int)) (fun i127 s126 =>
  (ix a2 i127).bind fun x136 =>
  (ix s126 (IntKind.i64.wrap (i88 + i127))).bind fun x139 =>
  gd (a0 ≠ 0) <|
  gd (a0 ≠ 0) <|
  some (.go (s126.set ((IntKind.i64.wrap (i88 + i127)).toNat) ((IntKind.i64.wrap (x139 + ((IntKind.i64.wrap (x103 * x136)).tmod a0))).tmod a0)))) (fun s126 => s126) (a2.length) 0 s87 : Option ((List Int))).bind fun (x101 : (List Int)) =>
  some (.go x101))) (fun s87 => s87) (a1.length) 0 x14 : Option ((List Int))).bind fun (x22 : (List Int)) =>
  some x22)))
theorem c_impl_mulPolys {a0 : Int} {a1 : (List Int)} {a2 : (List Int)} {r : (List Int)} (hr : F_impl_mulPolys a0 a1 a2 = some r) : PCalls Try.prog 118 [(.sh, .int .i64 a0), (.sh, .sl false 1 (a1.map row_i64)), (.sh, .sl false 1 (a2.map row_i64))] (Eo (.sl true 1 (r.map row_i64)) [.junk, .junk, .junk]) := by
  apply pcalls_lf 63 [] [] [] [.tmp 6] hr cl118 Try.func118 rfl rfl rfl
  · exact ⟨by simp, rfl⟩
  intro Φ hΦ hF
  unfold F_impl_mulPolys at hF
  try simp [-List.map_set, go_sem]
  refine pw_wk ?_
  repeat rw [sq]
  refine pw_joinF (fun (x5 : Bool) => [(0, .v (.int .i64 a0)), (1, .v (.sl false 1 (a1.map row_i64))), (2, .v (.sl false 1 (a2.map row_i64))), (19, .v (.bool x5))]) hF ?_ ?_
  ·intro x5 hF6
   repeat rw [sq]
   refine pw_cF hF6 (by simp [-List.map_set, go_sem]) (fun h9 hF10 => ?_) fun h9 hF10 => ?_
   ·cases hΦ _ (Rn_some hF10)
    try simp [-List.map_set, go_sem]
    refine pw_wk ?_
    try simp [-List.map_set, go_sem]
   ·obtain ⟨g11, hF12⟩ := Rn_gd hF10
    have g13 := g11
    try simp at g13
    obtain ⟨x14, e15, hF16⟩ := Rn_bind hF12
    have g17 : List.replicate ((IntKind.i64.wrap ((IntKind.i64.wrap ((a1.length : Int) + (a2.length : Int))) - 1)).toNat) ([.int .i64 0] : List PV) = x14.map row_i64 := by injection e15 with e15; rw [← e15]; simp [-List.map_set, go_sem]
    iterate 2 (try simp [-List.map_set, go_sem, g11, g13, g17]; try intros; refine pw_wk ?_)
    try simp [-List.map_set, go_sem, g11, g13, g17]
    try intros
    refine pw_wkK [0, 2, 7, 27, 28, 29] (by simp [-List.map_set, go_sem, g11, g13]; rfl) ?_
    repeat rw [sq]
    refine pw_joinF (fun (x22 : (List Int)) => [(7, .v (.sl true 1 (x22.map row_i64)))]) hF16 ?_ ?_
    ·intro x22 hF23
     cases hΦ _ (Rn_some hF23)
     try simp [-List.map_set, go_sem, g11, g13]
     refine pw_wk ?_
     try simp [-List.map_set, go_sem, g11, g13]
    ·intro ψ20 hj18 hF21
     repeat rw [sq]
     rw [pw_block]
     obtain ⟨b150, hb151, hψ91⟩ := hF21
     refine pw_rloop (fun (i88 : Int) (s87 : (List Int)) => [(0, .v (.int .i64 a0)), (2, .v (.sl false 1 (a2.map row_i64))), (7, .v (.sl true 1 (s87.map row_i64))), (27, .v (.sl false 1 (a1.map row_i64))), (28, .v (.int .i64 (a1.length : Int))), (29, .v (.int .i64 i88))]) hb151 (by simp [-List.map_set, go_sem, g11, g13]) ?_ ?_
     ·intro s87 N153 hN152
      subst hN152
      try simp [-List.map_set, go_sem]
      refine pw_wk ?_
      repeat rw [sq]
      refine pw_cond_f (by simp [-List.map_set, go_sem]) ?_
      try simp [-List.map_set, go_sem]
      exact hj18 s87 _ (by simp [-List.map_set, go_sem]) hψ91
     ·intro i88 s87 φ92 N93 hi95 hi96 ho89 hg90 hF94
      rw [Int.zero_add] at hi96
      try simp [-List.map_set, go_sem, g11, g13]
      refine pw_wk ?_
      repeat rw [sq]
      refine pw_cond_t (by simp [-List.map_set, go_sem, g11, g13, hi95, hi96]) ?_
      try simp [-List.map_set, go_sem, g11, g13]
      refine pw_wk ?_
      repeat rw [sq]
      refine pw_joinF (fun (x101 : (List Int)) => [(0, .v (.int .i64 a0)), (2, .v (.sl false 1 (a2.map row_i64))), (7, .v (.sl true 1 (x101.map row_i64))), (27, .v (.sl false 1 (a1.map row_i64))), (28, .v (.int .i64 (a1.length : Int))), (29, .v (.int .i64 i88))]) hF94 ?_ ?_
      ·intro x101 hF102
       try simp [-List.map_set, go_sem, g11, g13]
       exact hg90 x101 _ (by simp [-List.map_set, go_sem, g11, g13, wr_i hi95 hi96 (by assumption)]) (Rn_some hF102)
      ·intro ψ99 hj97 hF100
       repeat rw [sq]
       rw [pw_block]
       obtain ⟨x103, g104, hF105⟩ := Rn_ix hF100
       iterate 2 (try simp [-List.map_set, go_sem, g11, g13, g104]; try intros; refine pw_wk ?_)
       repeat rw [sq]
       rw [pw_block]
       obtain ⟨b146, hb147, hψ130⟩ := hF105
       refine pw_rloop (fun (i127 : Int) (s126 : (List Int)) => [(0, .v (.int .i64 a0)), (2, .v (.sl false 1 (a2.map row_i64))), (7, .v (.sl true 1 (s126.map row_i64))), (8, .v (.int .i64 i88)), (9, .v (.int .i64 x103)), (27, .v (.sl false 1 (a1.map row_i64))), (28, .v (.int .i64 (a1.length : Int))), (29, .v (.int .i64 i88)), (34, .v (.sl false 1 (a2.map row_i64))), (35, .v (.int .i64 (a2.length : Int))), (36, .v (.int .i64 i127))]) hb147 (by simp [-List.map_set, go_sem, g11, g13, g104]) ?_ ?_
       ·intro s126 N149 hN148
        subst hN148
        try simp [-List.map_set, go_sem]
        refine pw_wk ?_
        repeat rw [sq]
        refine pw_cond_f (by simp [-List.map_set, go_sem]) ?_
        try simp [-List.map_set, go_sem]
        exact hj97 s126 _ (by simp [-List.map_set, go_sem]) hψ130
       ·intro i127 s126 φ131 N132 hi134 hi135 ho128 hg129 hF133
        rw [Int.zero_add] at hi135
        try simp [-List.map_set, go_sem, g11, g13, g104]
        refine pw_wkK [0, 2, 7, 8, 9, 27, 28, 29, 34, 35, 36, 37] (by simp [-List.map_set, go_sem, g11, g13, g104]; rfl) ?_
        repeat rw [sq]
        refine pw_cond_t (by simp [-List.map_set, go_sem, g11, g13, g104, hi134, hi135]) ?_
        try simp [-List.map_set, go_sem, g11, g13, g104]
        refine pw_wk ?_
        repeat rw [sq]
        rw [pw_block]
        obtain ⟨x136, g137, hF138⟩ := Rn_ix hF133
        try simp [-List.map_set, go_sem, g11, g13, g104, g137]
        refine pw_wk ?_
        repeat rw [sq]
        refine pw_draw D118_10 follows (by kernel_rfl) rfl ?_
        try simp only [go_sem, D118_10]
        obtain ⟨x139, g140, hF141⟩ := Rn_ix hF138
        obtain ⟨g142, hF143⟩ := Rn_nz hF141
        obtain ⟨g144, hF145⟩ := Rn_nz hF143
        try simp [-List.map_set, go_sem, g11, g13, g104, g137, g140, g142, g144]
        refine pw_wkK [0, 2, 7, 8, 9, 27, 28, 29, 34, 35, 36] (by simp [-List.map_set, go_sem, g11, g13, g104, g137, g140, g142, g144]; rfl) ?_
        try simp [-List.map_set, go_sem, g11, g13, g104, g137, g140, g142, g144]
        exact hg129 (s126.set ((IntKind.i64.wrap (i88 + i127)).toNat) ((IntKind.i64.wrap (x139 + ((IntKind.i64.wrap (x103 * x136)).tmod a0))).tmod a0)) _ (by simp [-List.map_set, go_sem, g11, g13, g104, g137, g140, g142, g144, wr_i hi134 hi135 (by assumption)]) (Rn_some hF145)
  ·intro ψ3 hj1 hF4
   try simp [-List.map_set, go_sem]
   try intros
   refine pwg_F hF4 (fun h7 hF8 => ?_) fun h7 hF8 => ?_
   ·try simp [-List.map_set, go_sem, h7]
    exact hj1 true _ (by simp [-List.map_set, go_sem]) (Rn_some hF8)
   ·try simp [-List.map_set, go_sem, h7]
    try intros
    exact hj1 ((a2.length : Int) == 0) _ (by simp [-List.map_set, go_sem]) (Rn_some hF8)
noncomputable def F_impl_fromRoots (a0 : Int) (a1 : (List Int)) : Option ((List Int)) :=
  ((rloop (σ := (List Int)) (β := (List Int)) (fun i8 s7 =>
  (ix a1 i8).bind fun x17 =>
  (F_impl_mod (IntKind.i64.wrap (0 - x17)) a0).bind fun z20 =>
  (F_impl_mulPolys a0 s7 [z20, 1]).bind fun z22 =>
  some (.go z22)) (fun s7 => s7) (a1.length) 0 [1] : Option ((List Int))).bind fun (x5 : (List Int)) =>
  some x5)
theorem c_impl_fromRoots {a0 : Int} {a1 : (List Int)} {r : (List Int)} (hr : F_impl_fromRoots a0 a1 = some r) : PCalls Try.prog 117 [(.sh, .int .i64 a0), (.sh, .sl false 1 (a1.map row_i64))] (Eo (.sl true 1 (r.map row_i64)) [.junk, .junk]) := by
  apply pcalls_lf 25 [] [] [] [.tmp 4] hr cl117 Try.func117 rfl rfl rfl
  · exact ⟨by simp, rfl⟩
  intro Φ hΦ hF
  unfold F_impl_fromRoots at hF
  iterate 3 (try simp [-List.map_set, go_sem]; try intros; refine pw_wk ?_)
  repeat rw [sq]
  refine pw_joinF (fun (x5 : (List Int)) => [(5, .v (.sl true 1 (x5.map row_i64)))]) hF ?_ ?_
  ·intro x5 hF6
   cases hΦ _ (Rn_some hF6)
   try simp [-List.map_set, go_sem]
   refine pw_wk ?_
   try simp [-List.map_set, go_sem]
  ·intro ψ3 hj1 hF4
   repeat rw [sq]
   rw [pw_block]
   obtain ⟨b24, hb25, hψ11⟩ := hF4
   refine pw_rloop (fun (i8 : Int) (s7 : (List Int)) => [(0, .v (.int .i64 a0)), (5, .v (.sl true 1 (s7.map row_i64))), (9, .v (.sl false 1 (a1.map row_i64))), (10, .v (.int .i64 (a1.length : Int))), (11, .v (.int .i64 i8))]) hb25 (by simp [-List.map_set, go_sem]) ?_ ?_
   ·intro s7 N27 hN26
    subst hN26
    try simp [-List.map_set, go_sem]
    refine pw_wk ?_
    repeat rw [sq]
    refine pw_cond_f (by simp [-List.map_set, go_sem]) ?_
    try simp [-List.map_set, go_sem]
    exact hj1 s7 _ (by simp [-List.map_set, go_sem]) hψ11
   ·intro i8 s7 φ12 N13 hi15 hi16 ho9 hg10 hF14
    rw [Int.zero_add] at hi16
    try simp [-List.map_set, go_sem]
    refine pw_wk ?_
    repeat rw [sq]
    refine pw_cond_t (by simp [-List.map_set, go_sem, hi15, hi16]) ?_
    try simp [-List.map_set, go_sem]
    refine pw_wk ?_
    repeat rw [sq]
    rw [pw_block]
    obtain ⟨x17, g18, hF19⟩ := Rn_ix hF14
    try simp [-List.map_set, go_sem, g18]
    refine pw_wkK [0, 5, 7, 9, 10, 11] (by simp [-List.map_set, go_sem, g18]; rfl) ?_
    try simp [-List.map_set, go_sem, g18]
    refine pw_cl hF19 [.sh, .sh] c_impl_mod rfl rfl (by (try simp [-List.map_set, go_sem, clE, g18]); first | rfl | done) (by rfl) (by (try simp [-List.map_set, go_sem, g18]); first | rfl | done) fun z20 hF21 => ⟨by simp [go_sem], ?_⟩
    try simp [-List.map_set, go_sem, g18]
    refine pw_cl hF21 [.sh, .sh, .sh] c_impl_mulPolys rfl rfl (by (try simp [-List.map_set, go_sem, clE, g18]); first | rfl | done) (by rfl) (by (try simp [-List.map_set, go_sem, g18]); first | rfl | done) fun z22 hF23 => ⟨by simp [go_sem], ?_⟩
    try simp [-List.map_set, go_sem, g18]
    refine pw_wk ?_
    try simp [-List.map_set, go_sem, g18]
    exact hg10 z22 _ (by simp [-List.map_set, go_sem, g18, wr_i hi15 hi16 (by assumption)]) (Rn_some hF23)
noncomputable def F_impl_evalPoly (a0 : Int) (a1 : (List Int)) (a2 : Int) : Option (Int) :=
  ((wloop (σ := Int × Int) (β := Int) (fun s7 =>
  if decide (0 ≤ s7.2) = true then (
  gd (a0 ≠ 0) <|
  (ix a1 s7.2).bind fun x19 =>
  gd (a0 ≠ 0) <|
  some (.go ((IntKind.i64.wrap (((IntKind.i64.wrap (s7.1 * a2)).tmod a0) + x19)).tmod a0, IntKind.i64.wrap (s7.2 - 1)))) else (
  some (.out s7.1))) (0, IntKind.i64.wrap ((a1.length : Int) - 1)) : Option (Int)).bind fun (x5 : Int) =>
  some x5)
theorem c_impl_evalPoly {a0 : Int} {a1 : (List Int)} {a2 : Int} {r : Int} (hr : F_impl_evalPoly a0 a1 a2 = some r) : PCalls Try.prog 101 [(.sh, .int .i64 a0), (.sh, .sl false 1 (a1.map row_i64)), (.sh, .int .i64 a2)] (Eo (.int .i64 r) [.junk, .junk, .junk]) := by
  apply pcalls_lf 29 [] [] [] [.tmp 6] hr cl101 Try.func101 rfl rfl rfl
  · exact ⟨by simp, rfl⟩
  intro Φ hΦ hF
  unfold F_impl_evalPoly at hF
  iterate 3 (try simp [-List.map_set, go_sem]; try intros; refine pw_wk ?_)
  repeat rw [sq]
  refine pw_joinF (fun (x5 : Int) => [(7, .v (.int .i64 x5))]) hF ?_ ?_
  ·intro x5 hF6
   cases hΦ _ (Rn_some hF6)
   try simp [-List.map_set, go_sem]
   refine pw_wk ?_
   try simp [-List.map_set, go_sem]
  ·intro ψ3 hj1 hF4
   repeat rw [sq]
   rw [pw_block]
   obtain ⟨b24, hb25, hψ11⟩ := hF4
   refine pw_wloop (fun (s7 : Int × Int) => [(0, .v (.int .i64 a0)), (1, .v (.sl false 1 (a1.map row_i64))), (2, .v (.int .i64 a2)), (7, .v (.int .i64 s7.1)), (8, .v (.int .i64 s7.2))]) hb25 (by simp [-List.map_set, go_sem]) ?_
   intro s7 φ12 N13 ho9 hg10 hF14
   try simp [-List.map_set, go_sem]
   refine pw_wk ?_
   repeat rw [sq]
   refine pw_cF hF14 (by simp [-List.map_set, go_sem]) (fun h15 hF16 => ?_) fun h15 hF16 => ?_
   ·try simp [-List.map_set, go_sem]
    refine pw_wk ?_
    repeat rw [sq]
    rw [pw_block]
    repeat rw [sq]
    refine pw_draw D101_5 follows (by kernel_rfl) rfl ?_
    try simp only [go_sem, D101_5]
    obtain ⟨g17, hF18⟩ := Rn_nz hF16
    obtain ⟨x19, g20, hF21⟩ := Rn_ix hF18
    obtain ⟨g22, hF23⟩ := Rn_nz hF21
    try simp [-List.map_set, go_sem, g17, g20, g22]
    refine pw_wkK [0, 1, 2, 7, 8] (by simp [-List.map_set, go_sem, g17, g20, g22]; rfl) ?_
    try simp [-List.map_set, go_sem, g17, g20, g22]
    exact hg10 ((IntKind.i64.wrap (((IntKind.i64.wrap (s7.1 * a2)).tmod a0) + x19)).tmod a0, IntKind.i64.wrap (s7.2 - 1)) _ (by simp [-List.map_set, go_sem, g17, g20, g22]) (Rn_some hF23)
   ·try simp [-List.map_set, go_sem]
    cases ho9 _ (Rn_some hF16)
    exact hj1 s7.1 _ (by simp [-List.map_set, go_sem]) hψ11
noncomputable def F_impl_inverse (a0 : Int) (a1 : Int) : Option (Int) :=
  ((wloop (σ := Int × Int × Int × Int) (β := (Int × Int)) (fun s7 =>
  if (s7.2.1 != 0) = true then (
  gd (s7.2.1 ≠ 0) <|
  some (.go (s7.2.1, IntKind.i64.wrap (s7.1 - (IntKind.i64.wrap ((IntKind.i64.wrap (s7.1.tdiv s7.2.1)) * s7.2.1))), s7.2.2.2, IntKind.i64.wrap (s7.2.2.1 - (IntKind.i64.wrap ((IntKind.i64.wrap (s7.1.tdiv s7.2.1)) * s7.2.2.2)))))) else (
  some (.out (s7.1, s7.2.2.1)))) (a1, a0, 0, 1) : Option ((Int × Int))).bind fun (x5 : Int × Int) =>
  if (x5.1 != 1) = true then (
  some 0) else (
  (F_impl_mod x5.2 a1).bind fun z23 =>
  some z23))
theorem c_impl_inverse {a0 : Int} {a1 : Int} {r : Int} (hr : F_impl_inverse a0 a1 = some r) : PCalls Try.prog 119 [(.sh, .int .i64 a0), (.sh, .int .i64 a1)] (Eo (.int .i64 r) [.junk, .junk]) := by
  apply pcalls_lf 34 [] [] [] [.tmp 4] hr cl119 Try.func119 rfl rfl rfl
  · exact ⟨by simp, rfl⟩
  intro Φ hΦ hF
  unfold F_impl_inverse at hF
  iterate 2 (try simp [-List.map_set, go_sem]; refine pw_wk ?_)
  repeat rw [sq]
  refine pw_joinF (fun (x5 : Int × Int) => [(1, .v (.int .i64 a1)), (5, .v (.int .i64 x5.1)), (7, .v (.int .i64 x5.2))]) hF ?_ ?_
  ·intro x5 hF6
   try simp [-List.map_set, go_sem]
   refine pw_wk ?_
   repeat rw [sq]
   refine pw_cF hF6 (by simp [-List.map_set, go_sem]) (fun h21 hF22 => ?_) fun h21 hF22 => ?_
   ·try simp [-List.map_set, go_sem]
    refine pw_wkK [4] (by simp [-List.map_set, go_sem]; rfl) ?_
    cases hΦ _ (Rn_some hF22)
    try simp [-List.map_set, go_sem]
   ·try simp [-List.map_set, go_sem]
    refine pw_wk ?_
    try simp [-List.map_set, go_sem]
    refine pw_cl hF22 [.sh, .sh] c_impl_mod rfl rfl (by (try simp [-List.map_set, go_sem, clE]); first | rfl | done) (by rfl) (by (try simp [-List.map_set, go_sem]); first | rfl | done) fun z23 hF24 => ⟨by simp [go_sem], ?_⟩
    try simp [-List.map_set, go_sem]
    refine pw_wkK [4] (by simp [-List.map_set, go_sem]; rfl) ?_
    cases hΦ _ (Rn_some hF24)
    try simp [-List.map_set, go_sem]
  ·intro ψ3 hj1 hF4
   repeat rw [sq]
   rw [pw_block]
   obtain ⟨b19, hb20, hψ11⟩ := hF4
   refine pw_wloop (fun (s7 : Int × Int × Int × Int) => [(1, .v (.int .i64 a1)), (5, .v (.int .i64 s7.1)), (6, .v (.int .i64 s7.2.1)), (7, .v (.int .i64 s7.2.2.1)), (8, .v (.int .i64 s7.2.2.2))]) hb20 (by simp [-List.map_set, go_sem]) ?_
   intro s7 φ12 N13 ho9 hg10 hF14
   try simp [-List.map_set, go_sem]
   refine pw_wk ?_
   repeat rw [sq]
   refine pw_cF hF14 (by simp [-List.map_set, go_sem]) (fun h15 hF16 => ?_) fun h15 hF16 => ?_
   ·try simp [-List.map_set, go_sem]
    refine pw_wk ?_
    repeat rw [sq]
    rw [pw_block]
    obtain ⟨g17, hF18⟩ := Rn_nz hF16
    try simp [-List.map_set, go_sem, g17]
    refine pw_wkK [1, 5, 6, 7, 8, 9] (by simp [-List.map_set, go_sem, g17]; rfl) ?_
    try simp [-List.map_set, go_sem, g17]
    refine pw_wk ?_
    try simp [-List.map_set, go_sem, g17]
    exact hg10 (s7.2.1, IntKind.i64.wrap (s7.1 - (IntKind.i64.wrap ((IntKind.i64.wrap (s7.1.tdiv s7.2.1)) * s7.2.1))), s7.2.2.2, IntKind.i64.wrap (s7.2.2.1 - (IntKind.i64.wrap ((IntKind.i64.wrap (s7.1.tdiv s7.2.1)) * s7.2.2.2)))) _ (by simp [-List.map_set, go_sem, g17]) (Rn_some hF18)
   ·try simp [-List.map_set, go_sem]
    cases ho9 _ (Rn_some hF16)
    exact hj1 (s7.1, s7.2.2.1) _ (by simp [-List.map_set, go_sem]) hψ11
noncomputable def F_impl_basisAt (a0 : Int) (a1 : (List Int)) (a2 : Int) : Option ((List Int)) :=
  (F_slices_Clone_int_int a1).bind fun z1 =>
  (F_slices_Delete_int_int__mv0 z1 a2 (IntKind.i64.wrap (a2 + 1))).bind fun z3 =>
  (F_impl_fromRoots a0 z3).bind fun z5 =>
  (ix a1 a2).bind fun x7 =>
  (F_impl_evalPoly a0 z5 x7).bind fun z10 =>
  (F_impl_inverse z10 a0).bind fun z12 =>
  (F_impl_mulPolys a0 z5 [z12]).bind fun z14 =>
  some z14
theorem c_impl_basisAt {a0 : Int} {a1 : (List Int)} {a2 : Int} {r : (List Int)} (hr : F_impl_basisAt a0 a1 a2 = some r) : PCalls Try.prog 102 [(.sh, .int .i64 a0), (.sh, .sl false 1 (a1.map row_i64)), (.sh, .int .i64 a2)] (Eo (.sl true 1 (r.map row_i64)) [.junk, .junk, .junk]) := by
  apply pcalls_lf 31 [] [] [] [.tmp 6] hr cl102 Try.func102 rfl rfl rfl
  · exact ⟨by simp, rfl⟩
  intro Φ hΦ hF
  unfold F_impl_basisAt at hF
  try simp [-List.map_set, go_sem]
  refine pw_wk ?_
  try simp [-List.map_set, go_sem]
  refine pw_cl hF [.sh] c_slices_Clone_int_int rfl rfl (by (try simp [-List.map_set, go_sem, clE]); first | rfl | done) (by rfl) (by (try simp [-List.map_set, go_sem]); first | rfl | done) fun z1 hF2 => ⟨by simp [go_sem], ?_⟩
  try simp [-List.map_set, go_sem]
  refine pw_cl hF2 [.mv, .sh, .sh] c_slices_Delete_int_int__mv0 rfl rfl (by (try simp [-List.map_set, go_sem, clE]); first | rfl | done) (by rfl) (by (try simp [-List.map_set, go_sem]); first | rfl | done) fun z3 hF4 => ⟨by simp [go_sem], ?_⟩
  try simp [-List.map_set, go_sem]
  refine pw_wk ?_
  try simp [-List.map_set, go_sem]
  refine pw_cl hF4 [.sh, .sh] c_impl_fromRoots rfl rfl (by (try simp [-List.map_set, go_sem, clE]); first | rfl | done) (by rfl) (by (try simp [-List.map_set, go_sem]); first | rfl | done) fun z5 hF6 => ⟨by simp [go_sem], ?_⟩
  try simp [-List.map_set, go_sem]
  refine pw_wkK [0, 1, 2, 8] (by simp [-List.map_set, go_sem]; rfl) ?_
  obtain ⟨x7, g8, hF9⟩ := Rn_ix hF6
  try simp [-List.map_set, go_sem, g8]
  refine pw_cl hF9 [.sh, .sh, .sh] c_impl_evalPoly rfl rfl (by (try simp [-List.map_set, go_sem, clE, g8]); first | rfl | done) (by rfl) (by (try simp [-List.map_set, go_sem, g8]); first | rfl | done) fun z10 hF11 => ⟨by simp [go_sem], ?_⟩
  try simp [-List.map_set, go_sem, g8]
  refine pw_cl hF11 [.sh, .sh] c_impl_inverse rfl rfl (by (try simp [-List.map_set, go_sem, clE, g8]); first | rfl | done) (by rfl) (by (try simp [-List.map_set, go_sem, g8]); first | rfl | done) fun z12 hF13 => ⟨by simp [go_sem], ?_⟩
  try simp [-List.map_set, go_sem, g8]
  refine pw_cl hF13 [.sh, .sh, .sh] c_impl_mulPolys rfl rfl (by (try simp [-List.map_set, go_sem, clE, g8]); first | rfl | done) (by rfl) (by (try simp [-List.map_set, go_sem, g8]); first | rfl | done) fun z14 hF15 => ⟨by simp [go_sem], ?_⟩
  try simp [-List.map_set, go_sem, g8]
  refine pw_wkK [6] (by simp [-List.map_set, go_sem, g8]; rfl) ?_
  cases hΦ _ (Rn_some hF15)
  try simp [-List.map_set, go_sem, g8]
noncomputable def F_impl_lagrange (a0 : Int) (a1 : (List Int)) (a2 : Int) : Option ((List Int)) :=
  ((rloop (σ := (List Int)) (β := (List Int)) (fun i8 s7 =>
  (F_impl_basisAt a0 a1 i8).bind fun z17 =>
  (F_impl_evalPoly a0 z17 a2).bind fun z19 =>
  gd ((s7.length + 1) * 8 ≤ 140737488355328 ∧ s7.length + 1 ≤ 4611686018427387904) <|
  some (.go (s7 ++ [z19]))) (fun s7 => s7) (a1.length) 0 [] : Option ((List Int))).bind fun (x5 : (List Int)) =>
  some x5)
theorem c_impl_lagrange {a0 : Int} {a1 : (List Int)} {a2 : Int} {r : (List Int)} (hr : F_impl_lagrange a0 a1 a2 = some r) : PCalls Try.prog 67 [(.sh, .int .i64 a0), (.sh, .sl false 1 (a1.map row_i64)), (.sh, .int .i64 a2)] (Eo (.sl true 1 (r.map row_i64)) [.junk, .junk, .junk]) := by
  apply pcalls_lf 27 [] [] [] [.tmp 6] hr cl67 Try.func67 rfl rfl rfl
  · exact ⟨by simp, rfl⟩
  intro Φ hΦ hF
  unfold F_impl_lagrange at hF
  iterate 3 (try simp [-List.map_set, go_sem]; try intros; refine pw_wk ?_)
  repeat rw [sq]
  refine pw_joinF (fun (x5 : (List Int)) => [(7, .v (.sl true 1 (x5.map row_i64)))]) hF ?_ ?_
  ·intro x5 hF6
   cases hΦ _ (Rn_some hF6)
   try simp [-List.map_set, go_sem]
   refine pw_wk ?_
   try simp [-List.map_set, go_sem]
  ·intro ψ3 hj1 hF4
   repeat rw [sq]
   rw [pw_block]
   obtain ⟨b24, hb25, hψ11⟩ := hF4
   refine pw_rloop (fun (i8 : Int) (s7 : (List Int)) => [(0, .v (.int .i64 a0)), (1, .v (.sl false 1 (a1.map row_i64))), (2, .v (.int .i64 a2)), (7, .v (.sl true 1 (s7.map row_i64))), (11, .v (.int .i64 (a1.length : Int))), (12, .v (.int .i64 i8))]) hb25 (by simp [-List.map_set, go_sem]) ?_ ?_
   ·intro s7 N27 hN26
    subst hN26
    try simp [-List.map_set, go_sem]
    refine pw_wk ?_
    repeat rw [sq]
    refine pw_cond_f (by simp [-List.map_set, go_sem]) ?_
    try simp [-List.map_set, go_sem]
    exact hj1 s7 _ (by simp [-List.map_set, go_sem]) hψ11
   ·intro i8 s7 φ12 N13 hi15 hi16 ho9 hg10 hF14
    rw [Int.zero_add] at hi16
    try simp [-List.map_set, go_sem]
    refine pw_wk ?_
    repeat rw [sq]
    refine pw_cond_t (by simp [-List.map_set, go_sem, hi15, hi16]) ?_
    try simp [-List.map_set, go_sem]
    refine pw_wk ?_
    repeat rw [sq]
    rw [pw_block]
    try simp [-List.map_set, go_sem]
    refine pw_wk ?_
    try simp [-List.map_set, go_sem]
    refine pw_cl hF14 [.sh, .sh, .sh] c_impl_basisAt rfl rfl (by (try simp [-List.map_set, go_sem, clE]); first | rfl | done) (by rfl) (by (try simp [-List.map_set, go_sem]); first | rfl | done) fun z17 hF18 => ⟨by simp [go_sem], ?_⟩
    try simp [-List.map_set, go_sem]
    refine pw_cl hF18 [.sh, .sh, .sh] c_impl_evalPoly rfl rfl (by (try simp [-List.map_set, go_sem, clE]); first | rfl | done) (by rfl) (by (try simp [-List.map_set, go_sem]); first | rfl | done) fun z19 hF20 => ⟨by simp [go_sem], ?_⟩
    obtain ⟨g21, hF22⟩ := Rn_gd hF20
    have g23 := g21
    try simp at g23
    try simp [-List.map_set, go_sem, g21, g23]
    refine pw_wkK [0, 1, 2, 7, 11, 12] (by simp [-List.map_set, go_sem, g21, g23]; rfl) ?_
    try simp [-List.map_set, go_sem, g21, g23]
    exact hg10 (s7 ++ [z19]) _ (by simp [-List.map_set, go_sem, g21, g23, wr_i hi15 hi16 (by assumption)]) (Rn_some hF22)
noncomputable def F_impl_Group_pow (a0 : Group) (a1 : Int) (a2 : Int) : Option (Int) :=
  (F_impl_mod a2 a0.Q).bind fun z1 =>
  (F_impl_power a1 z1 a0.P).bind fun z3 =>
  some z3
theorem c_impl_Group_pow {a0 : Group} {a1 : Int} {a2 : Int} {r : Int} (hr : F_impl_Group_pow a0 a1 a2 = some r) : PCalls Try.prog 68 [(.sh, .agg [.int .i64 a0.P, .int .i64 a0.Q, .int .i64 a0.G]), (.sh, .int .i64 a1), (.sh, .int .i64 a2)] (Eo (.int .i64 r) [.junk, .junk, .junk]) := by
  apply pcalls_lf 15 [] [] [] [.tmp 6] hr cl68 Try.func68 rfl rfl rfl
  · exact ⟨by simp, rfl⟩
  intro Φ hΦ hF
  unfold F_impl_Group_pow at hF
  try simp [-List.map_set, go_sem]
  refine pw_wk ?_
  repeat rw [sq]
  refine pw_draw D68_1 follows (by kernel_rfl) rfl ?_
  try simp only [go_sem, D68_1]
  try simp [-List.map_set, go_sem]
  refine pw_cl hF [.sh, .sh] c_impl_mod rfl rfl (by (try simp [-List.map_set, go_sem, clE]); first | rfl | done) (by rfl) (by (try simp [-List.map_set, go_sem]); first | rfl | done) fun z1 hF2 => ⟨by simp [go_sem], ?_⟩
  try simp [-List.map_set, go_sem]
  refine pw_cl hF2 [.sh, .sh, .sh] c_impl_power rfl rfl (by (try simp [-List.map_set, go_sem, clE]); first | rfl | done) (by rfl) (by (try simp [-List.map_set, go_sem]); first | rfl | done) fun z3 hF4 => ⟨by simp [go_sem], ?_⟩
  try simp [-List.map_set, go_sem]
  refine pw_wkK [6] (by simp [-List.map_set, go_sem]; rfl) ?_
  cases hΦ _ (Rn_some hF4)
  try simp [-List.map_set, go_sem]
noncomputable def F_impl_Group_inv (a0 : Group) (a1 : Int) : Option (Int) :=
  (F_impl_Group_pow a0 a1 (-1)).bind fun z1 =>
  some z1
theorem c_impl_Group_inv {a0 : Group} {a1 : Int} {r : Int} (hr : F_impl_Group_inv a0 a1 = some r) : PCalls Try.prog 104 [(.sh, .agg [.int .i64 a0.P, .int .i64 a0.Q, .int .i64 a0.G]), (.sh, .int .i64 a1)] (Eo (.int .i64 r) [.junk, .junk]) := by
  apply pcalls_lf 8 [] [] [] [.tmp 4] hr cl104 Try.func104 rfl rfl rfl
  · exact ⟨by simp, rfl⟩
  intro Φ hΦ hF
  unfold F_impl_Group_inv at hF
  try simp [-List.map_set, go_sem]
  refine pw_wk ?_
  try simp [-List.map_set, go_sem]
  refine pw_cl hF [.sh, .sh, .sh] c_impl_Group_pow rfl rfl (by (try simp [-List.map_set, go_sem, clE]); first | rfl | done) (by rfl) (by (try simp [-List.map_set, go_sem]); first | rfl | done) fun z1 hF2 => ⟨by simp [go_sem], ?_⟩
  cases hΦ _ (Rn_some hF2)
  try simp [-List.map_set, go_sem]
  refine pw_wk ?_
  try simp [-List.map_set, go_sem]
noncomputable def F_impl_Group_mul (a0 : Group) (a1 : (List Int)) : Option (Int) :=
  ((rloop (σ := Int) (β := Int) (fun i8 s7 =>
  (ix a1 i8).bind fun x17 =>
  gd (a0.P ≠ 0) <|
  some (.go ((IntKind.i64.wrap (s7 * x17)).tmod a0.P))) (fun s7 => s7) (a1.length) 0 1 : Option (Int)).bind fun (x5 : Int) =>
  some x5)
theorem c_impl_Group_mul {a0 : Group} {a1 : (List Int)} {r : Int} (hr : F_impl_Group_mul a0 a1 = some r) : PCalls Try.prog 70 [(.sh, .agg [.int .i64 a0.P, .int .i64 a0.Q, .int .i64 a0.G]), (.sh, .sl false 1 (a1.map row_i64))] (Eo (.int .i64 r) [.junk, .junk]) := by
  apply pcalls_lf 22 [] [] [] [.tmp 4] hr cl70 Try.func70 rfl rfl rfl
  · exact ⟨by simp, rfl⟩
  intro Φ hΦ hF
  unfold F_impl_Group_mul at hF
  iterate 3 (try simp [-List.map_set, go_sem]; try intros; refine pw_wk ?_)
  repeat rw [sq]
  refine pw_joinF (fun (x5 : Int) => [(5, .v (.int .i64 x5))]) hF ?_ ?_
  ·intro x5 hF6
   cases hΦ _ (Rn_some hF6)
   try simp [-List.map_set, go_sem]
   refine pw_wk ?_
   try simp [-List.map_set, go_sem]
  ·intro ψ3 hj1 hF4
   repeat rw [sq]
   rw [pw_block]
   obtain ⟨b22, hb23, hψ11⟩ := hF4
   refine pw_rloop (fun (i8 : Int) (s7 : Int) => [(2, .bl [.int .i64 a0.P, .int .i64 a0.Q, .int .i64 a0.G]), (5, .v (.int .i64 s7)), (8, .v (.sl false 1 (a1.map row_i64))), (9, .v (.int .i64 (a1.length : Int))), (10, .v (.int .i64 i8))]) hb23 (by simp [-List.map_set, go_sem]) ?_ ?_
   ·intro s7 N25 hN24
    subst hN24
    try simp [-List.map_set, go_sem]
    refine pw_wk ?_
    repeat rw [sq]
    refine pw_cond_f (by simp [-List.map_set, go_sem]) ?_
    try simp [-List.map_set, go_sem]
    exact hj1 s7 _ (by simp [-List.map_set, go_sem]) hψ11
   ·intro i8 s7 φ12 N13 hi15 hi16 ho9 hg10 hF14
    rw [Int.zero_add] at hi16
    try simp [-List.map_set, go_sem]
    refine pw_wk ?_
    repeat rw [sq]
    refine pw_cond_t (by simp [-List.map_set, go_sem, hi15, hi16]) ?_
    try simp [-List.map_set, go_sem]
    refine pw_wk ?_
    repeat rw [sq]
    rw [pw_block]
    obtain ⟨x17, g18, hF19⟩ := Rn_ix hF14
    try simp [-List.map_set, go_sem, g18]
    refine pw_wkK [2, 5, 7, 8, 9, 10] (by simp [-List.map_set, go_sem, g18]; rfl) ?_
    obtain ⟨g20, hF21⟩ := Rn_nz hF19
    try simp [-List.map_set, go_sem, g18, g20]
    refine pw_wk ?_
    try simp [-List.map_set, go_sem, g18, g20]
    exact hg10 ((IntKind.i64.wrap (s7 * x17)).tmod a0.P) _ (by simp [-List.map_set, go_sem, g18, g20, wr_i hi15 hi16 (by assumption)]) (Rn_some hF21)
noncomputable def F_impl_Group_over (a0 : Group) (a1 : Int) (a2 : Int) : Option (Int) :=
  (F_impl_Group_inv a0 a2).bind fun z1 =>
  (F_impl_Group_mul a0 [a1, z1]).bind fun z3 =>
  some z3
theorem c_impl_Group_over {a0 : Group} {a1 : Int} {a2 : Int} {r : Int} (hr : F_impl_Group_over a0 a1 a2 = some r) : PCalls Try.prog 69 [(.sh, .agg [.int .i64 a0.P, .int .i64 a0.Q, .int .i64 a0.G]), (.sh, .int .i64 a1), (.sh, .int .i64 a2)] (Eo (.int .i64 r) [.junk, .junk, .junk]) := by
  apply pcalls_lf 14 [] [] [] [.tmp 6] hr cl69 Try.func69 rfl rfl rfl
  · exact ⟨by simp, rfl⟩
  intro Φ hΦ hF
  unfold F_impl_Group_over at hF
  try simp [-List.map_set, go_sem]
  refine pw_wk ?_
  repeat rw [sq]
  refine pw_draw D69_1 follows (by kernel_rfl) rfl ?_
  try simp only [go_sem, D69_1]
  try simp [-List.map_set, go_sem]
  refine pw_cl hF [.sh, .sh] c_impl_Group_inv rfl rfl (by (try simp [-List.map_set, go_sem, clE]); first | rfl | done) (by rfl) (by (try simp [-List.map_set, go_sem]); first | rfl | done) fun z1 hF2 => ⟨by simp [go_sem], ?_⟩
  try simp [-List.map_set, go_sem]
  refine pw_cl hF2 [.sh, .sh] c_impl_Group_mul rfl rfl (by (try simp [-List.map_set, go_sem, clE]); first | rfl | done) (by rfl) (by (try simp [-List.map_set, go_sem]); first | rfl | done) fun z3 hF4 => ⟨by simp [go_sem], ?_⟩
  try simp [-List.map_set, go_sem]
  refine pw_wkK [6] (by simp [-List.map_set, go_sem]; rfl) ?_
  cases hΦ _ (Rn_some hF4)
  try simp [-List.map_set, go_sem]
noncomputable def F_impl_SimulatePartial (a0 : Group) (a1 : Cipher) (a2 : Int) (a3 : (List Int)) (a4 : (List Int)) (a5 : Int) : Option (Int × Bool) :=
  (((F_impl_isSharing a0).bind fun z7 =>
  if (!z7) = true then (
  some true) else (
  (F_impl_Group_hasCipher a0 a1).bind fun z11 =>
  if (!z11) = true then (
  some true) else (
  (F_impl_Group_has a0 a2).bind fun z15 =>
  if (!z15) = true then (
  some true) else (
  (F_impl_areTrustees a3).bind fun z19 =>
  if (!z19) = true then (
  some true) else (
  (F_impl_isTrustee a5).bind fun z23 =>
  if (!z23) = true then (
  some true) else (
  (F_slices_Contains_int_int a3 a5).bind fun z27 =>
  if z27 = true then (
  some true) else (
  if ((a4.length : Int) != (a3.length : Int)) = true then (
  some true) else (
  (F_impl_Group_areExps a0 a4).bind fun z33 =>
  some (!z33)))))))) : Option (Bool)).bind fun (x5 : Bool) =>
  if x5 = true then (
  some (0, false)) else (
  gd (([0].length + a3.length) * 8 ≤ 140737488355328 ∧ [0].length + a3.length ≤ 4611686018427387904) <|
  (F_impl_lagrange a0.Q ([0] ++ a3) a5).bind fun z40 =>
  (ix z40 0).bind fun x42 =>
  (F_impl_Group_over a0 a1.B a2).bind fun z45 =>
  (F_impl_Group_pow a0 z45 x42).bind fun z47 =>
  ((rloop (σ := Int) (β := Int) (fun i56 s55 =>
  (ix a4 i56).bind fun x65 =>
  (ix z40 (IntKind.i64.wrap (i56 + 1))).bind fun x68 =>
  (F_impl_Group_pow a0 a1.A x65).bind fun z71 =>
  (F_impl_Group_pow a0 z71 x68).bind fun z73 =>
  (F_impl_Group_mul a0 [s55, z73]).bind fun z75 =>
  some (.go z75)) (fun s55 => s55) (a4.length) 0 z47 : Option (Int)).bind fun (x53 : Int) =>
  some (x53, true))))
theorem c_impl_SimulatePartial {a0 : Group} {a1 : Cipher} {a2 : Int} {a3 : (List Int)} {a4 : (List Int)} {a5 : Int} {r : Int × Bool} (hr : F_impl_SimulatePartial a0 a1 a2 a3 a4 a5 = some r) : PCalls Try.prog 21 [(.sh, .agg [.int .i64 a0.P, .int .i64 a0.Q, .int .i64 a0.G]), (.sh, .agg [.int .i64 a1.A, .int .i64 a1.B]), (.sh, .int .i64 a2), (.sh, .sl false 1 (a3.map row_i64)), (.sh, .sl false 1 (a4.map row_i64)), (.sh, .int .i64 a5)] (Eo (.tup [.int .i64 r.1, .bool r.2]) [.junk, .junk, .junk, .junk, .junk, .junk]) := by
  apply pcalls_lf 103 [] [] [] [.tmp 12, .tmp 13] hr cl21 Try.func21 rfl rfl rfl
  · exact ⟨by simp, rfl⟩
  intro Φ hΦ hF
  unfold F_impl_SimulatePartial at hF
  try simp [-List.map_set, go_sem]
  refine pw_wk ?_
  repeat rw [sq]
  refine pw_joinF (fun (x5 : Bool) => [(2, .v (.int .i64 a2)), (3, .v (.sl false 1 (a3.map row_i64))), (4, .v (.sl false 1 (a4.map row_i64))), (5, .v (.int .i64 a5)), (6, .bl [.int .i64 a0.P, .int .i64 a0.Q, .int .i64 a0.G]), (7, .bl [.int .i64 a1.A, .int .i64 a1.B]), (60, .v (.bool x5))]) hF ?_ ?_
  ·intro x5 hF6
   repeat rw [sq]
   refine pw_cF hF6 (by simp [-List.map_set, go_sem]) (fun h35 hF36 => ?_) fun h35 hF36 => ?_
   ·cases hΦ _ (Rn_some hF36)
    try simp [-List.map_set, go_sem]
    refine pw_wk ?_
    try simp [-List.map_set, go_sem]
   ·try simp [-List.map_set, go_sem]
    refine pw_wk ?_
    repeat rw [sq]
    refine pw_draw D21_3 follows (by kernel_rfl) rfl ?_
    try simp only [go_sem, D21_3]
    obtain ⟨g37, hF38⟩ := Rn_gd hF36
    have g39 := g37
    try simp at g39
    try simp [-List.map_set, go_sem, g37, g39]
    refine pw_cl hF38 [.sh, .sh, .sh] c_impl_lagrange rfl rfl (by (try simp [-List.map_set, go_sem, clE, g37, g39]); first | rfl | done) (by rfl) (by (try simp [-List.map_set, go_sem, g37, g39]); first | rfl | done) fun z40 hF41 => ⟨by simp [go_sem], ?_⟩
    try simp [-List.map_set, go_sem, g37, g39]
    refine pw_wkK [2, 4, 6, 7, 14] (by simp [-List.map_set, go_sem, g37, g39]; rfl) ?_
    repeat rw [sq]
    refine pw_draw D21_4 follows (by kernel_rfl) rfl ?_
    try simp only [go_sem, D21_4]
    obtain ⟨x42, g43, hF44⟩ := Rn_ixn 0 rfl hF41
    try simp [-List.map_set, go_sem, g37, g39, g43]
    refine pw_clD hF44 c_impl_Group_over rfl (by (try simp [-List.map_set, go_sem, clE, g37, g39, g43]); first | rfl | done) (by rfl) (by (try simp [-List.map_set, go_sem, g37, g39, g43]); first | rfl | done) fun z45 hF46 => ⟨by simp [go_sem], ?_⟩
    try simp [-List.map_set, go_sem, g37, g39, g43]
    refine pw_cl hF46 [.sh, .sh, .sh] c_impl_Group_pow rfl rfl (by (try simp [-List.map_set, go_sem, clE, g37, g39, g43]); first | rfl | done) (by rfl) (by (try simp [-List.map_set, go_sem, g37, g39, g43]); first | rfl | done) fun z47 hF48 => ⟨by simp [go_sem], ?_⟩
    try simp [-List.map_set, go_sem, g37, g39, g43]
    refine pw_wkK [4, 6, 7, 14, 15] (by simp [-List.map_set, go_sem, g37, g39, g43]; rfl) ?_
    try simp [-List.map_set, go_sem, g37, g39, g43]
    try intros
    refine pw_wk ?_
    repeat rw [sq]
    refine pw_joinF (fun (x53 : Int) => [(15, .v (.int .i64 x53))]) hF48 ?_ ?_
    ·intro x53 hF54
     cases hΦ _ (Rn_some hF54)
     try simp [-List.map_set, go_sem, g37, g39, g43]
     refine pw_wk ?_
     try simp [-List.map_set, go_sem, g37, g39, g43]
    ·intro ψ51 hj49 hF52
     repeat rw [sq]
     rw [pw_block]
     obtain ⟨b77, hb78, hψ59⟩ := hF52
     refine pw_rloop (fun (i56 : Int) (s55 : Int) => [(6, .bl [.int .i64 a0.P, .int .i64 a0.Q, .int .i64 a0.G]), (7, .bl [.int .i64 a1.A, .int .i64 a1.B]), (14, .v (.sl true 1 (z40.map row_i64))), (15, .v (.int .i64 s55)), (78, .v (.sl false 1 (a4.map row_i64))), (79, .v (.int .i64 (a4.length : Int))), (80, .v (.int .i64 i56))]) hb78 (by simp [-List.map_set, go_sem, g37, g39, g43]) ?_ ?_
     ·intro s55 N80 hN79
      subst hN79
      try simp [-List.map_set, go_sem]
      refine pw_wk ?_
      repeat rw [sq]
      refine pw_cond_f (by simp [-List.map_set, go_sem]) ?_
      try simp [-List.map_set, go_sem]
      exact hj49 s55 _ (by simp [-List.map_set, go_sem]) hψ59
     ·intro i56 s55 φ60 N61 hi63 hi64 ho57 hg58 hF62
      rw [Int.zero_add] at hi64
      try simp [-List.map_set, go_sem, g37, g39, g43]
      refine pw_wk ?_
      repeat rw [sq]
      refine pw_cond_t (by simp [-List.map_set, go_sem, g37, g39, g43, hi63, hi64]) ?_
      try simp [-List.map_set, go_sem, g37, g39, g43]
      refine pw_wk ?_
      repeat rw [sq]
      rw [pw_block]
      obtain ⟨x65, g66, hF67⟩ := Rn_ix hF62
      try simp [-List.map_set, go_sem, g37, g39, g43, g66]
      refine pw_wk ?_
      repeat rw [sq]
      refine pw_draw D21_8 follows (by kernel_rfl) rfl ?_
      try simp only [go_sem, D21_8]
      obtain ⟨x68, g69, hF70⟩ := Rn_ix hF67
      try simp [-List.map_set, go_sem, g37, g39, g43, g66, g69]
      refine pw_clD hF70 c_impl_Group_pow rfl (by (try simp [-List.map_set, go_sem, clE, g37, g39, g43, g66, g69]); first | rfl | done) (by rfl) (by (try simp [-List.map_set, go_sem, g37, g39, g43, g66, g69]); first | rfl | done) fun z71 hF72 => ⟨by simp [go_sem], ?_⟩
      try simp [-List.map_set, go_sem, g37, g39, g43, g66, g69]
      refine pw_cl hF72 [.sh, .sh, .sh] c_impl_Group_pow rfl rfl (by (try simp [-List.map_set, go_sem, clE, g37, g39, g43, g66, g69]); first | rfl | done) (by rfl) (by (try simp [-List.map_set, go_sem, g37, g39, g43, g66, g69]); first | rfl | done) fun z73 hF74 => ⟨by simp [go_sem], ?_⟩
      try simp [-List.map_set, go_sem, g37, g39, g43, g66, g69]
      refine pw_cl hF74 [.sh, .sh] c_impl_Group_mul rfl rfl (by (try simp [-List.map_set, go_sem, clE, g37, g39, g43, g66, g69]); first | rfl | done) (by rfl) (by (try simp [-List.map_set, go_sem, g37, g39, g43, g66, g69]); first | rfl | done) fun z75 hF76 => ⟨by simp [go_sem], ?_⟩
      try simp [-List.map_set, go_sem, g37, g39, g43, g66, g69]
      refine pw_wkK [6, 7, 14, 15, 78, 79, 80] (by simp [-List.map_set, go_sem, g37, g39, g43, g66, g69]; rfl) ?_
      try simp [-List.map_set, go_sem, g37, g39, g43, g66, g69]
      exact hg58 z75 _ (by simp [-List.map_set, go_sem, g37, g39, g43, g66, g69, wr_i hi63 hi64 (by assumption)]) (Rn_some hF76)
  ·intro ψ3 hj1 hF4
   try simp [-List.map_set, go_sem]
   refine pw_cl hF4 [.sh] c_impl_isSharing rfl rfl (by (try simp [-List.map_set, go_sem, clE]); first | rfl | done) (by rfl) (by (try simp [-List.map_set, go_sem]); first | rfl | done) fun z7 hF8 => ⟨by simp [go_sem], ?_⟩
   try simp [-List.map_set, go_sem]
   refine pwg_F hF8 (fun h9 hF10 => ?_) fun h9 hF10 => ?_
   ·try simp [-List.map_set, go_sem, h9]
    exact hj1 true _ (by simp [-List.map_set, go_sem]) (Rn_some hF10)
   ·try simp [-List.map_set, go_sem, h9]
    refine pw_cl hF10 [.sh, .sh] c_impl_Group_hasCipher rfl rfl (by (try simp [-List.map_set, go_sem, clE]); first | rfl | done) (by rfl) (by (try simp [-List.map_set, go_sem]); first | rfl | done) fun z11 hF12 => ⟨by simp [go_sem], ?_⟩
    try simp [-List.map_set, go_sem, h9]
    refine pwg_F hF12 (fun h13 hF14 => ?_) fun h13 hF14 => ?_
    ·try simp [-List.map_set, go_sem, h13]
     exact hj1 true _ (by simp [-List.map_set, go_sem]) (Rn_some hF14)
    ·try simp [-List.map_set, go_sem, h13]
     refine pw_cl hF14 [.sh, .sh] c_impl_Group_has rfl rfl (by (try simp [-List.map_set, go_sem, clE]); first | rfl | done) (by rfl) (by (try simp [-List.map_set, go_sem]); first | rfl | done) fun z15 hF16 => ⟨by simp [go_sem], ?_⟩
     try simp [-List.map_set, go_sem, h13]
     refine pwg_F hF16 (fun h17 hF18 => ?_) fun h17 hF18 => ?_
     ·try simp [-List.map_set, go_sem, h17]
      exact hj1 true _ (by simp [-List.map_set, go_sem]) (Rn_some hF18)
     ·try simp [-List.map_set, go_sem, h17]
      refine pw_cl hF18 [.sh] c_impl_areTrustees rfl rfl (by (try simp [-List.map_set, go_sem, clE]); first | rfl | done) (by rfl) (by (try simp [-List.map_set, go_sem]); first | rfl | done) fun z19 hF20 => ⟨by simp [go_sem], ?_⟩
      try simp [-List.map_set, go_sem, h17]
      refine pwg_F hF20 (fun h21 hF22 => ?_) fun h21 hF22 => ?_
      ·try simp [-List.map_set, go_sem, h21]
       exact hj1 true _ (by simp [-List.map_set, go_sem]) (Rn_some hF22)
      ·try simp [-List.map_set, go_sem, h21]
       refine pw_cl hF22 [.sh] c_impl_isTrustee rfl rfl (by (try simp [-List.map_set, go_sem, clE]); first | rfl | done) (by rfl) (by (try simp [-List.map_set, go_sem]); first | rfl | done) fun z23 hF24 => ⟨by simp [go_sem], ?_⟩
       try simp [-List.map_set, go_sem, h21]
       refine pwg_F hF24 (fun h25 hF26 => ?_) fun h25 hF26 => ?_
       ·try simp [-List.map_set, go_sem, h25]
        exact hj1 true _ (by simp [-List.map_set, go_sem]) (Rn_some hF26)
       ·try simp [-List.map_set, go_sem, h25]
        refine pw_cl hF26 [.sh, .sh] c_slices_Contains_int_int rfl rfl (by (try simp [-List.map_set, go_sem, clE]); first | rfl | done) (by rfl) (by (try simp [-List.map_set, go_sem]); first | rfl | done) fun z27 hF28 => ⟨by simp [go_sem], ?_⟩
        try simp [-List.map_set, go_sem, h25]
        refine pwg_F hF28 (fun h29 hF30 => ?_) fun h29 hF30 => ?_
        ·try simp [-List.map_set, go_sem, h29]
         exact hj1 true _ (by simp [-List.map_set, go_sem]) (Rn_some hF30)
        ·try simp [-List.map_set, go_sem, h29]
         try intros
         refine pwg_F hF30 (fun h31 hF32 => ?_) fun h31 hF32 => ?_
         ·try simp [-List.map_set, go_sem, h31]
          exact hj1 true _ (by simp [-List.map_set, go_sem]) (Rn_some hF32)
         ·try simp [-List.map_set, go_sem, h31]
          refine pw_cl hF32 [.sh, .sh] c_impl_Group_areExps rfl rfl (by (try simp [-List.map_set, go_sem, clE]); first | rfl | done) (by rfl) (by (try simp [-List.map_set, go_sem]); first | rfl | done) fun z33 hF34 => ⟨by simp [go_sem], ?_⟩
          try simp [-List.map_set, go_sem, h31]
          exact hj1 (!z33) _ (by simp [-List.map_set, go_sem]) (Rn_some hF34)
noncomputable def F_laws_eqIntS (a0 : (List Int)) (a1 : (List Int)) : Option (Bool) :=
  if ((a0.length : Int) != (a1.length : Int)) = true then (
  some false) else (
  ((wloop (σ := Int) (β := Unit ⊕ Bool) (fun s9 =>
  if decide (s9 < (a0.length : Int)) = true then (
  (ix a0 s9).bind fun x19 =>
  (ix a1 s9).bind fun x22 =>
  if (x19 != x22) = true then (
  some (.out (.inr false))) else (
  some (.go (IntKind.i64.wrap (s9 + 1))))) else (
  some (.out (.inl ())))) 0 : Option (Unit ⊕ Bool)).bind (Sum.elim (fun (x7 : Unit) =>
  some true) some)))
theorem c_laws_eqIntS {a0 : (List Int)} {a1 : (List Int)} {r : Bool} (hr : F_laws_eqIntS a0 a1 = some r) : PCalls Try.prog 22 [(.sh, .sl false 1 (a0.map row_i64)), (.sh, .sl false 1 (a1.map row_i64))] (Eo (.bool r) [.junk, .junk]) := by
  apply pcalls_lf 26 [] [] [] [.tmp 4] hr cl22 Try.func22 rfl rfl rfl
  · exact ⟨by simp, rfl⟩
  intro Φ hΦ hF
  unfold F_laws_eqIntS at hF
  iterate 2 (try simp [-List.map_set, go_sem]; try intros; refine pw_wk ?_)
  repeat rw [sq]
  refine pw_cF hF (by simp [-List.map_set, go_sem]) (fun h1 hF2 => ?_) fun h1 hF2 => ?_
  ·cases hΦ _ (Rn_some hF2)
   try simp [-List.map_set, go_sem]
   refine pw_wk ?_
   try simp [-List.map_set, go_sem]
  ·iterate 2 (try simp [-List.map_set, go_sem]; refine pw_wk ?_)
   repeat rw [sq]
   refine pw_joinS (fun (x7 : Unit) => []) hF2 ?_ ?_
   ·intro x7 hF8
    cases hΦ _ (Rn_some hF8)
    try simp [-List.map_set, go_sem]
    refine pw_wk ?_
    try simp [-List.map_set, go_sem]
   ·intro ψ5 hj3 hr4 hF6
    repeat rw [sq]
    rw [pw_block]
    obtain ⟨b27, hb28, hψ13⟩ := hF6
    refine pw_wloop (fun (s9 : Int) => [(0, .v (.sl false 1 (a0.map row_i64))), (1, .v (.sl false 1 (a1.map row_i64))), (5, .v (.int .i64 s9))]) hb28 (by simp [-List.map_set, go_sem]) ?_
    intro s9 φ14 N15 ho11 hg12 hF16
    try simp [-List.map_set, go_sem]
    try intros
    refine pw_wkK [0, 1, 5, 14] (by simp [-List.map_set, go_sem]; rfl) ?_
    repeat rw [sq]
    refine pw_cF hF16 (by simp [-List.map_set, go_sem]) (fun h17 hF18 => ?_) fun h17 hF18 => ?_
    ·try simp [-List.map_set, go_sem]
     refine pw_wk ?_
     repeat rw [sq]
     rw [pw_block]
     repeat rw [sq]
     refine pw_draw D22_6 follows (by kernel_rfl) rfl ?_
     try simp only [go_sem, D22_6]
     obtain ⟨x19, g20, hF21⟩ := Rn_ix hF18
     obtain ⟨x22, g23, hF24⟩ := Rn_ix hF21
     try simp [-List.map_set, go_sem, g20, g23]
     refine pw_wk ?_
     repeat rw [sq]
     refine pw_cF hF24 (by simp [-List.map_set, go_sem, g20, g23]) (fun h25 hF26 => ?_) fun h25 hF26 => ?_
     ·try simp [-List.map_set, go_sem, g20, g23]
      refine pw_wkK [4] (by simp [-List.map_set, go_sem, g20, g23]; rfl) ?_
      cases ho11 _ (Rn_some hF26)
      cases hΦ _ (hr4 _ hψ13)
      try simp [-List.map_set, go_sem, g20, g23]
     ·try simp [-List.map_set, go_sem, g20, g23]
      refine pw_wk ?_
      try simp [-List.map_set, go_sem, g20, g23]
      exact hg12 (IntKind.i64.wrap (s9 + 1)) _ (by simp [-List.map_set, go_sem, g20, g23]) (Rn_some hF26)
    ·try simp [-List.map_set, go_sem]
     cases ho11 _ (Rn_some hF18)
     exact hj3 () _ (by simp [-List.map_set, go_sem]) hψ13
noncomputable def F_laws_FnExactSimulatePartial (a0 : Group) (a1 : Cipher) (a2 : Int) (a3 : (List Int)) (a4 : (List Int)) (a5 : Int) : Option (Bool) :=
  if decide (1048576 < (a3.length : Int)) = true then (
  some true) else (
  if decide (1048576 < (a4.length : Int)) = true then (
  some true) else (
  (F_laws_toGroup a0).bind fun z5 =>
  (F_laws_toCipher a1).bind fun z7 =>
  (F_laws_toIntS a3).bind fun z9 =>
  (F_laws_toIntS a4).bind fun z11 =>
  (F_spec_SimulatePartial z5 z7 a2 z9 z11 a5).bind fun z13 =>
  (F_laws_toIntS a3).bind fun z15 =>
  (F_laws_toIntS a4).bind fun z17 =>
  (F_laws_toGroup a0).bind fun z19 =>
  (F_laws_toCipher a1).bind fun z21 =>
  (F_impl_SimulatePartial z19 z21 a2 z15 z17 a5).bind fun z23 =>
  ((if (z23.1 != z13.1) = true then (
  some true) else (
  some (z23.2 != z13.2)) : Option (Bool)).bind fun (x29 : Bool) =>
  if x29 = true then (
  some false) else (
  (F_laws_toIntS a3).bind fun z35 =>
  (F_laws_eqIntS z15 z35).bind fun z37 =>
  if (!z37) = true then (
  some false) else (
  (F_laws_toIntS a4).bind fun z41 =>
  (F_laws_eqIntS z17 z41).bind fun z43 =>
  if (!z43) = true then (
  some false) else (
  some true))))))
theorem c_laws_FnExactSimulatePartial {a0 : Group} {a1 : Cipher} {a2 : Int} {a3 : (List Int)} {a4 : (List Int)} {a5 : Int} {r : Bool} (hr : F_laws_FnExactSimulatePartial a0 a1 a2 a3 a4 a5 = some r) : PCalls Try.prog 5 [(.sh, .agg [.int .i64 a0.P, .int .i64 a0.Q, .int .i64 a0.G]), (.sh, .agg [.int .i64 a1.A, .int .i64 a1.B]), (.sh, .int .i64 a2), (.sh, .sl false 1 (a3.map row_i64)), (.sh, .sl false 1 (a4.map row_i64)), (.sh, .int .i64 a5)] (Eo (.bool r) [.junk, .junk, .junk, .junk, .junk, .junk]) := by
  apply pcalls_lf 73 [] [] [] [.tmp 12] hr cl5 Try.func5 rfl rfl rfl
  · exact ⟨by simp, rfl⟩
  intro Φ hΦ hF
  unfold F_laws_FnExactSimulatePartial at hF
  iterate 2 (try simp [-List.map_set, go_sem]; try intros; refine pw_wk ?_)
  repeat rw [sq]
  refine pw_cF hF (by simp [-List.map_set, go_sem]) (fun h1 hF2 => ?_) fun h1 hF2 => ?_
  ·cases hΦ _ (Rn_some hF2)
   try simp [-List.map_set, go_sem]
   refine pw_wk ?_
   try simp [-List.map_set, go_sem]
  ·iterate 2 (try simp [-List.map_set, go_sem]; try intros; refine pw_wk ?_)
   repeat rw [sq]
   refine pw_cF hF2 (by simp [-List.map_set, go_sem]) (fun h3 hF4 => ?_) fun h3 hF4 => ?_
   ·try simp [-List.map_set, go_sem]
    refine pw_wkK [12] (by simp [-List.map_set, go_sem]; rfl) ?_
    cases hΦ _ (Rn_some hF4)
    try simp [-List.map_set, go_sem]
   ·try simp [-List.map_set, go_sem]
    refine pw_wk ?_
    repeat rw [sq]
    refine pw_draw D5_5 follows (by kernel_rfl) rfl ?_
    try simp only [go_sem, D5_5]
    try simp [-List.map_set, go_sem]
    refine pw_cl hF4 [.sh] c_laws_toGroup rfl rfl (by (try simp [-List.map_set, go_sem, clE]); first | rfl | done) (by rfl) (by (try simp [-List.map_set, go_sem]); first | rfl | done) fun z5 hF6 => ⟨by simp [go_sem], ?_⟩
    try simp [-List.map_set, go_sem]
    refine pw_cl hF6 [.sh] c_laws_toCipher rfl rfl (by (try simp [-List.map_set, go_sem, clE]); first | rfl | done) (by rfl) (by (try simp [-List.map_set, go_sem]); first | rfl | done) fun z7 hF8 => ⟨by simp [go_sem], ?_⟩
    try simp [-List.map_set, go_sem]
    refine pw_cl hF8 [.sh] c_laws_toIntS rfl rfl (by (try simp [-List.map_set, go_sem, clE]); first | rfl | done) (by rfl) (by (try simp [-List.map_set, go_sem]); first | rfl | done) fun z9 hF10 => ⟨by simp [go_sem], ?_⟩
    try simp [-List.map_set, go_sem]
    refine pw_cl hF10 [.sh] c_laws_toIntS rfl rfl (by (try simp [-List.map_set, go_sem, clE]); first | rfl | done) (by rfl) (by (try simp [-List.map_set, go_sem]); first | rfl | done) fun z11 hF12 => ⟨by simp [go_sem], ?_⟩
    try simp [-List.map_set, go_sem]
    refine pw_cl hF12 [.sh, .sh, .sh, .sh, .sh, .sh] c_spec_SimulatePartial rfl rfl (by (try simp [-List.map_set, go_sem, clE]); first | rfl | done) (by rfl) (by (try simp [-List.map_set, go_sem]); first | rfl | done) fun z13 hF14 => ⟨by simp [go_sem], ?_⟩
    try simp [-List.map_set, go_sem]
    refine pw_wkK [2, 3, 4, 5, 6, 7, 13, 14] (by simp [-List.map_set, go_sem]; rfl) ?_
    try simp [-List.map_set, go_sem]
    refine pw_cl hF14 [.sh] c_laws_toIntS rfl rfl (by (try simp [-List.map_set, go_sem, clE]); first | rfl | done) (by rfl) (by (try simp [-List.map_set, go_sem]); first | rfl | done) fun z15 hF16 => ⟨by simp [go_sem], ?_⟩
    try simp [-List.map_set, go_sem]
    refine pw_wk ?_
    try simp [-List.map_set, go_sem]
    refine pw_cl hF16 [.sh] c_laws_toIntS rfl rfl (by (try simp [-List.map_set, go_sem, clE]); first | rfl | done) (by rfl) (by (try simp [-List.map_set, go_sem]); first | rfl | done) fun z17 hF18 => ⟨by simp [go_sem], ?_⟩
    try simp [-List.map_set, go_sem]
    refine pw_wk ?_
    repeat rw [sq]
    refine pw_draw D5_8 follows (by kernel_rfl) rfl ?_
    try simp only [go_sem, D5_8]
    try simp [-List.map_set, go_sem]
    refine pw_cl hF18 [.sh] c_laws_toGroup rfl rfl (by (try simp [-List.map_set, go_sem, clE]); first | rfl | done) (by rfl) (by (try simp [-List.map_set, go_sem]); first | rfl | done) fun z19 hF20 => ⟨by simp [go_sem], ?_⟩
    try simp [-List.map_set, go_sem]
    refine pw_cl hF20 [.sh] c_laws_toCipher rfl rfl (by (try simp [-List.map_set, go_sem, clE]); first | rfl | done) (by rfl) (by (try simp [-List.map_set, go_sem]); first | rfl | done) fun z21 hF22 => ⟨by simp [go_sem], ?_⟩
    try simp [-List.map_set, go_sem]
    refine pw_cl hF22 [.sh, .sh, .sh, .sh, .sh, .sh] c_impl_SimulatePartial rfl rfl (by (try simp [-List.map_set, go_sem, clE]); first | rfl | done) (by rfl) (by (try simp [-List.map_set, go_sem]); first | rfl | done) fun z23 hF24 => ⟨by simp [go_sem], ?_⟩
    try simp [-List.map_set, go_sem]
    refine pw_wkK [3, 4, 13, 14, 15, 16, 17, 18] (by simp [-List.map_set, go_sem]; rfl) ?_
    repeat rw [sq]
    refine pw_joinF (fun (x29 : Bool) => [(3, .v (.sl false 1 (a3.map row_i64))), (4, .v (.sl false 1 (a4.map row_i64))), (15, .v (.sl true 1 (z15.map row_i64))), (16, .v (.sl true 1 (z17.map row_i64))), (62, .v (.bool x29))]) hF24 ?_ ?_
    ·intro x29 hF30
     repeat rw [sq]
     refine pw_cF hF30 (by simp [-List.map_set, go_sem]) (fun h33 hF34 => ?_) fun h33 hF34 => ?_
     ·cases hΦ _ (Rn_some hF34)
      try simp [-List.map_set, go_sem]
      refine pw_wk ?_
      try simp [-List.map_set, go_sem]
     ·try simp [-List.map_set, go_sem]
      refine pw_wk ?_
      try simp [-List.map_set, go_sem]
      refine pw_cl hF34 [.sh] c_laws_toIntS rfl rfl (by (try simp [-List.map_set, go_sem, clE]); first | rfl | done) (by rfl) (by (try simp [-List.map_set, go_sem]); first | rfl | done) fun z35 hF36 => ⟨by simp [go_sem], ?_⟩
      try simp [-List.map_set, go_sem]
      refine pw_cl hF36 [.sh, .sh] c_laws_eqIntS rfl rfl (by (try simp [-List.map_set, go_sem, clE]); first | rfl | done) (by rfl) (by (try simp [-List.map_set, go_sem]); first | rfl | done) fun z37 hF38 => ⟨by simp [go_sem], ?_⟩
      try simp [-List.map_set, go_sem]
      refine pw_wk ?_
      repeat rw [sq]
      refine pw_cF hF38 (by simp [-List.map_set, go_sem]) (fun h39 hF40 => ?_) fun h39 hF40 => ?_
      ·cases hΦ _ (Rn_some hF40)
       try simp [-List.map_set, go_sem]
       refine pw_wk ?_
       try simp [-List.map_set, go_sem]
      ·try simp [-List.map_set, go_sem]
       refine pw_wk ?_
       try simp [-List.map_set, go_sem]
       refine pw_cl hF40 [.sh] c_laws_toIntS rfl rfl (by (try simp [-List.map_set, go_sem, clE]); first | rfl | done) (by rfl) (by (try simp [-List.map_set, go_sem]); first | rfl | done) fun z41 hF42 => ⟨by simp [go_sem], ?_⟩
       try simp [-List.map_set, go_sem]
       refine pw_cl hF42 [.sh, .sh] c_laws_eqIntS rfl rfl (by (try simp [-List.map_set, go_sem, clE]); first | rfl | done) (by rfl) (by (try simp [-List.map_set, go_sem]); first | rfl | done) fun z43 hF44 => ⟨by simp [go_sem], ?_⟩
       try simp [-List.map_set, go_sem]
       refine pw_wkK [72] (by simp [-List.map_set, go_sem]; rfl) ?_
       repeat rw [sq]
       refine pw_cF hF44 (by simp [-List.map_set, go_sem]) (fun h45 hF46 => ?_) fun h45 hF46 => ?_
       ·cases hΦ _ (Rn_some hF46)
        try simp [-List.map_set, go_sem]
        refine pw_wk ?_
        try simp [-List.map_set, go_sem]
       ·cases hΦ _ (Rn_some hF46)
        iterate 2 (try simp [-List.map_set, go_sem]; refine pw_wk ?_)
        try simp [-List.map_set, go_sem]
    ·intro ψ27 hj25 hF28
     try simp [-List.map_set, go_sem]
     refine pwg_F hF28 (fun h31 hF32 => ?_) fun h31 hF32 => ?_
     ·try simp [-List.map_set, go_sem, h31]
      exact hj25 true _ (by simp [-List.map_set, go_sem]) (Rn_some hF32)
     ·try simp [-List.map_set, go_sem, h31]
      exact hj25 (z23.2 != z13.2) _ (by simp [-List.map_set, go_sem]) (Rn_some hF32)
end Go.Pm
