/-
  Plain functions and their walks. Written by wip/tools/lift.py.
-/
import Derived.Test.YtpbhnggmbnfemaaPS
namespace Go.Pm
open Go.Am
open Go.Proofs
set_option maxRecDepth 100000
attribute [local irreducible] pw pwx pw1 pwg qv qz qf
set_option linter.unusedSimpArgs false
set_option linter.unusedVariables false
structure Group where
  P : Int
  Q : Int
  G : Int
structure ViewCount where
  View : (List Int)
  Times : Int
def row_i64 (x : Int) : List PV := [.int .i64 x]
@[go_sem] theorem row_i64_eq {x : Int} : row_i64 x = [.int .i64 x] := (rfl)
@[go_sem] theorem row_i64_drop {l : List Int} : List.map (List.map drop ∘ row_i64) l = l.map row_i64 := by refine List.map_congr_left fun x _ => ?_; simp [-List.map_set, go_sem]
@[go_sem] theorem row_i64_drop' {l : List Int} : List.map (List.map drop) (l.map row_i64) = l.map row_i64 := by rw [List.map_map]; exact row_i64_drop
@[go_sem] theorem row_i64_set {l : List Int} {i : Nat} {a : Int} : (l.map row_i64).set i [.int .i64 a] = (l.set i a).map row_i64 := by simp [List.map_set, go_sem]
def row_ViewCount_z (x : ViewCount) : List PV := [.sl false 1 (x.View.map row_i64), .int .i64 x.Times]
@[go_sem] theorem row_ViewCount_z_eq {x : ViewCount} : row_ViewCount_z x = [.sl false 1 (x.View.map row_i64), .int .i64 x.Times] := (rfl)
@[go_sem] theorem row_ViewCount_z_drop {l : List ViewCount} : List.map (List.map drop ∘ row_ViewCount_z) l = l.map row_ViewCount_z := by refine List.map_congr_left fun x _ => ?_; simp [-List.map_set, go_sem]
@[go_sem] theorem row_ViewCount_z_drop' {l : List ViewCount} : List.map (List.map drop) (l.map row_ViewCount_z) = l.map row_ViewCount_z := by rw [List.map_map]; exact row_ViewCount_z_drop
@[go_sem] theorem row_ViewCount_z_set {l : List ViewCount} {i : Nat} {View : (List Int)} {Times : Int} : (l.map row_ViewCount_z).set i [.sl false 1 (View.map row_i64), .int .i64 Times] = (l.set i (ViewCount.mk View Times)).map row_ViewCount_z := by simp [List.map_set, go_sem]
def row_zi64 (x : (List Int)) : List PV := [.sl false 1 (x.map row_i64)]
@[go_sem] theorem row_zi64_eq {x : (List Int)} : row_zi64 x = [.sl false 1 (x.map row_i64)] := (rfl)
@[go_sem] theorem row_zi64_drop {l : List (List Int)} : List.map (List.map drop ∘ row_zi64) l = l.map row_zi64 := by refine List.map_congr_left fun x _ => ?_; simp [-List.map_set, go_sem]
@[go_sem] theorem row_zi64_drop' {l : List (List Int)} : List.map (List.map drop) (l.map row_zi64) = l.map row_zi64 := by rw [List.map_map]; exact row_zi64_drop
@[go_sem] theorem row_zi64_set {l : List (List Int)} {i : Nat} {a : (List Int)} : (l.map row_zi64).set i [.sl false 1 (a.map row_i64)] = (l.set i a).map row_zi64 := by simp [List.map_set, go_sem]
def row_oi64 (x : (List Int)) : List PV := [.sl true 1 (x.map row_i64)]
@[go_sem] theorem row_oi64_eq {x : (List Int)} : row_oi64 x = [.sl true 1 (x.map row_i64)] := (rfl)
@[go_sem] theorem row_oi64_drop {l : List (List Int)} : List.map (List.map drop ∘ row_oi64) l = l.map row_zi64 := by refine List.map_congr_left fun x _ => ?_; simp [-List.map_set, go_sem]
@[go_sem] theorem row_oi64_drop' {l : List (List Int)} : List.map (List.map drop) (l.map row_oi64) = l.map row_zi64 := by rw [List.map_map]; exact row_oi64_drop
@[go_sem] theorem row_oi64_set {l : List (List Int)} {i : Nat} {a : (List Int)} : (l.map row_oi64).set i [.sl true 1 (a.map row_i64)] = (l.set i a).map row_oi64 := by simp [List.map_set, go_sem]
def row_ViewCount_o (x : ViewCount) : List PV := [.sl true 1 (x.View.map row_i64), .int .i64 x.Times]
@[go_sem] theorem row_ViewCount_o_eq {x : ViewCount} : row_ViewCount_o x = [.sl true 1 (x.View.map row_i64), .int .i64 x.Times] := (rfl)
@[go_sem] theorem row_ViewCount_o_drop {l : List ViewCount} : List.map (List.map drop ∘ row_ViewCount_o) l = l.map row_ViewCount_z := by refine List.map_congr_left fun x _ => ?_; simp [-List.map_set, go_sem]
@[go_sem] theorem row_ViewCount_o_drop' {l : List ViewCount} : List.map (List.map drop) (l.map row_ViewCount_o) = l.map row_ViewCount_z := by rw [List.map_map]; exact row_ViewCount_o_drop
@[go_sem] theorem row_ViewCount_o_set {l : List ViewCount} {i : Nat} {View : (List Int)} {Times : Int} : (l.map row_ViewCount_o).set i [.sl true 1 (View.map row_i64), .int .i64 Times] = (l.set i (ViewCount.mk View Times)).map row_ViewCount_o := by simp [List.map_set, go_sem]
noncomputable def F_laws_toGroup (a0 : Group) : Option (Group) :=
  some a0
theorem c_laws_toGroup {a0 : Group} {r : Group} (hr : F_laws_toGroup a0 = some r) : PCalls Try.prog 11 [(.sh, .agg [.int .i64 a0.P, .int .i64 a0.Q, .int .i64 a0.G])] (Eo (.agg [.int .i64 r.P, .int .i64 r.Q, .int .i64 r.G]) [.junk]) := by
  apply pcalls_lf 14 [] [] [] [.cell 2 27] hr cl11 Try.func11 rfl rfl rfl
  · exact ⟨by simp, rfl⟩
  intro Φ hΦ hF
  unfold F_laws_toGroup at hF
  iterate 3 (try simp [-List.map_set, go_sem]; refine pw_wk ?_)
  try simp [-List.map_set, go_sem]
  refine pw_wkK [1, 2, 3] (by simp [-List.map_set, go_sem]; rfl) ?_
  cases hΦ _ (Rn_some hF)
  iterate 2 (try simp [-List.map_set, go_sem]; refine pw_wk ?_)
  try simp [-List.map_set, go_sem]
noncomputable def F_laws_toIntS (a0 : (List Int)) : Option ((List Int)) :=
  gd (0 ≤ (a0.length : Int) ∧ (a0.length : Int) ≤ (a0.length : Int) ∧ 8 * (a0.length : Int) ≤ 140737488355328 ∧ (a0.length : Int) ≤ 4611686018427387904) <|
  (some (List.replicate a0.length 0)).bind fun x4 =>
  ((wloop (σ := (List Int) × Int) (β := (List Int)) (fun s30 =>
  if decide (s30.2 < (a0.length : Int)) = true then (
  (ix a0 s30.2).bind fun x40 =>
  (ix s30.1 s30.2).bind fun x43 =>
  some (.go (s30.1.set s30.2.toNat x40, IntKind.i64.wrap (s30.2 + 1)))) else (
  some (.out s30.1))) (x4, 0) : Option ((List Int))).bind fun (x12 : (List Int)) =>
  some x12)
theorem c_laws_toIntS {a0 : (List Int)} {r : (List Int)} (hr : F_laws_toIntS a0 = some r) : PCalls Try.prog 26 [(.sh, .sl false 1 (a0.map row_i64))] (Eo (.sl true 1 (r.map row_i64)) [.junk]) := by
  apply pcalls_lf 22 [] [] [] [.tmp 2] hr cl26 Try.func26 rfl rfl rfl
  · exact ⟨by simp, rfl⟩
  intro Φ hΦ hF
  unfold F_laws_toIntS at hF
  obtain ⟨g1, hF2⟩ := Rn_gd hF
  have g3 := g1
  try simp at g3
  obtain ⟨x4, e5, hF6⟩ := Rn_bind hF2
  have g7 : List.replicate a0.length ([.int .i64 0] : List PV) = x4.map row_i64 := by injection e5 with e5; rw [← e5]; simp [-List.map_set, go_sem]
  iterate 3 (try simp [-List.map_set, go_sem, g1, g3, g7]; try intros; refine pw_wk ?_)
  repeat rw [sq]
  refine pw_joinF (fun (x12 : (List Int)) => [(3, .v (.sl true 1 (x12.map row_i64)))]) hF6 ?_ ?_
  ·intro x12 hF13
   cases hΦ _ (Rn_some hF13)
   try simp [-List.map_set, go_sem, g1, g3]
   refine pw_wk ?_
   try simp [-List.map_set, go_sem, g1, g3]
  ·intro ψ10 hj8 hF11
   repeat rw [sq]
   rw [pw_block]
   obtain ⟨b46, hb47, hψ34⟩ := hF11
   refine pw_wloop (fun (s30 : (List Int) × Int) => [(0, .v (.sl false 1 (a0.map row_i64))), (3, .v (.sl true 1 (s30.1.map row_i64))), (4, .v (.int .i64 s30.2))]) hb47 (by simp [-List.map_set, go_sem, g1, g3]) ?_
   intro s30 φ35 N36 ho32 hg33 hF37
   try simp [-List.map_set, go_sem, g1, g3]
   try intros
   refine pw_wkK [0, 3, 4, 11] (by simp [-List.map_set, go_sem, g1, g3]; rfl) ?_
   repeat rw [sq]
   refine pw_cF hF37 (by simp [-List.map_set, go_sem, g1, g3]) (fun h38 hF39 => ?_) fun h38 hF39 => ?_
   ·try simp [-List.map_set, go_sem, g1, g3]
    refine pw_wk ?_
    repeat rw [sq]
    rw [pw_block]
    obtain ⟨x40, g41, hF42⟩ := Rn_ix hF39
    obtain ⟨x43, g44, hF45⟩ := Rn_ix hF42
    try simp [-List.map_set, go_sem, g1, g3, g41, g44]
    refine pw_wk ?_
    try simp [-List.map_set, go_sem, g1, g3, g41, g44]
    exact hg33 (s30.1.set s30.2.toNat x40, IntKind.i64.wrap (s30.2 + 1)) _ (by simp [-List.map_set, go_sem, g1, g3, g41, g44]) (Rn_some hF45)
   ·try simp [-List.map_set, go_sem, g1, g3]
    cases ho32 _ (Rn_some hF39)
    exact hj8 s30.1 _ (by simp [-List.map_set, go_sem, g1, g3]) hψ34
noncomputable def F_spec_l1In (a0 : Int) (a1 : Int) (a2 : Int) : Option (Bool) :=
  ((if decide (a1 ≤ a0) = true then (
  some (decide (a0 ≤ a2))) else (
  some false) : Option (Bool)).bind fun (x5 : Bool) =>
  some x5)
theorem c_spec_l1In {a0 : Int} {a1 : Int} {a2 : Int} {r : Bool} (hr : F_spec_l1In a0 a1 a2 = some r) : PCalls Try.prog 80 [(.sh, .int .i64 a0), (.sh, .int .i64 a1), (.sh, .int .i64 a2)] (Eo (.bool r) [.junk, .junk, .junk]) := by
  apply pcalls_lf 15 [] [] [] [.tmp 6] hr cl80 Try.func80 rfl rfl rfl
  · exact ⟨by simp, rfl⟩
  intro Φ hΦ hF
  unfold F_spec_l1In at hF
  try simp [-List.map_set, go_sem]
  refine pw_wk ?_
  repeat rw [sq]
  refine pw_joinF (fun (x5 : Bool) => [(6, .v (.bool x5))]) hF ?_ ?_
  ·intro x5 hF6
   cases hΦ _ (Rn_some hF6)
   try simp [-List.map_set, go_sem]
  ·intro ψ3 hj1 hF4
   try simp [-List.map_set, go_sem]
   refine pwg_F hF4 (fun h7 hF8 => ?_) fun h7 hF8 => ?_
   ·try simp [-List.map_set, go_sem, h7]
    exact hj1 (decide (a0 ≤ a2)) _ (by simp [-List.map_set, go_sem]) (Rn_some hF8)
   ·try simp [-List.map_set, go_sem, h7]
    exact hj1 false _ (by simp [-List.map_set, go_sem]) (Rn_some hF8)
noncomputable def F_spec_nPower (a0 : Int) (a1 : Int) (a2 : Int) : Option (Int) :=
  gd (a2 ≠ 0) <|
  ((wloop (σ := Int × Int × Int) (β := Int) (fun s9 =>
  if decide (0 < s9.2.1) = true then (
  ((if ((s9.2.1.tmod 2) == 1) = true then (
  gd (a2 ≠ 0) <|
  some ((IntKind.i64.wrap (s9.2.2 * s9.1)).tmod a2)) else (
  some s9.2.2) : Option (Int)).bind fun (x24 : Int) =>
  gd (a2 ≠ 0) <|
  some (.go ((IntKind.i64.wrap (s9.1 * s9.1)).tmod a2, IntKind.i64.wrap (s9.2.1.tdiv 2), x24)))) else (
  some (.out s9.2.2))) (a0, a1, (1 : Int).tmod a2) : Option (Int)).bind fun (x7 : Int) =>
  some x7)
theorem c_spec_nPower {a0 : Int} {a1 : Int} {a2 : Int} {r : Int} (hr : F_spec_nPower a0 a1 a2 = some r) : PCalls Try.prog 110 [(.sh, .int .i64 a0), (.sh, .int .i64 a1), (.sh, .int .i64 a2)] (Eo (.int .i64 r) [.junk, .junk, .junk]) := by
  apply pcalls_lf 28 [] [] [] [.tmp 6] hr cl110 Try.func110 rfl rfl rfl
  · exact ⟨by simp, rfl⟩
  intro Φ hΦ hF
  unfold F_spec_nPower at hF
  obtain ⟨g1, hF2⟩ := Rn_nz hF
  iterate 2 (try simp [-List.map_set, go_sem, g1]; refine pw_wk ?_)
  repeat rw [sq]
  refine pw_joinF (fun (x7 : Int) => [(7, .v (.int .i64 x7))]) hF2 ?_ ?_
  ·intro x7 hF8
   cases hΦ _ (Rn_some hF8)
   try simp [-List.map_set, go_sem, g1]
   refine pw_wk ?_
   try simp [-List.map_set, go_sem, g1]
  ·intro ψ5 hj3 hF6
   repeat rw [sq]
   rw [pw_block]
   obtain ⟨b33, hb34, hψ13⟩ := hF6
   refine pw_wloop (fun (s9 : Int × Int × Int) => [(0, .v (.int .i64 s9.1)), (1, .v (.int .i64 s9.2.1)), (2, .v (.int .i64 a2)), (7, .v (.int .i64 s9.2.2))]) hb34 (by simp [-List.map_set, go_sem, g1]) ?_
   intro s9 φ14 N15 ho11 hg12 hF16
   try simp [-List.map_set, go_sem, g1]
   refine pw_wk ?_
   repeat rw [sq]
   refine pw_cF hF16 (by simp [-List.map_set, go_sem, g1]) (fun h17 hF18 => ?_) fun h17 hF18 => ?_
   ·try simp [-List.map_set, go_sem, g1]
    refine pw_wk ?_
    repeat rw [sq]
    rw [pw_block]
    have g19 := fun x => divV_ne (b := 2) (x := x) (by decide)
    try simp [-List.map_set, go_sem, g1, g19]
    refine pw_wk ?_
    repeat rw [sq]
    refine pw_joinF (fun (x24 : Int) => [(0, .v (.int .i64 s9.1)), (1, .v (.int .i64 s9.2.1)), (2, .v (.int .i64 a2)), (7, .v (.int .i64 x24))]) hF18 ?_ ?_
    ·intro x24 hF25
     obtain ⟨g30, hF31⟩ := Rn_nz hF25
     try simp [-List.map_set, go_sem, g1, g19, g30]
     refine pw_wkK [0, 1, 2, 7] (by simp [-List.map_set, go_sem, g1, g19, g30]; rfl) ?_
     have g32 := fun x => divV_ne (b := 2) (x := x) (by decide)
     try simp [-List.map_set, go_sem, g1, g19, g30, g32]
     exact hg12 ((IntKind.i64.wrap (s9.1 * s9.1)).tmod a2, IntKind.i64.wrap (s9.2.1.tdiv 2), x24) _ (by simp [-List.map_set, go_sem, g1, g19, g30, g32]) (Rn_some hF31)
    ·intro ψ22 hj20 hF23
     repeat rw [sq]
     refine pw_cF hF23 (by simp [-List.map_set, go_sem, g1, g19]) (fun h26 hF27 => ?_) fun h26 hF27 => ?_
     ·obtain ⟨g28, hF29⟩ := Rn_nz hF27
      try simp [-List.map_set, go_sem, g1, g19, g28]
      exact hj20 ((IntKind.i64.wrap (s9.2.2 * s9.1)).tmod a2) _ (by simp [-List.map_set, go_sem, g1, g19, g28]) (Rn_some hF29)
     ·try simp [-List.map_set, go_sem, g1, g19]
      exact hj20 s9.2.2 _ (by simp [-List.map_set, go_sem, g1, g19]) (Rn_some hF27)
   ·try simp [-List.map_set, go_sem, g1]
    cases ho11 _ (Rn_some hF18)
    exact hj3 s9.2.2 _ (by simp [-List.map_set, go_sem, g1]) hψ13
noncomputable def F_spec_nPrime (a0 : Int) : Option (Bool) :=
  if decide (a0 < 2) = true then (
  some false) else (
  ((wloop (σ := Int) (β := Unit ⊕ Bool) (fun s9 =>
  if decide ((IntKind.i64.wrap (s9 * s9)) ≤ a0) = true then (
  gd (s9 ≠ 0) <|
  if ((a0.tmod s9) == 0) = true then (
  some (.out (.inr false))) else (
  some (.go (IntKind.i64.wrap (s9 + 1))))) else (
  some (.out (.inl ())))) 2 : Option (Unit ⊕ Bool)).bind (Sum.elim (fun (x7 : Unit) =>
  some true) some)))
theorem c_spec_nPrime {a0 : Int} {r : Bool} (hr : F_spec_nPrime a0 = some r) : PCalls Try.prog 101 [(.sh, .int .i64 a0)] (Eo (.bool r) [.junk]) := by
  apply pcalls_lf 17 [] [] [] [.tmp 2] hr cl101 Try.func101 rfl rfl rfl
  · exact ⟨by simp, rfl⟩
  intro Φ hΦ hF
  unfold F_spec_nPrime at hF
  iterate 2 (try simp [-List.map_set, go_sem]; refine pw_wk ?_)
  repeat rw [sq]
  refine pw_cF hF (by simp [-List.map_set, go_sem]) (fun h1 hF2 => ?_) fun h1 hF2 => ?_
  ·cases hΦ _ (Rn_some hF2)
   try simp [-List.map_set, go_sem]
   refine pw_wk ?_
   try simp [-List.map_set, go_sem]
  ·iterate 2 (try simp [-List.map_set, go_sem]; refine pw_wk ?_)
   repeat rw [sq]
   refine pw_joinS (fun (x7 : Unit) => []) hF2 ?_ ?_
   ·intro x7 hF8
    cases hΦ _ (Rn_some hF8)
    try simp [-List.map_set, go_sem]
    refine pw_wk ?_
    try simp [-List.map_set, go_sem]
   ·intro ψ5 hj3 hr4 hF6
    repeat rw [sq]
    rw [pw_block]
    obtain ⟨b23, hb24, hψ13⟩ := hF6
    refine pw_wloop (fun (s9 : Int) => [(0, .v (.int .i64 a0)), (3, .v (.int .i64 s9))]) hb24 (by simp [-List.map_set, go_sem]) ?_
    intro s9 φ14 N15 ho11 hg12 hF16
    try simp [-List.map_set, go_sem]
    refine pw_wk ?_
    repeat rw [sq]
    refine pw_cF hF16 (by simp [-List.map_set, go_sem]) (fun h17 hF18 => ?_) fun h17 hF18 => ?_
    ·try simp [-List.map_set, go_sem]
     refine pw_wk ?_
     repeat rw [sq]
     rw [pw_block]
     obtain ⟨g19, hF20⟩ := Rn_nz hF18
     try simp [-List.map_set, go_sem, g19]
     refine pw_wkK [0, 3, 16] (by simp [-List.map_set, go_sem, g19]; rfl) ?_
     repeat rw [sq]
     refine pw_cF hF20 (by simp [-List.map_set, go_sem, g19]) (fun h21 hF22 => ?_) fun h21 hF22 => ?_
     ·cases ho11 _ (Rn_some hF22)
      cases hΦ _ (hr4 _ hψ13)
      try simp [-List.map_set, go_sem, g19]
      refine pw_wk ?_
      try simp [-List.map_set, go_sem, g19]
     ·try simp [-List.map_set, go_sem, g19]
      refine pw_wk ?_
      try simp [-List.map_set, go_sem, g19]
      exact hg12 (IntKind.i64.wrap (s9 + 1)) _ (by simp [-List.map_set, go_sem, g19]) (Rn_some hF22)
    ·try simp [-List.map_set, go_sem]
     cases ho11 _ (Rn_some hF18)
     exact hj3 () _ (by simp [-List.map_set, go_sem]) hψ13
noncomputable def F_spec_l2Good (a0 : Group) : Option (Bool) :=
  (((F_spec_l1In a0.P 3 2000000000).bind fun z7 =>
  if z7 = true then (
  (F_spec_l1In a0.Q 2 (IntKind.i64.wrap (a0.P - 1))).bind fun z11 =>
  if z11 = true then (
  gd (a0.Q ≠ 0) <|
  if (((IntKind.i64.wrap (a0.P - 1)).tmod a0.Q) == 0) = true then (
  (F_spec_l1In a0.G 2 (IntKind.i64.wrap (a0.P - 1))).bind fun z19 =>
  if z19 = true then (
  (F_spec_nPower a0.G a0.Q a0.P).bind fun z23 =>
  if (z23 == 1) = true then (
  (F_spec_nPrime a0.Q).bind fun z27 =>
  if z27 = true then (
  (F_spec_nPrime a0.P).bind fun z31 =>
  some z31) else (
  some false)) else (
  some false)) else (
  some false)) else (
  some false)) else (
  some false)) else (
  some false) : Option (Bool)).bind fun (x5 : Bool) =>
  some x5)
theorem c_spec_l2Good {a0 : Group} {r : Bool} (hr : F_spec_l2Good a0 = some r) : PCalls Try.prog 96 [(.sh, .agg [.int .i64 a0.P, .int .i64 a0.Q, .int .i64 a0.G])] (Eo (.bool r) [.junk]) := by
  apply pcalls_lf 51 [] [] [] [.tmp 2] hr cl96 Try.func96 rfl rfl rfl
  · exact ⟨by simp, rfl⟩
  intro Φ hΦ hF
  unfold F_spec_l2Good at hF
  try simp [-List.map_set, go_sem]
  refine pw_wk ?_
  repeat rw [sq]
  refine pw_joinF (fun (x5 : Bool) => [(2, .v (.bool x5))]) hF ?_ ?_
  ·intro x5 hF6
   cases hΦ _ (Rn_some hF6)
   try simp [-List.map_set, go_sem]
  ·intro ψ3 hj1 hF4
   try simp [-List.map_set, go_sem]
   refine pw_cl hF4 [.sh, .sh, .sh] c_spec_l1In rfl rfl (by (try simp [-List.map_set, go_sem, clE]); first | rfl | done) (by rfl) (by (try simp [-List.map_set, go_sem]); first | rfl | done) fun z7 hF8 => ⟨by simp [go_sem], ?_⟩
   try simp [-List.map_set, go_sem]
   refine pwg_F hF8 (fun h9 hF10 => ?_) fun h9 hF10 => ?_
   ·try simp [-List.map_set, go_sem, h9]
    refine pw_cl hF10 [.sh, .sh, .sh] c_spec_l1In rfl rfl (by (try simp [-List.map_set, go_sem, clE]); first | rfl | done) (by rfl) (by (try simp [-List.map_set, go_sem]); first | rfl | done) fun z11 hF12 => ⟨by simp [go_sem], ?_⟩
    try simp [-List.map_set, go_sem, h9]
    refine pwg_F hF12 (fun h13 hF14 => ?_) fun h13 hF14 => ?_
    ·obtain ⟨g15, hF16⟩ := Rn_nz hF14
     try simp [-List.map_set, go_sem, g15, h13]
     refine pwg_F hF16 (fun h17 hF18 => ?_) fun h17 hF18 => ?_
     ·try simp [-List.map_set, go_sem, g15, h17]
      refine pw_cl hF18 [.sh, .sh, .sh] c_spec_l1In rfl rfl (by (try simp [-List.map_set, go_sem, clE, g15]); first | rfl | done) (by rfl) (by (try simp [-List.map_set, go_sem, g15]); first | rfl | done) fun z19 hF20 => ⟨by simp [go_sem], ?_⟩
      try simp [-List.map_set, go_sem, g15, h17]
      refine pwg_F hF20 (fun h21 hF22 => ?_) fun h21 hF22 => ?_
      ·try simp [-List.map_set, go_sem, g15, h21]
       refine pw_cl hF22 [.sh, .sh, .sh] c_spec_nPower rfl rfl (by (try simp [-List.map_set, go_sem, clE, g15]); first | rfl | done) (by rfl) (by (try simp [-List.map_set, go_sem, g15]); first | rfl | done) fun z23 hF24 => ⟨by simp [go_sem], ?_⟩
       try simp [-List.map_set, go_sem, g15, h21]
       refine pwg_F hF24 (fun h25 hF26 => ?_) fun h25 hF26 => ?_
       ·try simp [-List.map_set, go_sem, g15, h25]
        refine pw_cl hF26 [.sh] c_spec_nPrime rfl rfl (by (try simp [-List.map_set, go_sem, clE, g15]); first | rfl | done) (by rfl) (by (try simp [-List.map_set, go_sem, g15]); first | rfl | done) fun z27 hF28 => ⟨by simp [go_sem], ?_⟩
        try simp [-List.map_set, go_sem, g15, h25]
        refine pwg_F hF28 (fun h29 hF30 => ?_) fun h29 hF30 => ?_
        ·try simp [-List.map_set, go_sem, g15, h29]
         refine pw_cl hF30 [.sh] c_spec_nPrime rfl rfl (by (try simp [-List.map_set, go_sem, clE, g15]); first | rfl | done) (by rfl) (by (try simp [-List.map_set, go_sem, g15]); first | rfl | done) fun z31 hF32 => ⟨by simp [go_sem], ?_⟩
         try simp [-List.map_set, go_sem, g15, h29]
         exact hj1 z31 _ (by simp [-List.map_set, go_sem, g15]) (Rn_some hF32)
        ·try simp [-List.map_set, go_sem, g15, h29]
         exact hj1 false _ (by simp [-List.map_set, go_sem, g15]) (Rn_some hF30)
       ·try simp [-List.map_set, go_sem, g15, h25]
        exact hj1 false _ (by simp [-List.map_set, go_sem, g15]) (Rn_some hF26)
      ·try simp [-List.map_set, go_sem, g15, h21]
       exact hj1 false _ (by simp [-List.map_set, go_sem, g15]) (Rn_some hF22)
     ·try simp [-List.map_set, go_sem, g15, h17]
      exact hj1 false _ (by simp [-List.map_set, go_sem, g15]) (Rn_some hF18)
    ·try simp [-List.map_set, go_sem, h13]
     exact hj1 false _ (by simp [-List.map_set, go_sem]) (Rn_some hF14)
   ·try simp [-List.map_set, go_sem, h9]
    exact hj1 false _ (by simp [-List.map_set, go_sem]) (Rn_some hF10)
noncomputable def F_spec_wGroup (a0 : Group) : Option (Bool) :=
  (((F_spec_l2Good a0).bind fun z7 =>
  if z7 = true then (
  some (decide (a0.Q ≤ 23))) else (
  some false) : Option (Bool)).bind fun (x5 : Bool) =>
  some x5)
theorem c_spec_wGroup {a0 : Group} {r : Bool} (hr : F_spec_wGroup a0 = some r) : PCalls Try.prog 48 [(.sh, .agg [.int .i64 a0.P, .int .i64 a0.Q, .int .i64 a0.G])] (Eo (.bool r) [.junk]) := by
  apply pcalls_lf 10 [] [] [] [.tmp 2] hr cl48 Try.func48 rfl rfl rfl
  · exact ⟨by simp, rfl⟩
  intro Φ hΦ hF
  unfold F_spec_wGroup at hF
  try simp [-List.map_set, go_sem]
  refine pw_wk ?_
  repeat rw [sq]
  refine pw_joinF (fun (x5 : Bool) => [(2, .v (.bool x5))]) hF ?_ ?_
  ·intro x5 hF6
   cases hΦ _ (Rn_some hF6)
   try simp [-List.map_set, go_sem]
  ·intro ψ3 hj1 hF4
   try simp [-List.map_set, go_sem]
   refine pw_cl hF4 [.sh] c_spec_l2Good rfl rfl (by (try simp [-List.map_set, go_sem, clE]); first | rfl | done) (by rfl) (by (try simp [-List.map_set, go_sem]); first | rfl | done) fun z7 hF8 => ⟨by simp [go_sem], ?_⟩
   try simp [-List.map_set, go_sem]
   refine pwg_F hF8 (fun h9 hF10 => ?_) fun h9 hF10 => ?_
   ·try simp [-List.map_set, go_sem, h9]
    exact hj1 (decide (a0.Q ≤ 23)) _ (by simp [-List.map_set, go_sem]) (Rn_some hF10)
   ·try simp [-List.map_set, go_sem, h9]
    exact hj1 false _ (by simp [-List.map_set, go_sem]) (Rn_some hF10)
noncomputable def F_spec_sGroup (a0 : Group) : Option (Bool) :=
  (((F_spec_l2Good a0).bind fun z7 =>
  if z7 = true then (
  some (decide (7 < a0.Q))) else (
  some false) : Option (Bool)).bind fun (x5 : Bool) =>
  some x5)
theorem c_spec_sGroup {a0 : Group} {r : Bool} (hr : F_spec_sGroup a0 = some r) : PCalls Try.prog 79 [(.sh, .agg [.int .i64 a0.P, .int .i64 a0.Q, .int .i64 a0.G])] (Eo (.bool r) [.junk]) := by
  apply pcalls_lf 10 [] [] [] [.tmp 2] hr cl79 Try.func79 rfl rfl rfl
  · exact ⟨by simp, rfl⟩
  intro Φ hΦ hF
  unfold F_spec_sGroup at hF
  try simp [-List.map_set, go_sem]
  refine pw_wk ?_
  repeat rw [sq]
  refine pw_joinF (fun (x5 : Bool) => [(2, .v (.bool x5))]) hF ?_ ?_
  ·intro x5 hF6
   cases hΦ _ (Rn_some hF6)
   try simp [-List.map_set, go_sem]
  ·intro ψ3 hj1 hF4
   try simp [-List.map_set, go_sem]
   refine pw_cl hF4 [.sh] c_spec_l2Good rfl rfl (by (try simp [-List.map_set, go_sem, clE]); first | rfl | done) (by rfl) (by (try simp [-List.map_set, go_sem]); first | rfl | done) fun z7 hF8 => ⟨by simp [go_sem], ?_⟩
   try simp [-List.map_set, go_sem]
   refine pwg_F hF8 (fun h9 hF10 => ?_) fun h9 hF10 => ?_
   ·try simp [-List.map_set, go_sem, h9]
    exact hj1 (decide (7 < a0.Q)) _ (by simp [-List.map_set, go_sem]) (Rn_some hF10)
   ·try simp [-List.map_set, go_sem, h9]
    exact hj1 false _ (by simp [-List.map_set, go_sem]) (Rn_some hF10)
noncomputable def F_spec_l1All (a0 : (List Int)) (a1 : Int) (a2 : Int) : Option (Bool) :=
  ((rloop (σ := Unit) (β := Unit ⊕ Bool) (fun i8 s7 =>
  (ix a0 i8).bind fun x17 =>
  (F_spec_l1In x17 a1 a2).bind fun z20 =>
  if (!z20) = true then (
  some (.out (.inr false))) else (
  some (.go ()))) (fun s7 => .inl ()) (a0.length) 0 () : Option (Unit ⊕ Bool)).bind (Sum.elim (fun (x5 : Unit) =>
  some true) some))
theorem c_spec_l1All {a0 : (List Int)} {a1 : Int} {a2 : Int} {r : Bool} (hr : F_spec_l1All a0 a1 a2 = some r) : PCalls Try.prog 111 [(.sh, .sl false 1 (a0.map row_i64)), (.sh, .int .i64 a1), (.sh, .int .i64 a2)] (Eo (.bool r) [.junk, .junk, .junk]) := by
  apply pcalls_lf 21 [] [] [] [.tmp 6] hr cl111 Try.func111 rfl rfl rfl
  · exact ⟨by simp, rfl⟩
  intro Φ hΦ hF
  unfold F_spec_l1All at hF
  iterate 2 (try simp [-List.map_set, go_sem]; try intros; refine pw_wk ?_)
  repeat rw [sq]
  refine pw_joinS (fun (x5 : Unit) => []) hF ?_ ?_
  ·intro x5 hF6
   cases hΦ _ (Rn_some hF6)
   try simp [-List.map_set, go_sem]
   refine pw_wk ?_
   try simp [-List.map_set, go_sem]
  ·intro ψ3 hj1 hr2 hF4
   repeat rw [sq]
   rw [pw_block]
   obtain ⟨b24, hb25, hψ11⟩ := hF4
   refine pw_rloop (fun (i8 : Int) (s7 : Unit) => [(1, .v (.int .i64 a1)), (2, .v (.int .i64 a2)), (9, .v (.sl false 1 (a0.map row_i64))), (10, .v (.int .i64 (a0.length : Int))), (11, .v (.int .i64 i8))]) hb25 (by simp [-List.map_set, go_sem]) ?_ ?_
   ·intro s7 N27 hN26
    subst hN26
    try simp [-List.map_set, go_sem]
    refine pw_wk ?_
    repeat rw [sq]
    refine pw_cond_f (by simp [-List.map_set, go_sem]) ?_
    try simp [-List.map_set, go_sem]
    exact hj1 () _ (by simp [-List.map_set, go_sem]) hψ11
   ·intro i8 s7 φ12 N13 hi15 hi16 ho9 hg10 hF14
    rw [Int.zero_add] at hi16
    try simp [-List.map_set, go_sem]
    refine pw_wk ?_
    repeat rw [sq]
    refine pw_cond_t (by simp [-List.map_set, go_sem, hi15, hi16]) ?_
    try simp [-List.map_set, go_sem]
    refine pw_wk ?_
    repeat rw [sq]
    rw [pw_block]
    obtain ⟨x17, g18, hF19⟩ := Rn_ix hF14
    try simp [-List.map_set, go_sem, g18]
    refine pw_wk ?_
    try simp [-List.map_set, go_sem, g18]
    refine pw_cl hF19 [.sh, .sh, .sh] c_spec_l1In rfl rfl (by (try simp [-List.map_set, go_sem, clE, g18]); first | rfl | done) (by rfl) (by (try simp [-List.map_set, go_sem, g18]); first | rfl | done) fun z20 hF21 => ⟨by simp [go_sem], ?_⟩
    try simp [-List.map_set, go_sem, g18]
    refine pw_wkK [1, 2, 9, 10, 11, 19] (by simp [-List.map_set, go_sem, g18]; rfl) ?_
    repeat rw [sq]
    refine pw_cF hF21 (by simp [-List.map_set, go_sem, g18]) (fun h22 hF23 => ?_) fun h22 hF23 => ?_
    ·cases ho9 _ (Rn_some hF23)
     cases hΦ _ (hr2 _ hψ11)
     try simp [-List.map_set, go_sem, g18]
     refine pw_wk ?_
     try simp [-List.map_set, go_sem, g18]
    ·try simp [-List.map_set, go_sem, g18]
     refine pw_wk ?_
     try simp [-List.map_set, go_sem, g18]
     exact hg10 () _ (by simp [-List.map_set, go_sem, g18, wr_i hi15 hi16 (by assumption)]) (Rn_some hF23)
noncomputable def F_spec_gExps (a0 : Group) (a1 : (List Int)) : Option (Bool) :=
  (F_spec_l1All a1 0 (IntKind.i64.wrap (a0.Q - 1))).bind fun z1 =>
  some z1
theorem c_spec_gExps {a0 : Group} {a1 : (List Int)} {r : Bool} (hr : F_spec_gExps a0 a1 = some r) : PCalls Try.prog 50 [(.sh, .agg [.int .i64 a0.P, .int .i64 a0.Q, .int .i64 a0.G]), (.sh, .sl false 1 (a1.map row_i64))] (Eo (.bool r) [.junk, .junk]) := by
  apply pcalls_lf 10 [] [] [] [.tmp 4] hr cl50 Try.func50 rfl rfl rfl
  · exact ⟨by simp, rfl⟩
  intro Φ hΦ hF
  unfold F_spec_gExps at hF
  try simp [-List.map_set, go_sem]
  refine pw_wk ?_
  try simp [-List.map_set, go_sem]
  refine pw_cl hF [.sh, .sh, .sh] c_spec_l1All rfl rfl (by (try simp [-List.map_set, go_sem, clE]); first | rfl | done) (by rfl) (by (try simp [-List.map_set, go_sem]); first | rfl | done) fun z1 hF2 => ⟨by simp [go_sem], ?_⟩
  cases hΦ _ (Rn_some hF2)
  try simp [-List.map_set, go_sem]
  refine pw_wk ?_
  try simp [-List.map_set, go_sem]
noncomputable def F_spec_l1Has (a0 : (List Int)) (a1 : Int) : Option (Bool) :=
  ((rloop (σ := Unit) (β := Unit ⊕ Bool) (fun i8 s7 =>
  (ix a0 i8).bind fun x17 =>
  if (x17 == a1) = true then (
  some (.out (.inr true))) else (
  some (.go ()))) (fun s7 => .inl ()) (a0.length) 0 () : Option (Unit ⊕ Bool)).bind (Sum.elim (fun (x5 : Unit) =>
  some false) some))
theorem c_spec_l1Has {a0 : (List Int)} {a1 : Int} {r : Bool} (hr : F_spec_l1Has a0 a1 = some r) : PCalls Try.prog 152 [(.sh, .sl false 1 (a0.map row_i64)), (.sh, .int .i64 a1)] (Eo (.bool r) [.junk, .junk]) := by
  apply pcalls_lf 17 [] [] [] [.tmp 4] hr cl152 Try.func152 rfl rfl rfl
  · exact ⟨by simp, rfl⟩
  intro Φ hΦ hF
  unfold F_spec_l1Has at hF
  iterate 2 (try simp [-List.map_set, go_sem]; try intros; refine pw_wk ?_)
  repeat rw [sq]
  refine pw_joinS (fun (x5 : Unit) => []) hF ?_ ?_
  ·intro x5 hF6
   cases hΦ _ (Rn_some hF6)
   try simp [-List.map_set, go_sem]
   refine pw_wk ?_
   try simp [-List.map_set, go_sem]
  ·intro ψ3 hj1 hr2 hF4
   repeat rw [sq]
   rw [pw_block]
   obtain ⟨b22, hb23, hψ11⟩ := hF4
   refine pw_rloop (fun (i8 : Int) (s7 : Unit) => [(1, .v (.int .i64 a1)), (7, .v (.sl false 1 (a0.map row_i64))), (8, .v (.int .i64 (a0.length : Int))), (9, .v (.int .i64 i8))]) hb23 (by simp [-List.map_set, go_sem]) ?_ ?_
   ·intro s7 N25 hN24
    subst hN24
    try simp [-List.map_set, go_sem]
    refine pw_wk ?_
    repeat rw [sq]
    refine pw_cond_f (by simp [-List.map_set, go_sem]) ?_
    try simp [-List.map_set, go_sem]
    exact hj1 () _ (by simp [-List.map_set, go_sem]) hψ11
   ·intro i8 s7 φ12 N13 hi15 hi16 ho9 hg10 hF14
    rw [Int.zero_add] at hi16
    try simp [-List.map_set, go_sem]
    refine pw_wk ?_
    repeat rw [sq]
    refine pw_cond_t (by simp [-List.map_set, go_sem, hi15, hi16]) ?_
    try simp [-List.map_set, go_sem]
    refine pw_wk ?_
    repeat rw [sq]
    rw [pw_block]
    obtain ⟨x17, g18, hF19⟩ := Rn_ix hF14
    try simp [-List.map_set, go_sem, g18]
    refine pw_wk ?_
    try simp [-List.map_set, go_sem, g18]
    refine pw_wkK [1, 7, 8, 9, 15] (by simp [-List.map_set, go_sem, g18]; rfl) ?_
    repeat rw [sq]
    refine pw_cF hF19 (by simp [-List.map_set, go_sem, g18]) (fun h20 hF21 => ?_) fun h20 hF21 => ?_
    ·cases ho9 _ (Rn_some hF21)
     cases hΦ _ (hr2 _ hψ11)
     try simp [-List.map_set, go_sem, g18]
     refine pw_wk ?_
     try simp [-List.map_set, go_sem, g18]
    ·try simp [-List.map_set, go_sem, g18]
     refine pw_wk ?_
     try simp [-List.map_set, go_sem, g18]
     exact hg10 () _ (by simp [-List.map_set, go_sem, g18, wr_i hi15 hi16 (by assumption)]) (Rn_some hF21)
noncomputable def F_spec_yPoints (a0 : (List Int)) : Option (Bool) :=
  ((rloop (σ := Unit) (β := Unit ⊕ Bool) (fun i8 s7 =>
  (ix a0 i8).bind fun x17 =>
  gd (0 ≤ i8) <|
  gd (0 ≤ i8.toNat ∧ i8.toNat ≤ a0.length) <|
  (F_spec_l1Has ((a0.take i8.toNat).drop 0) x17).bind fun z26 =>
  if z26 = true then (
  some (.out (.inr false))) else (
  some (.go ()))) (fun s7 => .inl ()) (a0.length) 0 () : Option (Unit ⊕ Bool)).bind (Sum.elim (fun (x5 : Unit) =>
  some true) some))
theorem c_spec_yPoints {a0 : (List Int)} {r : Bool} (hr : F_spec_yPoints a0 = some r) : PCalls Try.prog 129 [(.sh, .sl false 1 (a0.map row_i64))] (Eo (.bool r) [.junk]) := by
  apply pcalls_lf 18 [] [] [] [.tmp 2] hr cl129 Try.func129 rfl rfl rfl
  · exact ⟨by simp, rfl⟩
  intro Φ hΦ hF
  unfold F_spec_yPoints at hF
  iterate 2 (try simp [-List.map_set, go_sem]; try intros; refine pw_wk ?_)
  repeat rw [sq]
  refine pw_joinS (fun (x5 : Unit) => []) hF ?_ ?_
  ·intro x5 hF6
   cases hΦ _ (Rn_some hF6)
   try simp [-List.map_set, go_sem]
   refine pw_wk ?_
   try simp [-List.map_set, go_sem]
  ·intro ψ3 hj1 hr2 hF4
   repeat rw [sq]
   rw [pw_block]
   obtain ⟨b30, hb31, hψ11⟩ := hF4
   refine pw_rloop (fun (i8 : Int) (s7 : Unit) => [(0, .v (.sl false 1 (a0.map row_i64))), (5, .v (.sl false 1 (a0.map row_i64))), (6, .v (.int .i64 (a0.length : Int))), (7, .v (.int .i64 i8))]) hb31 (by simp [-List.map_set, go_sem]) ?_ ?_
   ·intro s7 N33 hN32
    subst hN32
    try simp [-List.map_set, go_sem]
    refine pw_wk ?_
    repeat rw [sq]
    refine pw_cond_f (by simp [-List.map_set, go_sem]) ?_
    try simp [-List.map_set, go_sem]
    exact hj1 () _ (by simp [-List.map_set, go_sem]) hψ11
   ·intro i8 s7 φ12 N13 hi15 hi16 ho9 hg10 hF14
    rw [Int.zero_add] at hi16
    try simp [-List.map_set, go_sem]
    refine pw_wk ?_
    repeat rw [sq]
    refine pw_cond_t (by simp [-List.map_set, go_sem, hi15, hi16]) ?_
    try simp [-List.map_set, go_sem]
    refine pw_wk ?_
    repeat rw [sq]
    rw [pw_block]
    obtain ⟨x17, g18, hF19⟩ := Rn_ix hF14
    try simp [-List.map_set, go_sem, g18]
    refine pw_wkK [0, 3, 4, 5, 6, 7] (by simp [-List.map_set, go_sem, g18]; rfl) ?_
    obtain ⟨g20, hF21⟩ := Rn_gd hF19
    have g22 := g20
    try simp at g22
    obtain ⟨g23, hF24⟩ := Rn_gd hF21
    have g25 := g23
    try simp at g25
    try simp [-List.map_set, go_sem, g18, g20, g22, g23, g25]
    refine pw_cl hF24 [.sh, .sh] c_spec_l1Has rfl rfl (by (try simp [-List.map_set, go_sem, clE, g18, g20, g22, g23, g25]); first | rfl | done) (by rfl) (by (try simp [-List.map_set, go_sem, g18, g20, g22, g23, g25]); first | rfl | done) fun z26 hF27 => ⟨by simp [go_sem], ?_⟩
    try simp [-List.map_set, go_sem, g18, g20, g22, g23, g25]
    refine pw_wk ?_
    repeat rw [sq]
    refine pw_cF hF27 (by simp [-List.map_set, go_sem, g18, g20, g22, g23, g25]) (fun h28 hF29 => ?_) fun h28 hF29 => ?_
    ·cases ho9 _ (Rn_some hF29)
     cases hΦ _ (hr2 _ hψ11)
     try simp [-List.map_set, go_sem, g18, g20, g22, g23, g25]
     refine pw_wk ?_
     try simp [-List.map_set, go_sem, g18, g20, g22, g23, g25]
    ·try simp [-List.map_set, go_sem, g18, g20, g22, g23, g25]
     refine pw_wk ?_
     try simp [-List.map_set, go_sem, g18, g20, g22, g23, g25]
     exact hg10 () _ (by simp [-List.map_set, go_sem, g18, g20, g22, g23, g25, wr_i hi15 hi16 (by assumption)]) (Rn_some hF29)
noncomputable def F_spec_wTrustees (a0 : (List Int)) : Option (Bool) :=
  (((F_spec_l1All a0 1 7).bind fun z7 =>
  if z7 = true then (
  (F_spec_yPoints a0).bind fun z11 =>
  some z11) else (
  some false) : Option (Bool)).bind fun (x5 : Bool) =>
  some x5)
theorem c_spec_wTrustees {a0 : (List Int)} {r : Bool} (hr : F_spec_wTrustees a0 = some r) : PCalls Try.prog 81 [(.sh, .sl false 1 (a0.map row_i64))] (Eo (.bool r) [.junk]) := by
  apply pcalls_lf 9 [] [] [] [.tmp 2] hr cl81 Try.func81 rfl rfl rfl
  · exact ⟨by simp, rfl⟩
  intro Φ hΦ hF
  unfold F_spec_wTrustees at hF
  try simp [-List.map_set, go_sem]
  refine pw_wk ?_
  repeat rw [sq]
  refine pw_joinF (fun (x5 : Bool) => [(2, .v (.bool x5))]) hF ?_ ?_
  ·intro x5 hF6
   cases hΦ _ (Rn_some hF6)
   try simp [-List.map_set, go_sem]
  ·intro ψ3 hj1 hF4
   try simp [-List.map_set, go_sem]
   refine pw_cl hF4 [.sh, .sh, .sh] c_spec_l1All rfl rfl (by (try simp [-List.map_set, go_sem, clE]); first | rfl | done) (by rfl) (by (try simp [-List.map_set, go_sem]); first | rfl | done) fun z7 hF8 => ⟨by simp [go_sem], ?_⟩
   try simp [-List.map_set, go_sem]
   refine pwg_F hF8 (fun h9 hF10 => ?_) fun h9 hF10 => ?_
   ·try simp [-List.map_set, go_sem, h9]
    refine pw_cl hF10 [.sh] c_spec_yPoints rfl rfl (by (try simp [-List.map_set, go_sem, clE]); first | rfl | done) (by rfl) (by (try simp [-List.map_set, go_sem]); first | rfl | done) fun z11 hF12 => ⟨by simp [go_sem], ?_⟩
    try simp [-List.map_set, go_sem, h9]
    exact hj1 z11 _ (by simp [-List.map_set, go_sem]) (Rn_some hF12)
   ·try simp [-List.map_set, go_sem, h9]
    exact hj1 false _ (by simp [-List.map_set, go_sem]) (Rn_some hF10)
noncomputable def F_spec_yEval (a0 : Int) (a1 : (List Int)) (a2 : Int) : Option (Int) :=
  ((wloop (σ := Int × Int) (β := Int) (fun s7 =>
  if decide (0 ≤ s7.2) = true then (
  (ix a1 s7.2).bind fun x17 =>
  gd (a0 ≠ 0) <|
  some (.go ((IntKind.i64.wrap ((IntKind.i64.wrap (s7.1 * a2)) + x17)).tmod a0, IntKind.i64.wrap (s7.2 - 1)))) else (
  some (.out s7.1))) (0, IntKind.i64.wrap ((a1.length : Int) - 1)) : Option (Int)).bind fun (x5 : Int) =>
  some x5)
theorem c_spec_yEval {a0 : Int} {a1 : (List Int)} {a2 : Int} {r : Int} (hr : F_spec_yEval a0 a1 a2 = some r) : PCalls Try.prog 108 [(.sh, .int .i64 a0), (.sh, .sl false 1 (a1.map row_i64)), (.sh, .int .i64 a2)] (Eo (.int .i64 r) [.junk, .junk, .junk]) := by
  apply pcalls_lf 27 [] [] [] [.tmp 6] hr cl108 Try.func108 rfl rfl rfl
  · exact ⟨by simp, rfl⟩
  intro Φ hΦ hF
  unfold F_spec_yEval at hF
  iterate 3 (try simp [-List.map_set, go_sem]; try intros; refine pw_wk ?_)
  repeat rw [sq]
  refine pw_joinF (fun (x5 : Int) => [(7, .v (.int .i64 x5))]) hF ?_ ?_
  ·intro x5 hF6
   cases hΦ _ (Rn_some hF6)
   try simp [-List.map_set, go_sem]
   refine pw_wk ?_
   try simp [-List.map_set, go_sem]
  ·intro ψ3 hj1 hF4
   repeat rw [sq]
   rw [pw_block]
   obtain ⟨b22, hb23, hψ11⟩ := hF4
   refine pw_wloop (fun (s7 : Int × Int) => [(0, .v (.int .i64 a0)), (1, .v (.sl false 1 (a1.map row_i64))), (2, .v (.int .i64 a2)), (7, .v (.int .i64 s7.1)), (8, .v (.int .i64 s7.2))]) hb23 (by simp [-List.map_set, go_sem]) ?_
   intro s7 φ12 N13 ho9 hg10 hF14
   try simp [-List.map_set, go_sem]
   refine pw_wk ?_
   repeat rw [sq]
   refine pw_cF hF14 (by simp [-List.map_set, go_sem]) (fun h15 hF16 => ?_) fun h15 hF16 => ?_
   ·try simp [-List.map_set, go_sem]
    refine pw_wk ?_
    repeat rw [sq]
    rw [pw_block]
    obtain ⟨x17, g18, hF19⟩ := Rn_ix hF16
    obtain ⟨g20, hF21⟩ := Rn_nz hF19
    try simp [-List.map_set, go_sem, g18, g20]
    refine pw_wkK [0, 1, 2, 7, 8] (by simp [-List.map_set, go_sem, g18, g20]; rfl) ?_
    try simp [-List.map_set, go_sem, g18, g20]
    exact hg10 ((IntKind.i64.wrap ((IntKind.i64.wrap (s7.1 * a2)) + x17)).tmod a0, IntKind.i64.wrap (s7.2 - 1)) _ (by simp [-List.map_set, go_sem, g18, g20]) (Rn_some hF21)
   ·try simp [-List.map_set, go_sem]
    cases ho9 _ (Rn_some hF16)
    exact hj1 s7.1 _ (by simp [-List.map_set, go_sem]) hψ11
noncomputable def F_spec_yAll (a0 : Int) (a1 : (List Int)) (a2 : (List Int)) : Option ((List Int)) :=
  ((rloop (σ := (List Int)) (β := (List Int)) (fun i8 s7 =>
  (ix a2 i8).bind fun x17 =>
  (F_spec_yEval a0 a1 x17).bind fun z20 =>
  gd ((s7.length + 1) * 8 ≤ 140737488355328 ∧ s7.length + 1 ≤ 4611686018427387904) <|
  some (.go (s7 ++ [z20]))) (fun s7 => s7) (a2.length) 0 [] : Option ((List Int))).bind fun (x5 : (List Int)) =>
  some x5)
theorem c_spec_yAll {a0 : Int} {a1 : (List Int)} {a2 : (List Int)} {r : (List Int)} (hr : F_spec_yAll a0 a1 a2 = some r) : PCalls Try.prog 83 [(.sh, .int .i64 a0), (.sh, .sl false 1 (a1.map row_i64)), (.sh, .sl false 1 (a2.map row_i64))] (Eo (.sl true 1 (r.map row_i64)) [.junk, .junk, .junk]) := by
  apply pcalls_lf 25 [] [] [] [.tmp 6] hr cl83 Try.func83 rfl rfl rfl
  · exact ⟨by simp, rfl⟩
  intro Φ hΦ hF
  unfold F_spec_yAll at hF
  iterate 3 (try simp [-List.map_set, go_sem]; try intros; refine pw_wk ?_)
  repeat rw [sq]
  refine pw_joinF (fun (x5 : (List Int)) => [(7, .v (.sl true 1 (x5.map row_i64)))]) hF ?_ ?_
  ·intro x5 hF6
   cases hΦ _ (Rn_some hF6)
   try simp [-List.map_set, go_sem]
   refine pw_wk ?_
   try simp [-List.map_set, go_sem]
  ·intro ψ3 hj1 hF4
   repeat rw [sq]
   rw [pw_block]
   obtain ⟨b25, hb26, hψ11⟩ := hF4
   refine pw_rloop (fun (i8 : Int) (s7 : (List Int)) => [(0, .v (.int .i64 a0)), (1, .v (.sl false 1 (a1.map row_i64))), (7, .v (.sl true 1 (s7.map row_i64))), (10, .v (.sl false 1 (a2.map row_i64))), (11, .v (.int .i64 (a2.length : Int))), (12, .v (.int .i64 i8))]) hb26 (by simp [-List.map_set, go_sem]) ?_ ?_
   ·intro s7 N28 hN27
    subst hN27
    try simp [-List.map_set, go_sem]
    refine pw_wk ?_
    repeat rw [sq]
    refine pw_cond_f (by simp [-List.map_set, go_sem]) ?_
    try simp [-List.map_set, go_sem]
    exact hj1 s7 _ (by simp [-List.map_set, go_sem]) hψ11
   ·intro i8 s7 φ12 N13 hi15 hi16 ho9 hg10 hF14
    rw [Int.zero_add] at hi16
    try simp [-List.map_set, go_sem]
    refine pw_wk ?_
    repeat rw [sq]
    refine pw_cond_t (by simp [-List.map_set, go_sem, hi15, hi16]) ?_
    try simp [-List.map_set, go_sem]
    refine pw_wk ?_
    repeat rw [sq]
    rw [pw_block]
    obtain ⟨x17, g18, hF19⟩ := Rn_ix hF14
    try simp [-List.map_set, go_sem, g18]
    refine pw_wk ?_
    try simp [-List.map_set, go_sem, g18]
    refine pw_cl hF19 [.sh, .sh, .sh] c_spec_yEval rfl rfl (by (try simp [-List.map_set, go_sem, clE, g18]); first | rfl | done) (by rfl) (by (try simp [-List.map_set, go_sem, g18]); first | rfl | done) fun z20 hF21 => ⟨by simp [go_sem], ?_⟩
    obtain ⟨g22, hF23⟩ := Rn_gd hF21
    have g24 := g22
    try simp at g24
    try simp [-List.map_set, go_sem, g18, g22, g24]
    refine pw_wkK [0, 1, 7, 10, 11, 12] (by simp [-List.map_set, go_sem, g18, g22, g24]; rfl) ?_
    try simp [-List.map_set, go_sem, g18, g22, g24]
    exact hg10 (s7 ++ [z20]) _ (by simp [-List.map_set, go_sem, g18, g22, g24, wr_i hi15 hi16 (by assumption)]) (Rn_some hF23)
noncomputable def F_spec_wLess (a0 : (List Int)) (a1 : (List Int)) : Option (Bool) :=
  ((rloop (σ := Unit) (β := Unit ⊕ Bool) (fun i8 s7 =>
  if (i8 == (a1.length : Int)) = true then (
  some (.out (.inr false))) else (
  (ix a0 i8).bind fun x19 =>
  (ix a1 i8).bind fun x22 =>
  if (x19 != x22) = true then (
  some (.out (.inr (decide (x19 < x22))))) else (
  some (.go ())))) (fun s7 => .inl ()) (a0.length) 0 () : Option (Unit ⊕ Bool)).bind (Sum.elim (fun (x5 : Unit) =>
  some (decide ((a0.length : Int) < (a1.length : Int)))) some))
theorem c_spec_wLess {a0 : (List Int)} {a1 : (List Int)} {r : Bool} (hr : F_spec_wLess a0 a1 = some r) : PCalls Try.prog 112 [(.sh, .sl false 1 (a0.map row_i64)), (.sh, .sl false 1 (a1.map row_i64))] (Eo (.bool r) [.junk, .junk]) := by
  apply pcalls_lf 39 [] [] [] [.tmp 4] hr cl112 Try.func112 rfl rfl rfl
  · exact ⟨by simp, rfl⟩
  intro Φ hΦ hF
  unfold F_spec_wLess at hF
  iterate 2 (try simp [-List.map_set, go_sem]; try intros; refine pw_wk ?_)
  repeat rw [sq]
  refine pw_joinS (fun (x5 : Unit) => [(0, .v (.sl false 1 (a0.map row_i64))), (1, .v (.sl false 1 (a1.map row_i64)))]) hF ?_ ?_
  ·intro x5 hF6
   try simp [-List.map_set, go_sem]
   try intros
   refine pw_wkK [4] (by simp [-List.map_set, go_sem]; rfl) ?_
   cases hΦ _ (Rn_some hF6)
   try simp [-List.map_set, go_sem]
  ·intro ψ3 hj1 hr2 hF4
   repeat rw [sq]
   rw [pw_block]
   obtain ⟨b27, hb28, hψ11⟩ := hF4
   refine pw_rloop (fun (i8 : Int) (s7 : Unit) => [(0, .v (.sl false 1 (a0.map row_i64))), (1, .v (.sl false 1 (a1.map row_i64))), (7, .v (.int .i64 (a0.length : Int))), (8, .v (.int .i64 i8))]) hb28 (by simp [-List.map_set, go_sem]) ?_ ?_
   ·intro s7 N30 hN29
    subst hN29
    try simp [-List.map_set, go_sem]
    refine pw_wk ?_
    repeat rw [sq]
    refine pw_cond_f (by simp [-List.map_set, go_sem]) ?_
    try simp [-List.map_set, go_sem]
    exact hj1 () _ (by simp [-List.map_set, go_sem]) hψ11
   ·intro i8 s7 φ12 N13 hi15 hi16 ho9 hg10 hF14
    rw [Int.zero_add] at hi16
    try simp [-List.map_set, go_sem]
    refine pw_wk ?_
    repeat rw [sq]
    refine pw_cond_t (by simp [-List.map_set, go_sem, hi15, hi16]) ?_
    try simp [-List.map_set, go_sem]
    refine pw_wk ?_
    repeat rw [sq]
    rw [pw_block]
    try simp [-List.map_set, go_sem]
    try intros
    refine pw_wk ?_
    try simp [-List.map_set, go_sem]
    try intros
    refine pw_wkK [0, 1, 5, 7, 8, 14] (by simp [-List.map_set, go_sem]; rfl) ?_
    repeat rw [sq]
    refine pw_cF hF14 (by simp [-List.map_set, go_sem]) (fun h17 hF18 => ?_) fun h17 hF18 => ?_
    ·cases ho9 _ (Rn_some hF18)
     cases hΦ _ (hr2 _ hψ11)
     try simp [-List.map_set, go_sem]
     refine pw_wk ?_
     try simp [-List.map_set, go_sem]
    ·try simp [-List.map_set, go_sem]
     refine pw_wk ?_
     repeat rw [sq]
     refine pw_draw D112_6 follows (by kernel_rfl) rfl ?_
     try simp only [go_sem, D112_6]
     obtain ⟨x19, g20, hF21⟩ := Rn_ix hF18
     obtain ⟨x22, g23, hF24⟩ := Rn_ix hF21
     try simp [-List.map_set, go_sem, g20, g23]
     refine pw_wk ?_
     repeat rw [sq]
     refine pw_cF hF24 (by simp [-List.map_set, go_sem, g20, g23]) (fun h25 hF26 => ?_) fun h25 hF26 => ?_
     ·repeat rw [sq]
      refine pw_draw D112_7 follows (by kernel_rfl) rfl ?_
      try simp only [go_sem, D112_7]
      try simp [-List.map_set, go_sem, g20, g23]
      refine pw_wkK [4] (by simp [-List.map_set, go_sem, g20, g23]; rfl) ?_
      cases ho9 _ (Rn_some hF26)
      cases hΦ _ (hr2 _ hψ11)
      try simp [-List.map_set, go_sem, g20, g23]
     ·try simp [-List.map_set, go_sem, g20, g23]
      refine pw_wk ?_
      try simp [-List.map_set, go_sem, g20, g23]
      exact hg10 () _ (by simp [-List.map_set, go_sem, g20, g23, wr_i hi15 hi16 (by assumption)]) (Rn_some hF26)
noncomputable def F_spec_l1Same (a0 : (List Int)) (a1 : (List Int)) : Option (Bool) :=
  if ((a0.length : Int) != (a1.length : Int)) = true then (
  some false) else (
  ((rloop (σ := Unit) (β := Unit ⊕ Bool) (fun i10 s9 =>
  (ix a0 i10).bind fun x19 =>
  (ix a1 i10).bind fun x22 =>
  if (x19 != x22) = true then (
  some (.out (.inr false))) else (
  some (.go ()))) (fun s9 => .inl ()) (a0.length) 0 () : Option (Unit ⊕ Bool)).bind (Sum.elim (fun (x7 : Unit) =>
  some true) some)))
theorem c_spec_l1Same {a0 : (List Int)} {a1 : (List Int)} {r : Bool} (hr : F_spec_l1Same a0 a1 = some r) : PCalls Try.prog 113 [(.sh, .sl false 1 (a0.map row_i64)), (.sh, .sl false 1 (a1.map row_i64))] (Eo (.bool r) [.junk, .junk]) := by
  apply pcalls_lf 26 [] [] [] [.tmp 4] hr cl113 Try.func113 rfl rfl rfl
  · exact ⟨by simp, rfl⟩
  intro Φ hΦ hF
  unfold F_spec_l1Same at hF
  iterate 2 (try simp [-List.map_set, go_sem]; try intros; refine pw_wk ?_)
  repeat rw [sq]
  refine pw_cF hF (by simp [-List.map_set, go_sem]) (fun h1 hF2 => ?_) fun h1 hF2 => ?_
  ·cases hΦ _ (Rn_some hF2)
   try simp [-List.map_set, go_sem]
   refine pw_wk ?_
   try simp [-List.map_set, go_sem]
  ·iterate 2 (try simp [-List.map_set, go_sem]; try intros; refine pw_wk ?_)
   repeat rw [sq]
   refine pw_joinS (fun (x7 : Unit) => []) hF2 ?_ ?_
   ·intro x7 hF8
    try simp [-List.map_set, go_sem]
    refine pw_wkK [4] (by simp [-List.map_set, go_sem]; rfl) ?_
    cases hΦ _ (Rn_some hF8)
    try simp [-List.map_set, go_sem]
   ·intro ψ5 hj3 hr4 hF6
    repeat rw [sq]
    rw [pw_block]
    obtain ⟨b27, hb28, hψ13⟩ := hF6
    refine pw_rloop (fun (i10 : Int) (s9 : Unit) => [(0, .v (.sl false 1 (a0.map row_i64))), (1, .v (.sl false 1 (a1.map row_i64))), (12, .v (.int .i64 (a0.length : Int))), (13, .v (.int .i64 i10))]) hb28 (by simp [-List.map_set, go_sem]) ?_ ?_
    ·intro s9 N30 hN29
     subst hN29
     try simp [-List.map_set, go_sem]
     refine pw_wk ?_
     repeat rw [sq]
     refine pw_cond_f (by simp [-List.map_set, go_sem]) ?_
     try simp [-List.map_set, go_sem]
     exact hj3 () _ (by simp [-List.map_set, go_sem]) hψ13
    ·intro i10 s9 φ14 N15 hi17 hi18 ho11 hg12 hF16
     rw [Int.zero_add] at hi18
     try simp [-List.map_set, go_sem]
     refine pw_wkK [0, 1, 12, 13, 14] (by simp [-List.map_set, go_sem]; rfl) ?_
     repeat rw [sq]
     refine pw_cond_t (by simp [-List.map_set, go_sem, hi17, hi18]) ?_
     try simp [-List.map_set, go_sem]
     refine pw_wk ?_
     repeat rw [sq]
     rw [pw_block]
     try simp [-List.map_set, go_sem]
     refine pw_wk ?_
     repeat rw [sq]
     refine pw_draw D113_6 follows (by kernel_rfl) rfl ?_
     try simp only [go_sem, D113_6]
     obtain ⟨x19, g20, hF21⟩ := Rn_ix hF16
     obtain ⟨x22, g23, hF24⟩ := Rn_ix hF21
     try simp [-List.map_set, go_sem, g20, g23]
     refine pw_wkK [0, 1, 12, 13, 24] (by simp [-List.map_set, go_sem, g20, g23]; rfl) ?_
     repeat rw [sq]
     refine pw_cF hF24 (by simp [-List.map_set, go_sem, g20, g23]) (fun h25 hF26 => ?_) fun h25 hF26 => ?_
     ·cases ho11 _ (Rn_some hF26)
      cases hΦ _ (hr4 _ hψ13)
      try simp [-List.map_set, go_sem, g20, g23]
      refine pw_wk ?_
      try simp [-List.map_set, go_sem, g20, g23]
     ·try simp [-List.map_set, go_sem, g20, g23]
      refine pw_wk ?_
      try simp [-List.map_set, go_sem, g20, g23]
      exact hg12 () _ (by simp [-List.map_set, go_sem, g20, g23, wr_i hi17 hi18 (by assumption)]) (Rn_some hF26)
noncomputable def F_spec_l1Own (a0 : (List Int)) : Option ((List Int)) :=
  gd (a0.length * 8 ≤ 140737488355328 ∧ a0.length ≤ 4611686018427387904) <|
  some a0
theorem c_spec_l1Own {a0 : (List Int)} {r : (List Int)} (hr : F_spec_l1Own a0 = some r) : PCalls Try.prog 114 [(.sh, .sl false 1 (a0.map row_i64))] (Eo (.sl true 1 (r.map row_i64)) [.junk]) := by
  apply pcalls_lf 6 [] [] [] [.tmp 2] hr cl114 Try.func114 rfl rfl rfl
  · exact ⟨by simp, rfl⟩
  intro Φ hΦ hF
  unfold F_spec_l1Own at hF
  obtain ⟨g1, hF2⟩ := Rn_gd hF
  have g3 := g1
  try simp at g3
  cases hΦ _ (Rn_some hF2)
  iterate 2 (try simp [-List.map_set, go_sem, g1, g3]; refine pw_wk ?_)
  try simp [-List.map_set, go_sem, g1, g3]
noncomputable def F_spec_wAdd__mv0 (a0 : (List ViewCount)) (a1 : (List Int)) (a2 : Int) : Option ((List ViewCount)) :=
  ((wloop (σ := Int × Int) (β := Int) (fun s7 =>
  if decide (s7.1 < s7.2) = true then (
  (ix a0 (IntKind.i64.wrap ((IntKind.i64.wrap (s7.1 + s7.2)).tdiv 2))).bind fun x18 =>
  (F_spec_wLess x18.View a1).bind fun z21 =>
  if z21 = true then (
  some (.go (IntKind.i64.wrap ((IntKind.i64.wrap ((IntKind.i64.wrap (s7.1 + s7.2)).tdiv 2)) + 1), s7.2))) else (
  some (.go (s7.1, IntKind.i64.wrap ((IntKind.i64.wrap (s7.1 + s7.2)).tdiv 2))))) else (
  some (.out s7.1))) (0, (a0.length : Int)) : Option (Int)).bind fun (x5 : Int) =>
  ((if decide (x5 < (a0.length : Int)) = true then (
  (ix a0 x5).bind fun x35 =>
  (F_spec_l1Same x35.View a1).bind fun z38 =>
  some z38) else (
  some false) : Option (Bool)).bind fun (x31 : Bool) =>
  if x31 = true then (
  (ix a0 x5).bind fun x42 =>
  some (a0.set x5.toNat (ViewCount.mk x42.View (IntKind.i64.wrap (x42.Times + a2))))) else (
  gd ((a0.length + 1) * 32 ≤ 140737488355328 ∧ a0.length + 1 ≤ 4611686018427387904) <|
  ((wloop (σ := (List ViewCount) × Int) (β := (List ViewCount)) (fun s70 =>
  if decide (x5 < s70.2) = true then (
  (ix s70.1 (IntKind.i64.wrap (s70.2 - 1))).bind fun x80 =>
  (ix s70.1 s70.2).bind fun x83 =>
  some (.go (s70.1.set s70.2.toNat x80, IntKind.i64.wrap (s70.2 - 1)))) else (
  some (.out s70.1))) (a0 ++ [(ViewCount.mk [] 0)], IntKind.i64.wrap (((a0 ++ [(ViewCount.mk [] 0)]).length : Int) - 1)) : Option ((List ViewCount))).bind fun (x52 : (List ViewCount)) =>
  (F_spec_l1Own a1).bind fun z88 =>
  (ix x52 x5).bind fun x90 =>
  some (x52.set x5.toNat (ViewCount.mk z88 a2))))))
theorem c_spec_wAdd__mv0 {a0 : (List ViewCount)} {a1 : (List Int)} {a2 : Int} {r : (List ViewCount)} (hr : F_spec_wAdd__mv0 a0 a1 a2 = some r) : PCalls Try.prog 51 [(.mv, .sl true 2 (a0.map row_ViewCount_z)), (.sh, .sl false 1 (a1.map row_i64)), (.sh, .int .i64 a2)] (Eo (.sl true 2 (r.map row_ViewCount_z)) [.junk, .junk, .junk]) := by
  apply pcalls_lf 88 [] [61, 85] [] [.tmp 6] hr cl51 Try.func51 rfl rfl rfl
  · exact ⟨by simp, rfl⟩
  intro Φ hΦ hF
  unfold F_spec_wAdd__mv0 at hF
  iterate 2 (try simp [-List.map_set, go_sem]; try intros; refine pw_wk ?_)
  repeat rw [sq]
  refine pw_joinF (fun (x5 : Int) => [(0, .v (.sl true 2 (a0.map row_ViewCount_z))), (1, .v (.sl false 1 (a1.map row_i64))), (2, .v (.int .i64 a2)), (7, .v (.int .i64 x5))]) hF ?_ ?_
  ·intro x5 hF6
   repeat rw [sq]
   refine pw_joinF (fun (x31 : Bool) => [(0, .v (.sl true 2 (a0.map row_ViewCount_z))), (1, .v (.sl false 1 (a1.map row_i64))), (2, .v (.int .i64 a2)), (7, .v (.int .i64 x5)), (42, .v (.bool x31))]) hF6 ?_ ?_
   ·intro x31 hF32
    repeat rw [sq]
    refine pw_cF hF32 (by simp [-List.map_set, go_sem]) (fun h40 hF41 => ?_) fun h40 hF41 => ?_
    ·repeat rw [sq]
     refine pw_draw D51_8 follows (by kernel_rfl) rfl ?_
     try simp only [go_sem, D51_8]
     obtain ⟨x42, g43, hF44⟩ := Rn_ix hF41
     try simp [-List.map_set, go_sem, g43]
     refine pw_wkK [0] (by simp [-List.map_set, go_sem, g43]; rfl) ?_
     cases hΦ _ (Rn_some hF44)
     try simp [-List.map_set, go_sem, g43]
     refine pw_wk ?_
     try simp [-List.map_set, go_sem, g43]
    ·obtain ⟨g45, hF46⟩ := Rn_gd hF41
     have g47 := g45
     try simp at g47
     try simp [-List.map_set, go_sem, g45, g47]
     refine pw_wk ?_
     try simp [-List.map_set, go_sem, g45, g47]
     refine pw_wkK [0, 1, 2, 7] (by simp [-List.map_set, go_sem, g45, g47]; rfl) ?_
     try simp [-List.map_set, go_sem, g45, g47]
     try intros
     refine pw_wk ?_
     repeat rw [sq]
     refine pw_joinF (fun (x52 : (List ViewCount)) => [(0, .v (.sl true 2 (x52.map row_ViewCount_z))), (1, .v (.sl false 1 (a1.map row_i64))), (2, .v (.int .i64 a2)), (7, .v (.int .i64 x5))]) hF46 ?_ ?_
     ·intro x52 hF53
      try simp [-List.map_set, go_sem, g45, g47]
      refine pw_cl hF53 [.sh] c_spec_l1Own rfl rfl (by (try simp [-List.map_set, go_sem, clE, g45, g47]); first | rfl | done) (by rfl) (by (try simp [-List.map_set, go_sem, g45, g47]); first | rfl | done) fun z88 hF89 => ⟨by simp [go_sem], ?_⟩
      obtain ⟨x90, g91, hF92⟩ := Rn_ix hF89
      try simp [-List.map_set, go_sem, g45, g47, g91]
      refine pw_wkK [0] (by simp [-List.map_set, go_sem, g45, g47, g91]; rfl) ?_
      cases hΦ _ (Rn_some hF92)
      try simp [-List.map_set, go_sem, g45, g47, g91]
      refine pw_wk ?_
      try simp [-List.map_set, go_sem, g45, g47, g91]
     ·intro ψ50 hj48 hF51
      repeat rw [sq]
      rw [pw_block]
      obtain ⟨b86, hb87, hψ74⟩ := hF51
      refine pw_wloop (fun (s70 : (List ViewCount) × Int) => [(0, .v (.sl true 2 (s70.1.map row_ViewCount_z))), (1, .v (.sl false 1 (a1.map row_i64))), (2, .v (.int .i64 a2)), (7, .v (.int .i64 x5)), (10, .v (.int .i64 s70.2))]) hb87 (by simp [-List.map_set, go_sem, g45, g47]) ?_
      intro s70 φ75 N76 ho72 hg73 hF77
      try simp [-List.map_set, go_sem, g45, g47]
      refine pw_wk ?_
      repeat rw [sq]
      refine pw_cF hF77 (by simp [-List.map_set, go_sem, g45, g47]) (fun h78 hF79 => ?_) fun h78 hF79 => ?_
      ·try simp [-List.map_set, go_sem, g45, g47]
       refine pw_wk ?_
       repeat rw [sq]
       rw [pw_block]
       obtain ⟨x80, g81, hF82⟩ := Rn_ix hF79
       obtain ⟨x83, g84, hF85⟩ := Rn_ix hF82
       try simp [-List.map_set, go_sem, g45, g47, g81, g84]
       refine pw_wkK [0, 1, 2, 7, 10] (by simp [-List.map_set, go_sem, g45, g47, g81, g84]; rfl) ?_
       try simp [-List.map_set, go_sem, g45, g47, g81, g84]
       exact hg73 (s70.1.set s70.2.toNat x80, IntKind.i64.wrap (s70.2 - 1)) _ (by simp [-List.map_set, go_sem, g45, g47, g81, g84]) (Rn_some hF85)
      ·try simp [-List.map_set, go_sem, g45, g47]
       cases ho72 _ (Rn_some hF79)
       exact hj48 s70.1 _ (by simp [-List.map_set, go_sem, g45, g47]) hψ74
   ·intro ψ29 hj27 hF30
    try simp [-List.map_set, go_sem]
    try intros
    refine pwg_F hF30 (fun h33 hF34 => ?_) fun h33 hF34 => ?_
    ·obtain ⟨x35, g36, hF37⟩ := Rn_ix hF34
     try simp [-List.map_set, go_sem, g36, h33]
     refine pw_cl hF37 [.sh, .sh] c_spec_l1Same rfl rfl (by (try simp [-List.map_set, go_sem, clE, g36]); first | rfl | done) (by rfl) (by (try simp [-List.map_set, go_sem, g36]); first | rfl | done) fun z38 hF39 => ⟨by simp [go_sem], ?_⟩
     try simp [-List.map_set, go_sem, g36, h33]
     exact hj27 z38 _ (by simp [-List.map_set, go_sem, g36]) (Rn_some hF39)
    ·try simp [-List.map_set, go_sem, h33]
     exact hj27 false _ (by simp [-List.map_set, go_sem]) (Rn_some hF34)
  ·intro ψ3 hj1 hF4
   repeat rw [sq]
   rw [pw_block]
   obtain ⟨b25, hb26, hψ11⟩ := hF4
   refine pw_wloop (fun (s7 : Int × Int) => [(0, .v (.sl true 2 (a0.map row_ViewCount_z))), (1, .v (.sl false 1 (a1.map row_i64))), (2, .v (.int .i64 a2)), (7, .v (.int .i64 s7.1)), (8, .v (.int .i64 s7.2))]) hb26 (by simp [-List.map_set, go_sem]) ?_
   intro s7 φ12 N13 ho9 hg10 hF14
   try simp [-List.map_set, go_sem]
   refine pw_wk ?_
   repeat rw [sq]
   refine pw_cF hF14 (by simp [-List.map_set, go_sem]) (fun h15 hF16 => ?_) fun h15 hF16 => ?_
   ·try simp [-List.map_set, go_sem]
    refine pw_wk ?_
    repeat rw [sq]
    rw [pw_block]
    have g17 := fun x => divV_ne (b := 2) (x := x) (by decide)
    try simp [-List.map_set, go_sem, g17]
    refine pw_wkK [0, 1, 2, 7, 8, 9] (by simp [-List.map_set, go_sem, g17]; rfl) ?_
    obtain ⟨x18, g19, hF20⟩ := Rn_ix hF16
    try simp [-List.map_set, go_sem, g17, g19]
    refine pw_cl hF20 [.sh, .sh] c_spec_wLess rfl rfl (by (try simp [-List.map_set, go_sem, clE, g17, g19]); first | rfl | done) (by rfl) (by (try simp [-List.map_set, go_sem, g17, g19]); first | rfl | done) fun z21 hF22 => ⟨by simp [go_sem], ?_⟩
    try simp [-List.map_set, go_sem, g17, g19]
    refine pw_wk ?_
    repeat rw [sq]
    refine pw_cF hF22 (by simp [-List.map_set, go_sem, g17, g19]) (fun h23 hF24 => ?_) fun h23 hF24 => ?_
    ·try simp [-List.map_set, go_sem, g17, g19]
     exact hg10 (IntKind.i64.wrap ((IntKind.i64.wrap ((IntKind.i64.wrap (s7.1 + s7.2)).tdiv 2)) + 1), s7.2) _ (by simp [-List.map_set, go_sem, g17, g19]) (Rn_some hF24)
    ·try simp [-List.map_set, go_sem, g17, g19]
     exact hg10 (s7.1, IntKind.i64.wrap ((IntKind.i64.wrap (s7.1 + s7.2)).tdiv 2)) _ (by simp [-List.map_set, go_sem, g17, g19]) (Rn_some hF24)
   ·try simp [-List.map_set, go_sem]
    cases ho9 _ (Rn_some hF16)
    exact hj1 s7.1 _ (by simp [-List.map_set, go_sem]) hψ11
noncomputable def F_spec_sNext__io0 (a0 : (List Int)) (a1 : Int) : Option (Bool × (List Int)) :=
  ((wloop (σ := (List Int) × Int) (β := (List Int) ⊕ (Bool × (List Int))) (fun s22 =>
  if decide (0 ≤ s22.2) = true then (
  (ix s22.1 s22.2).bind fun x32 =>
  if decide (x32 < (IntKind.i64.wrap (a1 - 1))) = true then (
  some (.out (.inr (true, s22.1.set s22.2.toNat (IntKind.i64.wrap (x32 + 1)))))) else (
  some (.go (s22.1.set s22.2.toNat 0, IntKind.i64.wrap (s22.2 - 1))))) else (
  some (.out (.inl s22.1)))) (a0, IntKind.i64.wrap ((a0.length : Int) - 1)) : Option ((List Int) ⊕ (Bool × (List Int)))).bind (Sum.elim (fun (x5 : (List Int)) =>
  some (false, x5)) some))
theorem c_spec_sNext__io0 {a0 : (List Int)} {a1 : Int} {r : Bool × (List Int)} (hr : F_spec_sNext__io0 a0 a1 = some r) : PCalls Try.prog 82 [(.io, .sl true 1 (a0.map row_i64)), (.sh, .int .i64 a1)] (Eo (.bool r.1) [.sl true 1 (r.2.map row_i64), .junk]) := by
  apply pcalls_lf 29 [0] [] [] [.tmp 4] hr cl82 Try.func82 rfl rfl rfl
  · exact ⟨by simp, rfl⟩
  intro Φ hΦ hF
  unfold F_spec_sNext__io0 at hF
  iterate 2 (try simp [-List.map_set, go_sem]; try intros; refine pw_wk ?_)
  repeat rw [sq]
  refine pw_joinS (fun (x5 : (List Int)) => [(0, .v (.sl true 1 (x5.map row_i64)))]) hF ?_ ?_
  ·intro x5 hF6
   cases hΦ _ (Rn_some hF6)
   try simp [-List.map_set, go_sem]
   refine pw_wk ?_
   try simp [-List.map_set, go_sem]
  ·intro ψ3 hj1 hr2 hF4
   repeat rw [sq]
   rw [pw_block]
   obtain ⟨b37, hb38, hψ26⟩ := hF4
   refine pw_wloop (fun (s22 : (List Int) × Int) => [(0, .v (.sl true 1 (s22.1.map row_i64))), (1, .v (.int .i64 a1)), (5, .v (.int .i64 s22.2))]) hb38 (by simp [-List.map_set, go_sem]) ?_
   intro s22 φ27 N28 ho24 hg25 hF29
   try simp [-List.map_set, go_sem]
   refine pw_wk ?_
   repeat rw [sq]
   refine pw_cF hF29 (by simp [-List.map_set, go_sem]) (fun h30 hF31 => ?_) fun h30 hF31 => ?_
   ·try simp [-List.map_set, go_sem]
    refine pw_wk ?_
    repeat rw [sq]
    rw [pw_block]
    obtain ⟨x32, g33, hF34⟩ := Rn_ix hF31
    try simp [-List.map_set, go_sem, g33]
    refine pw_wkK [0, 1, 5, 19] (by simp [-List.map_set, go_sem, g33]; rfl) ?_
    repeat rw [sq]
    refine pw_cF hF34 (by simp [-List.map_set, go_sem, g33]) (fun h35 hF36 => ?_) fun h35 hF36 => ?_
    ·cases ho24 _ (Rn_some hF36)
     cases hΦ _ (hr2 _ hψ26)
     iterate 2 (try simp [-List.map_set, go_sem, g33]; refine pw_wk ?_)
     try simp [-List.map_set, go_sem, g33]
    ·iterate 2 (try simp [-List.map_set, go_sem, g33]; refine pw_wk ?_)
     try simp [-List.map_set, go_sem, g33]
     exact hg25 (s22.1.set s22.2.toNat 0, IntKind.i64.wrap (s22.2 - 1)) _ (by simp [-List.map_set, go_sem, g33]) (Rn_some hF36)
   ·try simp [-List.map_set, go_sem]
    cases ho24 _ (Rn_some hF31)
    exact hj1 s22.1 _ (by simp [-List.map_set, go_sem]) hψ26
noncomputable def F_spec_wSum (a0 : (List ViewCount)) : Option (Int) :=
  ((rloop (σ := Int) (β := Int) (fun i8 s7 =>
  (ix a0 i8).bind fun x17 =>
  some (.go (IntKind.i64.wrap (s7 + x17.Times)))) (fun s7 => s7) (a0.length) 0 0 : Option (Int)).bind fun (x5 : Int) =>
  some x5)
theorem c_spec_wSum {a0 : (List ViewCount)} {r : Int} (hr : F_spec_wSum a0 = some r) : PCalls Try.prog 71 [(.sh, .sl false 2 (a0.map row_ViewCount_z))] (Eo (.int .i64 r) [.junk]) := by
  apply pcalls_lf 18 [] [] [] [.tmp 2] hr cl71 Try.func71 rfl rfl rfl
  · exact ⟨by simp, rfl⟩
  intro Φ hΦ hF
  unfold F_spec_wSum at hF
  iterate 3 (try simp [-List.map_set, go_sem]; try intros; refine pw_wk ?_)
  repeat rw [sq]
  refine pw_joinF (fun (x5 : Int) => [(3, .v (.int .i64 x5))]) hF ?_ ?_
  ·intro x5 hF6
   cases hΦ _ (Rn_some hF6)
   try simp [-List.map_set, go_sem]
   refine pw_wk ?_
   try simp [-List.map_set, go_sem]
  ·intro ψ3 hj1 hF4
   repeat rw [sq]
   rw [pw_block]
   obtain ⟨b20, hb21, hψ11⟩ := hF4
   refine pw_rloop (fun (i8 : Int) (s7 : Int) => [(3, .v (.int .i64 s7)), (6, .v (.sl false 2 (a0.map row_ViewCount_z))), (7, .v (.int .i64 (a0.length : Int))), (8, .v (.int .i64 i8))]) hb21 (by simp [-List.map_set, go_sem]) ?_ ?_
   ·intro s7 N23 hN22
    subst hN22
    try simp [-List.map_set, go_sem]
    refine pw_wk ?_
    repeat rw [sq]
    refine pw_cond_f (by simp [-List.map_set, go_sem]) ?_
    try simp [-List.map_set, go_sem]
    exact hj1 s7 _ (by simp [-List.map_set, go_sem]) hψ11
   ·intro i8 s7 φ12 N13 hi15 hi16 ho9 hg10 hF14
    rw [Int.zero_add] at hi16
    try simp [-List.map_set, go_sem]
    refine pw_wk ?_
    repeat rw [sq]
    refine pw_cond_t (by simp [-List.map_set, go_sem, hi15, hi16]) ?_
    try simp [-List.map_set, go_sem]
    refine pw_wk ?_
    repeat rw [sq]
    rw [pw_block]
    obtain ⟨x17, g18, hF19⟩ := Rn_ix hF14
    try simp [-List.map_set, go_sem, g18]
    refine pw_wkK [3, 5, 6, 7, 8] (by simp [-List.map_set, go_sem, g18]; rfl) ?_
    try simp [-List.map_set, go_sem, g18]
    refine pw_wk ?_
    try simp [-List.map_set, go_sem, g18]
    exact hg10 (IntKind.i64.wrap (s7 + x17.Times)) _ (by simp [-List.map_set, go_sem, g18, wr_i hi15 hi16 (by assumption)]) (Rn_some hF19)
noncomputable def F_spec_wGood (a0 : (List ViewCount)) : Option (Bool) :=
  if decide (3000 < (a0.length : Int)) = true then (
  some false) else (
  ((rloop (σ := Unit) (β := Unit ⊕ Bool) (fun i10 s9 =>
  (ix a0 i10).bind fun x19 =>
  (((F_spec_l1In x19.Times 1 1000000).bind fun z28 =>
  if (!z28) = true then (
  some true) else (
  if decide (24 < (x19.View.length : Int)) = true then (
  some true) else (
  if decide (0 < i10) = true then (
  (ix a0 (IntKind.i64.wrap (i10 - 1))).bind fun x36 =>
  (F_spec_wLess x36.View x19.View).bind fun z39 =>
  some (!z39)) else (
  some false))) : Option (Bool)).bind fun (x26 : Bool) =>
  if x26 = true then (
  some (.out (.inr false))) else (
  some (.go ())))) (fun s9 => .inl ()) (a0.length) 0 () : Option (Unit ⊕ Bool)).bind (Sum.elim (fun (x7 : Unit) =>
  (F_spec_wSum a0).bind fun z47 =>
  some (decide (z47 ≤ 1000000))) some)))
theorem c_spec_wGood {a0 : (List ViewCount)} {r : Bool} (hr : F_spec_wGood a0 = some r) : PCalls Try.prog 70 [(.sh, .sl false 2 (a0.map row_ViewCount_z))] (Eo (.bool r) [.junk]) := by
  apply pcalls_lf 45 [] [] [] [.tmp 2] hr cl70 Try.func70 rfl rfl rfl
  · exact ⟨by simp, rfl⟩
  intro Φ hΦ hF
  unfold F_spec_wGood at hF
  iterate 2 (try simp [-List.map_set, go_sem]; try intros; refine pw_wk ?_)
  repeat rw [sq]
  refine pw_cF hF (by simp [-List.map_set, go_sem]) (fun h1 hF2 => ?_) fun h1 hF2 => ?_
  ·cases hΦ _ (Rn_some hF2)
   try simp [-List.map_set, go_sem]
   refine pw_wk ?_
   try simp [-List.map_set, go_sem]
  ·iterate 2 (try simp [-List.map_set, go_sem]; try intros; refine pw_wk ?_)
   repeat rw [sq]
   refine pw_joinS (fun (x7 : Unit) => [(0, .v (.sl false 2 (a0.map row_ViewCount_z)))]) hF2 ?_ ?_
   ·intro x7 hF8
    try simp [-List.map_set, go_sem]
    refine pw_cl hF8 [.sh] c_spec_wSum rfl rfl (by (try simp [-List.map_set, go_sem, clE]); first | rfl | done) (by rfl) (by (try simp [-List.map_set, go_sem]); first | rfl | done) fun z47 hF48 => ⟨by simp [go_sem], ?_⟩
    try simp [-List.map_set, go_sem]
    refine pw_wkK [2] (by simp [-List.map_set, go_sem]; rfl) ?_
    cases hΦ _ (Rn_some hF48)
    try simp [-List.map_set, go_sem]
   ·intro ψ5 hj3 hr4 hF6
    repeat rw [sq]
    rw [pw_block]
    obtain ⟨b43, hb44, hψ13⟩ := hF6
    refine pw_rloop (fun (i10 : Int) (s9 : Unit) => [(0, .v (.sl false 2 (a0.map row_ViewCount_z))), (8, .v (.sl false 2 (a0.map row_ViewCount_z))), (9, .v (.int .i64 (a0.length : Int))), (10, .v (.int .i64 i10))]) hb44 (by simp [-List.map_set, go_sem]) ?_ ?_
    ·intro s9 N46 hN45
     subst hN45
     try simp [-List.map_set, go_sem]
     refine pw_wk ?_
     repeat rw [sq]
     refine pw_cond_f (by simp [-List.map_set, go_sem]) ?_
     try simp [-List.map_set, go_sem]
     exact hj3 () _ (by simp [-List.map_set, go_sem]) hψ13
    ·intro i10 s9 φ14 N15 hi17 hi18 ho11 hg12 hF16
     rw [Int.zero_add] at hi18
     try simp [-List.map_set, go_sem]
     refine pw_wk ?_
     repeat rw [sq]
     refine pw_cond_t (by simp [-List.map_set, go_sem, hi17, hi18]) ?_
     try simp [-List.map_set, go_sem]
     refine pw_wk ?_
     repeat rw [sq]
     rw [pw_block]
     obtain ⟨x19, g20, hF21⟩ := Rn_ix hF16
     try simp [-List.map_set, go_sem, g20]
     refine pw_wkK [0, 3, 4, 8, 9, 10] (by simp [-List.map_set, go_sem, g20]; rfl) ?_
     repeat rw [sq]
     refine pw_joinF (fun (x26 : Bool) => [(0, .v (.sl false 2 (a0.map row_ViewCount_z))), (8, .v (.sl false 2 (a0.map row_ViewCount_z))), (9, .v (.int .i64 (a0.length : Int))), (10, .v (.int .i64 i10)), (40, .v (.bool x26))]) hF21 ?_ ?_
     ·intro x26 hF27
      repeat rw [sq]
      refine pw_cF hF27 (by simp [-List.map_set, go_sem, g20]) (fun h41 hF42 => ?_) fun h41 hF42 => ?_
      ·cases ho11 _ (Rn_some hF42)
       cases hΦ _ (hr4 _ hψ13)
       try simp [-List.map_set, go_sem, g20]
       refine pw_wk ?_
       try simp [-List.map_set, go_sem, g20]
      ·try simp [-List.map_set, go_sem, g20]
       refine pw_wk ?_
       try simp [-List.map_set, go_sem, g20]
       exact hg12 () _ (by simp [-List.map_set, go_sem, g20, wr_i hi17 hi18 (by assumption)]) (Rn_some hF42)
     ·intro ψ24 hj22 hF25
      repeat rw [sq]
      refine pw_draw D70_6 follows (by kernel_rfl) rfl ?_
      try simp only [go_sem, D70_6]
      try simp [-List.map_set, go_sem, g20]
      refine pw_cl hF25 [.sh, .sh, .sh] c_spec_l1In rfl rfl (by (try simp [-List.map_set, go_sem, clE, g20]); first | rfl | done) (by rfl) (by (try simp [-List.map_set, go_sem, g20]); first | rfl | done) fun z28 hF29 => ⟨by simp [go_sem], ?_⟩
      try simp [-List.map_set, go_sem, g20]
      refine pwgD_F hF29 (fun h30 hF31 => ?_) fun h30 hF31 => ?_
      ·try simp [-List.map_set, go_sem, g20, h30]
       exact hj22 true _ (by simp [-List.map_set, go_sem, g20]) (Rn_some hF31)
      ·try simp [-List.map_set, go_sem, g20, h30]
       try intros
       refine pwgD_F hF31 (fun h32 hF33 => ?_) fun h32 hF33 => ?_
       ·try simp [-List.map_set, go_sem, g20, h32]
        exact hj22 true _ (by simp [-List.map_set, go_sem, g20]) (Rn_some hF33)
       ·try simp [-List.map_set, go_sem, g20, h32]
        refine pwgD_F hF33 (fun h34 hF35 => ?_) fun h34 hF35 => ?_
        ·obtain ⟨x36, g37, hF38⟩ := Rn_ix hF35
         try simp [-List.map_set, go_sem, g20, g37, h34]
         refine pw_cl hF38 [.sh, .sh] c_spec_wLess rfl rfl (by (try simp [-List.map_set, go_sem, clE, g20, g37]); first | rfl | done) (by rfl) (by (try simp [-List.map_set, go_sem, g20, g37]); first | rfl | done) fun z39 hF40 => ⟨by simp [go_sem], ?_⟩
         try simp [-List.map_set, go_sem, g20, g37, h34, h32]
         exact hj22 (!z39) _ (by simp [-List.map_set, go_sem, g20, g37]) (Rn_some hF40)
        ·try simp [-List.map_set, go_sem, g20, h34, h32]
         exact hj22 false _ (by simp [-List.map_set, go_sem, g20]) (Rn_some hF35)
noncomputable def F_spec_wIf (a0 : (List ViewCount)) : Option ((List ViewCount) × Bool) :=
  (F_spec_wGood a0).bind fun z1 =>
  if (!z1) = true then (
  some ([], false)) else (
  some (a0, true))
theorem c_spec_wIf {a0 : (List ViewCount)} {r : (List ViewCount) × Bool} (hr : F_spec_wIf a0 = some r) : PCalls Try.prog 77 [(.sh, .sl false 2 (a0.map row_ViewCount_z))] (Eo (.tup [.sl false 2 (r.1.map row_ViewCount_z), .bool r.2]) [.junk]) := by
  apply pcalls_lf 8 [] [2] [] [.tmp 2, .tmp 3] hr cl77 Try.func77 rfl rfl rfl
  · exact ⟨by simp, rfl⟩
  intro Φ hΦ hF
  unfold F_spec_wIf at hF
  try simp [-List.map_set, go_sem]
  refine pw_wk ?_
  try simp [-List.map_set, go_sem]
  refine pw_cl hF [.sh] c_spec_wGood rfl rfl (by (try simp [-List.map_set, go_sem, clE]); first | rfl | done) (by rfl) (by (try simp [-List.map_set, go_sem]); first | rfl | done) fun z1 hF2 => ⟨by simp [go_sem], ?_⟩
  try simp [-List.map_set, go_sem]
  refine pw_wk ?_
  repeat rw [sq]
  refine pw_cF hF2 (by simp [-List.map_set, go_sem]) (fun h3 hF4 => ?_) fun h3 hF4 => ?_
  ·cases hΦ _ (Rn_some hF4)
   try simp [-List.map_set, go_sem]
   refine pw_wk ?_
   try simp [-List.map_set, go_sem]
  ·cases hΦ _ (Rn_some hF4)
   iterate 2 (try simp [-List.map_set, go_sem]; refine pw_wk ?_)
   try simp [-List.map_set, go_sem]
noncomputable def F_spec_ShareViews (a0 : Group) (a1 : Int) (a2 : Int) (a3 : (List Int)) : Option ((List ViewCount) × Bool) :=
  (((F_spec_wGroup a0).bind fun z7 =>
  if (!z7) = true then (
  some true) else (
  (F_spec_sGroup a0).bind fun z11 =>
  if (!z11) = true then (
  some true) else (
  (F_spec_l1In a1 1 3).bind fun z15 =>
  if (!z15) = true then (
  some true) else (
  (F_spec_gExps a0 [a2]).bind fun z19 =>
  if (!z19) = true then (
  some true) else (
  if decide (3 < (a3.length : Int)) = true then (
  some true) else (
  (F_spec_wTrustees a3).bind fun z25 =>
  some (!z25)))))) : Option (Bool)).bind fun (x5 : Bool) =>
  if x5 = true then (
  some ([], false)) else (
  gd (0 ≤ (IntKind.i64.wrap (a1 - 1)) ∧ (IntKind.i64.wrap (a1 - 1)) ≤ (IntKind.i64.wrap (a1 - 1)) ∧ 8 * (IntKind.i64.wrap (a1 - 1)) ≤ 140737488355328 ∧ (IntKind.i64.wrap (a1 - 1)) ≤ 4611686018427387904) <|
  (some (List.replicate ((IntKind.i64.wrap (a1 - 1)).toNat) 0)).bind fun x32 =>
  ((wloop (σ := (List ViewCount) × (List Int) × Bool) (β := (List ViewCount)) (fun s61 =>
  if s61.2.2 = true then (
  gd (([a2].length + s61.2.1.length) * 8 ≤ 140737488355328 ∧ [a2].length + s61.2.1.length ≤ 4611686018427387904) <|
  (F_spec_yAll a0.Q ([a2] ++ s61.2.1) a3).bind fun z74 =>
  (F_spec_wAdd__mv0 s61.1 z74 1).bind fun z76 =>
  (F_spec_sNext__io0 s61.2.1 a0.Q).bind fun z78 =>
  some (.go (z76, z78.2, z78.1))) else (
  some (.out s61.1))) ([], x32, true) : Option ((List ViewCount))).bind fun (x40 : (List ViewCount)) =>
  (F_spec_wIf x40).bind fun z82 =>
  some (z82.1, z82.2))))
theorem c_spec_ShareViews {a0 : Group} {a1 : Int} {a2 : Int} {a3 : (List Int)} {r : (List ViewCount) × Bool} (hr : F_spec_ShareViews a0 a1 a2 a3 = some r) : PCalls Try.prog 25 [(.sh, .agg [.int .i64 a0.P, .int .i64 a0.Q, .int .i64 a0.G]), (.sh, .int .i64 a1), (.sh, .int .i64 a2), (.sh, .sl false 1 (a3.map row_i64))] (Eo (.tup [.sl false 2 (r.1.map row_ViewCount_z), .bool r.2]) [.junk, .junk, .junk, .junk]) := by
  apply pcalls_lf 65 [] [8, 59, 61] [] [.tmp 8, .tmp 9] hr cl25 Try.func25 rfl rfl rfl
  · exact ⟨by simp, rfl⟩
  intro Φ hΦ hF
  unfold F_spec_ShareViews at hF
  try simp [-List.map_set, go_sem]
  refine pw_wk ?_
  repeat rw [sq]
  refine pw_joinF (fun (x5 : Bool) => [(1, .v (.int .i64 a1)), (2, .v (.int .i64 a2)), (3, .v (.sl false 1 (a3.map row_i64))), (4, .bl [.int .i64 a0.P, .int .i64 a0.Q, .int .i64 a0.G]), (42, .v (.bool x5))]) hF ?_ ?_
  ·intro x5 hF6
   repeat rw [sq]
   refine pw_cF hF6 (by simp [-List.map_set, go_sem]) (fun h27 hF28 => ?_) fun h27 hF28 => ?_
   ·cases hΦ _ (Rn_some hF28)
    try simp [-List.map_set, go_sem]
    refine pw_wk ?_
    try simp [-List.map_set, go_sem]
   ·obtain ⟨g29, hF30⟩ := Rn_gd hF28
    have g31 := g29
    try simp at g31
    obtain ⟨x32, e33, hF34⟩ := Rn_bind hF30
    have g35 : List.replicate ((IntKind.i64.wrap (a1 - 1)).toNat) ([.int .i64 0] : List PV) = x32.map row_i64 := by injection e33 with e33; rw [← e33]; simp [-List.map_set, go_sem]
    iterate 4 (try simp [-List.map_set, go_sem, g29, g31, g35]; refine pw_wk ?_)
    repeat rw [sq]
    refine pw_joinF (fun (x40 : (List ViewCount)) => [(10, .v (.sl true 2 (x40.map row_ViewCount_z)))]) hF34 ?_ ?_
    ·intro x40 hF41
     try simp [-List.map_set, go_sem, g29, g31]
     refine pw_cl hF41 [.sh] c_spec_wIf rfl rfl (by (try simp [-List.map_set, go_sem, clE, g29, g31]); first | rfl | done) (by rfl) (by (try simp [-List.map_set, go_sem, g29, g31]); first | rfl | done) fun z82 hF83 => ⟨by simp [go_sem], ?_⟩
     try simp [-List.map_set, go_sem, g29, g31]
     refine pw_wkK [8, 9] (by simp [-List.map_set, go_sem, g29, g31]; rfl) ?_
     cases hΦ _ (Rn_some hF83)
     try simp [-List.map_set, go_sem, g29, g31]
    ·intro ψ38 hj36 hF39
     repeat rw [sq]
     rw [pw_block]
     obtain ⟨b80, hb81, hψ65⟩ := hF39
     refine pw_wloop (fun (s61 : (List ViewCount) × (List Int) × Bool) => [(2, .v (.int .i64 a2)), (3, .v (.sl false 1 (a3.map row_i64))), (4, .bl [.int .i64 a0.P, .int .i64 a0.Q, .int .i64 a0.G]), (10, .v (.sl true 2 (s61.1.map row_ViewCount_z))), (11, .v (.sl true 1 (s61.2.1.map row_i64))), (12, .v (.bool s61.2.2))]) hb81 (by simp [-List.map_set, go_sem, g29, g31]) ?_
     intro s61 φ66 N67 ho63 hg64 hF68
     try simp [-List.map_set, go_sem, g29, g31]
     refine pw_wkK [2, 3, 4, 10, 11, 46] (by simp [-List.map_set, go_sem, g29, g31]; rfl) ?_
     repeat rw [sq]
     refine pw_cF hF68 (by simp [-List.map_set, go_sem, g29, g31]) (fun h69 hF70 => ?_) fun h69 hF70 => ?_
     ·try simp [-List.map_set, go_sem, g29, g31]
      refine pw_wk ?_
      repeat rw [sq]
      rw [pw_block]
      repeat rw [sq]
      refine pw_draw D25_8 follows (by kernel_rfl) rfl ?_
      try simp only [go_sem, D25_8]
      obtain ⟨g71, hF72⟩ := Rn_gd hF70
      have g73 := g71
      try simp at g73
      try simp [-List.map_set, go_sem, g29, g31, g71, g73]
      refine pw_clD hF72 c_spec_yAll rfl (by (try simp [-List.map_set, go_sem, clE, g29, g31, g71, g73]); first | rfl | done) (by rfl) (by (try simp [-List.map_set, go_sem, g29, g31, g71, g73]); first | rfl | done) fun z74 hF75 => ⟨by simp [go_sem], ?_⟩
      try simp [-List.map_set, go_sem, g29, g31, g71, g73]
      refine pw_cl hF75 [.mv, .sh, .sh] c_spec_wAdd__mv0 rfl rfl (by (try simp [-List.map_set, go_sem, clE, g29, g31, g71, g73]); first | rfl | done) (by rfl) (by (try simp [-List.map_set, go_sem, g29, g31, g71, g73]); first | rfl | done) fun z76 hF77 => ⟨by simp [go_sem], ?_⟩
      try simp [-List.map_set, go_sem, g29, g31, g71, g73]
      refine pw_wkK [2, 3, 4, 10, 11] (by simp [-List.map_set, go_sem, g29, g31, g71, g73]; rfl) ?_
      try simp [-List.map_set, go_sem, g29, g31, g71, g73]
      refine pw_cl hF77 [.io, .sh] c_spec_sNext__io0 rfl rfl (by (try simp [-List.map_set, go_sem, clE, g29, g31, g71, g73]); first | rfl | done) (by rfl) (by (try simp [-List.map_set, go_sem, g29, g31, g71, g73]); first | rfl | done) fun z78 hF79 => ⟨by simp [go_sem], ?_⟩
      try simp [-List.map_set, go_sem, g29, g31, g71, g73]
      exact hg64 (z76, z78.2, z78.1) _ (by simp [-List.map_set, go_sem, g29, g31, g71, g73]) (Rn_some hF79)
     ·try simp [-List.map_set, go_sem, g29, g31]
      cases ho63 _ (Rn_some hF70)
      exact hj36 s61.1 _ (by simp [-List.map_set, go_sem, g29, g31]) hψ65
  ·intro ψ3 hj1 hF4
   try simp [-List.map_set, go_sem]
   refine pw_cl hF4 [.sh] c_spec_wGroup rfl rfl (by (try simp [-List.map_set, go_sem, clE]); first | rfl | done) (by rfl) (by (try simp [-List.map_set, go_sem]); first | rfl | done) fun z7 hF8 => ⟨by simp [go_sem], ?_⟩
   try simp [-List.map_set, go_sem]
   refine pwg_F hF8 (fun h9 hF10 => ?_) fun h9 hF10 => ?_
   ·try simp [-List.map_set, go_sem, h9]
    exact hj1 true _ (by simp [-List.map_set, go_sem]) (Rn_some hF10)
   ·try simp [-List.map_set, go_sem, h9]
    refine pw_cl hF10 [.sh] c_spec_sGroup rfl rfl (by (try simp [-List.map_set, go_sem, clE]); first | rfl | done) (by rfl) (by (try simp [-List.map_set, go_sem]); first | rfl | done) fun z11 hF12 => ⟨by simp [go_sem], ?_⟩
    try simp [-List.map_set, go_sem, h9]
    refine pwg_F hF12 (fun h13 hF14 => ?_) fun h13 hF14 => ?_
    ·try simp [-List.map_set, go_sem, h13]
     exact hj1 true _ (by simp [-List.map_set, go_sem]) (Rn_some hF14)
    ·try simp [-List.map_set, go_sem, h13]
     refine pw_cl hF14 [.sh, .sh, .sh] c_spec_l1In rfl rfl (by (try simp [-List.map_set, go_sem, clE]); first | rfl | done) (by rfl) (by (try simp [-List.map_set, go_sem]); first | rfl | done) fun z15 hF16 => ⟨by simp [go_sem], ?_⟩
     try simp [-List.map_set, go_sem, h13]
     refine pwg_F hF16 (fun h17 hF18 => ?_) fun h17 hF18 => ?_
     ·try simp [-List.map_set, go_sem, h17]
      exact hj1 true _ (by simp [-List.map_set, go_sem]) (Rn_some hF18)
     ·try simp [-List.map_set, go_sem, h17]
      refine pw_cl hF18 [.sh, .sh] c_spec_gExps rfl rfl (by (try simp [-List.map_set, go_sem, clE]); first | rfl | done) (by rfl) (by (try simp [-List.map_set, go_sem]); first | rfl | done) fun z19 hF20 => ⟨by simp [go_sem], ?_⟩
      try simp [-List.map_set, go_sem, h17]
      refine pwg_F hF20 (fun h21 hF22 => ?_) fun h21 hF22 => ?_
      ·try simp [-List.map_set, go_sem, h21]
       exact hj1 true _ (by simp [-List.map_set, go_sem]) (Rn_some hF22)
      ·try simp [-List.map_set, go_sem, h21]
       try intros
       refine pwg_F hF22 (fun h23 hF24 => ?_) fun h23 hF24 => ?_
       ·try simp [-List.map_set, go_sem, h23]
        exact hj1 true _ (by simp [-List.map_set, go_sem]) (Rn_some hF24)
       ·try simp [-List.map_set, go_sem, h23]
        refine pw_cl hF24 [.sh] c_spec_wTrustees rfl rfl (by (try simp [-List.map_set, go_sem, clE]); first | rfl | done) (by rfl) (by (try simp [-List.map_set, go_sem]); first | rfl | done) fun z25 hF26 => ⟨by simp [go_sem], ?_⟩
        try simp [-List.map_set, go_sem, h23]
        exact hj1 (!z25) _ (by simp [-List.map_set, go_sem]) (Rn_some hF26)
noncomputable def F_impl_within (a0 : Int) (a1 : Int) (a2 : Int) : Option (Bool) :=
  ((if decide (a1 ≤ a0) = true then (
  some (decide (a0 ≤ a2))) else (
  some false) : Option (Bool)).bind fun (x5 : Bool) =>
  some x5)
theorem c_impl_within {a0 : Int} {a1 : Int} {a2 : Int} {r : Bool} (hr : F_impl_within a0 a1 a2 = some r) : PCalls Try.prog 84 [(.sh, .int .i64 a0), (.sh, .int .i64 a1), (.sh, .int .i64 a2)] (Eo (.bool r) [.junk, .junk, .junk]) := by
  apply pcalls_lf 15 [] [] [] [.tmp 6] hr cl84 Try.func84 rfl rfl rfl
  · exact ⟨by simp, rfl⟩
  intro Φ hΦ hF
  unfold F_impl_within at hF
  try simp [-List.map_set, go_sem]
  refine pw_wk ?_
  repeat rw [sq]
  refine pw_joinF (fun (x5 : Bool) => [(6, .v (.bool x5))]) hF ?_ ?_
  ·intro x5 hF6
   cases hΦ _ (Rn_some hF6)
   try simp [-List.map_set, go_sem]
  ·intro ψ3 hj1 hF4
   try simp [-List.map_set, go_sem]
   refine pwg_F hF4 (fun h7 hF8 => ?_) fun h7 hF8 => ?_
   ·try simp [-List.map_set, go_sem, h7]
    exact hj1 (decide (a0 ≤ a2)) _ (by simp [-List.map_set, go_sem]) (Rn_some hF8)
   ·try simp [-List.map_set, go_sem, h7]
    exact hj1 false _ (by simp [-List.map_set, go_sem]) (Rn_some hF8)
noncomputable def F_impl_isModulus (a0 : Int) : Option (Bool) :=
  (F_impl_within a0 2 2000000000).bind fun z1 =>
  some z1
theorem c_impl_isModulus {a0 : Int} {r : Bool} (hr : F_impl_isModulus a0 = some r) : PCalls Try.prog 143 [(.sh, .int .i64 a0)] (Eo (.bool r) [.junk]) := by
  apply pcalls_lf 5 [] [] [] [.tmp 2] hr cl143 Try.func143 rfl rfl rfl
  · exact ⟨by simp, rfl⟩
  intro Φ hΦ hF
  unfold F_impl_isModulus at hF
  try simp [-List.map_set, go_sem]
  refine pw_wk ?_
  try simp [-List.map_set, go_sem]
  refine pw_cl hF [.sh, .sh, .sh] c_impl_within rfl rfl (by (try simp [-List.map_set, go_sem, clE]); first | rfl | done) (by rfl) (by (try simp [-List.map_set, go_sem]); first | rfl | done) fun z1 hF2 => ⟨by simp [go_sem], ?_⟩
  cases hΦ _ (Rn_some hF2)
  try simp [-List.map_set, go_sem]
  refine pw_wk ?_
  try simp [-List.map_set, go_sem]
noncomputable def F_impl_isPrime (a0 : Int) : Option (Bool) :=
  (((F_impl_isModulus a0).bind fun z7 =>
  if (!z7) = true then (
  some true) else (
  if ((a0.tmod 2) == 0) = true then (
  some (a0 != 2)) else (
  some false)) : Option (Bool)).bind fun (x5 : Bool) =>
  if x5 = true then (
  some false) else (
  ((wloop (σ := Int) (β := Unit ⊕ Bool) (fun s22 =>
  if decide ((IntKind.i64.wrap (s22 * s22)) ≤ a0) = true then (
  gd (s22 ≠ 0) <|
  if ((a0.tmod s22) == 0) = true then (
  some (.out (.inr false))) else (
  some (.go (IntKind.i64.wrap (s22 + 2))))) else (
  some (.out (.inl ())))) 3 : Option (Unit ⊕ Bool)).bind (Sum.elim (fun (x20 : Unit) =>
  some true) some))))
theorem c_impl_isPrime {a0 : Int} {r : Bool} (hr : F_impl_isPrime a0 = some r) : PCalls Try.prog 100 [(.sh, .int .i64 a0)] (Eo (.bool r) [.junk]) := by
  apply pcalls_lf 27 [] [] [] [.tmp 2] hr cl100 Try.func100 rfl rfl rfl
  · exact ⟨by simp, rfl⟩
  intro Φ hΦ hF
  unfold F_impl_isPrime at hF
  try simp [-List.map_set, go_sem]
  refine pw_wk ?_
  repeat rw [sq]
  refine pw_joinF (fun (x5 : Bool) => [(0, .v (.int .i64 a0)), (15, .v (.bool x5))]) hF ?_ ?_
  ·intro x5 hF6
   repeat rw [sq]
   refine pw_cF hF6 (by simp [-List.map_set, go_sem]) (fun h14 hF15 => ?_) fun h14 hF15 => ?_
   ·cases hΦ _ (Rn_some hF15)
    try simp [-List.map_set, go_sem]
    refine pw_wk ?_
    try simp [-List.map_set, go_sem]
   ·iterate 2 (try simp [-List.map_set, go_sem]; refine pw_wk ?_)
    repeat rw [sq]
    refine pw_joinS (fun (x20 : Unit) => []) hF15 ?_ ?_
    ·intro x20 hF21
     cases hΦ _ (Rn_some hF21)
     try simp [-List.map_set, go_sem]
     refine pw_wk ?_
     try simp [-List.map_set, go_sem]
    ·intro ψ18 hj16 hr17 hF19
     repeat rw [sq]
     rw [pw_block]
     obtain ⟨b36, hb37, hψ26⟩ := hF19
     refine pw_wloop (fun (s22 : Int) => [(0, .v (.int .i64 a0)), (3, .v (.int .i64 s22))]) hb37 (by simp [-List.map_set, go_sem]) ?_
     intro s22 φ27 N28 ho24 hg25 hF29
     try simp [-List.map_set, go_sem]
     refine pw_wk ?_
     repeat rw [sq]
     refine pw_cF hF29 (by simp [-List.map_set, go_sem]) (fun h30 hF31 => ?_) fun h30 hF31 => ?_
     ·try simp [-List.map_set, go_sem]
      refine pw_wk ?_
      repeat rw [sq]
      rw [pw_block]
      obtain ⟨g32, hF33⟩ := Rn_nz hF31
      try simp [-List.map_set, go_sem, g32]
      refine pw_wkK [0, 3, 26] (by simp [-List.map_set, go_sem, g32]; rfl) ?_
      repeat rw [sq]
      refine pw_cF hF33 (by simp [-List.map_set, go_sem, g32]) (fun h34 hF35 => ?_) fun h34 hF35 => ?_
      ·cases ho24 _ (Rn_some hF35)
       cases hΦ _ (hr17 _ hψ26)
       try simp [-List.map_set, go_sem, g32]
       refine pw_wk ?_
       try simp [-List.map_set, go_sem, g32]
      ·try simp [-List.map_set, go_sem, g32]
       refine pw_wk ?_
       try simp [-List.map_set, go_sem, g32]
       exact hg25 (IntKind.i64.wrap (s22 + 2)) _ (by simp [-List.map_set, go_sem, g32]) (Rn_some hF35)
     ·try simp [-List.map_set, go_sem]
      cases ho24 _ (Rn_some hF31)
      exact hj16 () _ (by simp [-List.map_set, go_sem]) hψ26
  ·intro ψ3 hj1 hF4
   try simp [-List.map_set, go_sem]
   refine pw_cl hF4 [.sh] c_impl_isModulus rfl rfl (by (try simp [-List.map_set, go_sem, clE]); first | rfl | done) (by rfl) (by (try simp [-List.map_set, go_sem]); first | rfl | done) fun z7 hF8 => ⟨by simp [go_sem], ?_⟩
   try simp [-List.map_set, go_sem]
   refine pwg_F hF8 (fun h9 hF10 => ?_) fun h9 hF10 => ?_
   ·try simp [-List.map_set, go_sem, h9]
    exact hj1 true _ (by simp [-List.map_set, go_sem]) (Rn_some hF10)
   ·have g11 := fun x => divV_ne (b := 2) (x := x) (by decide)
    try simp [-List.map_set, go_sem, g11, h9]
    refine pwg_F hF10 (fun h12 hF13 => ?_) fun h12 hF13 => ?_
    ·try simp [-List.map_set, go_sem, g11, h12, h9]
     exact hj1 (a0 != 2) _ (by simp [-List.map_set, go_sem, g11]) (Rn_some hF13)
    ·try simp [-List.map_set, go_sem, g11, h12, h9]
     exact hj1 false _ (by simp [-List.map_set, go_sem, g11]) (Rn_some hF13)
noncomputable def F_impl_power (a0 : Int) (a1 : Int) (a2 : Int) : Option (Int) :=
  gd (a2 ≠ 0) <|
  ((wloop (σ := Int × Int × Int) (β := Int) (fun s9 =>
  if decide (0 < s9.2.1) = true then (
  ((if ((IntKind.i64.wrap ((BitVec.ofInt IntKind.i64.bits s9.2.1 &&& BitVec.ofInt IntKind.i64.bits 1).toNat)) == 1) = true then (
  gd (a2 ≠ 0) <|
  some ((IntKind.i64.wrap (s9.2.2 * s9.1)).tmod a2)) else (
  some s9.2.2) : Option (Int)).bind fun (x23 : Int) =>
  gd (a2 ≠ 0) <|
  some (.go ((IntKind.i64.wrap (s9.1 * s9.1)).tmod a2, s9.2.1.fdiv 2, x23)))) else (
  some (.out s9.2.2))) (a0, a1, (1 : Int).tmod a2) : Option (Int)).bind fun (x7 : Int) =>
  some x7)
theorem c_impl_power {a0 : Int} {a1 : Int} {a2 : Int} {r : Int} (hr : F_impl_power a0 a1 a2 = some r) : PCalls Try.prog 117 [(.sh, .int .i64 a0), (.sh, .int .i64 a1), (.sh, .int .i64 a2)] (Eo (.int .i64 r) [.junk, .junk, .junk]) := by
  apply pcalls_lf 28 [] [] [] [.tmp 6] hr cl117 Try.func117 rfl rfl rfl
  · exact ⟨by simp, rfl⟩
  intro Φ hΦ hF
  unfold F_impl_power at hF
  obtain ⟨g1, hF2⟩ := Rn_nz hF
  iterate 2 (try simp [-List.map_set, go_sem, g1]; refine pw_wk ?_)
  repeat rw [sq]
  refine pw_joinF (fun (x7 : Int) => [(7, .v (.int .i64 x7))]) hF2 ?_ ?_
  ·intro x7 hF8
   cases hΦ _ (Rn_some hF8)
   try simp [-List.map_set, go_sem, g1]
   refine pw_wk ?_
   try simp [-List.map_set, go_sem, g1]
  ·intro ψ5 hj3 hF6
   repeat rw [sq]
   rw [pw_block]
   obtain ⟨b32, hb33, hψ13⟩ := hF6
   refine pw_wloop (fun (s9 : Int × Int × Int) => [(0, .v (.int .i64 s9.1)), (1, .v (.int .i64 s9.2.1)), (2, .v (.int .i64 a2)), (7, .v (.int .i64 s9.2.2))]) hb33 (by simp [-List.map_set, go_sem, g1]) ?_
   intro s9 φ14 N15 ho11 hg12 hF16
   try simp [-List.map_set, go_sem, g1]
   refine pw_wk ?_
   repeat rw [sq]
   refine pw_cF hF16 (by simp [-List.map_set, go_sem, g1]) (fun h17 hF18 => ?_) fun h17 hF18 => ?_
   ·try simp [-List.map_set, go_sem, g1]
    refine pw_wk ?_
    repeat rw [sq]
    rw [pw_block]
    try simp [-List.map_set, go_sem, g1]
    refine pw_wk ?_
    repeat rw [sq]
    refine pw_joinF (fun (x23 : Int) => [(0, .v (.int .i64 s9.1)), (1, .v (.int .i64 s9.2.1)), (2, .v (.int .i64 a2)), (7, .v (.int .i64 x23))]) hF18 ?_ ?_
    ·intro x23 hF24
     obtain ⟨g29, hF30⟩ := Rn_nz hF24
     try simp [-List.map_set, go_sem, g1, g29]
     refine pw_wkK [0, 1, 2, 7] (by simp [-List.map_set, go_sem, g1, g29]; rfl) ?_
     have g31 := fun x => shV0_ge (b := 1) (x := x) (by decide)
     try simp [-List.map_set, go_sem, g1, g29, g31]
     exact hg12 ((IntKind.i64.wrap (s9.1 * s9.1)).tmod a2, s9.2.1.fdiv 2, x23) _ (by simp [-List.map_set, go_sem, g1, g29, g31]) (Rn_some hF30)
    ·intro ψ21 hj19 hF22
     repeat rw [sq]
     refine pw_cF hF22 (by simp [-List.map_set, go_sem, g1]) (fun h25 hF26 => ?_) fun h25 hF26 => ?_
     ·obtain ⟨g27, hF28⟩ := Rn_nz hF26
      try simp [-List.map_set, go_sem, g1, g27]
      exact hj19 ((IntKind.i64.wrap (s9.2.2 * s9.1)).tmod a2) _ (by simp [-List.map_set, go_sem, g1, g27]) (Rn_some hF28)
     ·try simp [-List.map_set, go_sem, g1]
      exact hj19 s9.2.2 _ (by simp [-List.map_set, go_sem, g1]) (Rn_some hF26)
   ·try simp [-List.map_set, go_sem, g1]
    cases ho11 _ (Rn_some hF18)
    exact hj3 s9.2.2 _ (by simp [-List.map_set, go_sem, g1]) hψ13
noncomputable def F_impl_IsValidGroup (a0 : Group) : Option (Bool) :=
  (((F_impl_within a0.P 3 2000000000).bind fun z7 =>
  if z7 = true then (
  (F_impl_within a0.Q 2 (IntKind.i64.wrap (a0.P - 1))).bind fun z11 =>
  if z11 = true then (
  gd (a0.Q ≠ 0) <|
  if (((IntKind.i64.wrap (a0.P - 1)).tmod a0.Q) == 0) = true then (
  (F_impl_within a0.G 2 (IntKind.i64.wrap (a0.P - 1))).bind fun z19 =>
  if z19 = true then (
  (F_impl_isPrime a0.P).bind fun z23 =>
  if z23 = true then (
  (F_impl_isPrime a0.Q).bind fun z27 =>
  if z27 = true then (
  (F_impl_power a0.G a0.Q a0.P).bind fun z31 =>
  some (z31 == 1)) else (
  some false)) else (
  some false)) else (
  some false)) else (
  some false)) else (
  some false)) else (
  some false) : Option (Bool)).bind fun (x5 : Bool) =>
  some x5)
theorem c_impl_IsValidGroup {a0 : Group} {r : Bool} (hr : F_impl_IsValidGroup a0 = some r) : PCalls Try.prog 92 [(.sh, .agg [.int .i64 a0.P, .int .i64 a0.Q, .int .i64 a0.G])] (Eo (.bool r) [.junk]) := by
  apply pcalls_lf 51 [] [] [] [.tmp 2] hr cl92 Try.func92 rfl rfl rfl
  · exact ⟨by simp, rfl⟩
  intro Φ hΦ hF
  unfold F_impl_IsValidGroup at hF
  try simp [-List.map_set, go_sem]
  refine pw_wk ?_
  repeat rw [sq]
  refine pw_joinF (fun (x5 : Bool) => [(2, .v (.bool x5))]) hF ?_ ?_
  ·intro x5 hF6
   cases hΦ _ (Rn_some hF6)
   try simp [-List.map_set, go_sem]
  ·intro ψ3 hj1 hF4
   try simp [-List.map_set, go_sem]
   refine pw_cl hF4 [.sh, .sh, .sh] c_impl_within rfl rfl (by (try simp [-List.map_set, go_sem, clE]); first | rfl | done) (by rfl) (by (try simp [-List.map_set, go_sem]); first | rfl | done) fun z7 hF8 => ⟨by simp [go_sem], ?_⟩
   try simp [-List.map_set, go_sem]
   refine pwg_F hF8 (fun h9 hF10 => ?_) fun h9 hF10 => ?_
   ·try simp [-List.map_set, go_sem, h9]
    refine pw_cl hF10 [.sh, .sh, .sh] c_impl_within rfl rfl (by (try simp [-List.map_set, go_sem, clE]); first | rfl | done) (by rfl) (by (try simp [-List.map_set, go_sem]); first | rfl | done) fun z11 hF12 => ⟨by simp [go_sem], ?_⟩
    try simp [-List.map_set, go_sem, h9]
    refine pwg_F hF12 (fun h13 hF14 => ?_) fun h13 hF14 => ?_
    ·obtain ⟨g15, hF16⟩ := Rn_nz hF14
     try simp [-List.map_set, go_sem, g15, h13]
     refine pwg_F hF16 (fun h17 hF18 => ?_) fun h17 hF18 => ?_
     ·try simp [-List.map_set, go_sem, g15, h17]
      refine pw_cl hF18 [.sh, .sh, .sh] c_impl_within rfl rfl (by (try simp [-List.map_set, go_sem, clE, g15]); first | rfl | done) (by rfl) (by (try simp [-List.map_set, go_sem, g15]); first | rfl | done) fun z19 hF20 => ⟨by simp [go_sem], ?_⟩
      try simp [-List.map_set, go_sem, g15, h17]
      refine pwg_F hF20 (fun h21 hF22 => ?_) fun h21 hF22 => ?_
      ·try simp [-List.map_set, go_sem, g15, h21]
       refine pw_cl hF22 [.sh] c_impl_isPrime rfl rfl (by (try simp [-List.map_set, go_sem, clE, g15]); first | rfl | done) (by rfl) (by (try simp [-List.map_set, go_sem, g15]); first | rfl | done) fun z23 hF24 => ⟨by simp [go_sem], ?_⟩
       try simp [-List.map_set, go_sem, g15, h21]
       refine pwg_F hF24 (fun h25 hF26 => ?_) fun h25 hF26 => ?_
       ·try simp [-List.map_set, go_sem, g15, h25]
        refine pw_cl hF26 [.sh] c_impl_isPrime rfl rfl (by (try simp [-List.map_set, go_sem, clE, g15]); first | rfl | done) (by rfl) (by (try simp [-List.map_set, go_sem, g15]); first | rfl | done) fun z27 hF28 => ⟨by simp [go_sem], ?_⟩
        try simp [-List.map_set, go_sem, g15, h25]
        refine pwg_F hF28 (fun h29 hF30 => ?_) fun h29 hF30 => ?_
        ·try simp [-List.map_set, go_sem, g15, h29]
         refine pw_cl hF30 [.sh, .sh, .sh] c_impl_power rfl rfl (by (try simp [-List.map_set, go_sem, clE, g15]); first | rfl | done) (by rfl) (by (try simp [-List.map_set, go_sem, g15]); first | rfl | done) fun z31 hF32 => ⟨by simp [go_sem], ?_⟩
         try simp [-List.map_set, go_sem, g15, h29]
         exact hj1 (z31 == 1) _ (by simp [-List.map_set, go_sem, g15]) (Rn_some hF32)
        ·try simp [-List.map_set, go_sem, g15, h29]
         exact hj1 false _ (by simp [-List.map_set, go_sem, g15]) (Rn_some hF30)
       ·try simp [-List.map_set, go_sem, g15, h25]
        exact hj1 false _ (by simp [-List.map_set, go_sem, g15]) (Rn_some hF26)
      ·try simp [-List.map_set, go_sem, g15, h21]
       exact hj1 false _ (by simp [-List.map_set, go_sem, g15]) (Rn_some hF22)
     ·try simp [-List.map_set, go_sem, g15, h17]
      exact hj1 false _ (by simp [-List.map_set, go_sem, g15]) (Rn_some hF18)
    ·try simp [-List.map_set, go_sem, h13]
     exact hj1 false _ (by simp [-List.map_set, go_sem]) (Rn_some hF14)
   ·try simp [-List.map_set, go_sem, h9]
    exact hj1 false _ (by simp [-List.map_set, go_sem]) (Rn_some hF10)
noncomputable def F_impl_isCounted (a0 : Group) : Option (Bool) :=
  ((if decide (a0.Q ≤ 23) = true then (
  (F_impl_IsValidGroup a0).bind fun z9 =>
  some z9) else (
  some false) : Option (Bool)).bind fun (x5 : Bool) =>
  some x5)
theorem c_impl_isCounted {a0 : Group} {r : Bool} (hr : F_impl_isCounted a0 = some r) : PCalls Try.prog 53 [(.sh, .agg [.int .i64 a0.P, .int .i64 a0.Q, .int .i64 a0.G])] (Eo (.bool r) [.junk]) := by
  apply pcalls_lf 10 [] [] [] [.tmp 2] hr cl53 Try.func53 rfl rfl rfl
  · exact ⟨by simp, rfl⟩
  intro Φ hΦ hF
  unfold F_impl_isCounted at hF
  try simp [-List.map_set, go_sem]
  refine pw_wk ?_
  repeat rw [sq]
  refine pw_joinF (fun (x5 : Bool) => [(2, .v (.bool x5))]) hF ?_ ?_
  ·intro x5 hF6
   cases hΦ _ (Rn_some hF6)
   try simp [-List.map_set, go_sem]
  ·intro ψ3 hj1 hF4
   try simp [-List.map_set, go_sem]
   refine pwg_F hF4 (fun h7 hF8 => ?_) fun h7 hF8 => ?_
   ·try simp [-List.map_set, go_sem, h7]
    refine pw_cl hF8 [.sh] c_impl_IsValidGroup rfl rfl (by (try simp [-List.map_set, go_sem, clE]); first | rfl | done) (by rfl) (by (try simp [-List.map_set, go_sem]); first | rfl | done) fun z9 hF10 => ⟨by simp [go_sem], ?_⟩
    try simp [-List.map_set, go_sem, h7]
    exact hj1 z9 _ (by simp [-List.map_set, go_sem]) (Rn_some hF10)
   ·try simp [-List.map_set, go_sem, h7]
    exact hj1 false _ (by simp [-List.map_set, go_sem]) (Rn_some hF8)
noncomputable def F_impl_Group_isExp (a0 : Group) (a1 : Int) : Option (Bool) :=
  (F_impl_within a1 0 (IntKind.i64.wrap (a0.Q - 1))).bind fun z1 =>
  some z1
theorem c_impl_Group_isExp {a0 : Group} {a1 : Int} {r : Bool} (hr : F_impl_Group_isExp a0 a1 = some r) : PCalls Try.prog 55 [(.sh, .agg [.int .i64 a0.P, .int .i64 a0.Q, .int .i64 a0.G]), (.sh, .int .i64 a1)] (Eo (.bool r) [.junk, .junk]) := by
  apply pcalls_lf 10 [] [] [] [.tmp 4] hr cl55 Try.func55 rfl rfl rfl
  · exact ⟨by simp, rfl⟩
  intro Φ hΦ hF
  unfold F_impl_Group_isExp at hF
  try simp [-List.map_set, go_sem]
  refine pw_wk ?_
  try simp [-List.map_set, go_sem]
  refine pw_cl hF [.sh, .sh, .sh] c_impl_within rfl rfl (by (try simp [-List.map_set, go_sem, clE]); first | rfl | done) (by rfl) (by (try simp [-List.map_set, go_sem]); first | rfl | done) fun z1 hF2 => ⟨by simp [go_sem], ?_⟩
  cases hΦ _ (Rn_some hF2)
  try simp [-List.map_set, go_sem]
  refine pw_wk ?_
  try simp [-List.map_set, go_sem]
noncomputable def F_impl_isTrustee (a0 : Int) : Option (Bool) :=
  (F_impl_within a0 1 7).bind fun z1 =>
  some z1
theorem c_impl_isTrustee {a0 : Int} {r : Bool} (hr : F_impl_isTrustee a0 = some r) : PCalls Try.prog 130 [(.sh, .int .i64 a0)] (Eo (.bool r) [.junk]) := by
  apply pcalls_lf 5 [] [] [] [.tmp 2] hr cl130 Try.func130 rfl rfl rfl
  · exact ⟨by simp, rfl⟩
  intro Φ hΦ hF
  unfold F_impl_isTrustee at hF
  try simp [-List.map_set, go_sem]
  refine pw_wk ?_
  try simp [-List.map_set, go_sem]
  refine pw_cl hF [.sh, .sh, .sh] c_impl_within rfl rfl (by (try simp [-List.map_set, go_sem, clE]); first | rfl | done) (by rfl) (by (try simp [-List.map_set, go_sem]); first | rfl | done) fun z1 hF2 => ⟨by simp [go_sem], ?_⟩
  cases hΦ _ (Rn_some hF2)
  try simp [-List.map_set, go_sem]
  refine pw_wk ?_
  try simp [-List.map_set, go_sem]
noncomputable def F_impl_areAll_1__impl_isTrustee (a0 : Int) : Option (Bool) :=
  (F_impl_isTrustee a0).bind fun z1 =>
  some (!z1)
theorem c_impl_areAll_1__impl_isTrustee {a0 : Int} {r : Bool} (hr : F_impl_areAll_1__impl_isTrustee a0 = some r) : PCalls Try.prog 149 [(.sh, .int .i64 a0), (.sh, .fp [.func (.func 130) [] []])] (Eo (.bool r) [.junk, .junk]) := by
  apply pcalls_lf 8 [] [] [] [.tmp 3] hr cl149 Try.func149 rfl rfl rfl
  · exact ⟨by simp, rfl⟩
  intro Φ hΦ hF
  unfold F_impl_areAll_1__impl_isTrustee at hF
  try simp [-List.map_set, go_sem]
  refine pw_wk ?_
  try simp [-List.map_set, go_sem]
  refine pw_cl hF [.sh] c_impl_isTrustee rfl rfl (by (try simp [-List.map_set, go_sem, clE]); first | rfl | done) (by rfl) (by (try simp [-List.map_set, go_sem]); first | rfl | done) fun z1 hF2 => ⟨by simp [go_sem], ?_⟩
  cases hΦ _ (Rn_some hF2)
  try simp [-List.map_set, go_sem]
  refine pw_wk ?_
  try simp [-List.map_set, go_sem]
noncomputable def F_slices_IndexFunc_int_int__impl_areAll_1_impl_isTrustee (a0 : (List Int)) : Option (Int) :=
  ((rloop (σ := Unit) (β := Unit ⊕ Int) (fun i8 s7 =>
  (ix a0 i8).bind fun x17 =>
  (F_impl_areAll_1__impl_isTrustee x17).bind fun z20 =>
  if z20 = true then (
  some (.out (.inr i8))) else (
  some (.go ()))) (fun s7 => .inl ()) (a0.length) 0 () : Option (Unit ⊕ Int)).bind (Sum.elim (fun (x5 : Unit) =>
  some (-1)) some))
theorem c_slices_IndexFunc_int_int__impl_areAll_1_impl_isTrustee {a0 : (List Int)} {r : Int} (hr : F_slices_IndexFunc_int_int__impl_areAll_1_impl_isTrustee a0 = some r) : PCalls Try.prog 162 [(.sh, .sl false 1 (a0.map row_i64)), (.sh, .func (.func 149) [] [.fp [.func (.func 130) [] []]])] (Eo (.int .i64 r) [.junk, .junk]) := by
  apply pcalls_lf 19 [] [] [] [.tmp 4] hr cl162 Try.func162 rfl rfl rfl
  · exact ⟨by simp, rfl⟩
  intro Φ hΦ hF
  unfold F_slices_IndexFunc_int_int__impl_areAll_1_impl_isTrustee at hF
  iterate 2 (try simp [-List.map_set, go_sem]; try intros; refine pw_wk ?_)
  repeat rw [sq]
  refine pw_joinS (fun (x5 : Unit) => []) hF ?_ ?_
  ·intro x5 hF6
   cases hΦ _ (Rn_some hF6)
   try simp [-List.map_set, go_sem]
   refine pw_wk ?_
   try simp [-List.map_set, go_sem]
  ·intro ψ3 hj1 hr2 hF4
   repeat rw [sq]
   rw [pw_block]
   obtain ⟨b24, hb25, hψ11⟩ := hF4
   refine pw_rloop (fun (i8 : Int) (s7 : Unit) => [(0, .v (.sl false 1 (a0.map row_i64))), (1, .v (.func (.func 149) [] [.fp [.func (.func 130) [] []]])), (7, .v (.int .i64 (a0.length : Int))), (8, .v (.int .i64 i8))]) hb25 (by simp [-List.map_set, go_sem]) ?_ ?_
   ·intro s7 N27 hN26
    subst hN26
    try simp [-List.map_set, go_sem]
    refine pw_wk ?_
    repeat rw [sq]
    refine pw_cond_f (by simp [-List.map_set, go_sem]) ?_
    try simp [-List.map_set, go_sem]
    exact hj1 () _ (by simp [-List.map_set, go_sem]) hψ11
   ·intro i8 s7 φ12 N13 hi15 hi16 ho9 hg10 hF14
    rw [Int.zero_add] at hi16
    try simp [-List.map_set, go_sem]
    refine pw_wk ?_
    repeat rw [sq]
    refine pw_cond_t (by simp [-List.map_set, go_sem, hi15, hi16]) ?_
    try simp [-List.map_set, go_sem]
    refine pw_wk ?_
    repeat rw [sq]
    rw [pw_block]
    obtain ⟨x17, g18, hF19⟩ := Rn_ix hF14
    try simp [-List.map_set, go_sem, g18]
    refine pw_wk ?_
    try simp [-List.map_set, go_sem, g18]
    refine pw_cl hF19 [.sh] c_impl_areAll_1__impl_isTrustee rfl rfl (by (try simp [-List.map_set, go_sem, clE, g18]); first | rfl | done) (by rfl) (by (try simp [-List.map_set, go_sem, g18]); first | rfl | done) fun z20 hF21 => ⟨by simp [go_sem], ?_⟩
    try simp [-List.map_set, go_sem, g18]
    refine pw_wkK [0, 1, 5, 7, 8, 16] (by simp [-List.map_set, go_sem, g18]; rfl) ?_
    repeat rw [sq]
    refine pw_cF hF21 (by simp [-List.map_set, go_sem, g18]) (fun h22 hF23 => ?_) fun h22 hF23 => ?_
    ·cases ho9 _ (Rn_some hF23)
     cases hΦ _ (hr2 _ hψ11)
     try simp [-List.map_set, go_sem, g18]
     refine pw_wk ?_
     try simp [-List.map_set, go_sem, g18]
    ·try simp [-List.map_set, go_sem, g18]
     refine pw_wk ?_
     try simp [-List.map_set, go_sem, g18]
     exact hg10 () _ (by simp [-List.map_set, go_sem, g18, wr_i hi15 hi16 (by assumption)]) (Rn_some hF23)
noncomputable def F_slices_ContainsFunc_int_int__impl_areAll_1_impl_isTrustee (a0 : (List Int)) : Option (Bool) :=
  (F_slices_IndexFunc_int_int__impl_areAll_1_impl_isTrustee a0).bind fun z1 =>
  some (decide (0 ≤ z1))
theorem c_slices_ContainsFunc_int_int__impl_areAll_1_impl_isTrustee {a0 : (List Int)} {r : Bool} (hr : F_slices_ContainsFunc_int_int__impl_areAll_1_impl_isTrustee a0 = some r) : PCalls Try.prog 148 [(.sh, .sl false 1 (a0.map row_i64)), (.sh, .func (.func 149) [] [.fp [.func (.func 130) [] []]])] (Eo (.bool r) [.junk, .junk]) := by
  apply pcalls_lf 9 [] [] [] [.tmp 4] hr cl148 Try.func148 rfl rfl rfl
  · exact ⟨by simp, rfl⟩
  intro Φ hΦ hF
  unfold F_slices_ContainsFunc_int_int__impl_areAll_1_impl_isTrustee at hF
  try simp [-List.map_set, go_sem]
  refine pw_wk ?_
  try simp [-List.map_set, go_sem]
  refine pw_cl hF [.sh, .sh] c_slices_IndexFunc_int_int__impl_areAll_1_impl_isTrustee rfl rfl (by (try simp [-List.map_set, go_sem, clE]); first | rfl | done) (by rfl) (by (try simp [-List.map_set, go_sem]); first | rfl | done) fun z1 hF2 => ⟨by simp [go_sem], ?_⟩
  cases hΦ _ (Rn_some hF2)
  try simp [-List.map_set, go_sem]
  refine pw_wk ?_
  try simp [-List.map_set, go_sem]
noncomputable def F_impl_areAll__impl_isTrustee (a0 : (List Int)) : Option (Bool) :=
  (F_slices_ContainsFunc_int_int__impl_areAll_1_impl_isTrustee a0).bind fun z1 =>
  some (!z1)
theorem c_impl_areAll__impl_isTrustee {a0 : (List Int)} {r : Bool} (hr : F_impl_areAll__impl_isTrustee a0 = some r) : PCalls Try.prog 119 [(.sh, .sl false 1 (a0.map row_i64)), (.sh, .func (.func 130) [] [])] (Eo (.bool r) [.junk, .junk]) := by
  apply pcalls_lf 9 [] [] [3] [.tmp 4] hr cl119 Try.func119 rfl rfl rfl
  · exact ⟨by simp, rfl⟩
  intro Φ hΦ hF
  unfold F_impl_areAll__impl_isTrustee at hF
  try simp [-List.map_set, go_sem]
  refine pw_wk ?_
  try simp [-List.map_set, go_sem]
  refine pw_cl hF [.sh, .sh] c_slices_ContainsFunc_int_int__impl_areAll_1_impl_isTrustee rfl rfl (by (try simp [-List.map_set, go_sem, clE]); first | rfl | done) (by rfl) (by (try simp [-List.map_set, go_sem]); first | rfl | done) fun z1 hF2 => ⟨by simp [go_sem], ?_⟩
  cases hΦ _ (Rn_some hF2)
  try simp [-List.map_set, go_sem]
  refine pw_wk ?_
  try simp [-List.map_set, go_sem]
noncomputable def F_slices_Index_int_int (a0 : (List Int)) (a1 : Int) : Option (Int) :=
  ((rloop (σ := Unit) (β := Unit ⊕ Int) (fun i8 s7 =>
  (ix a0 i8).bind fun x17 =>
  if (a1 == x17) = true then (
  some (.out (.inr i8))) else (
  some (.go ()))) (fun s7 => .inl ()) (a0.length) 0 () : Option (Unit ⊕ Int)).bind (Sum.elim (fun (x5 : Unit) =>
  some (-1)) some))
theorem c_slices_Index_int_int {a0 : (List Int)} {a1 : Int} {r : Int} (hr : F_slices_Index_int_int a0 a1 = some r) : PCalls Try.prog 95 [(.sh, .sl false 1 (a0.map row_i64)), (.sh, .int .i64 a1)] (Eo (.int .i64 r) [.junk, .junk]) := by
  apply pcalls_lf 19 [] [] [] [.tmp 4] hr cl95 Try.func95 rfl rfl rfl
  · exact ⟨by simp, rfl⟩
  intro Φ hΦ hF
  unfold F_slices_Index_int_int at hF
  iterate 2 (try simp [-List.map_set, go_sem]; try intros; refine pw_wk ?_)
  repeat rw [sq]
  refine pw_joinS (fun (x5 : Unit) => []) hF ?_ ?_
  ·intro x5 hF6
   cases hΦ _ (Rn_some hF6)
   try simp [-List.map_set, go_sem]
   refine pw_wk ?_
   try simp [-List.map_set, go_sem]
  ·intro ψ3 hj1 hr2 hF4
   repeat rw [sq]
   rw [pw_block]
   obtain ⟨b22, hb23, hψ11⟩ := hF4
   refine pw_rloop (fun (i8 : Int) (s7 : Unit) => [(0, .v (.sl false 1 (a0.map row_i64))), (1, .v (.int .i64 a1)), (7, .v (.int .i64 (a0.length : Int))), (8, .v (.int .i64 i8))]) hb23 (by simp [-List.map_set, go_sem]) ?_ ?_
   ·intro s7 N25 hN24
    subst hN24
    try simp [-List.map_set, go_sem]
    refine pw_wk ?_
    repeat rw [sq]
    refine pw_cond_f (by simp [-List.map_set, go_sem]) ?_
    try simp [-List.map_set, go_sem]
    exact hj1 () _ (by simp [-List.map_set, go_sem]) hψ11
   ·intro i8 s7 φ12 N13 hi15 hi16 ho9 hg10 hF14
    rw [Int.zero_add] at hi16
    try simp [-List.map_set, go_sem]
    refine pw_wk ?_
    repeat rw [sq]
    refine pw_cond_t (by simp [-List.map_set, go_sem, hi15, hi16]) ?_
    try simp [-List.map_set, go_sem]
    refine pw_wk ?_
    repeat rw [sq]
    rw [pw_block]
    obtain ⟨x17, g18, hF19⟩ := Rn_ix hF14
    try simp [-List.map_set, go_sem, g18]
    refine pw_wk ?_
    try simp [-List.map_set, go_sem, g18]
    refine pw_wkK [0, 1, 5, 7, 8, 16] (by simp [-List.map_set, go_sem, g18]; rfl) ?_
    repeat rw [sq]
    refine pw_cF hF19 (by simp [-List.map_set, go_sem, g18]) (fun h20 hF21 => ?_) fun h20 hF21 => ?_
    ·cases ho9 _ (Rn_some hF21)
     cases hΦ _ (hr2 _ hψ11)
     try simp [-List.map_set, go_sem, g18]
     refine pw_wk ?_
     try simp [-List.map_set, go_sem, g18]
    ·try simp [-List.map_set, go_sem, g18]
     refine pw_wk ?_
     try simp [-List.map_set, go_sem, g18]
     exact hg10 () _ (by simp [-List.map_set, go_sem, g18, wr_i hi15 hi16 (by assumption)]) (Rn_some hF21)
noncomputable def F_slices_Contains_int_int (a0 : (List Int)) (a1 : Int) : Option (Bool) :=
  (F_slices_Index_int_int a0 a1).bind fun z1 =>
  some (decide (0 ≤ z1))
theorem c_slices_Contains_int_int {a0 : (List Int)} {a1 : Int} {r : Bool} (hr : F_slices_Contains_int_int a0 a1 = some r) : PCalls Try.prog 153 [(.sh, .sl false 1 (a0.map row_i64)), (.sh, .int .i64 a1)] (Eo (.bool r) [.junk, .junk]) := by
  apply pcalls_lf 9 [] [] [] [.tmp 4] hr cl153 Try.func153 rfl rfl rfl
  · exact ⟨by simp, rfl⟩
  intro Φ hΦ hF
  unfold F_slices_Contains_int_int at hF
  try simp [-List.map_set, go_sem]
  refine pw_wk ?_
  try simp [-List.map_set, go_sem]
  refine pw_cl hF [.sh, .sh] c_slices_Index_int_int rfl rfl (by (try simp [-List.map_set, go_sem, clE]); first | rfl | done) (by rfl) (by (try simp [-List.map_set, go_sem]); first | rfl | done) fun z1 hF2 => ⟨by simp [go_sem], ?_⟩
  cases hΦ _ (Rn_some hF2)
  try simp [-List.map_set, go_sem]
  refine pw_wk ?_
  try simp [-List.map_set, go_sem]
noncomputable def F_impl_areDifferent (a0 : (List Int)) : Option (Bool) :=
  ((rloop (σ := Unit) (β := Unit ⊕ Bool) (fun i8 s7 =>
  (ix a0 i8).bind fun x17 =>
  gd (0 ≤ i8) <|
  gd (0 ≤ i8.toNat ∧ i8.toNat ≤ a0.length) <|
  (F_slices_Contains_int_int ((a0.take i8.toNat).drop 0) x17).bind fun z26 =>
  if z26 = true then (
  some (.out (.inr false))) else (
  some (.go ()))) (fun s7 => .inl ()) (a0.length) 0 () : Option (Unit ⊕ Bool)).bind (Sum.elim (fun (x5 : Unit) =>
  some true) some))
theorem c_impl_areDifferent {a0 : (List Int)} {r : Bool} (hr : F_impl_areDifferent a0 = some r) : PCalls Try.prog 131 [(.sh, .sl false 1 (a0.map row_i64))] (Eo (.bool r) [.junk]) := by
  apply pcalls_lf 18 [] [] [] [.tmp 2] hr cl131 Try.func131 rfl rfl rfl
  · exact ⟨by simp, rfl⟩
  intro Φ hΦ hF
  unfold F_impl_areDifferent at hF
  iterate 2 (try simp [-List.map_set, go_sem]; try intros; refine pw_wk ?_)
  repeat rw [sq]
  refine pw_joinS (fun (x5 : Unit) => []) hF ?_ ?_
  ·intro x5 hF6
   cases hΦ _ (Rn_some hF6)
   try simp [-List.map_set, go_sem]
   refine pw_wk ?_
   try simp [-List.map_set, go_sem]
  ·intro ψ3 hj1 hr2 hF4
   repeat rw [sq]
   rw [pw_block]
   obtain ⟨b30, hb31, hψ11⟩ := hF4
   refine pw_rloop (fun (i8 : Int) (s7 : Unit) => [(0, .v (.sl false 1 (a0.map row_i64))), (5, .v (.sl false 1 (a0.map row_i64))), (6, .v (.int .i64 (a0.length : Int))), (7, .v (.int .i64 i8))]) hb31 (by simp [-List.map_set, go_sem]) ?_ ?_
   ·intro s7 N33 hN32
    subst hN32
    try simp [-List.map_set, go_sem]
    refine pw_wk ?_
    repeat rw [sq]
    refine pw_cond_f (by simp [-List.map_set, go_sem]) ?_
    try simp [-List.map_set, go_sem]
    exact hj1 () _ (by simp [-List.map_set, go_sem]) hψ11
   ·intro i8 s7 φ12 N13 hi15 hi16 ho9 hg10 hF14
    rw [Int.zero_add] at hi16
    try simp [-List.map_set, go_sem]
    refine pw_wk ?_
    repeat rw [sq]
    refine pw_cond_t (by simp [-List.map_set, go_sem, hi15, hi16]) ?_
    try simp [-List.map_set, go_sem]
    refine pw_wk ?_
    repeat rw [sq]
    rw [pw_block]
    obtain ⟨x17, g18, hF19⟩ := Rn_ix hF14
    try simp [-List.map_set, go_sem, g18]
    refine pw_wkK [0, 3, 4, 5, 6, 7] (by simp [-List.map_set, go_sem, g18]; rfl) ?_
    obtain ⟨g20, hF21⟩ := Rn_gd hF19
    have g22 := g20
    try simp at g22
    obtain ⟨g23, hF24⟩ := Rn_gd hF21
    have g25 := g23
    try simp at g25
    try simp [-List.map_set, go_sem, g18, g20, g22, g23, g25]
    refine pw_cl hF24 [.sh, .sh] c_slices_Contains_int_int rfl rfl (by (try simp [-List.map_set, go_sem, clE, g18, g20, g22, g23, g25]); first | rfl | done) (by rfl) (by (try simp [-List.map_set, go_sem, g18, g20, g22, g23, g25]); first | rfl | done) fun z26 hF27 => ⟨by simp [go_sem], ?_⟩
    try simp [-List.map_set, go_sem, g18, g20, g22, g23, g25]
    refine pw_wk ?_
    repeat rw [sq]
    refine pw_cF hF27 (by simp [-List.map_set, go_sem, g18, g20, g22, g23, g25]) (fun h28 hF29 => ?_) fun h28 hF29 => ?_
    ·cases ho9 _ (Rn_some hF29)
     cases hΦ _ (hr2 _ hψ11)
     try simp [-List.map_set, go_sem, g18, g20, g22, g23, g25]
     refine pw_wk ?_
     try simp [-List.map_set, go_sem, g18, g20, g22, g23, g25]
    ·try simp [-List.map_set, go_sem, g18, g20, g22, g23, g25]
     refine pw_wk ?_
     try simp [-List.map_set, go_sem, g18, g20, g22, g23, g25]
     exact hg10 () _ (by simp [-List.map_set, go_sem, g18, g20, g22, g23, g25, wr_i hi15 hi16 (by assumption)]) (Rn_some hF29)
noncomputable def F_impl_areTrustees (a0 : (List Int)) : Option (Bool) :=
  (((F_impl_areAll__impl_isTrustee a0).bind fun z7 =>
  if z7 = true then (
  (F_impl_areDifferent a0).bind fun z11 =>
  some z11) else (
  some false) : Option (Bool)).bind fun (x5 : Bool) =>
  some x5)
theorem c_impl_areTrustees {a0 : (List Int)} {r : Bool} (hr : F_impl_areTrustees a0 = some r) : PCalls Try.prog 85 [(.sh, .sl false 1 (a0.map row_i64))] (Eo (.bool r) [.junk]) := by
  apply pcalls_lf 9 [] [] [] [.tmp 2] hr cl85 Try.func85 rfl rfl rfl
  · exact ⟨by simp, rfl⟩
  intro Φ hΦ hF
  unfold F_impl_areTrustees at hF
  try simp [-List.map_set, go_sem]
  refine pw_wk ?_
  repeat rw [sq]
  refine pw_joinF (fun (x5 : Bool) => [(2, .v (.bool x5))]) hF ?_ ?_
  ·intro x5 hF6
   cases hΦ _ (Rn_some hF6)
   try simp [-List.map_set, go_sem]
  ·intro ψ3 hj1 hF4
   try simp [-List.map_set, go_sem]
   refine pw_cl hF4 [.sh, .sh] c_impl_areAll__impl_isTrustee rfl rfl (by (try simp [-List.map_set, go_sem, clE]); first | rfl | done) (by rfl) (by (try simp [-List.map_set, go_sem]); first | rfl | done) fun z7 hF8 => ⟨by simp [go_sem], ?_⟩
   try simp [-List.map_set, go_sem]
   refine pwg_F hF8 (fun h9 hF10 => ?_) fun h9 hF10 => ?_
   ·try simp [-List.map_set, go_sem, h9]
    refine pw_cl hF10 [.sh] c_impl_areDifferent rfl rfl (by (try simp [-List.map_set, go_sem, clE]); first | rfl | done) (by rfl) (by (try simp [-List.map_set, go_sem]); first | rfl | done) fun z11 hF12 => ⟨by simp [go_sem], ?_⟩
    try simp [-List.map_set, go_sem, h9]
    exact hj1 z11 _ (by simp [-List.map_set, go_sem]) (Rn_some hF12)
   ·try simp [-List.map_set, go_sem, h9]
    exact hj1 false _ (by simp [-List.map_set, go_sem]) (Rn_some hF10)
noncomputable def F_impl_evalPoly (a0 : Int) (a1 : (List Int)) (a2 : Int) : Option (Int) :=
  ((wloop (σ := Int × Int) (β := Int) (fun s7 =>
  if decide (0 ≤ s7.2) = true then (
  gd (a0 ≠ 0) <|
  (ix a1 s7.2).bind fun x19 =>
  gd (a0 ≠ 0) <|
  some (.go ((IntKind.i64.wrap (((IntKind.i64.wrap (s7.1 * a2)).tmod a0) + x19)).tmod a0, IntKind.i64.wrap (s7.2 - 1)))) else (
  some (.out s7.1))) (0, IntKind.i64.wrap ((a1.length : Int) - 1)) : Option (Int)).bind fun (x5 : Int) =>
  some x5)
theorem c_impl_evalPoly {a0 : Int} {a1 : (List Int)} {a2 : Int} {r : Int} (hr : F_impl_evalPoly a0 a1 a2 = some r) : PCalls Try.prog 86 [(.sh, .int .i64 a0), (.sh, .sl false 1 (a1.map row_i64)), (.sh, .int .i64 a2)] (Eo (.int .i64 r) [.junk, .junk, .junk]) := by
  apply pcalls_lf 29 [] [] [] [.tmp 6] hr cl86 Try.func86 rfl rfl rfl
  · exact ⟨by simp, rfl⟩
  intro Φ hΦ hF
  unfold F_impl_evalPoly at hF
  iterate 3 (try simp [-List.map_set, go_sem]; try intros; refine pw_wk ?_)
  repeat rw [sq]
  refine pw_joinF (fun (x5 : Int) => [(7, .v (.int .i64 x5))]) hF ?_ ?_
  ·intro x5 hF6
   cases hΦ _ (Rn_some hF6)
   try simp [-List.map_set, go_sem]
   refine pw_wk ?_
   try simp [-List.map_set, go_sem]
  ·intro ψ3 hj1 hF4
   repeat rw [sq]
   rw [pw_block]
   obtain ⟨b24, hb25, hψ11⟩ := hF4
   refine pw_wloop (fun (s7 : Int × Int) => [(0, .v (.int .i64 a0)), (1, .v (.sl false 1 (a1.map row_i64))), (2, .v (.int .i64 a2)), (7, .v (.int .i64 s7.1)), (8, .v (.int .i64 s7.2))]) hb25 (by simp [-List.map_set, go_sem]) ?_
   intro s7 φ12 N13 ho9 hg10 hF14
   try simp [-List.map_set, go_sem]
   refine pw_wk ?_
   repeat rw [sq]
   refine pw_cF hF14 (by simp [-List.map_set, go_sem]) (fun h15 hF16 => ?_) fun h15 hF16 => ?_
   ·try simp [-List.map_set, go_sem]
    refine pw_wk ?_
    repeat rw [sq]
    rw [pw_block]
    repeat rw [sq]
    refine pw_draw D86_5 follows (by kernel_rfl) rfl ?_
    try simp only [go_sem, D86_5]
    obtain ⟨g17, hF18⟩ := Rn_nz hF16
    obtain ⟨x19, g20, hF21⟩ := Rn_ix hF18
    obtain ⟨g22, hF23⟩ := Rn_nz hF21
    try simp [-List.map_set, go_sem, g17, g20, g22]
    refine pw_wkK [0, 1, 2, 7, 8] (by simp [-List.map_set, go_sem, g17, g20, g22]; rfl) ?_
    try simp [-List.map_set, go_sem, g17, g20, g22]
    exact hg10 ((IntKind.i64.wrap (((IntKind.i64.wrap (s7.1 * a2)).tmod a0) + x19)).tmod a0, IntKind.i64.wrap (s7.2 - 1)) _ (by simp [-List.map_set, go_sem, g17, g20, g22]) (Rn_some hF23)
   ·try simp [-List.map_set, go_sem]
    cases ho9 _ (Rn_some hF16)
    exact hj1 s7.1 _ (by simp [-List.map_set, go_sem]) hψ11
noncomputable def F_slices_Clone_impl_ViewCount_impl_ViewCount (a0 : (List ViewCount)) : Option (List ViewCount) :=
  gd (a0.length * 32 ≤ 140737488355328 ∧ a0.length ≤ 4611686018427387904) <|
  some a0
theorem c_slices_Clone_impl_ViewCount_impl_ViewCount {a0 : (List ViewCount)} {r : (List ViewCount)} (hr : F_slices_Clone_impl_ViewCount_impl_ViewCount a0 = some r) : PCalls Try.prog 123 [(.sh, .sl false 2 (a0.map row_ViewCount_z))] (Eo (.sl true 2 (r.map row_ViewCount_z)) [.junk]) := by
  apply pcalls_lf 8 [] [] [1000000] [.tmp 2] hr cl123 Try.func123 rfl rfl rfl
  · exact ⟨by simp, rfl⟩
  intro Φ hΦ hF
  unfold F_slices_Clone_impl_ViewCount_impl_ViewCount at hF
  obtain ⟨g, hF⟩ := Rn_gd hF
  have h1 := hΦ _ (Rn_some hF)
  subst h1
  try simp [-List.map_set, go_sem]
  refine pw_wkL [(0, .v (.sl false 2 (a0.map row_ViewCount_z)))] (by simp [-List.map_set, go_sem]) ?_
  try simp [-List.map_set, go_sem]
  refine pw1_nil rfl rfl (by simp [go_sem]) rfl (by rfl) fun b hb => ?_
  try simp [-List.map_set, go_sem]
  refine pw_wk ?_
  repeat rw [pw_seq]
  cases b
  · refine pw_cond_f (by simp [-List.map_set, go_sem]) ?_
    try simp [-List.map_set, go_sem]
    refine pw_wk ?_
    try simp [-List.map_set, go_sem, g]
    refine pw_wk ?_
    try simp [-List.map_set, go_sem, g]
  · have hb0 : a0 = [] := by
      cases a0 with
      | nil => rfl
      | cons x l => exact absurd (hb (by simp)) (by simp)
    subst hb0
    refine pw_cond_t (by simp [-List.map_set, go_sem]) ?_
    try simp [-List.map_set, go_sem]
    refine pw_wk ?_
    try simp [-List.map_set, go_sem]
noncomputable def F_cmp_isNaN_int (a0 : Int) : Option (Bool) :=
  some (a0 != a0)
theorem c_cmp_isNaN_int {a0 : Int} {r : Bool} (hr : F_cmp_isNaN_int a0 = some r) : PCalls Try.prog 163 [(.sh, .int .i64 a0)] (Eo (.bool r) [.junk]) := by
  apply pcalls_lf 6 [] [] [] [.tmp 2] hr cl163 Try.func163 rfl rfl rfl
  · exact ⟨by simp, rfl⟩
  intro Φ hΦ hF
  unfold F_cmp_isNaN_int at hF
  cases hΦ _ (Rn_some hF)
  iterate 2 (try simp [-List.map_set, go_sem]; refine pw_wk ?_)
  try simp [-List.map_set, go_sem]
noncomputable def F_cmp_Compare_int (a0 : Int) (a1 : Int) : Option (Int) :=
  (F_cmp_isNaN_int a0).bind fun z1 =>
  (F_cmp_isNaN_int a1).bind fun z3 =>
  if z1 = true then (
  if z3 = true then (
  some 0) else (
  some (-1))) else (
  if z3 = true then (
  some 1) else (
  if decide (a0 < a1) = true then (
  some (-1)) else (
  if decide (a1 < a0) = true then (
  some 1) else (
  some 0))))
theorem c_cmp_Compare_int {a0 : Int} {a1 : Int} {r : Int} (hr : F_cmp_Compare_int a0 a1 = some r) : PCalls Try.prog 150 [(.sh, .int .i64 a0), (.sh, .int .i64 a1)] (Eo (.int .i64 r) [.junk, .junk]) := by
  apply pcalls_lf 20 [] [] [] [.tmp 4] hr cl150 Try.func150 rfl rfl rfl
  · exact ⟨by simp, rfl⟩
  intro Φ hΦ hF
  unfold F_cmp_Compare_int at hF
  try simp [-List.map_set, go_sem]
  refine pw_wk ?_
  try simp [-List.map_set, go_sem]
  refine pw_cl hF [.sh] c_cmp_isNaN_int rfl rfl (by (try simp [-List.map_set, go_sem, clE]); first | rfl | done) (by rfl) (by (try simp [-List.map_set, go_sem]); first | rfl | done) fun z1 hF2 => ⟨by simp [go_sem], ?_⟩
  try simp [-List.map_set, go_sem]
  refine pw_wk ?_
  try simp [-List.map_set, go_sem]
  refine pw_cl hF2 [.sh] c_cmp_isNaN_int rfl rfl (by (try simp [-List.map_set, go_sem, clE]); first | rfl | done) (by rfl) (by (try simp [-List.map_set, go_sem]); first | rfl | done) fun z3 hF4 => ⟨by simp [go_sem], ?_⟩
  iterate 2 (try simp [-List.map_set, go_sem]; refine pw_wk ?_)
  repeat rw [sq]
  refine pw_cF hF4 (by simp [-List.map_set, go_sem]) (fun h5 hF6 => ?_) fun h5 hF6 => ?_
  ·try simp [-List.map_set, go_sem]
   refine pw_wk ?_
   repeat rw [sq]
   refine pw_cF hF6 (by simp [-List.map_set, go_sem]) (fun h7 hF8 => ?_) fun h7 hF8 => ?_
   ·try simp [-List.map_set, go_sem]
    refine pw_wkK [4] (by simp [-List.map_set, go_sem]; rfl) ?_
    cases hΦ _ (Rn_some hF8)
    try simp [-List.map_set, go_sem]
   ·try simp [-List.map_set, go_sem]
    refine pw_wk ?_
    try simp [-List.map_set, go_sem]
    refine pw_wkK [4] (by simp [-List.map_set, go_sem]; rfl) ?_
    cases hΦ _ (Rn_some hF8)
    try simp [-List.map_set, go_sem]
  ·iterate 2 (try simp [-List.map_set, go_sem]; refine pw_wk ?_)
   repeat rw [sq]
   refine pw_cF hF6 (by simp [-List.map_set, go_sem]) (fun h9 hF10 => ?_) fun h9 hF10 => ?_
   ·try simp [-List.map_set, go_sem]
    refine pw_wkK [4] (by simp [-List.map_set, go_sem]; rfl) ?_
    cases hΦ _ (Rn_some hF10)
    try simp [-List.map_set, go_sem]
   ·try simp [-List.map_set, go_sem]
    refine pw_wk ?_
    try simp [-List.map_set, go_sem]
    refine pw_wkK [0, 1, 16] (by simp [-List.map_set, go_sem]; rfl) ?_
    repeat rw [sq]
    refine pw_cF hF10 (by simp [-List.map_set, go_sem]) (fun h11 hF12 => ?_) fun h11 hF12 => ?_
    ·cases hΦ _ (Rn_some hF12)
     try simp [-List.map_set, go_sem]
     refine pw_wk ?_
     try simp [-List.map_set, go_sem]
    ·iterate 2 (try simp [-List.map_set, go_sem]; refine pw_wk ?_)
     repeat rw [sq]
     refine pw_cF hF12 (by simp [-List.map_set, go_sem]) (fun h13 hF14 => ?_) fun h13 hF14 => ?_
     ·cases hΦ _ (Rn_some hF14)
      try simp [-List.map_set, go_sem]
      refine pw_wk ?_
      try simp [-List.map_set, go_sem]
     ·cases hΦ _ (Rn_some hF14)
      iterate 2 (try simp [-List.map_set, go_sem]; refine pw_wk ?_)
      try simp [-List.map_set, go_sem]
noncomputable def F_slices_Compare_int_int (a0 : (List Int)) (a1 : (List Int)) : Option (Int) :=
  ((rloop (σ := Unit) (β := Unit ⊕ Int) (fun i8 s7 =>
  (ix a0 i8).bind fun x17 =>
  if decide ((a1.length : Int) ≤ i8) = true then (
  some (.out (.inr 1))) else (
  (ix a1 i8).bind fun x22 =>
  (F_cmp_Compare_int x17 x22).bind fun z25 =>
  if (z25 != 0) = true then (
  some (.out (.inr z25))) else (
  some (.go ())))) (fun s7 => .inl ()) (a0.length) 0 () : Option (Unit ⊕ Int)).bind (Sum.elim (fun (x5 : Unit) =>
  if decide ((a0.length : Int) < (a1.length : Int)) = true then (
  some (-1)) else (
  some 0)) some))
theorem c_slices_Compare_int_int {a0 : (List Int)} {a1 : (List Int)} {r : Int} (hr : F_slices_Compare_int_int a0 a1 = some r) : PCalls Try.prog 120 [(.sh, .sl false 1 (a0.map row_i64)), (.sh, .sl false 1 (a1.map row_i64))] (Eo (.int .i64 r) [.junk, .junk]) := by
  apply pcalls_lf 36 [] [] [] [.tmp 4] hr cl120 Try.func120 rfl rfl rfl
  · exact ⟨by simp, rfl⟩
  intro Φ hΦ hF
  unfold F_slices_Compare_int_int at hF
  iterate 2 (try simp [-List.map_set, go_sem]; try intros; refine pw_wk ?_)
  repeat rw [sq]
  refine pw_joinS (fun (x5 : Unit) => [(0, .v (.sl false 1 (a0.map row_i64))), (1, .v (.sl false 1 (a1.map row_i64)))]) hF ?_ ?_
  ·intro x5 hF6
   try simp [-List.map_set, go_sem]
   try intros
   refine pw_wk ?_
   repeat rw [sq]
   refine pw_cF hF6 (by simp [-List.map_set, go_sem]) (fun h33 hF34 => ?_) fun h33 hF34 => ?_
   ·try simp [-List.map_set, go_sem]
    refine pw_wkK [4] (by simp [-List.map_set, go_sem]; rfl) ?_
    cases hΦ _ (Rn_some hF34)
    try simp [-List.map_set, go_sem]
   ·try simp [-List.map_set, go_sem]
    refine pw_wk ?_
    try simp [-List.map_set, go_sem]
    refine pw_wkK [4] (by simp [-List.map_set, go_sem]; rfl) ?_
    cases hΦ _ (Rn_some hF34)
    try simp [-List.map_set, go_sem]
  ·intro ψ3 hj1 hr2 hF4
   repeat rw [sq]
   rw [pw_block]
   obtain ⟨b29, hb30, hψ11⟩ := hF4
   refine pw_rloop (fun (i8 : Int) (s7 : Unit) => [(0, .v (.sl false 1 (a0.map row_i64))), (1, .v (.sl false 1 (a1.map row_i64))), (9, .v (.sl false 1 (a0.map row_i64))), (10, .v (.int .i64 (a0.length : Int))), (11, .v (.int .i64 i8))]) hb30 (by simp [-List.map_set, go_sem]) ?_ ?_
   ·intro s7 N32 hN31
    subst hN31
    try simp [-List.map_set, go_sem]
    refine pw_wk ?_
    repeat rw [sq]
    refine pw_cond_f (by simp [-List.map_set, go_sem]) ?_
    try simp [-List.map_set, go_sem]
    exact hj1 () _ (by simp [-List.map_set, go_sem]) hψ11
   ·intro i8 s7 φ12 N13 hi15 hi16 ho9 hg10 hF14
    rw [Int.zero_add] at hi16
    try simp [-List.map_set, go_sem]
    refine pw_wk ?_
    repeat rw [sq]
    refine pw_cond_t (by simp [-List.map_set, go_sem, hi15, hi16]) ?_
    try simp [-List.map_set, go_sem]
    refine pw_wk ?_
    repeat rw [sq]
    rw [pw_block]
    obtain ⟨x17, g18, hF19⟩ := Rn_ix hF14
    try simp [-List.map_set, go_sem, g18]
    refine pw_wkK [0, 1, 5, 6, 9, 10, 11] (by simp [-List.map_set, go_sem, g18]; rfl) ?_
    try simp [-List.map_set, go_sem, g18]
    try intros
    refine pw_wk ?_
    repeat rw [sq]
    refine pw_cF hF19 (by simp [-List.map_set, go_sem, g18]) (fun h20 hF21 => ?_) fun h20 hF21 => ?_
    ·cases ho9 _ (Rn_some hF21)
     cases hΦ _ (hr2 _ hψ11)
     try simp [-List.map_set, go_sem, g18]
     refine pw_wk ?_
     try simp [-List.map_set, go_sem, g18]
    ·obtain ⟨x22, g23, hF24⟩ := Rn_ix hF21
     iterate 2 (try simp [-List.map_set, go_sem, g18, g23]; refine pw_wk ?_)
     try simp [-List.map_set, go_sem, g18, g23]
     refine pw_cl hF24 [.sh, .sh] c_cmp_Compare_int rfl rfl (by (try simp [-List.map_set, go_sem, clE, g18, g23]); first | rfl | done) (by rfl) (by (try simp [-List.map_set, go_sem, g18, g23]); first | rfl | done) fun z25 hF26 => ⟨by simp [go_sem], ?_⟩
     try simp [-List.map_set, go_sem, g18, g23]
     refine pw_wkK [0, 1, 8, 9, 10, 11] (by simp [-List.map_set, go_sem, g18, g23]; rfl) ?_
     try simp [-List.map_set, go_sem, g18, g23]
     refine pw_wk ?_
     repeat rw [sq]
     refine pw_cF hF26 (by simp [-List.map_set, go_sem, g18, g23]) (fun h27 hF28 => ?_) fun h27 hF28 => ?_
     ·cases ho9 _ (Rn_some hF28)
      cases hΦ _ (hr2 _ hψ11)
      try simp [-List.map_set, go_sem, g18, g23]
      refine pw_wk ?_
      try simp [-List.map_set, go_sem, g18, g23]
     ·try simp [-List.map_set, go_sem, g18, g23]
      refine pw_wk ?_
      try simp [-List.map_set, go_sem, g18, g23]
      exact hg10 () _ (by simp [-List.map_set, go_sem, g18, g23, wr_i hi15 hi16 (by assumption)]) (Rn_some hF28)
noncomputable def F_impl_gathered_1 (a0 : ViewCount) (a1 : ViewCount) : Option (Int) :=
  (F_slices_Compare_int_int a0.View a1.View).bind fun z1 =>
  some z1
theorem c_impl_gathered_1 {a0 : ViewCount} {a1 : ViewCount} {r : Int} (hr : F_impl_gathered_1 a0 a1 = some r) : PCalls Try.prog 125 [(.sh, .agg [.sl false 1 (a0.View.map row_i64), .int .i64 a0.Times]), (.sh, .agg [.sl false 1 (a1.View.map row_i64), .int .i64 a1.Times])] (Eo (.int .i64 r) [.junk, .junk]) := by
  apply pcalls_lf 10 [] [] [] [.tmp 4] hr cl125 Try.func125 rfl rfl rfl
  · exact ⟨by simp, rfl⟩
  intro Φ hΦ hF
  unfold F_impl_gathered_1 at hF
  try simp [-List.map_set, go_sem]
  refine pw_wk ?_
  try simp [-List.map_set, go_sem]
  refine pw_cl hF [.sh, .sh] c_slices_Compare_int_int rfl rfl (by (try simp [-List.map_set, go_sem, clE]); first | rfl | done) (by rfl) (by (try simp [-List.map_set, go_sem]); first | rfl | done) fun z1 hF2 => ⟨by simp [go_sem], ?_⟩
  cases hΦ _ (Rn_some hF2)
  try simp [-List.map_set, go_sem]
  refine pw_wk ?_
  try simp [-List.map_set, go_sem]
noncomputable def F_slices_insertionSortCmpFunc_impl_ViewCount__io0_impl_gathered_1 (a0 : (List ViewCount)) (a1 : Int) (a2 : Int) : Option ((List ViewCount)) :=
  wloop (σ := (List ViewCount) × Int) (β := (List ViewCount)) (fun s89 =>
  if decide (s89.2 < a2) = true then (
  ((wloop (σ := (List ViewCount) × Int) (β := (List ViewCount)) (fun s140 =>
  ((if decide (a1 < s140.2) = true then (
  (ix s140.1 s140.2).bind fun x156 =>
  (ix s140.1 (IntKind.i64.wrap (s140.2 - 1))).bind fun x159 =>
  (F_impl_gathered_1 x156 x159).bind fun z162 =>
  some (decide (z162 < 0))) else (
  some false) : Option (Bool)).bind fun (x152 : Bool) =>
  if x152 = true then (
  (ix s140.1 (IntKind.i64.wrap (s140.2 - 1))).bind fun x166 =>
  (ix s140.1 s140.2).bind fun x169 =>
  (ix (s140.1.set s140.2.toNat x166) (IntKind.i64.wrap (s140.2 - 1))).bind fun x172 =>
  some (.go ((s140.1.set s140.2.toNat x166).set ((IntKind.i64.wrap (s140.2 - 1)).toNat) x169, IntKind.i64.wrap (s140.2 - 1)))) else (
  some (.out s140.1)))) (s89.1, s89.2) : Option ((List ViewCount))).bind fun (x103 : (List ViewCount)) =>
  some (.go (x103, IntKind.i64.wrap (s89.2 + 1))))) else (
  some (.out s89.1))) (a0, IntKind.i64.wrap (a1 + 1))
theorem c_slices_insertionSortCmpFunc_impl_ViewCount__io0_impl_gathered_1 {a0 : (List ViewCount)} {a1 : Int} {a2 : Int} {r : (List ViewCount)} (hr : F_slices_insertionSortCmpFunc_impl_ViewCount__io0_impl_gathered_1 a0 a1 a2 = some r) : PCalls Try.prog 164 [(.io, .sl true 2 (a0.map row_ViewCount_z)), (.sh, .int .i64 a1), (.sh, .int .i64 a2), (.sh, .func (.func 125) [] [])] (Eo (.junk) [.sl true 2 (r.map row_ViewCount_z), .junk, .junk, .junk]) := by
  apply pcalls_lf 53 [0] [] [] [] hr cl164 Try.func164 rfl rfl rfl
  · exact ⟨by simp, rfl⟩
  intro Φ hΦ hF
  unfold F_slices_insertionSortCmpFunc_impl_ViewCount__io0_impl_gathered_1 at hF
  try simp [-List.map_set, go_sem]
  refine pw_wk ?_
  repeat rw [sq]
  rw [pw_block]
  obtain ⟨b177, hb178, hψ93⟩ := hF
  refine pw_wloop (fun (s89 : (List ViewCount) × Int) => [(0, .v (.sl true 2 (s89.1.map row_ViewCount_z))), (1, .v (.int .i64 a1)), (2, .v (.int .i64 a2)), (3, .v (.func (.func 125) [] [])), (8, .v (.int .i64 s89.2))]) hb178 (by simp [-List.map_set, go_sem]) ?_
  intro s89 φ94 N95 ho91 hg92 hF96
  try simp [-List.map_set, go_sem]
  refine pw_wk ?_
  repeat rw [sq]
  refine pw_cF hF96 (by simp [-List.map_set, go_sem]) (fun h97 hF98 => ?_) fun h97 hF98 => ?_
  ·try simp [-List.map_set, go_sem]
   refine pw_wk ?_
   repeat rw [sq]
   refine pw_joinF (fun (x103 : (List ViewCount)) => [(0, .v (.sl true 2 (x103.map row_ViewCount_z))), (1, .v (.int .i64 a1)), (2, .v (.int .i64 a2)), (3, .v (.func (.func 125) [] [])), (8, .v (.int .i64 s89.2))]) hF98 ?_ ?_
   ·intro x103 hF104
    try simp [-List.map_set, go_sem]
    exact hg92 (x103, IntKind.i64.wrap (s89.2 + 1)) _ (by simp [-List.map_set, go_sem]) (Rn_some hF104)
   ·intro ψ101 hj99 hF102
    repeat rw [sq]
    rw [pw_block]
    try simp [-List.map_set, go_sem]
    refine pw_wk ?_
    repeat rw [sq]
    rw [pw_block]
    obtain ⟨b175, hb176, hψ144⟩ := hF102
    refine pw_wloop (fun (s140 : (List ViewCount) × Int) => [(0, .v (.sl true 2 (s140.1.map row_ViewCount_z))), (1, .v (.int .i64 a1)), (2, .v (.int .i64 a2)), (3, .v (.func (.func 125) [] [])), (8, .v (.int .i64 s89.2)), (9, .v (.int .i64 s140.2))]) hb176 (by simp [-List.map_set, go_sem]) ?_
    intro s140 φ145 N146 ho142 hg143 hF147
    repeat rw [sq]
    refine pw_joinF (fun (x152 : Bool) => [(0, .v (.sl true 2 (s140.1.map row_ViewCount_z))), (1, .v (.int .i64 a1)), (2, .v (.int .i64 a2)), (3, .v (.func (.func 125) [] [])), (8, .v (.int .i64 s89.2)), (9, .v (.int .i64 s140.2)), (34, .v (.bool x152))]) hF147 ?_ ?_
    ·intro x152 hF153
     repeat rw [sq]
     refine pw_cF hF153 (by simp [-List.map_set, go_sem]) (fun h164 hF165 => ?_) fun h164 hF165 => ?_
     ·try simp [-List.map_set, go_sem]
      refine pw_wk ?_
      repeat rw [sq]
      rw [pw_block]
      repeat rw [sq]
      refine pw_draw D164_6 follows (by kernel_rfl) rfl ?_
      try simp only [go_sem, D164_6]
      obtain ⟨x166, g167, hF168⟩ := Rn_ix hF165
      obtain ⟨x169, g170, hF171⟩ := Rn_ix hF168
      obtain ⟨x172, g173, hF174⟩ := Rn_ix hF171
      try simp [-List.map_set, go_sem, g167, g170, g173]
      refine pw_wkK [0, 1, 2, 3, 8, 9] (by simp [-List.map_set, go_sem, g167, g170, g173]; rfl) ?_
      try simp [-List.map_set, go_sem, g167, g170, g173]
      exact hg143 ((s140.1.set s140.2.toNat x166).set ((IntKind.i64.wrap (s140.2 - 1)).toNat) x169, IntKind.i64.wrap (s140.2 - 1)) _ (by simp [-List.map_set, go_sem, g167, g170, g173]) (Rn_some hF174)
     ·try simp [-List.map_set, go_sem]
      cases ho142 _ (Rn_some hF165)
      exact hj99 s140.1 _ (by simp [-List.map_set, go_sem]) hψ144
    ·intro ψ150 hj148 hF151
     repeat rw [sq]
     refine pw_draw D164_4 follows (by kernel_rfl) rfl ?_
     try simp only [go_sem, D164_4]
     try simp [-List.map_set, go_sem]
     refine pwgD_F hF151 (fun h154 hF155 => ?_) fun h154 hF155 => ?_
     ·obtain ⟨x156, g157, hF158⟩ := Rn_ix hF155
      obtain ⟨x159, g160, hF161⟩ := Rn_ix hF158
      try simp [-List.map_set, go_sem, g157, g160, h154]
      refine pw_cl hF161 [.sh, .sh] c_impl_gathered_1 rfl rfl (by (try simp [-List.map_set, go_sem, clE, g157, g160]); first | rfl | done) (by rfl) (by (try simp [-List.map_set, go_sem, g157, g160]); first | rfl | done) fun z162 hF163 => ⟨by simp [go_sem], ?_⟩
      try simp [-List.map_set, go_sem, g157, g160, h154]
      exact hj148 (decide (z162 < 0)) _ (by simp [-List.map_set, go_sem, g157, g160]) (Rn_some hF163)
     ·try simp [-List.map_set, go_sem, h154]
      exact hj148 false _ (by simp [-List.map_set, go_sem]) (Rn_some hF155)
  ·cases ho91 _ (Rn_some hF98)
   cases hΦ _ hψ93
   try simp [-List.map_set, go_sem]
noncomputable def F_slices_swapRangeCmpFunc_impl_ViewCount__io0_impl_gathered_1 (a0 : (List ViewCount)) (a1 : Int) (a2 : Int) (a3 : Int) : Option ((List ViewCount)) :=
  wloop (σ := (List ViewCount) × Int) (β := (List ViewCount)) (fun s20 =>
  if decide (s20.2 < a3) = true then (
  (ix s20.1 (IntKind.i64.wrap (a2 + s20.2))).bind fun x30 =>
  (ix s20.1 (IntKind.i64.wrap (a1 + s20.2))).bind fun x33 =>
  (ix (s20.1.set ((IntKind.i64.wrap (a1 + s20.2)).toNat) x30) (IntKind.i64.wrap (a2 + s20.2))).bind fun x36 =>
  some (.go ((s20.1.set ((IntKind.i64.wrap (a1 + s20.2)).toNat) x30).set ((IntKind.i64.wrap (a2 + s20.2)).toNat) x33, IntKind.i64.wrap (s20.2 + 1)))) else (
  some (.out s20.1))) (a0, 0)
theorem c_slices_swapRangeCmpFunc_impl_ViewCount__io0_impl_gathered_1 {a0 : (List ViewCount)} {a1 : Int} {a2 : Int} {a3 : Int} {r : (List ViewCount)} (hr : F_slices_swapRangeCmpFunc_impl_ViewCount__io0_impl_gathered_1 a0 a1 a2 a3 = some r) : PCalls Try.prog 170 [(.io, .sl true 2 (a0.map row_ViewCount_z)), (.sh, .int .i64 a1), (.sh, .int .i64 a2), (.sh, .int .i64 a3), (.sh, .func (.func 125) [] [])] (Eo (.junk) [.sl true 2 (r.map row_ViewCount_z), .junk, .junk, .junk, .junk]) := by
  apply pcalls_lf 38 [0] [] [] [] hr cl170 Try.func170 rfl rfl rfl
  · exact ⟨by simp, rfl⟩
  intro Φ hΦ hF
  unfold F_slices_swapRangeCmpFunc_impl_ViewCount__io0_impl_gathered_1 at hF
  try simp [-List.map_set, go_sem]
  refine pw_wk ?_
  repeat rw [sq]
  rw [pw_block]
  obtain ⟨b39, hb40, hψ24⟩ := hF
  refine pw_wloop (fun (s20 : (List ViewCount) × Int) => [(0, .v (.sl true 2 (s20.1.map row_ViewCount_z))), (1, .v (.int .i64 a1)), (2, .v (.int .i64 a2)), (3, .v (.int .i64 a3)), (10, .v (.int .i64 s20.2))]) hb40 (by simp [-List.map_set, go_sem]) ?_
  intro s20 φ25 N26 ho22 hg23 hF27
  try simp [-List.map_set, go_sem]
  refine pw_wk ?_
  repeat rw [sq]
  refine pw_cF hF27 (by simp [-List.map_set, go_sem]) (fun h28 hF29 => ?_) fun h28 hF29 => ?_
  ·try simp [-List.map_set, go_sem]
   refine pw_wk ?_
   repeat rw [sq]
   rw [pw_block]
   repeat rw [sq]
   refine pw_draw D170_3 follows (by kernel_rfl) rfl ?_
   try simp only [go_sem, D170_3]
   obtain ⟨x30, g31, hF32⟩ := Rn_ix hF29
   obtain ⟨x33, g34, hF35⟩ := Rn_ix hF32
   obtain ⟨x36, g37, hF38⟩ := Rn_ix hF35
   try simp [-List.map_set, go_sem, g31, g34, g37]
   refine pw_wkK [0, 1, 2, 3, 10] (by simp [-List.map_set, go_sem, g31, g34, g37]; rfl) ?_
   try simp [-List.map_set, go_sem, g31, g34, g37]
   exact hg23 ((s20.1.set ((IntKind.i64.wrap (a1 + s20.2)).toNat) x30).set ((IntKind.i64.wrap (a2 + s20.2)).toNat) x33, IntKind.i64.wrap (s20.2 + 1)) _ (by simp [-List.map_set, go_sem, g31, g34, g37]) (Rn_some hF38)
  ·cases ho22 _ (Rn_some hF29)
   cases hΦ _ hψ24
   try simp [-List.map_set, go_sem]
noncomputable def F_slices_rotateCmpFunc_impl_ViewCount__io0_impl_gathered_1 (a0 : (List ViewCount)) (a1 : Int) (a2 : Int) (a3 : Int) : Option ((List ViewCount)) :=
  ((wloop (σ := (List ViewCount) × Int × Int) (β := ((List ViewCount) × Int)) (fun s23 =>
  if (s23.2.1 != s23.2.2) = true then (
  if decide (s23.2.2 < s23.2.1) = true then (
  (F_slices_swapRangeCmpFunc_impl_ViewCount__io0_impl_gathered_1 s23.1 (IntKind.i64.wrap (a2 - s23.2.1)) a2 s23.2.2).bind fun z35 =>
  some (.go (z35, IntKind.i64.wrap (s23.2.1 - s23.2.2), s23.2.2))) else (
  (F_slices_swapRangeCmpFunc_impl_ViewCount__io0_impl_gathered_1 s23.1 (IntKind.i64.wrap (a2 - s23.2.1)) (IntKind.i64.wrap ((IntKind.i64.wrap (a2 + s23.2.2)) - s23.2.1)) s23.2.1).bind fun z37 =>
  some (.go (z37, s23.2.1, IntKind.i64.wrap (s23.2.2 - s23.2.1))))) else (
  some (.out (s23.1, s23.2.1)))) (a0, IntKind.i64.wrap (a2 - a1), IntKind.i64.wrap (a3 - a2)) : Option (((List ViewCount) × Int))).bind fun (x5 : (List ViewCount) × Int) =>
  (F_slices_swapRangeCmpFunc_impl_ViewCount__io0_impl_gathered_1 x5.1 (IntKind.i64.wrap (a2 - x5.2)) a2 x5.2).bind fun z41 =>
  some z41)
theorem c_slices_rotateCmpFunc_impl_ViewCount__io0_impl_gathered_1 {a0 : (List ViewCount)} {a1 : Int} {a2 : Int} {a3 : Int} {r : (List ViewCount)} (hr : F_slices_rotateCmpFunc_impl_ViewCount__io0_impl_gathered_1 a0 a1 a2 a3 = some r) : PCalls Try.prog 168 [(.io, .sl true 2 (a0.map row_ViewCount_z)), (.sh, .int .i64 a1), (.sh, .int .i64 a2), (.sh, .int .i64 a3), (.sh, .func (.func 125) [] [])] (Eo (.junk) [.sl true 2 (r.map row_ViewCount_z), .junk, .junk, .junk, .junk]) := by
  apply pcalls_lf 58 [0] [] [] [] hr cl168 Try.func168 rfl rfl rfl
  · exact ⟨by simp, rfl⟩
  intro Φ hΦ hF
  unfold F_slices_rotateCmpFunc_impl_ViewCount__io0_impl_gathered_1 at hF
  iterate 2 (try simp [-List.map_set, go_sem]; refine pw_wk ?_)
  repeat rw [sq]
  refine pw_joinF (fun (x5 : (List ViewCount) × Int) => [(0, .v (.sl true 2 (x5.1.map row_ViewCount_z))), (2, .v (.int .i64 a2)), (4, .v (.func (.func 125) [] [])), (10, .v (.int .i64 x5.2))]) hF ?_ ?_
  ·intro x5 hF6
   try simp [-List.map_set, go_sem]
   refine pw_cl hF6 [.io, .sh, .sh, .sh, .sh] c_slices_swapRangeCmpFunc_impl_ViewCount__io0_impl_gathered_1 rfl rfl (by (try simp [-List.map_set, go_sem, clE]); first | rfl | done) (by rfl) (by (try simp [-List.map_set, go_sem]); first | rfl | done) fun z41 hF42 => ⟨by simp [go_sem], ?_⟩
   cases hΦ _ (Rn_some hF42)
   try simp [-List.map_set, go_sem]
  ·intro ψ3 hj1 hF4
   repeat rw [sq]
   rw [pw_block]
   obtain ⟨b39, hb40, hψ27⟩ := hF4
   refine pw_wloop (fun (s23 : (List ViewCount) × Int × Int) => [(0, .v (.sl true 2 (s23.1.map row_ViewCount_z))), (2, .v (.int .i64 a2)), (4, .v (.func (.func 125) [] [])), (10, .v (.int .i64 s23.2.1)), (11, .v (.int .i64 s23.2.2))]) hb40 (by simp [-List.map_set, go_sem]) ?_
   intro s23 φ28 N29 ho25 hg26 hF30
   try simp [-List.map_set, go_sem]
   refine pw_wkK [0, 2, 4, 10, 11, 20] (by simp [-List.map_set, go_sem]; rfl) ?_
   repeat rw [sq]
   refine pw_cF hF30 (by simp [-List.map_set, go_sem]) (fun h31 hF32 => ?_) fun h31 hF32 => ?_
   ·try simp [-List.map_set, go_sem]
    refine pw_wk ?_
    repeat rw [sq]
    rw [pw_block]
    try simp [-List.map_set, go_sem]
    refine pw_wk ?_
    repeat rw [sq]
    refine pw_cF hF32 (by simp [-List.map_set, go_sem]) (fun h33 hF34 => ?_) fun h33 hF34 => ?_
    ·try simp [-List.map_set, go_sem]
     refine pw_cl hF34 [.io, .sh, .sh, .sh, .sh] c_slices_swapRangeCmpFunc_impl_ViewCount__io0_impl_gathered_1 rfl rfl (by (try simp [-List.map_set, go_sem, clE]); first | rfl | done) (by rfl) (by (try simp [-List.map_set, go_sem]); first | rfl | done) fun z35 hF36 => ⟨by simp [go_sem], ?_⟩
     try simp [-List.map_set, go_sem]
     refine pw_wkK [0, 2, 4, 10, 11] (by simp [-List.map_set, go_sem]; rfl) ?_
     try simp [-List.map_set, go_sem]
     exact hg26 (z35, IntKind.i64.wrap (s23.2.1 - s23.2.2), s23.2.2) _ (by simp [-List.map_set, go_sem]) (Rn_some hF36)
    ·try simp [-List.map_set, go_sem]
     refine pw_cl hF34 [.io, .sh, .sh, .sh, .sh] c_slices_swapRangeCmpFunc_impl_ViewCount__io0_impl_gathered_1 rfl rfl (by (try simp [-List.map_set, go_sem, clE]); first | rfl | done) (by rfl) (by (try simp [-List.map_set, go_sem]); first | rfl | done) fun z37 hF38 => ⟨by simp [go_sem], ?_⟩
     try simp [-List.map_set, go_sem]
     refine pw_wkK [0, 2, 4, 10, 11] (by simp [-List.map_set, go_sem]; rfl) ?_
     try simp [-List.map_set, go_sem]
     exact hg26 (z37, s23.2.1, IntKind.i64.wrap (s23.2.2 - s23.2.1)) _ (by simp [-List.map_set, go_sem]) (Rn_some hF38)
   ·try simp [-List.map_set, go_sem]
    cases ho25 _ (Rn_some hF32)
    exact hj1 (s23.1, s23.2.1) _ (by simp [-List.map_set, go_sem]) hψ27
noncomputable def F_slices_symMergeCmpFunc_impl_ViewCount__io0_impl_gathered_1_r : Nat → (List ViewCount) → Int → Int → Int → Option ((List ViewCount))
  | 0, _, _, _, _ => none
  | n_ + 1, a0, a1, a2, a3 =>
  if ((IntKind.i64.wrap (a2 - a1)) == 1) = true then (
  ((wloop (σ := Int × Int) (β := Int) (fun s9 =>
  if decide (s9.1 < s9.2) = true then (
  (ix a0 (IntKind.i64.wrap ((IntKind.u64.wrap (IntKind.i64.wrap (s9.1 + s9.2))).fdiv 2))).bind fun x20 =>
  (ix a0 a1).bind fun x23 =>
  (F_impl_gathered_1 x20 x23).bind fun z26 =>
  if decide (z26 < 0) = true then (
  some (.go (IntKind.i64.wrap ((IntKind.i64.wrap ((IntKind.u64.wrap (IntKind.i64.wrap (s9.1 + s9.2))).fdiv 2)) + 1), s9.2))) else (
  some (.go (s9.1, IntKind.i64.wrap ((IntKind.u64.wrap (IntKind.i64.wrap (s9.1 + s9.2))).fdiv 2))))) else (
  some (.out s9.1))) (a2, a3) : Option (Int)).bind fun (x7 : Int) =>
  ((wloop (σ := (List ViewCount) × Int) (β := (List ViewCount)) (fun s57 =>
  if decide (s57.2 < (IntKind.i64.wrap (x7 - 1))) = true then (
  (ix s57.1 (IntKind.i64.wrap (s57.2 + 1))).bind fun x67 =>
  (ix s57.1 s57.2).bind fun x70 =>
  (ix (s57.1.set s57.2.toNat x67) (IntKind.i64.wrap (s57.2 + 1))).bind fun x73 =>
  some (.go ((s57.1.set s57.2.toNat x67).set ((IntKind.i64.wrap (s57.2 + 1)).toNat) x70, IntKind.i64.wrap (s57.2 + 1)))) else (
  some (.out s57.1))) (a0, a1) : Option ((List ViewCount))).bind fun (x36 : (List ViewCount)) =>
  some x36))) else (
  if ((IntKind.i64.wrap (a3 - a2)) == 1) = true then (
  ((wloop (σ := Int × Int) (β := Int) (fun s86 =>
  if decide (s86.1 < s86.2) = true then (
  (ix a0 a2).bind fun x97 =>
  (ix a0 (IntKind.i64.wrap ((IntKind.u64.wrap (IntKind.i64.wrap (s86.1 + s86.2))).fdiv 2))).bind fun x100 =>
  (F_impl_gathered_1 x97 x100).bind fun z103 =>
  if (!(decide (z103 < 0))) = true then (
  some (.go (IntKind.i64.wrap ((IntKind.i64.wrap ((IntKind.u64.wrap (IntKind.i64.wrap (s86.1 + s86.2))).fdiv 2)) + 1), s86.2))) else (
  some (.go (s86.1, IntKind.i64.wrap ((IntKind.u64.wrap (IntKind.i64.wrap (s86.1 + s86.2))).fdiv 2))))) else (
  some (.out s86.1))) (a1, a2) : Option (Int)).bind fun (x84 : Int) =>
  ((wloop (σ := (List ViewCount) × Int) (β := (List ViewCount)) (fun s134 =>
  if decide (x84 < s134.2) = true then (
  (ix s134.1 (IntKind.i64.wrap (s134.2 - 1))).bind fun x144 =>
  (ix s134.1 s134.2).bind fun x147 =>
  (ix (s134.1.set s134.2.toNat x144) (IntKind.i64.wrap (s134.2 - 1))).bind fun x150 =>
  some (.go ((s134.1.set s134.2.toNat x144).set ((IntKind.i64.wrap (s134.2 - 1)).toNat) x147, IntKind.i64.wrap (s134.2 - 1)))) else (
  some (.out s134.1))) (a0, a2) : Option ((List ViewCount))).bind fun (x113 : (List ViewCount)) =>
  some x113))) else (
  ((if decide ((IntKind.i64.wrap ((IntKind.u64.wrap (IntKind.i64.wrap (a1 + a3))).fdiv 2)) < a2) = true then (
  some (IntKind.i64.wrap ((IntKind.i64.wrap ((IntKind.i64.wrap ((IntKind.u64.wrap (IntKind.i64.wrap (a1 + a3))).fdiv 2)) + a2)) - a3), IntKind.i64.wrap ((IntKind.u64.wrap (IntKind.i64.wrap (a1 + a3))).fdiv 2))) else (
  some (a1, a2)) : Option ((Int × Int))).bind fun (x160 : Int × Int) =>
  ((wloop (σ := Int × Int) (β := Int) (fun s170 =>
  if decide (s170.1 < s170.2) = true then (
  (ix a0 (IntKind.i64.wrap ((IntKind.i64.wrap ((IntKind.i64.wrap ((IntKind.i64.wrap ((IntKind.u64.wrap (IntKind.i64.wrap (a1 + a3))).fdiv 2)) + a2)) - 1)) - (IntKind.i64.wrap ((IntKind.u64.wrap (IntKind.i64.wrap (s170.1 + s170.2))).fdiv 2))))).bind fun x181 =>
  (ix a0 (IntKind.i64.wrap ((IntKind.u64.wrap (IntKind.i64.wrap (s170.1 + s170.2))).fdiv 2))).bind fun x184 =>
  (F_impl_gathered_1 x181 x184).bind fun z187 =>
  if (!(decide (z187 < 0))) = true then (
  some (.go (IntKind.i64.wrap ((IntKind.i64.wrap ((IntKind.u64.wrap (IntKind.i64.wrap (s170.1 + s170.2))).fdiv 2)) + 1), s170.2))) else (
  some (.go (s170.1, IntKind.i64.wrap ((IntKind.u64.wrap (IntKind.i64.wrap (s170.1 + s170.2))).fdiv 2))))) else (
  some (.out s170.1))) (x160.1, x160.2) : Option (Int)).bind fun (x168 : Int) =>
  ((if decide (x168 < a2) = true then (
  some (decide (a2 < (IntKind.i64.wrap ((IntKind.i64.wrap ((IntKind.i64.wrap ((IntKind.u64.wrap (IntKind.i64.wrap (a1 + a3))).fdiv 2)) + a2)) - x168))))) else (
  some false) : Option (Bool)).bind fun (x197 : Bool) =>
  ((if x197 = true then (
  (F_slices_rotateCmpFunc_impl_ViewCount__io0_impl_gathered_1 a0 x168 a2 (IntKind.i64.wrap ((IntKind.i64.wrap ((IntKind.i64.wrap ((IntKind.u64.wrap (IntKind.i64.wrap (a1 + a3))).fdiv 2)) + a2)) - x168))).bind fun z209 =>
  some z209) else (
  some a0) : Option ((List ViewCount))).bind fun (x205 : (List ViewCount)) =>
  ((if decide (a1 < x168) = true then (
  some (decide (x168 < (IntKind.i64.wrap ((IntKind.u64.wrap (IntKind.i64.wrap (a1 + a3))).fdiv 2))))) else (
  some false) : Option (Bool)).bind fun (x215 : Bool) =>
  ((if x215 = true then (
  (F_slices_symMergeCmpFunc_impl_ViewCount__io0_impl_gathered_1_r n_ x205 a1 x168 (IntKind.i64.wrap ((IntKind.u64.wrap (IntKind.i64.wrap (a1 + a3))).fdiv 2))).bind fun z227 =>
  some z227) else (
  some x205) : Option ((List ViewCount))).bind fun (x223 : (List ViewCount)) =>
  ((if decide ((IntKind.i64.wrap ((IntKind.u64.wrap (IntKind.i64.wrap (a1 + a3))).fdiv 2)) < (IntKind.i64.wrap ((IntKind.i64.wrap ((IntKind.i64.wrap ((IntKind.u64.wrap (IntKind.i64.wrap (a1 + a3))).fdiv 2)) + a2)) - x168))) = true then (
  some (decide ((IntKind.i64.wrap ((IntKind.i64.wrap ((IntKind.i64.wrap ((IntKind.u64.wrap (IntKind.i64.wrap (a1 + a3))).fdiv 2)) + a2)) - x168)) < a3))) else (
  some false) : Option (Bool)).bind fun (x233 : Bool) =>
  if x233 = true then (
  (F_slices_symMergeCmpFunc_impl_ViewCount__io0_impl_gathered_1_r n_ x223 (IntKind.i64.wrap ((IntKind.u64.wrap (IntKind.i64.wrap (a1 + a3))).fdiv 2)) (IntKind.i64.wrap ((IntKind.i64.wrap ((IntKind.i64.wrap ((IntKind.u64.wrap (IntKind.i64.wrap (a1 + a3))).fdiv 2)) + a2)) - x168)) a3).bind fun z239 =>
  some z239) else (
  some x223))))))))))
noncomputable def F_slices_symMergeCmpFunc_impl_ViewCount__io0_impl_gathered_1 (a0 : (List ViewCount)) (a1 : Int) (a2 : Int) (a3 : Int) : Option ((List ViewCount)) := frec fun n_ => F_slices_symMergeCmpFunc_impl_ViewCount__io0_impl_gathered_1_r n_ a0 a1 a2 a3
theorem c_slices_symMergeCmpFunc_impl_ViewCount__io0_impl_gathered_1_r : ∀ {n_ : Nat} {a0 : (List ViewCount)} {a1 : Int} {a2 : Int} {a3 : Int} {r : (List ViewCount)} (hr : F_slices_symMergeCmpFunc_impl_ViewCount__io0_impl_gathered_1_r n_ a0 a1 a2 a3 = some r), PCalls Try.prog 165 [(.io, .sl true 2 (a0.map row_ViewCount_z)), (.sh, .int .i64 a1), (.sh, .int .i64 a2), (.sh, .int .i64 a3), (.sh, .func (.func 125) [] [])] (Eo (.junk) [.sl true 2 (r.map row_ViewCount_z), .junk, .junk, .junk, .junk]) := by
  intro n_
  induction n_ with
  | zero => intro a0 a1 a2 a3 r hr; cases hr
  | succ n_ ih =>
    intro a0 a1 a2 a3 r hr
    apply pcalls_lf 220 [0] [] [] [] hr cl165 Try.func165 rfl rfl rfl
    · exact ⟨by simp, rfl⟩
    intro Φ hΦ hF
    simp only [F_slices_symMergeCmpFunc_impl_ViewCount__io0_impl_gathered_1_r] at hF
    try simp [-List.map_set, go_sem]
    refine pw_wk ?_
    repeat rw [sq]
    refine pw_cF hF (by simp [-List.map_set, go_sem]) (fun h1 hF2 => ?_) fun h1 hF2 => ?_
    ·iterate 2 (try simp [-List.map_set, go_sem]; refine pw_wk ?_)
     repeat rw [sq]
     refine pw_joinF (fun (x7 : Int) => [(0, .v (.sl true 2 (a0.map row_ViewCount_z))), (1, .v (.int .i64 a1)), (10, .v (.int .i64 x7))]) hF2 ?_ ?_
     ·intro x7 hF8
      try simp [-List.map_set, go_sem]
      refine pw_wkK [0, 10, 13] (by simp [-List.map_set, go_sem]; rfl) ?_
      repeat rw [sq]
      refine pw_joinF (fun (x36 : (List ViewCount)) => [(0, .v (.sl true 2 (x36.map row_ViewCount_z)))]) hF8 ?_ ?_
      ·intro x36 hF37
       cases hΦ _ (Rn_some hF37)
       try simp [-List.map_set, go_sem]
      ·intro ψ34 hj32 hF35
       repeat rw [sq]
       rw [pw_block]
       obtain ⟨b76, hb77, hψ61⟩ := hF35
       refine pw_wloop (fun (s57 : (List ViewCount) × Int) => [(0, .v (.sl true 2 (s57.1.map row_ViewCount_z))), (10, .v (.int .i64 x7)), (13, .v (.int .i64 s57.2))]) hb77 (by simp [-List.map_set, go_sem]) ?_
       intro s57 φ62 N63 ho59 hg60 hF64
       try simp [-List.map_set, go_sem]
       refine pw_wk ?_
       repeat rw [sq]
       refine pw_cF hF64 (by simp [-List.map_set, go_sem]) (fun h65 hF66 => ?_) fun h65 hF66 => ?_
       ·try simp [-List.map_set, go_sem]
        refine pw_wk ?_
        repeat rw [sq]
        rw [pw_block]
        repeat rw [sq]
        refine pw_draw D165_11 follows (by kernel_rfl) rfl ?_
        try simp only [go_sem, D165_11]
        obtain ⟨x67, g68, hF69⟩ := Rn_ix hF66
        obtain ⟨x70, g71, hF72⟩ := Rn_ix hF69
        obtain ⟨x73, g74, hF75⟩ := Rn_ix hF72
        try simp [-List.map_set, go_sem, g68, g71, g74]
        refine pw_wkK [0, 10, 13] (by simp [-List.map_set, go_sem, g68, g71, g74]; rfl) ?_
        try simp [-List.map_set, go_sem, g68, g71, g74]
        exact hg60 ((s57.1.set s57.2.toNat x67).set ((IntKind.i64.wrap (s57.2 + 1)).toNat) x70, IntKind.i64.wrap (s57.2 + 1)) _ (by simp [-List.map_set, go_sem, g68, g71, g74]) (Rn_some hF75)
       ·try simp [-List.map_set, go_sem]
        cases ho59 _ (Rn_some hF66)
        exact hj32 s57.1 _ (by simp [-List.map_set, go_sem]) hψ61
     ·intro ψ5 hj3 hF6
      repeat rw [sq]
      rw [pw_block]
      obtain ⟨b30, hb31, hψ13⟩ := hF6
      refine pw_wloop (fun (s9 : Int × Int) => [(0, .v (.sl true 2 (a0.map row_ViewCount_z))), (1, .v (.int .i64 a1)), (4, .v (.func (.func 125) [] [])), (10, .v (.int .i64 s9.1)), (11, .v (.int .i64 s9.2))]) hb31 (by simp [-List.map_set, go_sem]) ?_
      intro s9 φ14 N15 ho11 hg12 hF16
      try simp [-List.map_set, go_sem]
      refine pw_wkK [0, 1, 4, 10, 11, 33] (by simp [-List.map_set, go_sem]; rfl) ?_
      repeat rw [sq]
      refine pw_cF hF16 (by simp [-List.map_set, go_sem]) (fun h17 hF18 => ?_) fun h17 hF18 => ?_
      ·try simp [-List.map_set, go_sem]
       refine pw_wk ?_
       repeat rw [sq]
       rw [pw_block]
       have g19 := fun x => shV0_ge (b := 1) (x := x) (by decide)
       try simp [-List.map_set, go_sem, g19]
       refine pw_wk ?_
       repeat rw [sq]
       refine pw_draw D165_5 follows (by kernel_rfl) rfl ?_
       try simp only [go_sem, D165_5]
       obtain ⟨x20, g21, hF22⟩ := Rn_ix hF18
       obtain ⟨x23, g24, hF25⟩ := Rn_ix hF22
       try simp [-List.map_set, go_sem, g19, g21, g24]
       refine pw_cl hF25 [.sh, .sh] c_impl_gathered_1 rfl rfl (by (try simp [-List.map_set, go_sem, clE, g19, g21, g24]); first | rfl | done) (by rfl) (by (try simp [-List.map_set, go_sem, g19, g21, g24]); first | rfl | done) fun z26 hF27 => ⟨by simp [go_sem], ?_⟩
       try simp [-List.map_set, go_sem, g19, g21, g24]
       refine pw_wkK [0, 1, 4, 10, 11, 12, 50] (by simp [-List.map_set, go_sem, g19, g21, g24]; rfl) ?_
       repeat rw [sq]
       refine pw_cF hF27 (by simp [-List.map_set, go_sem, g19, g21, g24]) (fun h28 hF29 => ?_) fun h28 hF29 => ?_
       ·try simp [-List.map_set, go_sem, g19, g21, g24]
        exact hg12 (IntKind.i64.wrap ((IntKind.i64.wrap ((IntKind.u64.wrap (IntKind.i64.wrap (s9.1 + s9.2))).fdiv 2)) + 1), s9.2) _ (by simp [-List.map_set, go_sem, g19, g21, g24]) (Rn_some hF29)
       ·try simp [-List.map_set, go_sem, g19, g21, g24]
        exact hg12 (s9.1, IntKind.i64.wrap ((IntKind.u64.wrap (IntKind.i64.wrap (s9.1 + s9.2))).fdiv 2)) _ (by simp [-List.map_set, go_sem, g19, g21, g24]) (Rn_some hF29)
      ·try simp [-List.map_set, go_sem]
       cases ho11 _ (Rn_some hF18)
       exact hj3 s9.1 _ (by simp [-List.map_set, go_sem]) hψ13
    ·iterate 2 (try simp [-List.map_set, go_sem]; refine pw_wk ?_)
     repeat rw [sq]
     refine pw_cF hF2 (by simp [-List.map_set, go_sem]) (fun h78 hF79 => ?_) fun h78 hF79 => ?_
     ·try simp [-List.map_set, go_sem]
      refine pw_wkK [0, 2, 4, 14] (by simp [-List.map_set, go_sem]; rfl) ?_
      try simp [-List.map_set, go_sem]
      refine pw_wk ?_
      repeat rw [sq]
      refine pw_joinF (fun (x84 : Int) => [(0, .v (.sl true 2 (a0.map row_ViewCount_z))), (2, .v (.int .i64 a2)), (14, .v (.int .i64 x84))]) hF79 ?_ ?_
      ·intro x84 hF85
       try simp [-List.map_set, go_sem]
       refine pw_wk ?_
       repeat rw [sq]
       refine pw_joinF (fun (x113 : (List ViewCount)) => [(0, .v (.sl true 2 (x113.map row_ViewCount_z)))]) hF85 ?_ ?_
       ·intro x113 hF114
        cases hΦ _ (Rn_some hF114)
        try simp [-List.map_set, go_sem]
       ·intro ψ111 hj109 hF112
        repeat rw [sq]
        rw [pw_block]
        obtain ⟨b153, hb154, hψ138⟩ := hF112
        refine pw_wloop (fun (s134 : (List ViewCount) × Int) => [(0, .v (.sl true 2 (s134.1.map row_ViewCount_z))), (14, .v (.int .i64 x84)), (17, .v (.int .i64 s134.2))]) hb154 (by simp [-List.map_set, go_sem]) ?_
        intro s134 φ139 N140 ho136 hg137 hF141
        try simp [-List.map_set, go_sem]
        refine pw_wk ?_
        repeat rw [sq]
        refine pw_cF hF141 (by simp [-List.map_set, go_sem]) (fun h142 hF143 => ?_) fun h142 hF143 => ?_
        ·try simp [-List.map_set, go_sem]
         refine pw_wk ?_
         repeat rw [sq]
         rw [pw_block]
         repeat rw [sq]
         refine pw_draw D165_23 follows (by kernel_rfl) rfl ?_
         try simp only [go_sem, D165_23]
         obtain ⟨x144, g145, hF146⟩ := Rn_ix hF143
         obtain ⟨x147, g148, hF149⟩ := Rn_ix hF146
         obtain ⟨x150, g151, hF152⟩ := Rn_ix hF149
         try simp [-List.map_set, go_sem, g145, g148, g151]
         refine pw_wkK [0, 14, 17] (by simp [-List.map_set, go_sem, g145, g148, g151]; rfl) ?_
         try simp [-List.map_set, go_sem, g145, g148, g151]
         exact hg137 ((s134.1.set s134.2.toNat x144).set ((IntKind.i64.wrap (s134.2 - 1)).toNat) x147, IntKind.i64.wrap (s134.2 - 1)) _ (by simp [-List.map_set, go_sem, g145, g148, g151]) (Rn_some hF152)
        ·try simp [-List.map_set, go_sem]
         cases ho136 _ (Rn_some hF143)
         exact hj109 s134.1 _ (by simp [-List.map_set, go_sem]) hψ138
      ·intro ψ82 hj80 hF83
       repeat rw [sq]
       rw [pw_block]
       obtain ⟨b107, hb108, hψ90⟩ := hF83
       refine pw_wloop (fun (s86 : Int × Int) => [(0, .v (.sl true 2 (a0.map row_ViewCount_z))), (2, .v (.int .i64 a2)), (4, .v (.func (.func 125) [] [])), (14, .v (.int .i64 s86.1)), (15, .v (.int .i64 s86.2))]) hb108 (by simp [-List.map_set, go_sem]) ?_
       intro s86 φ91 N92 ho88 hg89 hF93
       try simp [-List.map_set, go_sem]
       refine pw_wk ?_
       repeat rw [sq]
       refine pw_cF hF93 (by simp [-List.map_set, go_sem]) (fun h94 hF95 => ?_) fun h94 hF95 => ?_
       ·try simp [-List.map_set, go_sem]
        refine pw_wk ?_
        repeat rw [sq]
        rw [pw_block]
        have g96 := fun x => shV0_ge (b := 1) (x := x) (by decide)
        try simp [-List.map_set, go_sem, g96]
        refine pw_wkK [0, 2, 4, 14, 15, 16] (by simp [-List.map_set, go_sem, g96]; rfl) ?_
        repeat rw [sq]
        refine pw_draw D165_17 follows (by kernel_rfl) rfl ?_
        try simp only [go_sem, D165_17]
        obtain ⟨x97, g98, hF99⟩ := Rn_ix hF95
        obtain ⟨x100, g101, hF102⟩ := Rn_ix hF99
        try simp [-List.map_set, go_sem, g96, g98, g101]
        refine pw_cl hF102 [.sh, .sh] c_impl_gathered_1 rfl rfl (by (try simp [-List.map_set, go_sem, clE, g96, g98, g101]); first | rfl | done) (by rfl) (by (try simp [-List.map_set, go_sem, g96, g98, g101]); first | rfl | done) fun z103 hF104 => ⟨by simp [go_sem], ?_⟩
        try simp [-List.map_set, go_sem, g96, g98, g101]
        refine pw_wkK [0, 2, 4, 14, 15, 16, 103] (by simp [-List.map_set, go_sem, g96, g98, g101]; rfl) ?_
        repeat rw [sq]
        refine pw_cF hF104 (by simp [-List.map_set, go_sem, g96, g98, g101]) (fun h105 hF106 => ?_) fun h105 hF106 => ?_
        ·try simp [-List.map_set, go_sem, g96, g98, g101]
         exact hg89 (IntKind.i64.wrap ((IntKind.i64.wrap ((IntKind.u64.wrap (IntKind.i64.wrap (s86.1 + s86.2))).fdiv 2)) + 1), s86.2) _ (by simp [-List.map_set, go_sem, g96, g98, g101]) (Rn_some hF106)
        ·try simp [-List.map_set, go_sem, g96, g98, g101]
         exact hg89 (s86.1, IntKind.i64.wrap ((IntKind.u64.wrap (IntKind.i64.wrap (s86.1 + s86.2))).fdiv 2)) _ (by simp [-List.map_set, go_sem, g96, g98, g101]) (Rn_some hF106)
       ·try simp [-List.map_set, go_sem]
        cases ho88 _ (Rn_some hF95)
        exact hj80 s86.1 _ (by simp [-List.map_set, go_sem]) hψ90
     ·have g155 := fun x => shV0_ge (b := 1) (x := x) (by decide)
      try simp [-List.map_set, go_sem, g155]
      refine pw_wk ?_
      try simp [-List.map_set, go_sem, g155]
      refine pw_wkK [0, 1, 2, 3, 4, 18] (by simp [-List.map_set, go_sem, g155]; rfl) ?_
      iterate 3 (try simp [-List.map_set, go_sem, g155]; refine pw_wk ?_)
      repeat rw [sq]
      refine pw_joinF (fun (x160 : Int × Int) => [(0, .v (.sl true 2 (a0.map row_ViewCount_z))), (1, .v (.int .i64 a1)), (2, .v (.int .i64 a2)), (3, .v (.int .i64 a3)), (4, .v (.func (.func 125) [] [])), (18, .v (.int .i64 (IntKind.i64.wrap ((IntKind.u64.wrap (IntKind.i64.wrap (a1 + a3))).fdiv 2)))), (19, .v (.int .i64 (IntKind.i64.wrap ((IntKind.i64.wrap ((IntKind.u64.wrap (IntKind.i64.wrap (a1 + a3))).fdiv 2)) + a2)))), (20, .v (.int .i64 x160.1)), (21, .v (.int .i64 x160.2))]) hF79 ?_ ?_
      ·intro x160 hF161
       try simp [-List.map_set, go_sem, g155]
       refine pw_wkK [0, 1, 2, 3, 4, 18, 19, 20, 21, 22] (by simp [-List.map_set, go_sem, g155]; rfl) ?_
       repeat rw [sq]
       refine pw_joinF (fun (x168 : Int) => [(0, .v (.sl true 2 (a0.map row_ViewCount_z))), (1, .v (.int .i64 a1)), (2, .v (.int .i64 a2)), (3, .v (.int .i64 a3)), (4, .v (.func (.func 125) [] [])), (18, .v (.int .i64 (IntKind.i64.wrap ((IntKind.u64.wrap (IntKind.i64.wrap (a1 + a3))).fdiv 2)))), (19, .v (.int .i64 (IntKind.i64.wrap ((IntKind.i64.wrap ((IntKind.u64.wrap (IntKind.i64.wrap (a1 + a3))).fdiv 2)) + a2)))), (20, .v (.int .i64 x168))]) hF161 ?_ ?_
       ·intro x168 hF169
        try simp [-List.map_set, go_sem, g155]
        refine pw_wk ?_
        repeat rw [sq]
        refine pw_joinF (fun (x197 : Bool) => [(0, .v (.sl true 2 (a0.map row_ViewCount_z))), (1, .v (.int .i64 a1)), (2, .v (.int .i64 a2)), (3, .v (.int .i64 a3)), (4, .v (.func (.func 125) [] [])), (18, .v (.int .i64 (IntKind.i64.wrap ((IntKind.u64.wrap (IntKind.i64.wrap (a1 + a3))).fdiv 2)))), (20, .v (.int .i64 x168)), (24, .v (.int .i64 (IntKind.i64.wrap ((IntKind.i64.wrap ((IntKind.i64.wrap ((IntKind.u64.wrap (IntKind.i64.wrap (a1 + a3))).fdiv 2)) + a2)) - x168)))), (185, .v (.bool x197))]) hF169 ?_ ?_
        ·intro x197 hF198
         repeat rw [sq]
         refine pw_joinF (fun (x205 : (List ViewCount)) => [(0, .v (.sl true 2 (x205.map row_ViewCount_z))), (1, .v (.int .i64 a1)), (3, .v (.int .i64 a3)), (4, .v (.func (.func 125) [] [])), (18, .v (.int .i64 (IntKind.i64.wrap ((IntKind.u64.wrap (IntKind.i64.wrap (a1 + a3))).fdiv 2)))), (20, .v (.int .i64 x168)), (24, .v (.int .i64 (IntKind.i64.wrap ((IntKind.i64.wrap ((IntKind.i64.wrap ((IntKind.u64.wrap (IntKind.i64.wrap (a1 + a3))).fdiv 2)) + a2)) - x168))))]) hF198 ?_ ?_
         ·intro x205 hF206
          repeat rw [sq]
          refine pw_joinF (fun (x215 : Bool) => [(0, .v (.sl true 2 (x205.map row_ViewCount_z))), (1, .v (.int .i64 a1)), (3, .v (.int .i64 a3)), (4, .v (.func (.func 125) [] [])), (18, .v (.int .i64 (IntKind.i64.wrap ((IntKind.u64.wrap (IntKind.i64.wrap (a1 + a3))).fdiv 2)))), (20, .v (.int .i64 x168)), (24, .v (.int .i64 (IntKind.i64.wrap ((IntKind.i64.wrap ((IntKind.i64.wrap ((IntKind.u64.wrap (IntKind.i64.wrap (a1 + a3))).fdiv 2)) + a2)) - x168)))), (199, .v (.bool x215))]) hF206 ?_ ?_
          ·intro x215 hF216
           repeat rw [sq]
           refine pw_joinF (fun (x223 : (List ViewCount)) => [(0, .v (.sl true 2 (x223.map row_ViewCount_z))), (3, .v (.int .i64 a3)), (4, .v (.func (.func 125) [] [])), (18, .v (.int .i64 (IntKind.i64.wrap ((IntKind.u64.wrap (IntKind.i64.wrap (a1 + a3))).fdiv 2)))), (24, .v (.int .i64 (IntKind.i64.wrap ((IntKind.i64.wrap ((IntKind.i64.wrap ((IntKind.u64.wrap (IntKind.i64.wrap (a1 + a3))).fdiv 2)) + a2)) - x168))))]) hF216 ?_ ?_
           ·intro x223 hF224
            repeat rw [sq]
            refine pw_joinF (fun (x233 : Bool) => [(0, .v (.sl true 2 (x223.map row_ViewCount_z))), (3, .v (.int .i64 a3)), (4, .v (.func (.func 125) [] [])), (18, .v (.int .i64 (IntKind.i64.wrap ((IntKind.u64.wrap (IntKind.i64.wrap (a1 + a3))).fdiv 2)))), (24, .v (.int .i64 (IntKind.i64.wrap ((IntKind.i64.wrap ((IntKind.i64.wrap ((IntKind.u64.wrap (IntKind.i64.wrap (a1 + a3))).fdiv 2)) + a2)) - x168)))), (213, .v (.bool x233))]) hF224 ?_ ?_
            ·intro x233 hF234
             repeat rw [sq]
             refine pw_cF hF234 (by simp [-List.map_set, go_sem, g155]) (fun h237 hF238 => ?_) fun h237 hF238 => ?_
             ·try simp [-List.map_set, go_sem, g155]
              refine pw_cl hF238 [.io, .sh, .sh, .sh, .sh] ih rfl rfl (by (try simp [-List.map_set, go_sem, clE, g155]); first | rfl | done) (by rfl) (by (try simp [-List.map_set, go_sem, g155]); first | rfl | done) fun z239 hF240 => ⟨by simp [go_sem], ?_⟩
              cases hΦ _ (Rn_some hF240)
              try simp [-List.map_set, go_sem, g155]
             ·cases hΦ _ (Rn_some hF238)
              try simp [-List.map_set, go_sem, g155]
            ·intro ψ231 hj229 hF232
             try simp [-List.map_set, go_sem, g155]
             refine pwg_F hF232 (fun h235 hF236 => ?_) fun h235 hF236 => ?_
             ·try simp [-List.map_set, go_sem, g155, h235]
              exact hj229 (decide ((IntKind.i64.wrap ((IntKind.i64.wrap ((IntKind.i64.wrap ((IntKind.u64.wrap (IntKind.i64.wrap (a1 + a3))).fdiv 2)) + a2)) - x168)) < a3)) _ (by simp [-List.map_set, go_sem, g155]) (Rn_some hF236)
             ·try simp [-List.map_set, go_sem, g155, h235]
              exact hj229 false _ (by simp [-List.map_set, go_sem, g155]) (Rn_some hF236)
           ·intro ψ221 hj219 hF222
            repeat rw [sq]
            refine pw_cF hF222 (by simp [-List.map_set, go_sem, g155]) (fun h225 hF226 => ?_) fun h225 hF226 => ?_
            ·try simp [-List.map_set, go_sem, g155]
             refine pw_cl hF226 [.io, .sh, .sh, .sh, .sh] ih rfl rfl (by (try simp [-List.map_set, go_sem, clE, g155]); first | rfl | done) (by rfl) (by (try simp [-List.map_set, go_sem, g155]); first | rfl | done) fun z227 hF228 => ⟨by simp [go_sem], ?_⟩
             try simp [-List.map_set, go_sem, g155]
             exact hj219 z227 _ (by simp [-List.map_set, go_sem, g155]) (Rn_some hF228)
            ·try simp [-List.map_set, go_sem, g155]
             exact hj219 x205 _ (by simp [-List.map_set, go_sem, g155]) (Rn_some hF226)
          ·intro ψ213 hj211 hF214
           try simp [-List.map_set, go_sem, g155]
           refine pwg_F hF214 (fun h217 hF218 => ?_) fun h217 hF218 => ?_
           ·try simp [-List.map_set, go_sem, g155, h217]
            exact hj211 (decide (x168 < (IntKind.i64.wrap ((IntKind.u64.wrap (IntKind.i64.wrap (a1 + a3))).fdiv 2)))) _ (by simp [-List.map_set, go_sem, g155]) (Rn_some hF218)
           ·try simp [-List.map_set, go_sem, g155, h217]
            exact hj211 false _ (by simp [-List.map_set, go_sem, g155]) (Rn_some hF218)
         ·intro ψ203 hj201 hF204
          repeat rw [sq]
          refine pw_cF hF204 (by simp [-List.map_set, go_sem, g155]) (fun h207 hF208 => ?_) fun h207 hF208 => ?_
          ·try simp [-List.map_set, go_sem, g155]
           refine pw_cl hF208 [.io, .sh, .sh, .sh, .sh] c_slices_rotateCmpFunc_impl_ViewCount__io0_impl_gathered_1 rfl rfl (by (try simp [-List.map_set, go_sem, clE, g155]); first | rfl | done) (by rfl) (by (try simp [-List.map_set, go_sem, g155]); first | rfl | done) fun z209 hF210 => ⟨by simp [go_sem], ?_⟩
           try simp [-List.map_set, go_sem, g155]
           exact hj201 z209 _ (by simp [-List.map_set, go_sem, g155]) (Rn_some hF210)
          ·try simp [-List.map_set, go_sem, g155]
           exact hj201 a0 _ (by simp [-List.map_set, go_sem, g155]) (Rn_some hF208)
        ·intro ψ195 hj193 hF196
         try simp [-List.map_set, go_sem, g155]
         refine pwg_F hF196 (fun h199 hF200 => ?_) fun h199 hF200 => ?_
         ·try simp [-List.map_set, go_sem, g155, h199]
          exact hj193 (decide (a2 < (IntKind.i64.wrap ((IntKind.i64.wrap ((IntKind.i64.wrap ((IntKind.u64.wrap (IntKind.i64.wrap (a1 + a3))).fdiv 2)) + a2)) - x168)))) _ (by simp [-List.map_set, go_sem, g155]) (Rn_some hF200)
         ·try simp [-List.map_set, go_sem, g155, h199]
          exact hj193 false _ (by simp [-List.map_set, go_sem, g155]) (Rn_some hF200)
       ·intro ψ166 hj164 hF167
        repeat rw [sq]
        rw [pw_block]
        obtain ⟨b191, hb192, hψ174⟩ := hF167
        refine pw_wloop (fun (s170 : Int × Int) => [(0, .v (.sl true 2 (a0.map row_ViewCount_z))), (1, .v (.int .i64 a1)), (2, .v (.int .i64 a2)), (3, .v (.int .i64 a3)), (4, .v (.func (.func 125) [] [])), (18, .v (.int .i64 (IntKind.i64.wrap ((IntKind.u64.wrap (IntKind.i64.wrap (a1 + a3))).fdiv 2)))), (19, .v (.int .i64 (IntKind.i64.wrap ((IntKind.i64.wrap ((IntKind.u64.wrap (IntKind.i64.wrap (a1 + a3))).fdiv 2)) + a2)))), (20, .v (.int .i64 s170.1)), (21, .v (.int .i64 s170.2)), (22, .v (.int .i64 (IntKind.i64.wrap ((IntKind.i64.wrap ((IntKind.i64.wrap ((IntKind.u64.wrap (IntKind.i64.wrap (a1 + a3))).fdiv 2)) + a2)) - 1))))]) hb192 (by simp [-List.map_set, go_sem, g155]) ?_
        intro s170 φ175 N176 ho172 hg173 hF177
        try simp [-List.map_set, go_sem, g155]
        refine pw_wk ?_
        repeat rw [sq]
        refine pw_cF hF177 (by simp [-List.map_set, go_sem, g155]) (fun h178 hF179 => ?_) fun h178 hF179 => ?_
        ·try simp [-List.map_set, go_sem, g155]
         refine pw_wk ?_
         repeat rw [sq]
         rw [pw_block]
         have g180 := fun x => shV0_ge (b := 1) (x := x) (by decide)
         try simp [-List.map_set, go_sem, g155, g180]
         refine pw_wkK [0, 1, 2, 3, 4, 18, 19, 20, 21, 22, 23] (by simp [-List.map_set, go_sem, g155, g180]; rfl) ?_
         repeat rw [sq]
         refine pw_draw D165_35 follows (by kernel_rfl) rfl ?_
         try simp only [go_sem, D165_35]
         obtain ⟨x181, g182, hF183⟩ := Rn_ix hF179
         obtain ⟨x184, g185, hF186⟩ := Rn_ix hF183
         try simp [-List.map_set, go_sem, g155, g180, g182, g185]
         refine pw_cl hF186 [.sh, .sh] c_impl_gathered_1 rfl rfl (by (try simp [-List.map_set, go_sem, clE, g155, g180, g182, g185]); first | rfl | done) (by rfl) (by (try simp [-List.map_set, go_sem, g155, g180, g182, g185]); first | rfl | done) fun z187 hF188 => ⟨by simp [go_sem], ?_⟩
         try simp [-List.map_set, go_sem, g155, g180, g182, g185]
         refine pw_wkK [0, 1, 2, 3, 4, 18, 19, 20, 21, 22, 23, 171] (by simp [-List.map_set, go_sem, g155, g180, g182, g185]; rfl) ?_
         repeat rw [sq]
         refine pw_cF hF188 (by simp [-List.map_set, go_sem, g155, g180, g182, g185]) (fun h189 hF190 => ?_) fun h189 hF190 => ?_
         ·try simp [-List.map_set, go_sem, g155, g180, g182, g185]
          exact hg173 (IntKind.i64.wrap ((IntKind.i64.wrap ((IntKind.u64.wrap (IntKind.i64.wrap (s170.1 + s170.2))).fdiv 2)) + 1), s170.2) _ (by simp [-List.map_set, go_sem, g155, g180, g182, g185]) (Rn_some hF190)
         ·try simp [-List.map_set, go_sem, g155, g180, g182, g185]
          exact hg173 (s170.1, IntKind.i64.wrap ((IntKind.u64.wrap (IntKind.i64.wrap (s170.1 + s170.2))).fdiv 2)) _ (by simp [-List.map_set, go_sem, g155, g180, g182, g185]) (Rn_some hF190)
        ·try simp [-List.map_set, go_sem, g155]
         cases ho172 _ (Rn_some hF179)
         exact hj164 s170.1 _ (by simp [-List.map_set, go_sem, g155]) hψ174
      ·intro ψ158 hj156 hF159
       repeat rw [sq]
       refine pw_cF hF159 (by simp [-List.map_set, go_sem, g155]) (fun h162 hF163 => ?_) fun h162 hF163 => ?_
       ·try simp [-List.map_set, go_sem, g155]
        refine pw_wkK [0, 1, 2, 3, 4, 18, 19, 20] (by simp [-List.map_set, go_sem, g155]; rfl) ?_
        try simp [-List.map_set, go_sem, g155]
        exact hj156 (IntKind.i64.wrap ((IntKind.i64.wrap ((IntKind.i64.wrap ((IntKind.u64.wrap (IntKind.i64.wrap (a1 + a3))).fdiv 2)) + a2)) - a3), IntKind.i64.wrap ((IntKind.u64.wrap (IntKind.i64.wrap (a1 + a3))).fdiv 2)) _ (by simp [-List.map_set, go_sem, g155]) (Rn_some hF163)
       ·try simp [-List.map_set, go_sem, g155]
        refine pw_wkK [0, 1, 2, 3, 4, 18, 19, 20] (by simp [-List.map_set, go_sem, g155]; rfl) ?_
        try simp [-List.map_set, go_sem, g155]
        exact hj156 (a1, a2) _ (by simp [-List.map_set, go_sem, g155]) (Rn_some hF163)
theorem c_slices_symMergeCmpFunc_impl_ViewCount__io0_impl_gathered_1 {a0 : (List ViewCount)} {a1 : Int} {a2 : Int} {a3 : Int} {r : (List ViewCount)} (hr : F_slices_symMergeCmpFunc_impl_ViewCount__io0_impl_gathered_1 a0 a1 a2 a3 = some r) : PCalls Try.prog 165 [(.io, .sl true 2 (a0.map row_ViewCount_z)), (.sh, .int .i64 a1), (.sh, .int .i64 a2), (.sh, .int .i64 a3), (.sh, .func (.func 125) [] [])] (Eo (.junk) [.sl true 2 (r.map row_ViewCount_z), .junk, .junk, .junk, .junk]) := by
  obtain ⟨n_, hn⟩ := frec_some hr
  exact c_slices_symMergeCmpFunc_impl_ViewCount__io0_impl_gathered_1_r hn
noncomputable def F_slices_stableCmpFunc_impl_ViewCount__io0_impl_gathered_1 (a0 : (List ViewCount)) (a1 : Int) : Option ((List ViewCount)) :=
  ((wloop (σ := (List ViewCount) × Int × Int) (β := ((List ViewCount) × Int)) (fun s19 =>
  if decide (s19.2.2 ≤ a1) = true then (
  (F_slices_insertionSortCmpFunc_impl_ViewCount__io0_impl_gathered_1 s19.1 s19.2.1 s19.2.2).bind fun z29 =>
  some (.go (z29, s19.2.2, IntKind.i64.wrap (s19.2.2 + 20)))) else (
  some (.out (s19.1, s19.2.1)))) (a0, 0, 20) : Option (((List ViewCount) × Int))).bind fun (x5 : (List ViewCount) × Int) =>
  (F_slices_insertionSortCmpFunc_impl_ViewCount__io0_impl_gathered_1 x5.1 x5.2 a1).bind fun z33 =>
  wloop (σ := (List ViewCount) × Int) (β := (List ViewCount)) (fun s87 =>
  if decide (s87.2 < a1) = true then (
  ((wloop (σ := (List ViewCount) × Int × Int) (β := ((List ViewCount) × Int)) (fun s115 =>
  if decide (s115.2.2 ≤ a1) = true then (
  (F_slices_symMergeCmpFunc_impl_ViewCount__io0_impl_gathered_1 s115.1 s115.2.1 (IntKind.i64.wrap (s115.2.1 + s87.2)) s115.2.2).bind fun z125 =>
  some (.go (z125, s115.2.2, IntKind.i64.wrap (s115.2.2 + (IntKind.i64.wrap (2 * s87.2)))))) else (
  some (.out (s115.1, s115.2.1)))) (s87.1, 0, IntKind.i64.wrap (2 * s87.2)) : Option (((List ViewCount) × Int))).bind fun (x101 : (List ViewCount) × Int) =>
  ((if decide ((IntKind.i64.wrap (x101.2 + s87.2)) < a1) = true then (
  (F_slices_symMergeCmpFunc_impl_ViewCount__io0_impl_gathered_1 x101.1 x101.2 (IntKind.i64.wrap (x101.2 + s87.2)) a1).bind fun z137 =>
  some z137) else (
  some x101.1) : Option ((List ViewCount))).bind fun (x133 : (List ViewCount)) =>
  some (.go (x133, IntKind.i64.wrap (s87.2 * 2)))))) else (
  some (.out s87.1))) (z33, 20))
theorem c_slices_stableCmpFunc_impl_ViewCount__io0_impl_gathered_1 {a0 : (List ViewCount)} {a1 : Int} {r : (List ViewCount)} (hr : F_slices_stableCmpFunc_impl_ViewCount__io0_impl_gathered_1 a0 a1 = some r) : PCalls Try.prog 151 [(.io, .sl true 2 (a0.map row_ViewCount_z)), (.sh, .int .i64 a1), (.sh, .func (.func 125) [] [])] (Eo (.junk) [.sl true 2 (r.map row_ViewCount_z), .junk, .junk]) := by
  apply pcalls_lf 63 [0] [] [] [] hr cl151 Try.func151 rfl rfl rfl
  · exact ⟨by simp, rfl⟩
  intro Φ hΦ hF
  unfold F_slices_stableCmpFunc_impl_ViewCount__io0_impl_gathered_1 at hF
  iterate 2 (try simp [-List.map_set, go_sem]; refine pw_wk ?_)
  repeat rw [sq]
  refine pw_joinF (fun (x5 : (List ViewCount) × Int) => [(0, .v (.sl true 2 (x5.1.map row_ViewCount_z))), (1, .v (.int .i64 a1)), (2, .v (.func (.func 125) [] [])), (6, .v (.int .i64 20)), (7, .v (.int .i64 x5.2))]) hF ?_ ?_
  ·intro x5 hF6
   try simp [-List.map_set, go_sem]
   refine pw_cl hF6 [.io, .sh, .sh, .sh] c_slices_insertionSortCmpFunc_impl_ViewCount__io0_impl_gathered_1 rfl rfl (by (try simp [-List.map_set, go_sem, clE]); first | rfl | done) (by rfl) (by (try simp [-List.map_set, go_sem]); first | rfl | done) fun z33 hF34 => ⟨by simp [go_sem], ?_⟩
   try simp [-List.map_set, go_sem]
   refine pw_wk ?_
   repeat rw [sq]
   rw [pw_block]
   obtain ⟨b139, hb140, hψ91⟩ := hF34
   refine pw_wloop (fun (s87 : (List ViewCount) × Int) => [(0, .v (.sl true 2 (s87.1.map row_ViewCount_z))), (1, .v (.int .i64 a1)), (2, .v (.func (.func 125) [] [])), (6, .v (.int .i64 s87.2))]) hb140 (by simp [-List.map_set, go_sem]) ?_
   intro s87 φ92 N93 ho89 hg90 hF94
   try simp [-List.map_set, go_sem]
   refine pw_wkK [0, 1, 2, 6, 30] (by simp [-List.map_set, go_sem]; rfl) ?_
   repeat rw [sq]
   refine pw_cF hF94 (by simp [-List.map_set, go_sem]) (fun h95 hF96 => ?_) fun h95 hF96 => ?_
   ·try simp [-List.map_set, go_sem]
    refine pw_wk ?_
    repeat rw [sq]
    rw [pw_block]
    try simp [-List.map_set, go_sem]
    refine pw_wk ?_
    repeat rw [sq]
    refine pw_joinF (fun (x101 : (List ViewCount) × Int) => [(0, .v (.sl true 2 (x101.1.map row_ViewCount_z))), (1, .v (.int .i64 a1)), (2, .v (.func (.func 125) [] [])), (6, .v (.int .i64 s87.2)), (7, .v (.int .i64 x101.2))]) hF96 ?_ ?_
    ·intro x101 hF102
     try simp [-List.map_set, go_sem]
     refine pw_wk ?_
     try simp [-List.map_set, go_sem]
     refine pw_wkK [0, 1, 2, 6, 7, 9, 54] (by simp [-List.map_set, go_sem]; rfl) ?_
     repeat rw [sq]
     refine pw_joinF (fun (x133 : (List ViewCount)) => [(0, .v (.sl true 2 (x133.map row_ViewCount_z))), (1, .v (.int .i64 a1)), (2, .v (.func (.func 125) [] [])), (6, .v (.int .i64 s87.2))]) hF102 ?_ ?_
     ·intro x133 hF134
      try simp [-List.map_set, go_sem]
      exact hg90 (x133, IntKind.i64.wrap (s87.2 * 2)) _ (by simp [-List.map_set, go_sem]) (Rn_some hF134)
     ·intro ψ131 hj129 hF132
      repeat rw [sq]
      refine pw_cF hF132 (by simp [-List.map_set, go_sem]) (fun h135 hF136 => ?_) fun h135 hF136 => ?_
      ·try simp [-List.map_set, go_sem]
       refine pw_cl hF136 [.io, .sh, .sh, .sh, .sh] c_slices_symMergeCmpFunc_impl_ViewCount__io0_impl_gathered_1 rfl rfl (by (try simp [-List.map_set, go_sem, clE]); first | rfl | done) (by rfl) (by (try simp [-List.map_set, go_sem]); first | rfl | done) fun z137 hF138 => ⟨by simp [go_sem], ?_⟩
       try simp [-List.map_set, go_sem]
       exact hj129 z137 _ (by simp [-List.map_set, go_sem]) (Rn_some hF138)
      ·try simp [-List.map_set, go_sem]
       exact hj129 x101.1 _ (by simp [-List.map_set, go_sem]) (Rn_some hF136)
    ·intro ψ99 hj97 hF100
     repeat rw [sq]
     rw [pw_block]
     obtain ⟨b127, hb128, hψ119⟩ := hF100
     refine pw_wloop (fun (s115 : (List ViewCount) × Int × Int) => [(0, .v (.sl true 2 (s115.1.map row_ViewCount_z))), (1, .v (.int .i64 a1)), (2, .v (.func (.func 125) [] [])), (6, .v (.int .i64 s87.2)), (7, .v (.int .i64 s115.2.1)), (8, .v (.int .i64 s115.2.2))]) hb128 (by simp [-List.map_set, go_sem]) ?_
     intro s115 φ120 N121 ho117 hg118 hF122
     try simp [-List.map_set, go_sem]
     refine pw_wk ?_
     repeat rw [sq]
     refine pw_cF hF122 (by simp [-List.map_set, go_sem]) (fun h123 hF124 => ?_) fun h123 hF124 => ?_
     ·try simp [-List.map_set, go_sem]
      refine pw_wk ?_
      repeat rw [sq]
      rw [pw_block]
      try simp [-List.map_set, go_sem]
      refine pw_cl hF124 [.io, .sh, .sh, .sh, .sh] c_slices_symMergeCmpFunc_impl_ViewCount__io0_impl_gathered_1 rfl rfl (by (try simp [-List.map_set, go_sem, clE]); first | rfl | done) (by rfl) (by (try simp [-List.map_set, go_sem]); first | rfl | done) fun z125 hF126 => ⟨by simp [go_sem], ?_⟩
      try simp [-List.map_set, go_sem]
      refine pw_wkK [0, 1, 2, 6, 8] (by simp [-List.map_set, go_sem]; rfl) ?_
      try simp [-List.map_set, go_sem]
      refine pw_wk ?_
      try simp [-List.map_set, go_sem]
      exact hg118 (z125, s115.2.2, IntKind.i64.wrap (s115.2.2 + (IntKind.i64.wrap (2 * s87.2)))) _ (by simp [-List.map_set, go_sem]) (Rn_some hF126)
     ·try simp [-List.map_set, go_sem]
      cases ho117 _ (Rn_some hF124)
      exact hj97 (s115.1, s115.2.1) _ (by simp [-List.map_set, go_sem]) hψ119
   ·cases ho89 _ (Rn_some hF96)
    cases hΦ _ hψ91
    try simp [-List.map_set, go_sem]
  ·intro ψ3 hj1 hF4
   repeat rw [sq]
   rw [pw_block]
   obtain ⟨b31, hb32, hψ23⟩ := hF4
   refine pw_wloop (fun (s19 : (List ViewCount) × Int × Int) => [(0, .v (.sl true 2 (s19.1.map row_ViewCount_z))), (1, .v (.int .i64 a1)), (2, .v (.func (.func 125) [] [])), (6, .v (.int .i64 20)), (7, .v (.int .i64 s19.2.1)), (8, .v (.int .i64 s19.2.2))]) hb32 (by simp [-List.map_set, go_sem]) ?_
   intro s19 φ24 N25 ho21 hg22 hF26
   try simp [-List.map_set, go_sem]
   refine pw_wk ?_
   repeat rw [sq]
   refine pw_cF hF26 (by simp [-List.map_set, go_sem]) (fun h27 hF28 => ?_) fun h27 hF28 => ?_
   ·try simp [-List.map_set, go_sem]
    refine pw_wk ?_
    repeat rw [sq]
    rw [pw_block]
    try simp [-List.map_set, go_sem]
    refine pw_cl hF28 [.io, .sh, .sh, .sh] c_slices_insertionSortCmpFunc_impl_ViewCount__io0_impl_gathered_1 rfl rfl (by (try simp [-List.map_set, go_sem, clE]); first | rfl | done) (by rfl) (by (try simp [-List.map_set, go_sem]); first | rfl | done) fun z29 hF30 => ⟨by simp [go_sem], ?_⟩
    try simp [-List.map_set, go_sem]
    refine pw_wkK [0, 1, 2, 6, 8] (by simp [-List.map_set, go_sem]; rfl) ?_
    try simp [-List.map_set, go_sem]
    refine pw_wk ?_
    try simp [-List.map_set, go_sem]
    exact hg22 (z29, s19.2.2, IntKind.i64.wrap (s19.2.2 + 20)) _ (by simp [-List.map_set, go_sem]) (Rn_some hF30)
   ·try simp [-List.map_set, go_sem]
    cases ho21 _ (Rn_some hF28)
    exact hj1 (s19.1, s19.2.1) _ (by simp [-List.map_set, go_sem]) hψ23
noncomputable def F_slices_SortStableFunc_impl_ViewCount_impl_ViewCount__io0_impl_gathered_1 (a0 : (List ViewCount)) : Option ((List ViewCount)) :=
  (F_slices_stableCmpFunc_impl_ViewCount__io0_impl_gathered_1 a0 (a0.length : Int)).bind fun z1 =>
  some z1
theorem c_slices_SortStableFunc_impl_ViewCount_impl_ViewCount__io0_impl_gathered_1 {a0 : (List ViewCount)} {r : (List ViewCount)} (hr : F_slices_SortStableFunc_impl_ViewCount_impl_ViewCount__io0_impl_gathered_1 a0 = some r) : PCalls Try.prog 124 [(.io, .sl true 2 (a0.map row_ViewCount_z)), (.sh, .func (.func 125) [] [])] (Eo (.junk) [.sl true 2 (r.map row_ViewCount_z), .junk]) := by
  apply pcalls_lf 9 [0] [] [] [] hr cl124 Try.func124 rfl rfl rfl
  · exact ⟨by simp, rfl⟩
  intro Φ hΦ hF
  unfold F_slices_SortStableFunc_impl_ViewCount_impl_ViewCount__io0_impl_gathered_1 at hF
  try simp [-List.map_set, go_sem]
  try intros
  refine pw_cl hF [.io, .sh, .sh] c_slices_stableCmpFunc_impl_ViewCount__io0_impl_gathered_1 rfl rfl (by (try simp [-List.map_set, go_sem, clE]); first | rfl | done) (by rfl) (by (try simp [-List.map_set, go_sem]); first | rfl | done) fun z1 hF2 => ⟨by simp [go_sem], ?_⟩
  cases hΦ _ (Rn_some hF2)
  try simp [-List.map_set, go_sem]
noncomputable def F_slices_Equal_int_int (a0 : (List Int)) (a1 : (List Int)) : Option (Bool) :=
  if ((a0.length : Int) != (a1.length : Int)) = true then (
  some false) else (
  ((rloop (σ := Unit) (β := Unit ⊕ Bool) (fun i10 s9 =>
  (ix a0 i10).bind fun x19 =>
  (ix a1 i10).bind fun x22 =>
  if (x19 != x22) = true then (
  some (.out (.inr false))) else (
  some (.go ()))) (fun s9 => .inl ()) (a0.length) 0 () : Option (Unit ⊕ Bool)).bind (Sum.elim (fun (x7 : Unit) =>
  some true) some)))
theorem c_slices_Equal_int_int {a0 : (List Int)} {a1 : (List Int)} {r : Bool} (hr : F_slices_Equal_int_int a0 a1 = some r) : PCalls Try.prog 126 [(.sh, .sl false 1 (a0.map row_i64)), (.sh, .sl false 1 (a1.map row_i64))] (Eo (.bool r) [.junk, .junk]) := by
  apply pcalls_lf 26 [] [] [] [.tmp 4] hr cl126 Try.func126 rfl rfl rfl
  · exact ⟨by simp, rfl⟩
  intro Φ hΦ hF
  unfold F_slices_Equal_int_int at hF
  iterate 2 (try simp [-List.map_set, go_sem]; try intros; refine pw_wk ?_)
  repeat rw [sq]
  refine pw_cF hF (by simp [-List.map_set, go_sem]) (fun h1 hF2 => ?_) fun h1 hF2 => ?_
  ·cases hΦ _ (Rn_some hF2)
   try simp [-List.map_set, go_sem]
   refine pw_wk ?_
   try simp [-List.map_set, go_sem]
  ·iterate 2 (try simp [-List.map_set, go_sem]; try intros; refine pw_wk ?_)
   repeat rw [sq]
   refine pw_joinS (fun (x7 : Unit) => []) hF2 ?_ ?_
   ·intro x7 hF8
    try simp [-List.map_set, go_sem]
    refine pw_wkK [4] (by simp [-List.map_set, go_sem]; rfl) ?_
    cases hΦ _ (Rn_some hF8)
    try simp [-List.map_set, go_sem]
   ·intro ψ5 hj3 hr4 hF6
    repeat rw [sq]
    rw [pw_block]
    obtain ⟨b27, hb28, hψ13⟩ := hF6
    refine pw_rloop (fun (i10 : Int) (s9 : Unit) => [(0, .v (.sl false 1 (a0.map row_i64))), (1, .v (.sl false 1 (a1.map row_i64))), (12, .v (.int .i64 (a0.length : Int))), (13, .v (.int .i64 i10))]) hb28 (by simp [-List.map_set, go_sem]) ?_ ?_
    ·intro s9 N30 hN29
     subst hN29
     try simp [-List.map_set, go_sem]
     refine pw_wk ?_
     repeat rw [sq]
     refine pw_cond_f (by simp [-List.map_set, go_sem]) ?_
     try simp [-List.map_set, go_sem]
     exact hj3 () _ (by simp [-List.map_set, go_sem]) hψ13
    ·intro i10 s9 φ14 N15 hi17 hi18 ho11 hg12 hF16
     rw [Int.zero_add] at hi18
     try simp [-List.map_set, go_sem]
     refine pw_wkK [0, 1, 12, 13, 14] (by simp [-List.map_set, go_sem]; rfl) ?_
     repeat rw [sq]
     refine pw_cond_t (by simp [-List.map_set, go_sem, hi17, hi18]) ?_
     try simp [-List.map_set, go_sem]
     refine pw_wk ?_
     repeat rw [sq]
     rw [pw_block]
     try simp [-List.map_set, go_sem]
     refine pw_wk ?_
     repeat rw [sq]
     refine pw_draw D126_6 follows (by kernel_rfl) rfl ?_
     try simp only [go_sem, D126_6]
     obtain ⟨x19, g20, hF21⟩ := Rn_ix hF16
     obtain ⟨x22, g23, hF24⟩ := Rn_ix hF21
     try simp [-List.map_set, go_sem, g20, g23]
     refine pw_wkK [0, 1, 12, 13, 24] (by simp [-List.map_set, go_sem, g20, g23]; rfl) ?_
     repeat rw [sq]
     refine pw_cF hF24 (by simp [-List.map_set, go_sem, g20, g23]) (fun h25 hF26 => ?_) fun h25 hF26 => ?_
     ·cases ho11 _ (Rn_some hF26)
      cases hΦ _ (hr4 _ hψ13)
      try simp [-List.map_set, go_sem, g20, g23]
      refine pw_wk ?_
      try simp [-List.map_set, go_sem, g20, g23]
     ·try simp [-List.map_set, go_sem, g20, g23]
      refine pw_wk ?_
      try simp [-List.map_set, go_sem, g20, g23]
      exact hg12 () _ (by simp [-List.map_set, go_sem, g20, g23, wr_i hi17 hi18 (by assumption)]) (Rn_some hF26)
noncomputable def F_slices_Clone_int_int (a0 : (List Int)) : Option (List Int) :=
  gd (a0.length * 8 ≤ 140737488355328 ∧ a0.length ≤ 4611686018427387904) <|
  some a0
theorem c_slices_Clone_int_int {a0 : (List Int)} {r : (List Int)} (hr : F_slices_Clone_int_int a0 = some r) : PCalls Try.prog 127 [(.sh, .sl false 1 (a0.map row_i64))] (Eo (.sl true 1 (r.map row_i64)) [.junk]) := by
  apply pcalls_lf 8 [] [] [1000000] [.tmp 2] hr cl127 Try.func127 rfl rfl rfl
  · exact ⟨by simp, rfl⟩
  intro Φ hΦ hF
  unfold F_slices_Clone_int_int at hF
  obtain ⟨g, hF⟩ := Rn_gd hF
  have h1 := hΦ _ (Rn_some hF)
  subst h1
  try simp [-List.map_set, go_sem]
  refine pw_wkL [(0, .v (.sl false 1 (a0.map row_i64)))] (by simp [-List.map_set, go_sem]) ?_
  try simp [-List.map_set, go_sem]
  refine pw1_nil rfl rfl (by simp [go_sem]) rfl (by rfl) fun b hb => ?_
  try simp [-List.map_set, go_sem]
  refine pw_wk ?_
  repeat rw [pw_seq]
  cases b
  · refine pw_cond_f (by simp [-List.map_set, go_sem]) ?_
    try simp [-List.map_set, go_sem]
    refine pw_wk ?_
    try simp [-List.map_set, go_sem, g]
    refine pw_wk ?_
    try simp [-List.map_set, go_sem, g]
  · have hb0 : a0 = [] := by
      cases a0 with
      | nil => rfl
      | cons x l => exact absurd (hb (by simp)) (by simp)
    subst hb0
    refine pw_cond_t (by simp [-List.map_set, go_sem]) ?_
    try simp [-List.map_set, go_sem]
    refine pw_wk ?_
    try simp [-List.map_set, go_sem]
noncomputable def F_impl_isCount (a0 : (List ViewCount)) : Option (Bool) :=
  if decide (3000 < (a0.length : Int)) = true then (
  some false) else (
  ((rloop (σ := Int) (β := Unit ⊕ Bool) (fun i10 s9 =>
  (ix a0 i10).bind fun x19 =>
  ((if decide (24 < (x19.View.length : Int)) = true then (
  some true) else (
  (F_impl_within x19.Times 1 (IntKind.i64.wrap (1000000 - s9))).bind fun z30 =>
  if (!z30) = true then (
  some true) else (
  if decide (0 < i10) = true then (
  (ix a0 (IntKind.i64.wrap (i10 - 1))).bind fun x36 =>
  (F_slices_Compare_int_int x36.View x19.View).bind fun z39 =>
  some (decide (0 ≤ z39))) else (
  some false))) : Option (Bool)).bind fun (x26 : Bool) =>
  if x26 = true then (
  some (.out (.inr false))) else (
  some (.go (IntKind.i64.wrap (s9 + x19.Times)))))) (fun s9 => .inl ()) (a0.length) 0 0 : Option (Unit ⊕ Bool)).bind (Sum.elim (fun (x7 : Unit) =>
  some true) some)))
theorem c_impl_isCount {a0 : (List ViewCount)} {r : Bool} (hr : F_impl_isCount a0 = some r) : PCalls Try.prog 66 [(.sh, .sl false 2 (a0.map row_ViewCount_z))] (Eo (.bool r) [.junk]) := by
  apply pcalls_lf 49 [] [] [] [.tmp 2] hr cl66 Try.func66 rfl rfl rfl
  · exact ⟨by simp, rfl⟩
  intro Φ hΦ hF
  unfold F_impl_isCount at hF
  iterate 2 (try simp [-List.map_set, go_sem]; try intros; refine pw_wk ?_)
  repeat rw [sq]
  refine pw_cF hF (by simp [-List.map_set, go_sem]) (fun h1 hF2 => ?_) fun h1 hF2 => ?_
  ·cases hΦ _ (Rn_some hF2)
   try simp [-List.map_set, go_sem]
   refine pw_wk ?_
   try simp [-List.map_set, go_sem]
  ·iterate 3 (try simp [-List.map_set, go_sem]; try intros; refine pw_wk ?_)
   repeat rw [sq]
   refine pw_joinS (fun (x7 : Unit) => []) hF2 ?_ ?_
   ·intro x7 hF8
    cases hΦ _ (Rn_some hF8)
    try simp [-List.map_set, go_sem]
    refine pw_wk ?_
    try simp [-List.map_set, go_sem]
   ·intro ψ5 hj3 hr4 hF6
    repeat rw [sq]
    rw [pw_block]
    obtain ⟨b43, hb44, hψ13⟩ := hF6
    refine pw_rloop (fun (i10 : Int) (s9 : Int) => [(0, .v (.sl false 2 (a0.map row_ViewCount_z))), (3, .v (.int .i64 s9)), (9, .v (.sl false 2 (a0.map row_ViewCount_z))), (10, .v (.int .i64 (a0.length : Int))), (11, .v (.int .i64 i10))]) hb44 (by simp [-List.map_set, go_sem]) ?_ ?_
    ·intro s9 N46 hN45
     subst hN45
     try simp [-List.map_set, go_sem]
     refine pw_wk ?_
     repeat rw [sq]
     refine pw_cond_f (by simp [-List.map_set, go_sem]) ?_
     try simp [-List.map_set, go_sem]
     exact hj3 () _ (by simp [-List.map_set, go_sem]) hψ13
    ·intro i10 s9 φ14 N15 hi17 hi18 ho11 hg12 hF16
     rw [Int.zero_add] at hi18
     try simp [-List.map_set, go_sem]
     refine pw_wk ?_
     repeat rw [sq]
     refine pw_cond_t (by simp [-List.map_set, go_sem, hi17, hi18]) ?_
     try simp [-List.map_set, go_sem]
     refine pw_wk ?_
     repeat rw [sq]
     rw [pw_block]
     obtain ⟨x19, g20, hF21⟩ := Rn_ix hF16
     try simp [-List.map_set, go_sem, g20]
     refine pw_wkK [0, 3, 4, 5, 9, 10, 11] (by simp [-List.map_set, go_sem, g20]; rfl) ?_
     repeat rw [sq]
     refine pw_joinF (fun (x26 : Bool) => [(0, .v (.sl false 2 (a0.map row_ViewCount_z))), (3, .v (.int .i64 s9)), (5, .bl [.sl false 1 (x19.View.map row_i64), .int .i64 x19.Times]), (9, .v (.sl false 2 (a0.map row_ViewCount_z))), (10, .v (.int .i64 (a0.length : Int))), (11, .v (.int .i64 i10)), (43, .v (.bool x26))]) hF21 ?_ ?_
     ·intro x26 hF27
      repeat rw [sq]
      refine pw_cF hF27 (by simp [-List.map_set, go_sem, g20]) (fun h41 hF42 => ?_) fun h41 hF42 => ?_
      ·cases ho11 _ (Rn_some hF42)
       cases hΦ _ (hr4 _ hψ13)
       try simp [-List.map_set, go_sem, g20]
       refine pw_wk ?_
       try simp [-List.map_set, go_sem, g20]
      ·iterate 2 (try simp [-List.map_set, go_sem, g20]; refine pw_wk ?_)
       try simp [-List.map_set, go_sem, g20]
       exact hg12 (IntKind.i64.wrap (s9 + x19.Times)) _ (by simp [-List.map_set, go_sem, g20, wr_i hi17 hi18 (by assumption)]) (Rn_some hF42)
     ·intro ψ24 hj22 hF25
      repeat rw [sq]
      refine pw_draw D66_7 follows (by kernel_rfl) rfl ?_
      try simp only [go_sem, D66_7]
      try simp [-List.map_set, go_sem, g20]
      try intros
      refine pwgD_F hF25 (fun h28 hF29 => ?_) fun h28 hF29 => ?_
      ·try simp [-List.map_set, go_sem, g20, h28]
       exact hj22 true _ (by simp [-List.map_set, go_sem, g20]) (Rn_some hF29)
      ·try simp [-List.map_set, go_sem, g20, h28]
       refine pw_cl hF29 [.sh, .sh, .sh] c_impl_within rfl rfl (by (try simp [-List.map_set, go_sem, clE, g20]); first | rfl | done) (by rfl) (by (try simp [-List.map_set, go_sem, g20]); first | rfl | done) fun z30 hF31 => ⟨by simp [go_sem], ?_⟩
       try simp [-List.map_set, go_sem, g20, h28]
       refine pwgD_F hF31 (fun h32 hF33 => ?_) fun h32 hF33 => ?_
       ·try simp [-List.map_set, go_sem, g20, h32]
        exact hj22 true _ (by simp [-List.map_set, go_sem, g20]) (Rn_some hF33)
       ·try simp [-List.map_set, go_sem, g20, h32]
        refine pwgD_F hF33 (fun h34 hF35 => ?_) fun h34 hF35 => ?_
        ·obtain ⟨x36, g37, hF38⟩ := Rn_ix hF35
         try simp [-List.map_set, go_sem, g20, g37, h34]
         refine pw_cl hF38 [.sh, .sh] c_slices_Compare_int_int rfl rfl (by (try simp [-List.map_set, go_sem, clE, g20, g37]); first | rfl | done) (by rfl) (by (try simp [-List.map_set, go_sem, g20, g37]); first | rfl | done) fun z39 hF40 => ⟨by simp [go_sem], ?_⟩
         try simp [-List.map_set, go_sem, g20, g37, h34, h32]
         exact hj22 (decide (0 ≤ z39)) _ (by simp [-List.map_set, go_sem, g20, g37]) (Rn_some hF40)
        ·try simp [-List.map_set, go_sem, g20, h34, h32]
         exact hj22 false _ (by simp [-List.map_set, go_sem, g20]) (Rn_some hF35)
noncomputable def F_impl_gathered (a0 : (List ViewCount)) : Option ((List ViewCount) × Bool) :=
  (F_slices_Clone_impl_ViewCount_impl_ViewCount a0).bind fun z1 =>
  (F_slices_SortStableFunc_impl_ViewCount_impl_ViewCount__io0_impl_gathered_1 z1).bind fun z3 =>
  ((rloop (σ := (List ViewCount)) (β := (List ViewCount)) (fun i51 s50 =>
  (((ix z3 i51).bind fun x66 =>
  ((if decide (0 ≤ (IntKind.i64.wrap ((s50.length : Int) - 1))) = true then (
  (ix s50 (IntKind.i64.wrap ((s50.length : Int) - 1))).bind fun x77 =>
  (F_slices_Equal_int_int x77.View x66.View).bind fun z80 =>
  some z80) else (
  some false) : Option (Bool)).bind fun (x73 : Bool) =>
  if x73 = true then (
  (ix s50 (IntKind.i64.wrap ((s50.length : Int) - 1))).bind fun x84 =>
  some (s50.set ((IntKind.i64.wrap ((s50.length : Int) - 1)).toNat) (ViewCount.mk x84.View (IntKind.i64.wrap (x84.Times + x66.Times))))) else (
  (F_slices_Clone_int_int x66.View).bind fun z87 =>
  gd ((s50.length + 1) * 32 ≤ 140737488355328 ∧ s50.length + 1 ≤ 4611686018427387904) <|
  some (s50 ++ [(ViewCount.mk z87 x66.Times)]))) : Option ((List ViewCount))).bind fun (x64 : (List ViewCount)) =>
  some (.go x64))) (fun s50 => s50) (z3.length) 0 [] : Option ((List ViewCount))).bind fun (x9 : (List ViewCount)) =>
  (F_impl_isCount x9).bind fun z96 =>
  if (!z96) = true then (
  some ([], false)) else (
  some (x9, true)))
theorem c_impl_gathered {a0 : (List ViewCount)} {r : (List ViewCount) × Bool} (hr : F_impl_gathered a0 = some r) : PCalls Try.prog 75 [(.sh, .sl false 2 (a0.map row_ViewCount_z))] (Eo (.tup [.sl true 2 (r.1.map row_ViewCount_o), .bool r.2]) [.junk]) := by
  apply pcalls_lf 59 [] [] [] [.tmp 2, .tmp 3] hr cl75 Try.func75 rfl rfl rfl
  · exact ⟨by simp, rfl⟩
  intro Φ hΦ hF
  unfold F_impl_gathered at hF
  try simp [-List.map_set, go_sem]
  refine pw_wk ?_
  try simp [-List.map_set, go_sem]
  refine pw_cl hF [.sh] c_slices_Clone_impl_ViewCount_impl_ViewCount rfl rfl (by (try simp [-List.map_set, go_sem, clE]); first | rfl | done) (by rfl) (by (try simp [-List.map_set, go_sem]); first | rfl | done) fun z1 hF2 => ⟨by simp [go_sem], ?_⟩
  try simp [-List.map_set, go_sem]
  refine pw_wk ?_
  try simp [-List.map_set, go_sem]
  refine pw_cl hF2 [.io, .sh] c_slices_SortStableFunc_impl_ViewCount_impl_ViewCount__io0_impl_gathered_1 rfl rfl (by (try simp [-List.map_set, go_sem, clE]); first | rfl | done) (by rfl) (by (try simp [-List.map_set, go_sem]); first | rfl | done) fun z3 hF4 => ⟨by simp [go_sem], ?_⟩
  iterate 2 (try simp [-List.map_set, go_sem]; try intros; refine pw_wk ?_)
  try simp [-List.map_set, go_sem]
  try intros
  refine pw_wkK [4, 5, 14, 15, 16] (by simp [-List.map_set, go_sem]; rfl) ?_
  repeat rw [sq]
  refine pw_joinF (fun (x9 : (List ViewCount)) => [(5, .v (.sl true 2 (x9.map row_ViewCount_o)))]) hF4 ?_ ?_
  ·intro x9 hF10
   try simp [-List.map_set, go_sem]
   refine pw_cl hF10 [.sh] c_impl_isCount rfl rfl (by (try simp [-List.map_set, go_sem, clE]); first | rfl | done) (by rfl) (by (try simp [-List.map_set, go_sem]); first | rfl | done) fun z96 hF97 => ⟨by simp [go_sem], ?_⟩
   try simp [-List.map_set, go_sem]
   refine pw_wk ?_
   repeat rw [sq]
   refine pw_cF hF97 (by simp [-List.map_set, go_sem]) (fun h98 hF99 => ?_) fun h98 hF99 => ?_
   ·cases hΦ _ (Rn_some hF99)
    try simp [-List.map_set, go_sem]
    refine pw_wk ?_
    try simp [-List.map_set, go_sem]
   ·cases hΦ _ (Rn_some hF99)
    iterate 2 (try simp [-List.map_set, go_sem]; refine pw_wk ?_)
    try simp [-List.map_set, go_sem]
  ·intro ψ7 hj5 hF8
   repeat rw [sq]
   rw [pw_block]
   obtain ⟨b92, hb93, hψ54⟩ := hF8
   refine pw_rloop (fun (i51 : Int) (s50 : (List ViewCount)) => [(4, .v (.sl true 2 (z3.map row_ViewCount_z))), (5, .v (.sl true 2 (s50.map row_ViewCount_o))), (14, .rf 4 []), (15, .v (.int .i64 (z3.length : Int))), (16, .v (.int .i64 i51))]) hb93 (by simp [-List.map_set, go_sem]) ?_ ?_
   ·intro s50 N95 hN94
    subst hN94
    try simp [-List.map_set, go_sem]
    refine pw_wk ?_
    repeat rw [sq]
    refine pw_cond_f (by simp [-List.map_set, go_sem]) ?_
    try simp [-List.map_set, go_sem]
    exact hj5 s50 _ (by simp [-List.map_set, go_sem]) hψ54
   ·intro i51 s50 φ55 N56 hi58 hi59 ho52 hg53 hF57
    rw [Int.zero_add] at hi59
    try simp [-List.map_set, go_sem]
    refine pw_wk ?_
    repeat rw [sq]
    refine pw_cond_t (by simp [-List.map_set, go_sem, hi58, hi59]) ?_
    try simp [-List.map_set, go_sem]
    refine pw_wk ?_
    repeat rw [sq]
    refine pw_joinF (fun (x64 : (List ViewCount)) => [(4, .v (.sl true 2 (z3.map row_ViewCount_z))), (5, .v (.sl true 2 (x64.map row_ViewCount_o))), (14, .rf 4 []), (15, .v (.int .i64 (z3.length : Int))), (16, .v (.int .i64 i51))]) hF57 ?_ ?_
    ·intro x64 hF65
     try simp [-List.map_set, go_sem]
     exact hg53 x64 _ (by simp [-List.map_set, go_sem, wr_i hi58 hi59 (by assumption)]) (Rn_some hF65)
    ·intro ψ62 hj60 hF63
     repeat rw [sq]
     rw [pw_block]
     obtain ⟨x66, g67, hF68⟩ := Rn_ix hF63
     iterate 2 (try simp [-List.map_set, go_sem, g67]; try intros; refine pw_wk ?_)
     repeat rw [sq]
     refine pw_joinF (fun (x73 : Bool) => [(4, .v (.sl true 2 (z3.map row_ViewCount_z))), (5, .v (.sl true 2 (s50.map row_ViewCount_o))), (7, .bl [.sl false 1 (x66.View.map row_i64), .int .i64 x66.Times]), (8, .v (.int .i64 (IntKind.i64.wrap ((s50.length : Int) - 1)))), (14, .rf 4 []), (15, .v (.int .i64 (z3.length : Int))), (16, .v (.int .i64 i51)), (34, .v (.bool x73))]) hF68 ?_ ?_
     ·intro x73 hF74
      repeat rw [sq]
      refine pw_cF hF74 (by simp [-List.map_set, go_sem, g67]) (fun h82 hF83 => ?_) fun h82 hF83 => ?_
      ·repeat rw [sq]
       refine pw_draw D75_9 follows (by kernel_rfl) rfl ?_
       try simp only [go_sem, D75_9]
       obtain ⟨x84, g85, hF86⟩ := Rn_ix hF83
       try simp [-List.map_set, go_sem, g67, g85]
       exact hj60 (s50.set ((IntKind.i64.wrap ((s50.length : Int) - 1)).toNat) (ViewCount.mk x84.View (IntKind.i64.wrap (x84.Times + x66.Times)))) _ (by simp [-List.map_set, go_sem, g67, g85]) (Rn_some hF86)
      ·repeat rw [sq]
       refine pw_draw D75_10 follows (by kernel_rfl) rfl ?_
       try simp only [go_sem, D75_10]
       try simp [-List.map_set, go_sem, g67]
       refine pw_clD hF83 c_slices_Clone_int_int rfl (by (try simp [-List.map_set, go_sem, clE, g67]); first | rfl | done) (by rfl) (by (try simp [-List.map_set, go_sem, g67]); first | rfl | done) fun z87 hF88 => ⟨by simp [go_sem], ?_⟩
       obtain ⟨g89, hF90⟩ := Rn_gd hF88
       have g91 := g89
       try simp at g91
       try simp [-List.map_set, go_sem, g67, g89, g91]
       exact hj60 (s50 ++ [(ViewCount.mk z87 x66.Times)]) _ (by simp [-List.map_set, go_sem, g67, g89, g91]) (Rn_some hF90)
     ·intro ψ71 hj69 hF72
      repeat rw [sq]
      refine pw_draw D75_8 follows (by kernel_rfl) rfl ?_
      try simp only [go_sem, D75_8]
      try simp [-List.map_set, go_sem, g67]
      refine pwgD_F hF72 (fun h75 hF76 => ?_) fun h75 hF76 => ?_
      ·obtain ⟨x77, g78, hF79⟩ := Rn_ix hF76
       try simp [-List.map_set, go_sem, g67, g78, h75]
       refine pw_cl hF79 [.sh, .sh] c_slices_Equal_int_int rfl rfl (by (try simp [-List.map_set, go_sem, clE, g67, g78]); first | rfl | done) (by rfl) (by (try simp [-List.map_set, go_sem, g67, g78]); first | rfl | done) fun z80 hF81 => ⟨by simp [go_sem], ?_⟩
       try simp [-List.map_set, go_sem, g67, g78, h75]
       exact hj69 z80 _ (by simp [-List.map_set, go_sem, g67, g78]) (Rn_some hF81)
      ·try simp [-List.map_set, go_sem, g67, h75]
       exact hj69 false _ (by simp [-List.map_set, go_sem, g67]) (Rn_some hF76)
noncomputable def F_impl_countedViews (a0 : (List (List Int))) : Option ((List ViewCount) × Bool) :=
  ((rloop (σ := (List ViewCount)) (β := (List ViewCount)) (fun i8 s7 =>
  (ix a0 i8).bind fun x17 =>
  gd ((s7.length + 1) * 32 ≤ 140737488355328 ∧ s7.length + 1 ≤ 4611686018427387904) <|
  some (.go (s7 ++ [(ViewCount.mk x17 1)]))) (fun s7 => s7) (a0.length) 0 [] : Option ((List ViewCount))).bind fun (x5 : (List ViewCount)) =>
  (F_impl_gathered x5).bind fun z27 =>
  some (z27.1, z27.2))
theorem c_impl_countedViews {a0 : (List (List Int))} {r : (List ViewCount) × Bool} (hr : F_impl_countedViews a0 = some r) : PCalls Try.prog 58 [(.sh, .sl false 1 (a0.map row_zi64))] (Eo (.tup [.sl true 2 (r.1.map row_ViewCount_o), .bool r.2]) [.junk]) := by
  apply pcalls_lf 24 [] [] [] [.tmp 2, .tmp 3] hr cl58 Try.func58 rfl rfl rfl
  · exact ⟨by simp, rfl⟩
  intro Φ hΦ hF
  unfold F_impl_countedViews at hF
  iterate 3 (try simp [-List.map_set, go_sem]; try intros; refine pw_wk ?_)
  repeat rw [sq]
  refine pw_joinF (fun (x5 : (List ViewCount)) => [(4, .v (.sl true 2 (x5.map row_ViewCount_z)))]) hF ?_ ?_
  ·intro x5 hF6
   try simp [-List.map_set, go_sem]
   refine pw_cl hF6 [.sh] c_impl_gathered rfl rfl (by (try simp [-List.map_set, go_sem, clE]); first | rfl | done) (by rfl) (by (try simp [-List.map_set, go_sem]); first | rfl | done) fun z27 hF28 => ⟨by simp [go_sem], ?_⟩
   try simp [-List.map_set, go_sem]
   refine pw_wkK [2, 3] (by simp [-List.map_set, go_sem]; rfl) ?_
   cases hΦ _ (Rn_some hF28)
   try simp [-List.map_set, go_sem]
  ·intro ψ3 hj1 hF4
   repeat rw [sq]
   rw [pw_block]
   obtain ⟨b23, hb24, hψ11⟩ := hF4
   refine pw_rloop (fun (i8 : Int) (s7 : (List ViewCount)) => [(4, .v (.sl true 2 (s7.map row_ViewCount_z))), (8, .v (.sl false 1 (a0.map row_zi64))), (9, .v (.int .i64 (a0.length : Int))), (10, .v (.int .i64 i8))]) hb24 (by simp [-List.map_set, go_sem]) ?_ ?_
   ·intro s7 N26 hN25
    subst hN25
    try simp [-List.map_set, go_sem]
    refine pw_wk ?_
    repeat rw [sq]
    refine pw_cond_f (by simp [-List.map_set, go_sem]) ?_
    try simp [-List.map_set, go_sem]
    exact hj1 s7 _ (by simp [-List.map_set, go_sem]) hψ11
   ·intro i8 s7 φ12 N13 hi15 hi16 ho9 hg10 hF14
    rw [Int.zero_add] at hi16
    try simp [-List.map_set, go_sem]
    refine pw_wk ?_
    repeat rw [sq]
    refine pw_cond_t (by simp [-List.map_set, go_sem, hi15, hi16]) ?_
    try simp [-List.map_set, go_sem]
    refine pw_wk ?_
    repeat rw [sq]
    rw [pw_block]
    obtain ⟨x17, g18, hF19⟩ := Rn_ix hF14
    try simp [-List.map_set, go_sem, g18]
    refine pw_wkK [4, 6, 8, 9, 10] (by simp [-List.map_set, go_sem, g18]; rfl) ?_
    obtain ⟨g20, hF21⟩ := Rn_gd hF19
    have g22 := g20
    try simp at g22
    try simp [-List.map_set, go_sem, g18, g20, g22]
    refine pw_wk ?_
    try simp [-List.map_set, go_sem, g18, g20, g22]
    exact hg10 (s7 ++ [(ViewCount.mk x17 1)]) _ (by simp [-List.map_set, go_sem, g18, g20, g22, wr_i hi15 hi16 (by assumption)]) (Rn_some hF21)
noncomputable def F_impl_ShareViews (a0 : Group) (a1 : Int) (a2 : Int) (a3 : (List Int)) : Option ((List ViewCount) × Bool) :=
  (((F_impl_isCounted a0).bind fun z7 =>
  if (!z7) = true then (
  some true) else (
  if decide (a0.Q ≤ 7) = true then (
  some true) else (
  (F_impl_within a1 1 3).bind fun z13 =>
  if (!z13) = true then (
  some true) else (
  (F_impl_Group_isExp a0 a2).bind fun z17 =>
  if (!z17) = true then (
  some true) else (
  if decide (3 < (a3.length : Int)) = true then (
  some true) else (
  (F_impl_areTrustees a3).bind fun z23 =>
  some (!z23)))))) : Option (Bool)).bind fun (x5 : Bool) =>
  if x5 = true then (
  some ([], false)) else (
  ((wloop (σ := Int × Int) (β := Int) (fun s33 =>
  if decide (s33.2 < (IntKind.i64.wrap (a1 - 1))) = true then (
  some (.go (IntKind.i64.wrap (s33.1 * a0.Q), IntKind.i64.wrap (s33.2 + 1)))) else (
  some (.out s33.1))) (1, 0) : Option (Int)).bind fun (x31 : Int) =>
  ((wloop (σ := (List (List Int)) × Int) (β := (List (List Int))) (fun s114 =>
  if decide (s114.2 < x31) = true then (
  ((wloop (σ := (List Int) × Int) (β := (List Int)) (fun s130 =>
  if decide ((s130.1.length : Int) < a1) = true then (
  gd (a0.Q ≠ 0) <|
  gd ((s130.1.length + 1) * 8 ≤ 140737488355328 ∧ s130.1.length + 1 ≤ 4611686018427387904) <|
  gd (a0.Q ≠ 0) <|
  some (.go (s130.1 ++ [s130.2.tmod a0.Q], IntKind.i64.wrap (s130.2.tdiv a0.Q)))) else (
  some (.out s130.1))) ([a2], s114.2) : Option ((List Int))).bind fun (x128 : (List Int)) =>
  ((rloop (σ := (List Int)) (β := (List Int)) (fun i156 s155 =>
  (ix a3 i156).bind fun x165 =>
  (F_impl_evalPoly a0.Q x128 x165).bind fun z168 =>
  gd ((s155.length + 1) * 8 ≤ 140737488355328 ∧ s155.length + 1 ≤ 4611686018427387904) <|
  some (.go (s155 ++ [z168]))) (fun s155 => s155) (a3.length) 0 [] : Option ((List Int))).bind fun (x153 : (List Int)) =>
  gd ((s114.1.length + 1) * 24 ≤ 140737488355328 ∧ s114.1.length + 1 ≤ 4611686018427387904) <|
  some (.go (s114.1 ++ [x153], IntKind.i64.wrap (s114.2 + 1)))))) else (
  some (.out s114.1))) ([], 0) : Option ((List (List Int)))).bind fun (x49 : (List (List Int))) =>
  (F_impl_countedViews x49).bind fun z182 =>
  some (z182.1, z182.2)))))
theorem c_impl_ShareViews {a0 : Group} {a1 : Int} {a2 : Int} {a3 : (List Int)} {r : (List ViewCount) × Bool} (hr : F_impl_ShareViews a0 a1 a2 a3 = some r) : PCalls Try.prog 27 [(.sh, .agg [.int .i64 a0.P, .int .i64 a0.Q, .int .i64 a0.G]), (.sh, .int .i64 a1), (.sh, .int .i64 a2), (.sh, .sl false 1 (a3.map row_i64))] (Eo (.tup [.sl true 2 (r.1.map row_ViewCount_o), .bool r.2]) [.junk, .junk, .junk, .junk]) := by
  apply pcalls_lf 104 [] [] [] [.tmp 8, .tmp 9] hr cl27 Try.func27 rfl rfl rfl
  · exact ⟨by simp, rfl⟩
  intro Φ hΦ hF
  unfold F_impl_ShareViews at hF
  try simp [-List.map_set, go_sem]
  refine pw_wk ?_
  repeat rw [sq]
  refine pw_joinF (fun (x5 : Bool) => [(1, .v (.int .i64 a1)), (2, .v (.int .i64 a2)), (3, .v (.sl false 1 (a3.map row_i64))), (4, .bl [.int .i64 a0.P, .int .i64 a0.Q, .int .i64 a0.G]), (46, .v (.bool x5))]) hF ?_ ?_
  ·intro x5 hF6
   repeat rw [sq]
   refine pw_cF hF6 (by simp [-List.map_set, go_sem]) (fun h25 hF26 => ?_) fun h25 hF26 => ?_
   ·cases hΦ _ (Rn_some hF26)
    try simp [-List.map_set, go_sem]
    refine pw_wk ?_
    try simp [-List.map_set, go_sem]
   ·iterate 3 (try simp [-List.map_set, go_sem]; refine pw_wk ?_)
    repeat rw [sq]
    refine pw_joinF (fun (x31 : Int) => [(1, .v (.int .i64 a1)), (2, .v (.int .i64 a2)), (3, .v (.sl false 1 (a3.map row_i64))), (4, .bl [.int .i64 a0.P, .int .i64 a0.Q, .int .i64 a0.G]), (10, .v (.sl true 1 [])), (11, .v (.int .i64 x31))]) hF26 ?_ ?_
    ·intro x31 hF32
     try simp [-List.map_set, go_sem]
     refine pw_wkK [1, 2, 3, 4, 10, 57, 58] (by simp [-List.map_set, go_sem]; rfl) ?_
     repeat rw [sq]
     refine pw_joinF (fun (x49 : (List (List Int))) => [(10, .v (.sl true 1 (x49.map row_oi64)))]) hF32 ?_ ?_
     ·intro x49 hF50
      try simp [-List.map_set, go_sem]
      refine pw_cl hF50 [.sh] c_impl_countedViews rfl rfl (by (try simp [-List.map_set, go_sem, clE]); first | rfl | done) (by rfl) (by (try simp [-List.map_set, go_sem]); first | rfl | done) fun z182 hF183 => ⟨by simp [go_sem], ?_⟩
      cases hΦ _ (Rn_some hF183)
      try simp [-List.map_set, go_sem]
      refine pw_wk ?_
      try simp [-List.map_set, go_sem]
     ·intro ψ47 hj45 hF48
      repeat rw [sq]
      rw [pw_block]
      obtain ⟨b180, hb181, hψ118⟩ := hF48
      refine pw_wloop (fun (s114 : (List (List Int)) × Int) => [(1, .v (.int .i64 a1)), (2, .v (.int .i64 a2)), (3, .v (.sl false 1 (a3.map row_i64))), (4, .bl [.int .i64 a0.P, .int .i64 a0.Q, .int .i64 a0.G]), (10, .v (.sl true 1 (s114.1.map row_oi64))), (57, .v (.int .i64 x31)), (58, .v (.int .i64 s114.2))]) hb181 (by simp [-List.map_set, go_sem]) ?_
      intro s114 φ119 N120 ho116 hg117 hF121
      try simp [-List.map_set, go_sem]
      refine pw_wk ?_
      repeat rw [sq]
      refine pw_cF hF121 (by simp [-List.map_set, go_sem]) (fun h122 hF123 => ?_) fun h122 hF123 => ?_
      ·try simp [-List.map_set, go_sem]
       refine pw_wk ?_
       repeat rw [sq]
       rw [pw_block]
       iterate 2 (try simp [-List.map_set, go_sem]; refine pw_wk ?_)
       try simp [-List.map_set, go_sem]
       refine pw_wkK [1, 2, 3, 4, 10, 13, 14, 15, 57, 58] (by simp [-List.map_set, go_sem]; rfl) ?_
       repeat rw [sq]
       refine pw_joinF (fun (x128 : (List Int)) => [(1, .v (.int .i64 a1)), (2, .v (.int .i64 a2)), (3, .v (.sl false 1 (a3.map row_i64))), (4, .bl [.int .i64 a0.P, .int .i64 a0.Q, .int .i64 a0.G]), (10, .v (.sl true 1 (s114.1.map row_oi64))), (13, .v (.sl true 1 (x128.map row_i64))), (14, .v (.sl true 1 [])), (57, .v (.int .i64 x31)), (58, .v (.int .i64 s114.2))]) hF123 ?_ ?_
       ·intro x128 hF129
        try simp [-List.map_set, go_sem]
        try intros
        refine pw_wk ?_
        repeat rw [sq]
        refine pw_joinF (fun (x153 : (List Int)) => [(1, .v (.int .i64 a1)), (2, .v (.int .i64 a2)), (3, .v (.sl false 1 (a3.map row_i64))), (4, .bl [.int .i64 a0.P, .int .i64 a0.Q, .int .i64 a0.G]), (10, .v (.sl true 1 (s114.1.map row_oi64))), (14, .v (.sl true 1 (x153.map row_i64))), (57, .v (.int .i64 x31)), (58, .v (.int .i64 s114.2))]) hF129 ?_ ?_
        ·intro x153 hF154
         obtain ⟨g177, hF178⟩ := Rn_gd hF154
         have g179 := g177
         try simp at g179
         try simp [-List.map_set, go_sem, g177, g179]
         refine pw_wk ?_
         try simp [-List.map_set, go_sem, g177, g179]
         exact hg117 (s114.1 ++ [x153], IntKind.i64.wrap (s114.2 + 1)) _ (by simp [-List.map_set, go_sem, g177, g179]) (Rn_some hF178)
        ·intro ψ151 hj149 hF152
         repeat rw [sq]
         rw [pw_block]
         obtain ⟨b173, hb174, hψ159⟩ := hF152
         refine pw_rloop (fun (i156 : Int) (s155 : (List Int)) => [(1, .v (.int .i64 a1)), (2, .v (.int .i64 a2)), (3, .v (.sl false 1 (a3.map row_i64))), (4, .bl [.int .i64 a0.P, .int .i64 a0.Q, .int .i64 a0.G]), (10, .v (.sl true 1 (s114.1.map row_oi64))), (13, .v (.sl true 1 (x128.map row_i64))), (14, .v (.sl true 1 (s155.map row_i64))), (57, .v (.int .i64 x31)), (58, .v (.int .i64 s114.2)), (80, .v (.sl false 1 (a3.map row_i64))), (81, .v (.int .i64 (a3.length : Int))), (82, .v (.int .i64 i156))]) hb174 (by simp [-List.map_set, go_sem]) ?_ ?_
         ·intro s155 N176 hN175
          subst hN175
          try simp [-List.map_set, go_sem]
          refine pw_wk ?_
          repeat rw [sq]
          refine pw_cond_f (by simp [-List.map_set, go_sem]) ?_
          try simp [-List.map_set, go_sem]
          exact hj149 s155 _ (by simp [-List.map_set, go_sem]) hψ159
         ·intro i156 s155 φ160 N161 hi163 hi164 ho157 hg158 hF162
          rw [Int.zero_add] at hi164
          try simp [-List.map_set, go_sem]
          refine pw_wk ?_
          repeat rw [sq]
          refine pw_cond_t (by simp [-List.map_set, go_sem, hi163, hi164]) ?_
          try simp [-List.map_set, go_sem]
          refine pw_wk ?_
          repeat rw [sq]
          rw [pw_block]
          obtain ⟨x165, g166, hF167⟩ := Rn_ix hF162
          try simp [-List.map_set, go_sem, g166]
          refine pw_wk ?_
          try simp [-List.map_set, go_sem, g166]
          refine pw_cl hF167 [.sh, .sh, .sh] c_impl_evalPoly rfl rfl (by (try simp [-List.map_set, go_sem, clE, g166]); first | rfl | done) (by rfl) (by (try simp [-List.map_set, go_sem, g166]); first | rfl | done) fun z168 hF169 => ⟨by simp [go_sem], ?_⟩
          obtain ⟨g170, hF171⟩ := Rn_gd hF169
          have g172 := g170
          try simp at g172
          try simp [-List.map_set, go_sem, g166, g170, g172]
          refine pw_wkK [1, 2, 3, 4, 10, 13, 14, 57, 58, 80, 81, 82] (by simp [-List.map_set, go_sem, g166, g170, g172]; rfl) ?_
          try simp [-List.map_set, go_sem, g166, g170, g172]
          exact hg158 (s155 ++ [z168]) _ (by simp [-List.map_set, go_sem, g166, g170, g172, wr_i hi163 hi164 (by assumption)]) (Rn_some hF171)
       ·intro ψ126 hj124 hF127
        repeat rw [sq]
        rw [pw_block]
        obtain ⟨b147, hb148, hψ134⟩ := hF127
        refine pw_wloop (fun (s130 : (List Int) × Int) => [(1, .v (.int .i64 a1)), (2, .v (.int .i64 a2)), (3, .v (.sl false 1 (a3.map row_i64))), (4, .bl [.int .i64 a0.P, .int .i64 a0.Q, .int .i64 a0.G]), (10, .v (.sl true 1 (s114.1.map row_oi64))), (13, .v (.sl true 1 (s130.1.map row_i64))), (14, .v (.sl true 1 [])), (15, .v (.int .i64 s130.2)), (57, .v (.int .i64 x31)), (58, .v (.int .i64 s114.2))]) hb148 (by simp [-List.map_set, go_sem]) ?_
        intro s130 φ135 N136 ho132 hg133 hF137
        try simp [-List.map_set, go_sem]
        try intros
        refine pw_wk ?_
        repeat rw [sq]
        refine pw_cF hF137 (by simp [-List.map_set, go_sem]) (fun h138 hF139 => ?_) fun h138 hF139 => ?_
        ·try simp [-List.map_set, go_sem]
         refine pw_wk ?_
         repeat rw [sq]
         rw [pw_block]
         obtain ⟨g140, hF141⟩ := Rn_nz hF139
         obtain ⟨g142, hF143⟩ := Rn_gd hF141
         have g144 := g142
         try simp at g144
         try simp [-List.map_set, go_sem, g140, g142, g144]
         refine pw_wkK [1, 2, 3, 4, 10, 13, 14, 15, 57, 58] (by simp [-List.map_set, go_sem, g140, g142, g144]; rfl) ?_
         obtain ⟨g145, hF146⟩ := Rn_nz hF143
         try simp [-List.map_set, go_sem, g140, g142, g144, g145]
         exact hg133 (s130.1 ++ [s130.2.tmod a0.Q], IntKind.i64.wrap (s130.2.tdiv a0.Q)) _ (by simp [-List.map_set, go_sem, g140, g142, g144, g145]) (Rn_some hF146)
        ·try simp [-List.map_set, go_sem]
         cases ho132 _ (Rn_some hF139)
         exact hj124 s130.1 _ (by simp [-List.map_set, go_sem]) hψ134
      ·try simp [-List.map_set, go_sem]
       cases ho116 _ (Rn_some hF123)
       exact hj45 s114.1 _ (by simp [-List.map_set, go_sem]) hψ118
    ·intro ψ29 hj27 hF30
     repeat rw [sq]
     rw [pw_block]
     obtain ⟨b43, hb44, hψ37⟩ := hF30
     refine pw_wloop (fun (s33 : Int × Int) => [(1, .v (.int .i64 a1)), (2, .v (.int .i64 a2)), (3, .v (.sl false 1 (a3.map row_i64))), (4, .bl [.int .i64 a0.P, .int .i64 a0.Q, .int .i64 a0.G]), (10, .v (.sl true 1 [])), (11, .v (.int .i64 s33.1)), (49, .v (.int .i64 (IntKind.i64.wrap (a1 - 1)))), (50, .v (.int .i64 s33.2))]) hb44 (by simp [-List.map_set, go_sem]) ?_
     intro s33 φ38 N39 ho35 hg36 hF40
     try simp [-List.map_set, go_sem]
     refine pw_wkK [1, 2, 3, 4, 10, 11, 49, 50, 51] (by simp [-List.map_set, go_sem]; rfl) ?_
     repeat rw [sq]
     refine pw_cF hF40 (by simp [-List.map_set, go_sem]) (fun h41 hF42 => ?_) fun h41 hF42 => ?_
     ·try simp [-List.map_set, go_sem]
      refine pw_wk ?_
      repeat rw [sq]
      rw [pw_block]
      try simp [-List.map_set, go_sem]
      refine pw_wk ?_
      try simp [-List.map_set, go_sem]
      exact hg36 (IntKind.i64.wrap (s33.1 * a0.Q), IntKind.i64.wrap (s33.2 + 1)) _ (by simp [-List.map_set, go_sem]) (Rn_some hF42)
     ·try simp [-List.map_set, go_sem]
      cases ho35 _ (Rn_some hF42)
      exact hj27 s33.1 _ (by simp [-List.map_set, go_sem]) hψ37
  ·intro ψ3 hj1 hF4
   try simp [-List.map_set, go_sem]
   refine pw_cl hF4 [.sh] c_impl_isCounted rfl rfl (by (try simp [-List.map_set, go_sem, clE]); first | rfl | done) (by rfl) (by (try simp [-List.map_set, go_sem]); first | rfl | done) fun z7 hF8 => ⟨by simp [go_sem], ?_⟩
   try simp [-List.map_set, go_sem]
   refine pwg_F hF8 (fun h9 hF10 => ?_) fun h9 hF10 => ?_
   ·try simp [-List.map_set, go_sem, h9]
    exact hj1 true _ (by simp [-List.map_set, go_sem]) (Rn_some hF10)
   ·try simp [-List.map_set, go_sem, h9]
    refine pwg_F hF10 (fun h11 hF12 => ?_) fun h11 hF12 => ?_
    ·try simp [-List.map_set, go_sem, h11]
     exact hj1 true _ (by simp [-List.map_set, go_sem]) (Rn_some hF12)
    ·try simp [-List.map_set, go_sem, h11]
     refine pw_cl hF12 [.sh, .sh, .sh] c_impl_within rfl rfl (by (try simp [-List.map_set, go_sem, clE]); first | rfl | done) (by rfl) (by (try simp [-List.map_set, go_sem]); first | rfl | done) fun z13 hF14 => ⟨by simp [go_sem], ?_⟩
     try simp [-List.map_set, go_sem, h11]
     refine pwg_F hF14 (fun h15 hF16 => ?_) fun h15 hF16 => ?_
     ·try simp [-List.map_set, go_sem, h15]
      exact hj1 true _ (by simp [-List.map_set, go_sem]) (Rn_some hF16)
     ·try simp [-List.map_set, go_sem, h15]
      refine pw_cl hF16 [.sh, .sh] c_impl_Group_isExp rfl rfl (by (try simp [-List.map_set, go_sem, clE]); first | rfl | done) (by rfl) (by (try simp [-List.map_set, go_sem]); first | rfl | done) fun z17 hF18 => ⟨by simp [go_sem], ?_⟩
      try simp [-List.map_set, go_sem, h15]
      refine pwg_F hF18 (fun h19 hF20 => ?_) fun h19 hF20 => ?_
      ·try simp [-List.map_set, go_sem, h19]
       exact hj1 true _ (by simp [-List.map_set, go_sem]) (Rn_some hF20)
      ·try simp [-List.map_set, go_sem, h19]
       try intros
       refine pwg_F hF20 (fun h21 hF22 => ?_) fun h21 hF22 => ?_
       ·try simp [-List.map_set, go_sem, h21]
        exact hj1 true _ (by simp [-List.map_set, go_sem]) (Rn_some hF22)
       ·try simp [-List.map_set, go_sem, h21]
        refine pw_cl hF22 [.sh] c_impl_areTrustees rfl rfl (by (try simp [-List.map_set, go_sem, clE]); first | rfl | done) (by rfl) (by (try simp [-List.map_set, go_sem]); first | rfl | done) fun z23 hF24 => ⟨by simp [go_sem], ?_⟩
        try simp [-List.map_set, go_sem, h21]
        exact hj1 (!z23) _ (by simp [-List.map_set, go_sem]) (Rn_some hF24)
noncomputable def F_laws_eqIntS (a0 : (List Int)) (a1 : (List Int)) : Option (Bool) :=
  if ((a0.length : Int) != (a1.length : Int)) = true then (
  some false) else (
  ((wloop (σ := Int) (β := Unit ⊕ Bool) (fun s9 =>
  if decide (s9 < (a0.length : Int)) = true then (
  (ix a0 s9).bind fun x19 =>
  (ix a1 s9).bind fun x22 =>
  if (x19 != x22) = true then (
  some (.out (.inr false))) else (
  some (.go (IntKind.i64.wrap (s9 + 1))))) else (
  some (.out (.inl ())))) 0 : Option (Unit ⊕ Bool)).bind (Sum.elim (fun (x7 : Unit) =>
  some true) some)))
theorem c_laws_eqIntS {a0 : (List Int)} {a1 : (List Int)} {r : Bool} (hr : F_laws_eqIntS a0 a1 = some r) : PCalls Try.prog 28 [(.sh, .sl false 1 (a0.map row_i64)), (.sh, .sl false 1 (a1.map row_i64))] (Eo (.bool r) [.junk, .junk]) := by
  apply pcalls_lf 26 [] [] [] [.tmp 4] hr cl28 Try.func28 rfl rfl rfl
  · exact ⟨by simp, rfl⟩
  intro Φ hΦ hF
  unfold F_laws_eqIntS at hF
  iterate 2 (try simp [-List.map_set, go_sem]; try intros; refine pw_wk ?_)
  repeat rw [sq]
  refine pw_cF hF (by simp [-List.map_set, go_sem]) (fun h1 hF2 => ?_) fun h1 hF2 => ?_
  ·cases hΦ _ (Rn_some hF2)
   try simp [-List.map_set, go_sem]
   refine pw_wk ?_
   try simp [-List.map_set, go_sem]
  ·iterate 2 (try simp [-List.map_set, go_sem]; refine pw_wk ?_)
   repeat rw [sq]
   refine pw_joinS (fun (x7 : Unit) => []) hF2 ?_ ?_
   ·intro x7 hF8
    cases hΦ _ (Rn_some hF8)
    try simp [-List.map_set, go_sem]
    refine pw_wk ?_
    try simp [-List.map_set, go_sem]
   ·intro ψ5 hj3 hr4 hF6
    repeat rw [sq]
    rw [pw_block]
    obtain ⟨b27, hb28, hψ13⟩ := hF6
    refine pw_wloop (fun (s9 : Int) => [(0, .v (.sl false 1 (a0.map row_i64))), (1, .v (.sl false 1 (a1.map row_i64))), (5, .v (.int .i64 s9))]) hb28 (by simp [-List.map_set, go_sem]) ?_
    intro s9 φ14 N15 ho11 hg12 hF16
    try simp [-List.map_set, go_sem]
    try intros
    refine pw_wkK [0, 1, 5, 14] (by simp [-List.map_set, go_sem]; rfl) ?_
    repeat rw [sq]
    refine pw_cF hF16 (by simp [-List.map_set, go_sem]) (fun h17 hF18 => ?_) fun h17 hF18 => ?_
    ·try simp [-List.map_set, go_sem]
     refine pw_wk ?_
     repeat rw [sq]
     rw [pw_block]
     repeat rw [sq]
     refine pw_draw D28_6 follows (by kernel_rfl) rfl ?_
     try simp only [go_sem, D28_6]
     obtain ⟨x19, g20, hF21⟩ := Rn_ix hF18
     obtain ⟨x22, g23, hF24⟩ := Rn_ix hF21
     try simp [-List.map_set, go_sem, g20, g23]
     refine pw_wk ?_
     repeat rw [sq]
     refine pw_cF hF24 (by simp [-List.map_set, go_sem, g20, g23]) (fun h25 hF26 => ?_) fun h25 hF26 => ?_
     ·try simp [-List.map_set, go_sem, g20, g23]
      refine pw_wkK [4] (by simp [-List.map_set, go_sem, g20, g23]; rfl) ?_
      cases ho11 _ (Rn_some hF26)
      cases hΦ _ (hr4 _ hψ13)
      try simp [-List.map_set, go_sem, g20, g23]
     ·try simp [-List.map_set, go_sem, g20, g23]
      refine pw_wk ?_
      try simp [-List.map_set, go_sem, g20, g23]
      exact hg12 (IntKind.i64.wrap (s9 + 1)) _ (by simp [-List.map_set, go_sem, g20, g23]) (Rn_some hF26)
    ·try simp [-List.map_set, go_sem]
     cases ho11 _ (Rn_some hF18)
     exact hj3 () _ (by simp [-List.map_set, go_sem]) hψ13
noncomputable def F_laws_eqViewCount (a0 : ViewCount) (a1 : ViewCount) : Option (Bool) :=
  (F_laws_eqIntS a0.View a1.View).bind fun z1 =>
  if (!z1) = true then (
  some false) else (
  if (a0.Times != a1.Times) = true then (
  some false) else (
  some true))
theorem c_laws_eqViewCount {a0 : ViewCount} {a1 : ViewCount} {r : Bool} (hr : F_laws_eqViewCount a0 a1 = some r) : PCalls Try.prog 59 [(.sh, .agg [.sl false 1 (a0.View.map row_i64), .int .i64 a0.Times]), (.sh, .agg [.sl false 1 (a1.View.map row_i64), .int .i64 a1.Times])] (Eo (.bool r) [.junk, .junk]) := by
  apply pcalls_lf 16 [] [] [] [.tmp 4] hr cl59 Try.func59 rfl rfl rfl
  · exact ⟨by simp, rfl⟩
  intro Φ hΦ hF
  unfold F_laws_eqViewCount at hF
  try simp [-List.map_set, go_sem]
  refine pw_wk ?_
  try simp [-List.map_set, go_sem]
  refine pw_cl hF [.sh, .sh] c_laws_eqIntS rfl rfl (by (try simp [-List.map_set, go_sem, clE]); first | rfl | done) (by rfl) (by (try simp [-List.map_set, go_sem]); first | rfl | done) fun z1 hF2 => ⟨by simp [go_sem], ?_⟩
  try simp [-List.map_set, go_sem]
  refine pw_wk ?_
  repeat rw [sq]
  refine pw_cF hF2 (by simp [-List.map_set, go_sem]) (fun h3 hF4 => ?_) fun h3 hF4 => ?_
  ·try simp [-List.map_set, go_sem]
   refine pw_wkK [4] (by simp [-List.map_set, go_sem]; rfl) ?_
   cases hΦ _ (Rn_some hF4)
   try simp [-List.map_set, go_sem]
  ·try simp [-List.map_set, go_sem]
   refine pw_wk ?_
   try simp [-List.map_set, go_sem]
   refine pw_wkK [15] (by simp [-List.map_set, go_sem]; rfl) ?_
   repeat rw [sq]
   refine pw_cF hF4 (by simp [-List.map_set, go_sem]) (fun h5 hF6 => ?_) fun h5 hF6 => ?_
   ·cases hΦ _ (Rn_some hF6)
    try simp [-List.map_set, go_sem]
    refine pw_wk ?_
    try simp [-List.map_set, go_sem]
   ·cases hΦ _ (Rn_some hF6)
    iterate 2 (try simp [-List.map_set, go_sem]; refine pw_wk ?_)
    try simp [-List.map_set, go_sem]
noncomputable def F_laws_eqViewCountS (a0 : (List ViewCount)) (a1 : (List ViewCount)) : Option (Bool) :=
  if ((a0.length : Int) != (a1.length : Int)) = true then (
  some false) else (
  ((wloop (σ := Int) (β := Unit ⊕ Bool) (fun s9 =>
  if decide (s9 < (a0.length : Int)) = true then (
  (ix a0 s9).bind fun x19 =>
  (ix a1 s9).bind fun x22 =>
  (F_laws_eqViewCount x19 x22).bind fun z25 =>
  if (!z25) = true then (
  some (.out (.inr false))) else (
  some (.go (IntKind.i64.wrap (s9 + 1))))) else (
  some (.out (.inl ())))) 0 : Option (Unit ⊕ Bool)).bind (Sum.elim (fun (x7 : Unit) =>
  some true) some)))
theorem c_laws_eqViewCountS {a0 : (List ViewCount)} {a1 : (List ViewCount)} {r : Bool} (hr : F_laws_eqViewCountS a0 a1 = some r) : PCalls Try.prog 13 [(.sh, .sl false 2 (a0.map row_ViewCount_z)), (.sh, .sl false 2 (a1.map row_ViewCount_z))] (Eo (.bool r) [.junk, .junk]) := by
  apply pcalls_lf 27 [] [] [] [.tmp 4] hr cl13 Try.func13 rfl rfl rfl
  · exact ⟨by simp, rfl⟩
  intro Φ hΦ hF
  unfold F_laws_eqViewCountS at hF
  iterate 2 (try simp [-List.map_set, go_sem]; try intros; refine pw_wk ?_)
  repeat rw [sq]
  refine pw_cF hF (by simp [-List.map_set, go_sem]) (fun h1 hF2 => ?_) fun h1 hF2 => ?_
  ·cases hΦ _ (Rn_some hF2)
   try simp [-List.map_set, go_sem]
   refine pw_wk ?_
   try simp [-List.map_set, go_sem]
  ·iterate 2 (try simp [-List.map_set, go_sem]; refine pw_wk ?_)
   repeat rw [sq]
   refine pw_joinS (fun (x7 : Unit) => []) hF2 ?_ ?_
   ·intro x7 hF8
    cases hΦ _ (Rn_some hF8)
    try simp [-List.map_set, go_sem]
    refine pw_wk ?_
    try simp [-List.map_set, go_sem]
   ·intro ψ5 hj3 hr4 hF6
    repeat rw [sq]
    rw [pw_block]
    obtain ⟨b29, hb30, hψ13⟩ := hF6
    refine pw_wloop (fun (s9 : Int) => [(0, .v (.sl false 2 (a0.map row_ViewCount_z))), (1, .v (.sl false 2 (a1.map row_ViewCount_z))), (5, .v (.int .i64 s9))]) hb30 (by simp [-List.map_set, go_sem]) ?_
    intro s9 φ14 N15 ho11 hg12 hF16
    try simp [-List.map_set, go_sem]
    try intros
    refine pw_wkK [0, 1, 5, 14] (by simp [-List.map_set, go_sem]; rfl) ?_
    repeat rw [sq]
    refine pw_cF hF16 (by simp [-List.map_set, go_sem]) (fun h17 hF18 => ?_) fun h17 hF18 => ?_
    ·try simp [-List.map_set, go_sem]
     refine pw_wk ?_
     repeat rw [sq]
     rw [pw_block]
     repeat rw [sq]
     refine pw_draw D13_6 follows (by kernel_rfl) rfl ?_
     try simp only [go_sem, D13_6]
     obtain ⟨x19, g20, hF21⟩ := Rn_ix hF18
     obtain ⟨x22, g23, hF24⟩ := Rn_ix hF21
     try simp [-List.map_set, go_sem, g20, g23]
     refine pw_cl hF24 [.sh, .sh] c_laws_eqViewCount rfl rfl (by (try simp [-List.map_set, go_sem, clE, g20, g23]); first | rfl | done) (by rfl) (by (try simp [-List.map_set, go_sem, g20, g23]); first | rfl | done) fun z25 hF26 => ⟨by simp [go_sem], ?_⟩
     try simp [-List.map_set, go_sem, g20, g23]
     refine pw_wkK [0, 1, 5, 26] (by simp [-List.map_set, go_sem, g20, g23]; rfl) ?_
     repeat rw [sq]
     refine pw_cF hF26 (by simp [-List.map_set, go_sem, g20, g23]) (fun h27 hF28 => ?_) fun h27 hF28 => ?_
     ·cases ho11 _ (Rn_some hF28)
      cases hΦ _ (hr4 _ hψ13)
      try simp [-List.map_set, go_sem, g20, g23]
      refine pw_wk ?_
      try simp [-List.map_set, go_sem, g20, g23]
     ·try simp [-List.map_set, go_sem, g20, g23]
      refine pw_wk ?_
      try simp [-List.map_set, go_sem, g20, g23]
      exact hg12 (IntKind.i64.wrap (s9 + 1)) _ (by simp [-List.map_set, go_sem, g20, g23]) (Rn_some hF28)
    ·try simp [-List.map_set, go_sem]
     cases ho11 _ (Rn_some hF18)
     exact hj3 () _ (by simp [-List.map_set, go_sem]) hψ13
noncomputable def F_laws_markIntS__io0 (a0 : (List Int)) (a1 : Int) : Option (Int × (List Int)) :=
  ((wloop (σ := (List Int) × Int × Int) (β := ((List Int) × Int)) (fun s20 =>
  if decide (s20.2.2 < (s20.1.length : Int)) = true then (
  (ix s20.1 s20.2.2).bind fun x30 =>
  some (.go (s20.1.set s20.2.2.toNat s20.2.1, IntKind.i64.wrap (s20.2.1 + 1), IntKind.i64.wrap (s20.2.2 + 1)))) else (
  some (.out (s20.1, s20.2.1)))) (a0, a1, 0) : Option (((List Int) × Int))).bind fun (x5 : (List Int) × Int) =>
  some (x5.2, x5.1))
theorem c_laws_markIntS__io0 {a0 : (List Int)} {a1 : Int} {r : Int × (List Int)} (hr : F_laws_markIntS__io0 a0 a1 = some r) : PCalls Try.prog 29 [(.io, .sl true 1 (a0.map row_i64)), (.sh, .int .i64 a1)] (Eo (.int .i64 r.1) [.sl true 1 (r.2.map row_i64), .junk]) := by
  apply pcalls_lf 19 [0] [] [] [.tmp 4] hr cl29 Try.func29 rfl rfl rfl
  · exact ⟨by simp, rfl⟩
  intro Φ hΦ hF
  unfold F_laws_markIntS__io0 at hF
  iterate 2 (try simp [-List.map_set, go_sem]; refine pw_wk ?_)
  repeat rw [sq]
  refine pw_joinF (fun (x5 : (List Int) × Int) => [(0, .v (.sl true 1 (x5.1.map row_i64))), (1, .v (.int .i64 x5.2))]) hF ?_ ?_
  ·intro x5 hF6
   cases hΦ _ (Rn_some hF6)
   try simp [-List.map_set, go_sem]
   refine pw_wk ?_
   try simp [-List.map_set, go_sem]
  ·intro ψ3 hj1 hF4
   repeat rw [sq]
   rw [pw_block]
   obtain ⟨b33, hb34, hψ24⟩ := hF4
   refine pw_wloop (fun (s20 : (List Int) × Int × Int) => [(0, .v (.sl true 1 (s20.1.map row_i64))), (1, .v (.int .i64 s20.2.1)), (5, .v (.int .i64 s20.2.2))]) hb34 (by simp [-List.map_set, go_sem]) ?_
   intro s20 φ25 N26 ho22 hg23 hF27
   try simp [-List.map_set, go_sem]
   try intros
   refine pw_wk ?_
   repeat rw [sq]
   refine pw_cF hF27 (by simp [-List.map_set, go_sem]) (fun h28 hF29 => ?_) fun h28 hF29 => ?_
   ·try simp [-List.map_set, go_sem]
    refine pw_wk ?_
    repeat rw [sq]
    rw [pw_block]
    obtain ⟨x30, g31, hF32⟩ := Rn_ix hF29
    try simp [-List.map_set, go_sem, g31]
    refine pw_wkK [0, 1, 5] (by simp [-List.map_set, go_sem, g31]; rfl) ?_
    try simp [-List.map_set, go_sem, g31]
    refine pw_wk ?_
    try simp [-List.map_set, go_sem, g31]
    exact hg23 (s20.1.set s20.2.2.toNat s20.2.1, IntKind.i64.wrap (s20.2.1 + 1), IntKind.i64.wrap (s20.2.2 + 1)) _ (by simp [-List.map_set, go_sem, g31]) (Rn_some hF32)
   ·try simp [-List.map_set, go_sem]
    cases ho22 _ (Rn_some hF29)
    exact hj1 (s20.1, s20.2.1) _ (by simp [-List.map_set, go_sem]) hψ24
noncomputable def F_laws_markViewCountS__io0 (a0 : (List ViewCount)) (a1 : Int) : Option (Int × (List ViewCount)) :=
  ((wloop (σ := (List ViewCount) × Int × Int) (β := ((List ViewCount) × Int)) (fun s25 =>
  if decide (s25.2.2 < (s25.1.length : Int)) = true then (
  (ix s25.1 s25.2.2).bind fun x35 =>
  (F_laws_markIntS__io0 x35.View s25.2.1).bind fun z38 =>
  (ix (s25.1.set s25.2.2.toNat (ViewCount.mk z38.2 x35.Times)) s25.2.2).bind fun x40 =>
  some (.go ((s25.1.set s25.2.2.toNat (ViewCount.mk z38.2 x35.Times)).set s25.2.2.toNat (ViewCount.mk x40.View z38.1), IntKind.i64.wrap (z38.1 + 1), IntKind.i64.wrap (s25.2.2 + 1)))) else (
  some (.out (s25.1, s25.2.1)))) (a0, a1, 0) : Option (((List ViewCount) × Int))).bind fun (x5 : (List ViewCount) × Int) =>
  some (x5.2, x5.1))
theorem c_laws_markViewCountS__io0 {a0 : (List ViewCount)} {a1 : Int} {r : Int × (List ViewCount)} (hr : F_laws_markViewCountS__io0 a0 a1 = some r) : PCalls Try.prog 14 [(.io, .sl true 2 (a0.map row_ViewCount_o)), (.sh, .int .i64 a1)] (Eo (.int .i64 r.1) [.sl true 2 (r.2.map row_ViewCount_o), .junk]) := by
  apply pcalls_lf 27 [0] [] [] [.tmp 4] hr cl14 Try.func14 rfl rfl rfl
  · exact ⟨by simp, rfl⟩
  intro Φ hΦ hF
  unfold F_laws_markViewCountS__io0 at hF
  iterate 2 (try simp [-List.map_set, go_sem]; refine pw_wk ?_)
  repeat rw [sq]
  refine pw_joinF (fun (x5 : (List ViewCount) × Int) => [(0, .v (.sl true 2 (x5.1.map row_ViewCount_o))), (1, .v (.int .i64 x5.2))]) hF ?_ ?_
  ·intro x5 hF6
   cases hΦ _ (Rn_some hF6)
   try simp [-List.map_set, go_sem]
   refine pw_wk ?_
   try simp [-List.map_set, go_sem]
  ·intro ψ3 hj1 hF4
   repeat rw [sq]
   rw [pw_block]
   obtain ⟨b43, hb44, hψ29⟩ := hF4
   refine pw_wloop (fun (s25 : (List ViewCount) × Int × Int) => [(0, .v (.sl true 2 (s25.1.map row_ViewCount_o))), (1, .v (.int .i64 s25.2.1)), (5, .v (.int .i64 s25.2.2))]) hb44 (by simp [-List.map_set, go_sem]) ?_
   intro s25 φ30 N31 ho27 hg28 hF32
   try simp [-List.map_set, go_sem]
   try intros
   refine pw_wk ?_
   repeat rw [sq]
   refine pw_cF hF32 (by simp [-List.map_set, go_sem]) (fun h33 hF34 => ?_) fun h33 hF34 => ?_
   ·try simp [-List.map_set, go_sem]
    refine pw_wk ?_
    repeat rw [sq]
    rw [pw_block]
    obtain ⟨x35, g36, hF37⟩ := Rn_ix hF34
    try simp [-List.map_set, go_sem, g36]
    refine pw_cl hF37 [.io, .sh] c_laws_markIntS__io0 rfl rfl (by (try simp [-List.map_set, go_sem, clE, g36]); first | rfl | done) (by rfl) (by (try simp [-List.map_set, go_sem, g36]); first | rfl | done) fun z38 hF39 => ⟨by simp [go_sem], ?_⟩
    try simp [-List.map_set, go_sem, g36]
    refine pw_wkK [0, 1, 5] (by simp [-List.map_set, go_sem, g36]; rfl) ?_
    obtain ⟨x40, g41, hF42⟩ := Rn_ix hF39
    iterate 2 (try simp [-List.map_set, go_sem, g36, g41]; refine pw_wk ?_)
    try simp [-List.map_set, go_sem, g36, g41]
    exact hg28 ((s25.1.set s25.2.2.toNat (ViewCount.mk z38.2 x35.Times)).set s25.2.2.toNat (ViewCount.mk x40.View z38.1), IntKind.i64.wrap (z38.1 + 1), IntKind.i64.wrap (s25.2.2 + 1)) _ (by simp [-List.map_set, go_sem, g36, g41]) (Rn_some hF42)
   ·try simp [-List.map_set, go_sem]
    cases ho27 _ (Rn_some hF34)
    exact hj1 (s25.1, s25.2.1) _ (by simp [-List.map_set, go_sem]) hψ29
noncomputable def F_laws_heldIntS (a0 : (List Int)) (a1 : Int) : Option (Int) :=
  ((wloop (σ := Int × Int) (β := Int ⊕ Int) (fun s7 =>
  if decide (s7.2 < (a0.length : Int)) = true then (
  (ix a0 s7.2).bind fun x17 =>
  if (x17 != s7.1) = true then (
  some (.out (.inr (-1)))) else (
  some (.go (IntKind.i64.wrap (s7.1 + 1), IntKind.i64.wrap (s7.2 + 1))))) else (
  some (.out (.inl s7.1)))) (a1, 0) : Option (Int ⊕ Int)).bind (Sum.elim (fun (x5 : Int) =>
  some x5) some))
theorem c_laws_heldIntS {a0 : (List Int)} {a1 : Int} {r : Int} (hr : F_laws_heldIntS a0 a1 = some r) : PCalls Try.prog 60 [(.sh, .sl false 1 (a0.map row_i64)), (.sh, .int .i64 a1)] (Eo (.int .i64 r) [.junk, .junk]) := by
  apply pcalls_lf 21 [] [] [] [.tmp 4] hr cl60 Try.func60 rfl rfl rfl
  · exact ⟨by simp, rfl⟩
  intro Φ hΦ hF
  unfold F_laws_heldIntS at hF
  iterate 2 (try simp [-List.map_set, go_sem]; refine pw_wk ?_)
  repeat rw [sq]
  refine pw_joinS (fun (x5 : Int) => [(1, .v (.int .i64 x5))]) hF ?_ ?_
  ·intro x5 hF6
   cases hΦ _ (Rn_some hF6)
   try simp [-List.map_set, go_sem]
   refine pw_wk ?_
   try simp [-List.map_set, go_sem]
  ·intro ψ3 hj1 hr2 hF4
   repeat rw [sq]
   rw [pw_block]
   obtain ⟨b22, hb23, hψ11⟩ := hF4
   refine pw_wloop (fun (s7 : Int × Int) => [(0, .v (.sl false 1 (a0.map row_i64))), (1, .v (.int .i64 s7.1)), (5, .v (.int .i64 s7.2))]) hb23 (by simp [-List.map_set, go_sem]) ?_
   intro s7 φ12 N13 ho9 hg10 hF14
   try simp [-List.map_set, go_sem]
   try intros
   refine pw_wk ?_
   repeat rw [sq]
   refine pw_cF hF14 (by simp [-List.map_set, go_sem]) (fun h15 hF16 => ?_) fun h15 hF16 => ?_
   ·try simp [-List.map_set, go_sem]
    refine pw_wk ?_
    repeat rw [sq]
    rw [pw_block]
    obtain ⟨x17, g18, hF19⟩ := Rn_ix hF16
    try simp [-List.map_set, go_sem, g18]
    refine pw_wkK [0, 1, 5, 17] (by simp [-List.map_set, go_sem, g18]; rfl) ?_
    repeat rw [sq]
    refine pw_cF hF19 (by simp [-List.map_set, go_sem, g18]) (fun h20 hF21 => ?_) fun h20 hF21 => ?_
    ·cases ho9 _ (Rn_some hF21)
     cases hΦ _ (hr2 _ hψ11)
     try simp [-List.map_set, go_sem, g18]
     refine pw_wk ?_
     try simp [-List.map_set, go_sem, g18]
    ·iterate 2 (try simp [-List.map_set, go_sem, g18]; refine pw_wk ?_)
     try simp [-List.map_set, go_sem, g18]
     exact hg10 (IntKind.i64.wrap (s7.1 + 1), IntKind.i64.wrap (s7.2 + 1)) _ (by simp [-List.map_set, go_sem, g18]) (Rn_some hF21)
   ·try simp [-List.map_set, go_sem]
    cases ho9 _ (Rn_some hF16)
    exact hj1 s7.1 _ (by simp [-List.map_set, go_sem]) hψ11
noncomputable def F_laws_heldViewCountS (a0 : (List ViewCount)) (a1 : Int) : Option (Int) :=
  ((wloop (σ := Int × Int) (β := Int ⊕ Int) (fun s7 =>
  if decide (s7.2 < (a0.length : Int)) = true then (
  (ix a0 s7.2).bind fun x17 =>
  (F_laws_heldIntS x17.View s7.1).bind fun z20 =>
  if decide (z20 < 0) = true then (
  some (.out (.inr (-1)))) else (
  if (x17.Times != z20) = true then (
  some (.out (.inr (-1)))) else (
  some (.go (IntKind.i64.wrap (z20 + 1), IntKind.i64.wrap (s7.2 + 1)))))) else (
  some (.out (.inl s7.1)))) (a1, 0) : Option (Int ⊕ Int)).bind (Sum.elim (fun (x5 : Int) =>
  some x5) some))
theorem c_laws_heldViewCountS {a0 : (List ViewCount)} {a1 : Int} {r : Int} (hr : F_laws_heldViewCountS a0 a1 = some r) : PCalls Try.prog 15 [(.sh, .sl false 2 (a0.map row_ViewCount_z)), (.sh, .int .i64 a1)] (Eo (.int .i64 r) [.junk, .junk]) := by
  apply pcalls_lf 31 [] [] [] [.tmp 4] hr cl15 Try.func15 rfl rfl rfl
  · exact ⟨by simp, rfl⟩
  intro Φ hΦ hF
  unfold F_laws_heldViewCountS at hF
  iterate 2 (try simp [-List.map_set, go_sem]; refine pw_wk ?_)
  repeat rw [sq]
  refine pw_joinS (fun (x5 : Int) => [(1, .v (.int .i64 x5))]) hF ?_ ?_
  ·intro x5 hF6
   cases hΦ _ (Rn_some hF6)
   try simp [-List.map_set, go_sem]
   refine pw_wk ?_
   try simp [-List.map_set, go_sem]
  ·intro ψ3 hj1 hr2 hF4
   repeat rw [sq]
   rw [pw_block]
   obtain ⟨b26, hb27, hψ11⟩ := hF4
   refine pw_wloop (fun (s7 : Int × Int) => [(0, .v (.sl false 2 (a0.map row_ViewCount_z))), (1, .v (.int .i64 s7.1)), (5, .v (.int .i64 s7.2))]) hb27 (by simp [-List.map_set, go_sem]) ?_
   intro s7 φ12 N13 ho9 hg10 hF14
   try simp [-List.map_set, go_sem]
   try intros
   refine pw_wk ?_
   repeat rw [sq]
   refine pw_cF hF14 (by simp [-List.map_set, go_sem]) (fun h15 hF16 => ?_) fun h15 hF16 => ?_
   ·try simp [-List.map_set, go_sem]
    refine pw_wk ?_
    repeat rw [sq]
    rw [pw_block]
    obtain ⟨x17, g18, hF19⟩ := Rn_ix hF16
    try simp [-List.map_set, go_sem, g18]
    refine pw_cl hF19 [.sh, .sh] c_laws_heldIntS rfl rfl (by (try simp [-List.map_set, go_sem, clE, g18]); first | rfl | done) (by rfl) (by (try simp [-List.map_set, go_sem, g18]); first | rfl | done) fun z20 hF21 => ⟨by simp [go_sem], ?_⟩
    try simp [-List.map_set, go_sem, g18]
    refine pw_wkK [0, 1, 5] (by simp [-List.map_set, go_sem, g18]; rfl) ?_
    try simp [-List.map_set, go_sem, g18]
    refine pw_wk ?_
    repeat rw [sq]
    refine pw_cF hF21 (by simp [-List.map_set, go_sem, g18]) (fun h22 hF23 => ?_) fun h22 hF23 => ?_
    ·cases ho9 _ (Rn_some hF23)
     cases hΦ _ (hr2 _ hψ11)
     try simp [-List.map_set, go_sem, g18]
     refine pw_wk ?_
     try simp [-List.map_set, go_sem, g18]
    ·iterate 2 (try simp [-List.map_set, go_sem, g18]; refine pw_wk ?_)
     repeat rw [sq]
     refine pw_cF hF23 (by simp [-List.map_set, go_sem, g18]) (fun h24 hF25 => ?_) fun h24 hF25 => ?_
     ·try simp [-List.map_set, go_sem, g18]
      refine pw_wkK [4] (by simp [-List.map_set, go_sem, g18]; rfl) ?_
      cases ho9 _ (Rn_some hF25)
      cases hΦ _ (hr2 _ hψ11)
      try simp [-List.map_set, go_sem, g18]
     ·try simp [-List.map_set, go_sem, g18]
      refine pw_wk ?_
      try simp [-List.map_set, go_sem, g18]
      refine pw_wkK [0, 1, 5] (by simp [-List.map_set, go_sem, g18]; rfl) ?_
      try simp [-List.map_set, go_sem, g18]
      exact hg10 (IntKind.i64.wrap (z20 + 1), IntKind.i64.wrap (s7.2 + 1)) _ (by simp [-List.map_set, go_sem, g18]) (Rn_some hF25)
   ·try simp [-List.map_set, go_sem]
    cases ho9 _ (Rn_some hF16)
    exact hj1 s7.1 _ (by simp [-List.map_set, go_sem]) hψ11
noncomputable def F_laws_FnExactShareViews (a0 : Group) (a1 : Int) (a2 : Int) (a3 : (List Int)) : Option (Bool) :=
  if decide (1048576 < (a3.length : Int)) = true then (
  some true) else (
  (F_laws_toGroup a0).bind fun z3 =>
  (F_laws_toIntS a3).bind fun z5 =>
  (F_spec_ShareViews z3 a1 a2 z5).bind fun z7 =>
  (F_laws_toIntS a3).bind fun z9 =>
  (F_laws_toGroup a0).bind fun z11 =>
  (F_impl_ShareViews z11 a1 a2 z9).bind fun z13 =>
  (((F_laws_eqViewCountS z13.1 z7.1).bind fun z21 =>
  if (!z21) = true then (
  some true) else (
  some (z13.2 != z7.2)) : Option (Bool)).bind fun (x19 : Bool) =>
  if x19 = true then (
  some false) else (
  (F_laws_toIntS a3).bind fun z27 =>
  (F_laws_eqIntS z9 z27).bind fun z29 =>
  if (!z29) = true then (
  some false) else (
  (F_laws_markIntS__io0 z9 1).bind fun z33 =>
  ((if decide (z33.1 < 0) = true then (
  some true) else (
  (F_laws_eqViewCountS z13.1 z7.1).bind fun z43 =>
  if (!z43) = true then (
  some true) else (
  some (z13.2 != z7.2))) : Option (Bool)).bind fun (x39 : Bool) =>
  if x39 = true then (
  some false) else (
  (F_laws_markViewCountS__io0 z13.1 1).bind fun z49 =>
  (F_laws_heldViewCountS z49.2 1).bind fun z51 =>
  if decide (z51 < 0) = true then (
  some false) else (
  if (z51 != z49.1) = true then (
  some false) else (
  (F_laws_toGroup a0).bind fun z57 =>
  (F_laws_toIntS a3).bind fun z59 =>
  (F_impl_ShareViews z57 a1 a2 z59).bind fun z61 =>
  (((F_laws_eqViewCountS z61.1 z7.1).bind fun z69 =>
  if (!z69) = true then (
  some true) else (
  some (z61.2 != z7.2)) : Option (Bool)).bind fun (x67 : Bool) =>
  if x67 = true then (
  some false) else (
  (F_laws_heldViewCountS z49.2 1).bind fun z75 =>
  if decide (z75 < 0) = true then (
  some false) else (
  if (z75 != z49.1) = true then (
  some false) else (
  some true))))))))))))
end Go.Pm
