/-
  Plain functions and their walks. Written by wip/tools/lift.py.
-/
import Derived.Test.YtpiihmmnhgnnjaaGreatPS
namespace Go.Pm
open Go.Am IntKind
open Go.Proofs
set_option maxRecDepth 100000
attribute [local irreducible] pw pwx pw1 pwg qv qz qf
attribute [-simp] List.map_set
set_option linter.unusedSimpArgs false
set_option linter.unusedVariables false
structure Group where
  P : Int
  Q : Int
  G : Int
structure Contest where
  Kind : Int
  Options : Int
  Least : Int
  Most : Int
  Points : Int
structure Plan where
  Gr : Group
  Ct : Contest
  Threshold : Int
  Trustees : Int
  Mixers : Int
  Voters : Int
  Seed : Int
structure l1Cur where
  code : (List Int)
  at_ : Int
  seed : Int
structure Bases where
  H : Int
  Hs : (List Int)
structure l3State where
  s : Int
  t : Int
def row_u8 (x : Int) : List PV := [.int .u8 x]
@[go_sem] theorem row_u8_eq {x : Int} : row_u8 x = [.int .u8 x] := (rfl)
@[go_sem] theorem row_u8_drop {l : List Int} : List.map (List.map drop ∘ row_u8) l = l.map row_u8 := by refine List.map_congr_left fun x _ => ?_; simp [go_sem]
@[go_sem] theorem row_u8_drop' {l : List Int} : List.map (List.map drop) (l.map row_u8) = l.map row_u8 := by rw [List.map_map]; exact row_u8_drop
@[go_sem] theorem row_u8_set {l : List Int} {i : Nat} {a : Int} : (l.map row_u8).set i [.int .u8 a] = (l.set i a).map row_u8 := by rw [List.map_set]; rfl
def row_i64 (x : Int) : List PV := [.int .i64 x]
@[go_sem] theorem row_i64_eq {x : Int} : row_i64 x = [.int .i64 x] := (rfl)
@[go_sem] theorem row_i64_drop {l : List Int} : List.map (List.map drop ∘ row_i64) l = l.map row_i64 := by refine List.map_congr_left fun x _ => ?_; simp [go_sem]
@[go_sem] theorem row_i64_drop' {l : List Int} : List.map (List.map drop) (l.map row_i64) = l.map row_i64 := by rw [List.map_map]; exact row_i64_drop
@[go_sem] theorem row_i64_set {l : List Int} {i : Nat} {a : Int} : (l.map row_i64).set i [.int .i64 a] = (l.set i a).map row_i64 := by rw [List.map_set]; rfl
def row_s (x : ByteArray) : List PV := [.str x]
@[go_sem] theorem row_s_eq {x : ByteArray} : row_s x = [.str x] := (rfl)
@[go_sem] theorem row_s_drop {l : List ByteArray} : List.map (List.map drop ∘ row_s) l = l.map row_s := by refine List.map_congr_left fun x _ => ?_; simp [go_sem]
@[go_sem] theorem row_s_drop' {l : List ByteArray} : List.map (List.map drop) (l.map row_s) = l.map row_s := by rw [List.map_map]; exact row_s_drop
@[go_sem] theorem row_s_set {l : List ByteArray} {i : Nat} {a : ByteArray} : (l.map row_s).set i [.str a] = (l.set i a).map row_s := by rw [List.map_set]; rfl
noncomputable def F_laws_big (a0 : (List Int)) (a1 : (List Int)) : Option (Bool) :=
  ((if decide (1048576 < (a0.length : Int)) = true then (
  some true) else (
  some (decide ((i64.wrap (1048576 - (a0.length : Int))) < (a1.length : Int)))) : Option (Bool)).bind fun x3 =>
  some x3)
theorem c_laws_big : ∀ {a0} {a1} {r}, F_laws_big a0 a1 = some r → PCalls Tryz.prog 4 [(.sh, .sl false 1 (a0.map row_u8)), (.sh, .sl false 1 (a1.map row_u8))] (Eo (.bool r) [.junk, .junk]) := by
  intro a0 a1 r hr
  apply pF 16 [] [] [] [.tmp 4] hr cl4 Tryz.func4
  intro Φ hΦ hF g
  unfold F_laws_big at hF
  try simp [go_sem, g]
  refine pw_wk ?_
  repeat rw [sq]
  refine pJ hF (fun x3 => [(4, .v (.bool x3))]) (fun x3 hF => ?_) fun _ hj1 hF => ?_
  ·cases hΦ _ (Rn_some hF)
   try simp [go_sem, g]
  ·try simp [go_sem, g]
   try intros
   refine pwg_F hF (fun h4 hF => ?_) fun h4 hF => ?_
   ·try simp [go_sem, g, h4]
    exact pT (hj1 true) (Rn_some hF)
   ·try simp [go_sem, g, h4]
    try intros
    exact pT (hj1 (decide ((i64.wrap (1048576 - (a0.length : Int))) < (a1.length : Int)))) (Rn_some hF)
def D44_2 : List DE := [d0 0 [0], d0 1 [4], d0 2 [5], d0 3 [6], d0 4 [0], d0 5 [8], d0 6 [9], d0 7 [10], d0 8 [11], d0 9 [7, 12]]
def D44_3 : List DE := [d0 0 [0], d0 1 [14], d0 2 [15], d0 3 [16], d0 4 [0], d0 5 [18], d0 6 [19], d0 7 [20], d0 8 [17, 21], d0 9 [22], d0 10 [23], d0 11 [24]]
def D44_6 : List DE := [d0 0 [0], d0 1 [44], d0 2 [45], d0 3 [46], d0 4 [0], d0 5 [48], d0 6 [49], d0 7 [50], d0 8 [51], d0 9 [47, 52]]
noncomputable def F_spec_l1Cur_next__io0 (a0c0 : (List Int)) (a0c1 : Int) (a0c2 : Int) : Option (Int × ((List Int) × Int × Int)) :=
  ((if decide (a0c1 < (a0c0.length : Int)) = true then (
  (ix a0c0 a0c1).bind fun x5 =>
  some (i64.wrap x5)) else (
  some 0) : Option (Int)).bind fun x3 =>
  if decide ((i64.wrap (a0c1 + 1)) ≤ (a0c0.length : Int)) = true then (
  some (x3, (a0c0, i64.wrap (a0c1 + 1), u64.wrap ((u64.wrap ((u64.wrap (a0c2 * 6364136223846793005)) + (u64.wrap x3))) + 1442695040888963407)))) else (
  some (i64.wrap (u64.wrap ((BitVec.ofInt u64.bits ((u64.wrap ((u64.wrap ((u64.wrap (a0c2 * 6364136223846793005)) + (u64.wrap x3))) + 1442695040888963407)).fdiv 1099511627776) &&& BitVec.ofInt u64.bits 255).toNat)), (a0c0, i64.wrap (a0c1 + 1), u64.wrap ((u64.wrap ((u64.wrap (a0c2 * 6364136223846793005)) + (u64.wrap x3))) + 1442695040888963407)))))
theorem c_spec_l1Cur_next__io0 : ∀ {a0c0} {a0c1} {a0c2} {r}, F_spec_l1Cur_next__io0 a0c0 a0c1 a0c2 = some r → PCalls Tryz.prog 44 [(.io, .bx [.sl false 1 (a0c0.map row_u8), .int .i64 a0c1, .int .u64 a0c2])] (Eo (.int .i64 r.1) [.bx [.sl false 1 (r.2.1.map row_u8), .int .i64 r.2.2.1, .int .u64 r.2.2.2]]) := by
  intro a0c0 a0c1 a0c2 r hr
  apply pF 62 [0] [] [] [.tmp 2] hr cl44 Tryz.func44
  intro Φ hΦ hF g
  unfold F_spec_l1Cur_next__io0 at hF
  iterate 2 (try simp [go_sem, g]; refine pw_wk ?_)
  repeat rw [sq]
  refine pw_draw D44_2 follows (by kernel_rfl) rfl ?_
  try simp only [go_sem, D44_2]
  try simp [go_sem, g]
  try intros
  refine pw_wkK [0, 3, 13] (by simp [go_sem, g]; rfl) ?_
  repeat rw [sq]
  refine pJ hF (fun x3 => [(0, .v (.bx [.sl false 1 (a0c0.map row_u8), .int .i64 a0c1, .int .u64 a0c2])), (3, .v (.int .i64 x3))]) (fun x3 hF => ?_) fun _ hj1 hF => ?_
  ·try simp [go_sem, g]
   refine pw_wk ?_
   try simp [go_sem, g]
   refine pw_wkK [0, 3] (by simp [go_sem, g]; rfl) ?_
   repeat rw [sq]
   refine pw_draw D44_6 follows (by kernel_rfl) rfl ?_
   try simp only [go_sem, D44_6]
   try simp [go_sem, g]
   try intros
   refine pw_wkK [0, 3, 53] (by simp [go_sem, g]; rfl) ?_
   repeat rw [sq]
   refine pI hF (fun h6 hF => ?_) (fun h6 hF => ?_)
   ·cases hΦ _ (Rn_some hF)
    try simp [go_sem, g]
    refine pw_wk ?_
    try simp [go_sem, g]
   ·have g := Ls g 40
    cases hΦ _ (Rn_some hF)
    iterate 2 (try simp [go_sem, g]; refine pw_wk ?_)
    try simp [go_sem, g]
  ·repeat rw [sq]
   refine pI hF (fun h4 hF => ?_) (fun h4 hF => ?_)
   ·repeat rw [sq]
    refine pw_draw D44_3 follows (by kernel_rfl) rfl ?_
    try simp only [go_sem, D44_3]
    obtain ⟨x5, g, hF⟩ := Rx g hF
    try simp [go_sem, g]
    exact pT (hj1 (i64.wrap x5)) (Rn_some hF)
   ·try simp [go_sem, g]
    exact pT (hj1 0) (Rn_some hF)
noncomputable def F_spec_l1Cur_pick__io0 (a0c0 : (List Int)) (a0c1 : Int) (a0c2 : Int) (a1 : Int) : Option (Int × ((List Int) × Int × Int)) :=
  if decide (a1 ≤ 1) = true then (
  some (0, (a0c0, a0c1, a0c2))) else (
  (F_spec_l1Cur_next__io0 a0c0 a0c1 a0c2).bind fun z2 =>
  ((if decide (200 < a1) = true then (
  (F_spec_l1Cur_next__io0 z2.2.1 z2.2.2.1 z2.2.2.2).bind fun z7 =>
  some ((z7.2.1, z7.2.2.1, z7.2.2.2), i64.wrap ((i64.wrap (z2.1 * 256)) + z7.1))) else (
  some ((z2.2.1, z2.2.2.1, z2.2.2.2), z2.1)) : Option ((((List Int) × Int × Int) × Int))).bind fun x5 =>
  gd (a1 ≠ 0) <|
  some (x5.2.tmod a1, (x5.1.1, x5.1.2.1, x5.1.2.2))))
theorem c_spec_l1Cur_pick__io0 : ∀ {a0c0} {a0c1} {a0c2} {a1} {r}, F_spec_l1Cur_pick__io0 a0c0 a0c1 a0c2 a1 = some r → PCalls Tryz.prog 17 [(.io, .bx [.sl false 1 (a0c0.map row_u8), .int .i64 a0c1, .int .u64 a0c2]), (.sh, .int .i64 a1)] (Eo (.int .i64 r.1) [.bx [.sl false 1 (r.2.1.map row_u8), .int .i64 r.2.2.1, .int .u64 r.2.2.2], .junk]) := by
  intro a0c0 a0c1 a0c2 a1 r hr
  apply pF 20 [0] [] [] [.tmp 4] hr cl17 Tryz.func17
  intro Φ hΦ hF g
  unfold F_spec_l1Cur_pick__io0 at hF
  iterate 2 (try simp [go_sem, g]; refine pw_wk ?_)
  repeat rw [sq]
  refine pI hF (fun h1 hF => ?_) (fun h1 hF => ?_)
  ·cases hΦ _ (Rn_some hF)
   try simp [go_sem, g]
   refine pw_wk ?_
   try simp [go_sem, g]
  ·try simp [go_sem, g]
   refine pw_wk ?_
   try simp [go_sem, g]
   refine pC hF [.io] c_spec_l1Cur_next__io0 (fun z2 hF => ?_)
   iterate 2 (try simp [go_sem, g]; refine pw_wk ?_)
   repeat rw [sq]
   refine pJ hF (fun x5 => [(0, .v (.bx [.sl false 1 (x5.1.1.map row_u8), .int .i64 x5.1.2.1, .int .u64 x5.1.2.2])), (1, .v (.int .i64 a1)), (5, .v (.int .i64 x5.2))]) (fun x5 hF => ?_) fun _ hj3 hF => ?_
   ·obtain ⟨g, hF⟩ := Rz g hF
    try simp [go_sem, g]
    refine pw_wkK [0, 4] (by simp [go_sem, g]; rfl) ?_
    cases hΦ _ (Rn_some hF)
    try simp [go_sem, g]
   ·repeat rw [sq]
    refine pI hF (fun h6 hF => ?_) (fun h6 hF => ?_)
    ·try simp [go_sem, g]
     refine pC hF [.io] c_spec_l1Cur_next__io0 (fun z7 hF => ?_)
     try simp [go_sem, g]
     exact pT (hj3 ((z7.2.1, z7.2.2.1, z7.2.2.2), i64.wrap ((i64.wrap (z2.1 * 256)) + z7.1))) (Rn_some hF)
    ·try simp [go_sem, g]
     exact pT (hj3 ((z2.2.1, z2.2.2.1, z2.2.2.2), z2.1)) (Rn_some hF)
noncomputable def F_spec_l1Cur_among__io0 (a0c0 : (List Int)) (a0c1 : Int) (a0c2 : Int) (a1 : (List Int)) : Option (Int × ((List Int) × Int × Int)) :=
  (F_spec_l1Cur_pick__io0 a0c0 a0c1 a0c2 (a1.length : Int)).bind fun z1 =>
  (ix a1 z1.1).bind fun x2 =>
  some (x2, (z1.2.1, z1.2.2.1, z1.2.2.2))
theorem c_spec_l1Cur_among__io0 : ∀ {a0c0} {a0c1} {a0c2} {a1} {r}, F_spec_l1Cur_among__io0 a0c0 a0c1 a0c2 a1 = some r → PCalls Tryz.prog 35 [(.io, .bx [.sl false 1 (a0c0.map row_u8), .int .i64 a0c1, .int .u64 a0c2]), (.sh, .sl false 1 (a1.map row_i64))] (Eo (.int .i64 r.1) [.bx [.sl false 1 (r.2.1.map row_u8), .int .i64 r.2.2.1, .int .u64 r.2.2.2], .junk]) := by
  intro a0c0 a0c1 a0c2 a1 r hr
  apply pF 12 [0] [] [] [.tmp 4] hr cl35 Tryz.func35
  intro Φ hΦ hF g
  unfold F_spec_l1Cur_among__io0 at hF
  try simp [go_sem, g]
  try intros
  refine pw_wk ?_
  try simp [go_sem, g]
  try intros
  refine pC hF [.io, .sh] c_spec_l1Cur_pick__io0 (fun z1 hF => ?_)
  obtain ⟨x2, g, hF⟩ := Rx g hF
  cases hΦ _ (Rn_some hF)
  try simp [go_sem, g]
  refine pw_wk ?_
  try simp [go_sem, g]
noncomputable def F_spec_l1Cur_among__io0_mv1 (a0c0 : (List Int)) (a0c1 : Int) (a0c2 : Int) (a1 : (List Int)) : Option (Int × ((List Int) × Int × Int)) :=
  (F_spec_l1Cur_pick__io0 a0c0 a0c1 a0c2 (a1.length : Int)).bind fun z1 =>
  (ix a1 z1.1).bind fun x2 =>
  some (x2, (z1.2.1, z1.2.2.1, z1.2.2.2))
theorem c_spec_l1Cur_among__io0_mv1 : ∀ {a0c0} {a0c1} {a0c2} {a1} {r}, F_spec_l1Cur_among__io0_mv1 a0c0 a0c1 a0c2 a1 = some r → PCalls Tryz.prog 35 [(.io, .bx [.sl false 1 (a0c0.map row_u8), .int .i64 a0c1, .int .u64 a0c2]), (.mv, .sl true 1 (a1.map row_i64))] (Eo (.int .i64 r.1) [.bx [.sl false 1 (r.2.1.map row_u8), .int .i64 r.2.2.1, .int .u64 r.2.2.2], .junk]) := by
  intro a0c0 a0c1 a0c2 a1 r hr
  apply pF 12 [0] [] [] [.tmp 4] hr cl35 Tryz.func35
  intro Φ hΦ hF g
  unfold F_spec_l1Cur_among__io0_mv1 at hF
  try simp [go_sem, g]
  try intros
  refine pw_wk ?_
  try simp [go_sem, g]
  try intros
  refine pC hF [.io, .sh] c_spec_l1Cur_pick__io0 (fun z1 hF => ?_)
  obtain ⟨x2, g, hF⟩ := Rx g hF
  cases hΦ _ (Rn_some hF)
  try simp [go_sem, g]
  refine pw_wk ?_
  try simp [go_sem, g]
noncomputable def F_spec_l1In (a0 : Int) (a1 : Int) (a2 : Int) : Option (Bool) :=
  ((if decide (a1 ≤ a0) = true then (
  some (decide (a0 ≤ a2))) else (
  some false) : Option (Bool)).bind fun x3 =>
  some x3)
theorem c_spec_l1In : ∀ {a0} {a1} {a2} {r}, F_spec_l1In a0 a1 a2 = some r → PCalls Tryz.prog 22 [(.sh, .int .i64 a0), (.sh, .int .i64 a1), (.sh, .int .i64 a2)] (Eo (.bool r) [.junk, .junk, .junk]) := by
  intro a0 a1 a2 r hr
  apply pF 15 [] [] [] [.tmp 6] hr cl22 Tryz.func22
  intro Φ hΦ hF g
  unfold F_spec_l1In at hF
  try simp [go_sem, g]
  refine pw_wk ?_
  repeat rw [sq]
  refine pJ hF (fun x3 => [(6, .v (.bool x3))]) (fun x3 hF => ?_) fun _ hj1 hF => ?_
  ·cases hΦ _ (Rn_some hF)
   try simp [go_sem, g]
  ·try simp [go_sem, g]
   refine pwg_F hF (fun h4 hF => ?_) fun h4 hF => ?_
   ·try simp [go_sem, g, h4]
    exact pT (hj1 (decide (a0 ≤ a2))) (Rn_some hF)
   ·try simp [go_sem, g, h4]
    exact pT (hj1 false) (Rn_some hF)
noncomputable def F_spec_nPrime (a0 : Int) : Option (Bool) :=
  if decide (a0 < 2) = true then (
  some false) else (
  ((wloop (σ := Int) (fun s5 =>
  if decide ((i64.wrap (s5 * s5)) ≤ a0) = true then (
  gd (s5 ≠ 0) <|
  if ((a0.tmod s5) == 0) = true then (
  some (.out (.inr false))) else (
  some (.go (i64.wrap (s5 + 1))))) else (
  some (.out (.inl ())))) 2 : Option (Unit ⊕ Bool)).bind (Sum.elim (fun x4 =>
  some true) some)))
theorem c_spec_nPrime : ∀ {a0} {r}, F_spec_nPrime a0 = some r → PCalls Tryz.prog 62 [(.sh, .int .i64 a0)] (Eo (.bool r) [.junk]) := by
  intro a0 r hr
  apply pF 17 [] [] [] [.tmp 2] hr cl62 Tryz.func62
  intro Φ hΦ hF g
  unfold F_spec_nPrime at hF
  iterate 2 (try simp [go_sem, g]; refine pw_wk ?_)
  repeat rw [sq]
  refine pI hF (fun h1 hF => ?_) (fun h1 hF => ?_)
  ·cases hΦ _ (Rn_some hF)
   try simp [go_sem, g]
   refine pw_wk ?_
   try simp [go_sem, g]
  ·iterate 2 (try simp [go_sem, g]; refine pw_wk ?_)
   repeat rw [sq]
   refine pJs hF (fun x4 => []) (fun x4 hF => ?_) fun _ hj2 hr3 hF => ?_
   ·cases hΦ _ (Rn_some hF)
    try simp [go_sem, g]
    refine pw_wk ?_
    try simp [go_sem, g]
   ·repeat rw [sq]
    rw [pw_block]
    obtain ⟨b12, hb13, hψ9⟩ := hF
    refine pL hb13 (fun s5 => [(0, .v (.int .i64 a0)), (3, .v (.int .i64 s5))]) (fun s5 _ _ ho7 hg8 hF => ?_)
    try simp [go_sem, g]
    refine pw_wk ?_
    repeat rw [sq]
    refine pI hF (fun h10 hF => ?_) (fun h10 hF => ?_)
    ·try simp [go_sem, g]
     refine pw_wk ?_
     repeat rw [sq]
     rw [pw_block]
     obtain ⟨g, hF⟩ := Rz g hF
     try simp [go_sem, g]
     refine pw_wkK [0, 3, 16] (by simp [go_sem, g]; rfl) ?_
     repeat rw [sq]
     refine pI hF (fun h11 hF => ?_) (fun h11 hF => ?_)
     ·cases ho7 _ (Rn_some hF)
      cases hΦ _ (hr3 _ hψ9)
      try simp [go_sem, g]
      refine pw_wk ?_
      try simp [go_sem, g]
     ·try simp [go_sem, g]
      refine pw_wk ?_
      try simp [go_sem, g]
      exact pT (hg8 (i64.wrap (s5 + 1))) (Rn_some hF)
    ·try simp [go_sem, g]
     cases ho7 _ (Rn_some hF)
     exact pT (hj2 ()) hψ9
noncomputable def F_spec_nPower (a0 : Int) (a1 : Int) (a2 : Int) : Option (Int) :=
  gd (a2 ≠ 0) <|
  ((wloop (σ := Int × Int × Int) (fun s4 =>
  if decide (0 < s4.2.1) = true then (
  ((if ((s4.2.1.tmod 2) == 1) = true then (
  gd (a2 ≠ 0) <|
  some ((i64.wrap (s4.2.2 * s4.1)).tmod a2)) else (
  some s4.2.2) : Option (Int)).bind fun x12 =>
  gd (a2 ≠ 0) <|
  some (.go ((i64.wrap (s4.1 * s4.1)).tmod a2, i64.wrap (s4.2.1.tdiv 2), x12)))) else (
  some (.out s4.2.2))) (a0, a1, (1 : Int).tmod a2) : Option (Int)).bind fun x3 =>
  some x3)
theorem c_spec_nPower : ∀ {a0} {a1} {a2} {r}, F_spec_nPower a0 a1 a2 = some r → PCalls Tryz.prog 61 [(.sh, .int .i64 a0), (.sh, .int .i64 a1), (.sh, .int .i64 a2)] (Eo (.int .i64 r) [.junk, .junk, .junk]) := by
  intro a0 a1 a2 r hr
  apply pF 28 [] [] [] [.tmp 6] hr cl61 Tryz.func61
  intro Φ hΦ hF g
  unfold F_spec_nPower at hF
  obtain ⟨g, hF⟩ := Rz g hF
  iterate 2 (try simp [go_sem, g]; refine pw_wk ?_)
  repeat rw [sq]
  refine pJ hF (fun x3 => [(7, .v (.int .i64 x3))]) (fun x3 hF => ?_) fun _ hj1 hF => ?_
  ·cases hΦ _ (Rn_some hF)
   try simp [go_sem, g]
   refine pw_wk ?_
   try simp [go_sem, g]
  ·repeat rw [sq]
   rw [pw_block]
   obtain ⟨b14, hb15, hψ8⟩ := hF
   refine pL hb15 (fun s4 => [(0, .v (.int .i64 s4.1)), (1, .v (.int .i64 s4.2.1)), (2, .v (.int .i64 a2)), (7, .v (.int .i64 s4.2.2))]) (fun s4 _ _ ho6 hg7 hF => ?_)
   try simp [go_sem, g]
   refine pw_wk ?_
   repeat rw [sq]
   refine pI hF (fun h9 hF => ?_) (fun h9 hF => ?_)
   ·try simp [go_sem, g]
    refine pw_wk ?_
    repeat rw [sq]
    rw [pw_block]
    have g := Ld g 2
    try simp [go_sem, g]
    refine pw_wk ?_
    repeat rw [sq]
    refine pJ hF (fun x12 => [(0, .v (.int .i64 s4.1)), (1, .v (.int .i64 s4.2.1)), (2, .v (.int .i64 a2)), (7, .v (.int .i64 x12))]) (fun x12 hF => ?_) fun _ hj10 hF => ?_
    ·obtain ⟨g, hF⟩ := Rz g hF
     try simp [go_sem, g]
     refine pw_wkK [0, 1, 2, 7] (by simp [go_sem, g]; rfl) ?_
     try simp [go_sem, g]
     exact pT (hg7 ((i64.wrap (s4.1 * s4.1)).tmod a2, i64.wrap (s4.2.1.tdiv 2), x12)) (Rn_some hF)
    ·repeat rw [sq]
     refine pI hF (fun h13 hF => ?_) (fun h13 hF => ?_)
     ·obtain ⟨g, hF⟩ := Rz g hF
      try simp [go_sem, g]
      exact pT (hj10 ((i64.wrap (s4.2.2 * s4.1)).tmod a2)) (Rn_some hF)
     ·try simp [go_sem, g]
      exact pT (hj10 s4.2.2) (Rn_some hF)
   ·try simp [go_sem, g]
    cases ho6 _ (Rn_some hF)
    exact pT (hj1 s4.2.2) hψ8
noncomputable def F_spec_MakeGroup (a0 : Int) : Option (Group × Bool) :=
  (((F_spec_l1In a0 2 1000000).bind fun z4 =>
  if (!z4) = true then (
  some true) else (
  (F_spec_nPrime a0).bind fun z6 =>
  some (!z6)) : Option (Bool)).bind fun x3 =>
  if x3 = true then (
  some ((Group.mk 0 0 0), false)) else (
  ((wloop (σ := Int) (fun s11 =>
  if decide (s11 ≤ 2000000000) = true then (
  (F_spec_nPrime s11).bind fun z17 =>
  if (!z17) = true then (
  some (.go (i64.wrap (s11 + a0)))) else (
  ((wloop (σ := Int) (fun s22 =>
  gd (a0 ≠ 0) <|
  (F_spec_nPower s22 (i64.wrap ((i64.wrap (s11 - 1)).tdiv a0)) s11).bind fun z27 =>
  if (z27 == 1) = true then (
  some (.go (i64.wrap (s22 + 1)))) else (
  some (.out s22))) 2 : Option (Int)).bind fun x21 =>
  gd (a0 ≠ 0) <|
  (F_spec_nPower x21 (i64.wrap ((i64.wrap (s11 - 1)).tdiv a0)) s11).bind fun z31 =>
  some (.out (.inr ((Group.mk s11 a0 z31), true)))))) else (
  some (.out (.inl ())))) (i64.wrap (a0 + 1)) : Option (Unit ⊕ (Group × Bool))).bind (Sum.elim (fun x10 =>
  some ((Group.mk 0 0 0), false)) some))))
theorem c_spec_MakeGroup : ∀ {a0} {r}, F_spec_MakeGroup a0 = some r → PCalls Tryz.prog 90 [(.sh, .int .i64 a0)] (Eo (.tup [.agg [.int .i64 r.1.P, .int .i64 r.1.Q, .int .i64 r.1.G], .bool r.2]) [.junk]) := by
  intro a0 r hr
  apply pF 46 [] [] [] [.cell 2 25, .tmp 3] hr cl90 Tryz.func90
  intro Φ hΦ hF g
  unfold F_spec_MakeGroup at hF
  try simp [go_sem, g]
  refine pw_wk ?_
  repeat rw [sq]
  refine pJ hF (fun x3 => [(0, .v (.int .i64 a0)), (2, .bl [.int .i64 0, .int .i64 0, .int .i64 0]), (13, .v (.bool x3))]) (fun x3 hF => ?_) fun _ hj1 hF => ?_
  ·repeat rw [sq]
   refine pI hF (fun h7 hF => ?_) (fun h7 hF => ?_)
   ·cases hΦ _ (Rn_some hF)
    try simp [go_sem, g]
    refine pw_wk ?_
    try simp [go_sem, g]
   ·iterate 2 (try simp [go_sem, g]; refine pw_wk ?_)
    repeat rw [sq]
    refine pJs hF (fun x10 => [(2, .bl [.int .i64 0, .int .i64 0, .int .i64 0])]) (fun x10 hF => ?_) fun _ hj8 hr9 hF => ?_
    ·cases hΦ _ (Rn_some hF)
     try simp [go_sem, g]
     refine pw_wk ?_
     try simp [go_sem, g]
    ·repeat rw [sq]
     rw [pw_block]
     obtain ⟨b32, hb33, hψ15⟩ := hF
     refine pL hb33 (fun s11 => [(0, .v (.int .i64 a0)), (2, .bl [.int .i64 0, .int .i64 0, .int .i64 0]), (4, .v (.int .i64 s11))]) (fun s11 _ _ ho13 hg14 hF => ?_)
     try simp [go_sem, g]
     refine pw_wk ?_
     repeat rw [sq]
     refine pI hF (fun h16 hF => ?_) (fun h16 hF => ?_)
     ·try simp [go_sem, g]
      refine pw_wk ?_
      repeat rw [sq]
      rw [pw_block]
      try simp [go_sem, g]
      refine pC hF [.sh] c_spec_nPrime (fun z17 hF => ?_)
      try simp [go_sem, g]
      refine pw_wkK [0, 2, 4, 24] (by simp [go_sem, g]; rfl) ?_
      repeat rw [sq]
      refine pI hF (fun h18 hF => ?_) (fun h18 hF => ?_)
      ·try simp [go_sem, g]
       refine pw_wk ?_
       try simp [go_sem, g]
       exact pT (hg14 (i64.wrap (s11 + a0))) (Rn_some hF)
      ·iterate 2 (try simp [go_sem, g]; refine pw_wk ?_)
       repeat rw [sq]
       refine pJ hF (fun x21 => [(0, .v (.int .i64 a0)), (2, .bl [.int .i64 0, .int .i64 0, .int .i64 0]), (4, .v (.int .i64 s11)), (5, .v (.int .i64 x21))]) (fun x21 hF => ?_) fun _ hj19 hF => ?_
       ·obtain ⟨g, hF⟩ := Rz g hF
        try simp [go_sem, g]
        refine pC hF [.sh, .sh, .sh] c_spec_nPower (fun z31 hF => ?_)
        try simp [go_sem, g]
        refine pw_wkK [2, 3] (by simp [go_sem, g]; rfl) ?_
        cases ho13 _ (Rn_some hF)
        cases hΦ _ (hr9 _ hψ15)
        try simp [go_sem, g]
       ·repeat rw [sq]
        rw [pw_block]
        obtain ⟨b29, hb30, hψ26⟩ := hF
        refine pL hb30 (fun s22 => [(0, .v (.int .i64 a0)), (2, .bl [.int .i64 0, .int .i64 0, .int .i64 0]), (4, .v (.int .i64 s11)), (5, .v (.int .i64 s22))]) (fun s22 _ _ ho24 hg25 hF => ?_)
        obtain ⟨g, hF⟩ := Rz g hF
        try simp [go_sem, g]
        refine pC hF [.sh, .sh, .sh] c_spec_nPower (fun z27 hF => ?_)
        try simp [go_sem, g]
        refine pw_wk ?_
        repeat rw [sq]
        refine pI hF (fun h28 hF => ?_) (fun h28 hF => ?_)
        ·try simp [go_sem, g]
         refine pw_wk ?_
         repeat rw [sq]
         rw [pw_block]
         try simp [go_sem, g]
         exact pT (hg25 (i64.wrap (s22 + 1))) (Rn_some hF)
        ·try simp [go_sem, g]
         cases ho24 _ (Rn_some hF)
         first | exact pT (hj19 s22) hψ26 | exact pT (hj19 _) hψ26
     ·try simp [go_sem, g]
      cases ho13 _ (Rn_some hF)
      exact pT (hj8 ()) hψ15
  ·try simp [go_sem, g]
   refine pC hF [.sh, .sh, .sh] c_spec_l1In (fun z4 hF => ?_)
   try simp [go_sem, g]
   refine pwg_F hF (fun h5 hF => ?_) fun h5 hF => ?_
   ·try simp [go_sem, g, h5]
    exact pT (hj1 true) (Rn_some hF)
   ·try simp [go_sem, g, h5]
    refine pC hF [.sh] c_spec_nPrime (fun z6 hF => ?_)
    try simp [go_sem, g, h5]
    exact pT (hj1 (!z6)) (Rn_some hF)
noncomputable def F_spec_l1Cur_tiny__io0 (a0c0 : (List Int)) (a0c1 : Int) (a0c2 : Int) : Option (Group × ((List Int) × Int × Int)) :=
  (F_spec_l1Cur_among__io0_mv1 a0c0 a0c1 a0c2 [3, 5, 5, 7, 11, 11, 13, 23]).bind fun z1 =>
  (F_spec_MakeGroup z1.1).bind fun z2 =>
  some (z2.1, (z1.2.1, z1.2.2.1, z1.2.2.2))
theorem c_spec_l1Cur_tiny__io0 : ∀ {a0c0} {a0c1} {a0c2} {r}, F_spec_l1Cur_tiny__io0 a0c0 a0c1 a0c2 = some r → PCalls Tryz.prog 91 [(.io, .bx [.sl false 1 (a0c0.map row_u8), .int .i64 a0c1, .int .u64 a0c2])] (Eo (.agg [.int .i64 r.1.P, .int .i64 r.1.Q, .int .i64 r.1.G]) [.bx [.sl false 1 (r.2.1.map row_u8), .int .i64 r.2.2.1, .int .u64 r.2.2.2]]) := by
  intro a0c0 a0c1 a0c2 r hr
  apply pF 13 [0] [] [] [.cell 2 25] hr cl91 Tryz.func91
  intro Φ hΦ hF g
  unfold F_spec_l1Cur_tiny__io0 at hF
  try simp [go_sem, g]
  refine pw_wk ?_
  try simp [go_sem, g]
  refine pC hF [.io, .mv] c_spec_l1Cur_among__io0_mv1 (fun z1 hF => ?_)
  try simp [go_sem, g]
  refine pC hF [.sh] c_spec_MakeGroup (fun z2 hF => ?_)
  try simp [go_sem, g]
  refine pw_wkK [0, 2, 3] (by simp [go_sem, g]; rfl) ?_
  cases hΦ _ (Rn_some hF)
  try simp [go_sem, g]
  refine pw_wk ?_
  try simp [go_sem, g]
noncomputable def F_spec_nMod (a0 : Int) (a1 : Int) : Option (Int) :=
  gd (a1 ≠ 0) <|
  gd (a1 ≠ 0) <|
  some ((i64.wrap ((a0.tmod a1) + a1)).tmod a1)
theorem c_spec_nMod : ∀ {a0} {a1} {r}, F_spec_nMod a0 a1 = some r → PCalls Tryz.prog 64 [(.sh, .int .i64 a0), (.sh, .int .i64 a1)] (Eo (.int .i64 r) [.junk, .junk]) := by
  intro a0 a1 r hr
  apply pF 12 [] [] [] [.tmp 4] hr cl64 Tryz.func64
  intro Φ hΦ hF g
  unfold F_spec_nMod at hF
  obtain ⟨g, hF⟩ := Rz g hF
  obtain ⟨g, hF⟩ := Rz g hF
  cases hΦ _ (Rn_some hF)
  iterate 2 (try simp [go_sem, g]; refine pw_wk ?_)
  try simp [go_sem, g]
def D32_1 : List DE := [d0 0 [1], d0 1 [2], d1 2 [3] 3, d2 3 [9] 3 9, d1 5 [3] 3, d2 6 [12] 3 12, d3 4 [8, 10], d3 7 [7, 11, 13], d0 8 [14]]
noncomputable def F_spec_gExp (a0 : Group) (a1 : Int) (a2 : Int) : Option (Int) :=
  (F_spec_nMod a2 a0.Q).bind fun z1 =>
  (F_spec_nPower a1 z1 a0.P).bind fun z2 =>
  some z2
theorem c_spec_gExp : ∀ {a0} {a1} {a2} {r}, F_spec_gExp a0 a1 a2 = some r → PCalls Tryz.prog 32 [(.sh, .agg [.int .i64 a0.P, .int .i64 a0.Q, .int .i64 a0.G]), (.sh, .int .i64 a1), (.sh, .int .i64 a2)] (Eo (.int .i64 r) [.junk, .junk, .junk]) := by
  intro a0 a1 a2 r hr
  apply pF 15 [] [] [] [.tmp 6] hr cl32 Tryz.func32
  intro Φ hΦ hF g
  unfold F_spec_gExp at hF
  try simp [go_sem, g]
  refine pw_wk ?_
  repeat rw [sq]
  refine pw_draw D32_1 follows (by kernel_rfl) rfl ?_
  try simp only [go_sem, D32_1]
  try simp [go_sem, g]
  refine pC hF [.sh, .sh] c_spec_nMod (fun z1 hF => ?_)
  try simp [go_sem, g]
  refine pC hF [.sh, .sh, .sh] c_spec_nPower (fun z2 hF => ?_)
  try simp [go_sem, g]
  refine pw_wkK [6] (by simp [go_sem, g]; rfl) ?_
  cases hΦ _ (Rn_some hF)
  try simp [go_sem, g]
def D72_8 : List DE := [d2 0 [5] 5 5, d1 1 [5] 5, d2 2 [24] 5 24, d0 3 [0], d1 4 [5] 5, d2 5 [27] 5 27, d0 6 [28], d3 7 [26, 29], d0 8 [30], d3 9 [23, 25, 31], d1 10 [5] 5, d2 11 [33, 32] 5 33]
noncomputable def F_spec_l1Cur_group__io0 (a0c0 : (List Int)) (a0c1 : Int) (a0c2 : Int) : Option (Group × ((List Int) × Int × Int)) :=
  (F_spec_l1Cur_pick__io0 a0c0 a0c1 a0c2 6).bind fun z1 =>
  if (z1.1 == 0) = true then (
  some ((Group.mk 1000000007 500000003 4), (z1.2.1, z1.2.2.1, z1.2.2.2))) else (
  if (z1.1 == 1) = true then (
  (F_spec_l1Cur_among__io0_mv1 z1.2.1 z1.2.2.1 z1.2.2.2 [101, 1009, 1019, 65537, 999983]).bind fun z4 =>
  (F_spec_MakeGroup z4.1).bind fun z5 =>
  some (z5.1, (z4.2.1, z4.2.2.1, z4.2.2.2))) else (
  (F_spec_l1Cur_tiny__io0 z1.2.1 z1.2.2.1 z1.2.2.2).bind fun z6 =>
  (F_spec_l1Cur_pick__io0 z6.2.1 z6.2.2.1 z6.2.2.2 (i64.wrap (z6.1.Q - 1))).bind fun z7 =>
  (F_spec_gExp z6.1 z6.1.G (i64.wrap (1 + z7.1))).bind fun z8 =>
  some ((Group.mk z6.1.P z6.1.Q z8), (z7.2.1, z7.2.2.1, z7.2.2.2))))
theorem c_spec_l1Cur_group__io0 : ∀ {a0c0} {a0c1} {a0c2} {r}, F_spec_l1Cur_group__io0 a0c0 a0c1 a0c2 = some r → PCalls Tryz.prog 72 [(.io, .bx [.sl false 1 (a0c0.map row_u8), .int .i64 a0c1, .int .u64 a0c2])] (Eo (.agg [.int .i64 r.1.P, .int .i64 r.1.Q, .int .i64 r.1.G]) [.bx [.sl false 1 (r.2.1.map row_u8), .int .i64 r.2.2.1, .int .u64 r.2.2.2]]) := by
  intro a0c0 a0c1 a0c2 r hr
  apply pF 35 [0] [] [] [.cell 2 25] hr cl72 Tryz.func72
  intro Φ hΦ hF g
  unfold F_spec_l1Cur_group__io0 at hF
  try simp [go_sem, g]
  refine pw_wk ?_
  try simp [go_sem, g]
  refine pC hF [.io, .sh] c_spec_l1Cur_pick__io0 (fun z1 hF => ?_)
  try simp [go_sem, g]
  refine pw_wk ?_
  repeat rw [sq]
  rw [pw_block]
  try simp [go_sem, g]
  refine pw_wk ?_
  repeat rw [sq]
  refine pI hF (fun h2 hF => ?_) (fun h2 hF => ?_)
  ·cases hΦ _ (Rn_some hF)
   try simp [go_sem, g]
   refine pw_wk ?_
   try simp [go_sem, g]
  ·try simp [go_sem, g]
   refine pw_wk ?_
   repeat rw [sq]
   refine pI hF (fun h3 hF => ?_) (fun h3 hF => ?_)
   ·try simp [go_sem, g]
    refine pC hF [.io, .mv] c_spec_l1Cur_among__io0_mv1 (fun z4 hF => ?_)
    try simp [go_sem, g]
    refine pC hF [.sh] c_spec_MakeGroup (fun z5 hF => ?_)
    try simp [go_sem, g]
    refine pw_wkK [0, 2, 3] (by simp [go_sem, g]; rfl) ?_
    cases hΦ _ (Rn_some hF)
    try simp [go_sem, g]
    refine pw_wk ?_
    try simp [go_sem, g]
   ·try simp [go_sem, g]
    refine pw_wk ?_
    try simp [go_sem, g]
    refine pC hF [.io] c_spec_l1Cur_tiny__io0 (fun z6 hF => ?_)
    try simp [go_sem, g]
    refine pw_wkK [0, 2, 5] (by simp [go_sem, g]; rfl) ?_
    repeat rw [sq]
    refine pw_draw D72_8 follows (by kernel_rfl) rfl ?_
    try simp only [go_sem, D72_8]
    try simp [go_sem, g]
    refine pC hF [.io, .sh] c_spec_l1Cur_pick__io0 (fun z7 hF => ?_)
    try simp [go_sem, g]
    refine pC hF [.sh, .sh, .sh] c_spec_gExp (fun z8 hF => ?_)
    try simp [go_sem, g]
    refine pw_wkK [0, 2, 5] (by simp [go_sem, g]; rfl) ?_
    cases hΦ _ (Rn_some hF)
    try simp [go_sem, g]
    refine pw_wk ?_
    try simp [go_sem, g]
noncomputable def F_spec_l1Cur_one__io0 (a0c0 : (List Int)) (a0c1 : Int) (a0c2 : Int) (a1 : Int) : Option (Bool × ((List Int) × Int × Int)) :=
  (F_spec_l1Cur_pick__io0 a0c0 a0c1 a0c2 a1).bind fun z1 =>
  some ((z1.1 == 0), (z1.2.1, z1.2.2.1, z1.2.2.2))
theorem c_spec_l1Cur_one__io0 : ∀ {a0c0} {a0c1} {a0c2} {a1} {r}, F_spec_l1Cur_one__io0 a0c0 a0c1 a0c2 a1 = some r → PCalls Tryz.prog 66 [(.io, .bx [.sl false 1 (a0c0.map row_u8), .int .i64 a0c1, .int .u64 a0c2]), (.sh, .int .i64 a1)] (Eo (.bool r.1) [.bx [.sl false 1 (r.2.1.map row_u8), .int .i64 r.2.2.1, .int .u64 r.2.2.2], .junk]) := by
  intro a0c0 a0c1 a0c2 a1 r hr
  apply pF 9 [0] [] [] [.tmp 4] hr cl66 Tryz.func66
  intro Φ hΦ hF g
  unfold F_spec_l1Cur_one__io0 at hF
  try simp [go_sem, g]
  refine pw_wk ?_
  try simp [go_sem, g]
  refine pC hF [.io, .sh] c_spec_l1Cur_pick__io0 (fun z1 hF => ?_)
  cases hΦ _ (Rn_some hF)
  try simp [go_sem, g]
  refine pw_wk ?_
  try simp [go_sem, g]
noncomputable def F_spec_l1Least (a0 : Int) (a1 : Int) : Option (Int) :=
  if decide (a0 < a1) = true then (
  some a0) else (
  some a1)
theorem c_spec_l1Least : ∀ {a0} {a1} {r}, F_spec_l1Least a0 a1 = some r → PCalls Tryz.prog 71 [(.sh, .int .i64 a0), (.sh, .int .i64 a1)] (Eo (.int .i64 r) [.junk, .junk]) := by
  intro a0 a1 r hr
  apply pF 10 [] [] [] [.tmp 4] hr cl71 Tryz.func71
  intro Φ hΦ hF g
  unfold F_spec_l1Least at hF
  iterate 2 (try simp [go_sem, g]; refine pw_wk ?_)
  repeat rw [sq]
  refine pI hF (fun h1 hF => ?_) (fun h1 hF => ?_)
  ·cases hΦ _ (Rn_some hF)
   try simp [go_sem, g]
   refine pw_wk ?_
   try simp [go_sem, g]
  ·cases hΦ _ (Rn_some hF)
   iterate 2 (try simp [go_sem, g]; refine pw_wk ?_)
   try simp [go_sem, g]
def D73_13 : List DE := [d1 0 [3] 3, d2 1 [37] 3 37, d0 2 [0], d0 3 [4], d1 4 [3] 3, d2 5 [41] 3 41, d0 6 [40, 42], d0 7 [43], d3 8 [39, 44], d0 9 [38, 45], d1 10 [3] 3, d2 11 [47, 46] 3 47]
noncomputable def F_spec_l1Cur_contest__io0 (a0c0 : (List Int)) (a0c1 : Int) (a0c2 : Int) : Option (Contest × ((List Int) × Int × Int)) :=
  (F_spec_l1Cur_pick__io0 a0c0 a0c1 a0c2 4).bind fun z1 =>
  (F_spec_l1Cur_pick__io0 z1.2.1 z1.2.2.1 z1.2.2.2 5).bind fun z2 =>
  (F_spec_l1Cur_one__io0 z2.2.1 z2.2.2.1 z2.2.2.2 12).bind fun z3 =>
  ((if z3.1 = true then (
  some (i64.wrap (1 + z1.1), 8, 0, 0, 0)) else (
  some (i64.wrap (1 + z1.1), i64.wrap (1 + z2.1), 0, 0, 0)) : Option ((Int × Int × Int × Int × Int))).bind fun x6 =>
  ((if (x6.1 == 2) = true then (
  (F_spec_l1Cur_pick__io0 z3.2.1 z3.2.2.1 z3.2.2.2 5).bind fun z12 =>
  some ((z12.2.1, z12.2.2.1, z12.2.2.2), x6.1, x6.2.1, x6.2.2.1, x6.2.2.2.1, i64.wrap (1 + z12.1), i64.wrap (x6.2.1 * (i64.wrap (1 + z12.1))))) else (
  if (x6.1 == 4) = true then (
  some ((z3.2.1, z3.2.2.1, z3.2.2.2), x6.1, 0, x6.2.2.1, x6.2.2.2.1, x6.2.2.2.2, 3)) else (
  some ((z3.2.1, z3.2.2.1, z3.2.2.2), x6.1, x6.2.1, x6.2.2.1, x6.2.2.2.1, x6.2.2.2.2, x6.2.1))) : Option ((((List Int) × Int × Int) × Int × Int × Int × Int × Int × Int))).bind fun x10 =>
  (F_spec_l1Least x10.2.2.2.2.2.2 3).bind fun z14 =>
  (F_spec_l1Cur_pick__io0 x10.1.1 x10.1.2.1 x10.1.2.2 z14).bind fun z15 =>
  (F_spec_l1Cur_pick__io0 z15.2.1 z15.2.2.1 z15.2.2.2 (i64.wrap ((i64.wrap (x10.2.2.2.2.2.2 - z15.1)) + 1))).bind fun z16 =>
  some ((Contest.mk x10.2.1 x10.2.2.1 z15.1 (i64.wrap (z15.1 + z16.1)) x10.2.2.2.2.2.1), (z16.2.1, z16.2.2.1, z16.2.2.2))))
theorem c_spec_l1Cur_contest__io0 : ∀ {a0c0} {a0c1} {a0c2} {r}, F_spec_l1Cur_contest__io0 a0c0 a0c1 a0c2 = some r → PCalls Tryz.prog 73 [(.io, .bx [.sl false 1 (a0c0.map row_u8), .int .i64 a0c1, .int .u64 a0c2])] (Eo (.agg [.int .i64 r.1.Kind, .int .i64 r.1.Options, .int .i64 r.1.Least, .int .i64 r.1.Most, .int .i64 r.1.Points]) [.bx [.sl false 1 (r.2.1.map row_u8), .int .i64 r.2.2.1, .int .u64 r.2.2.2]]) := by
  intro a0c0 a0c1 a0c2 r hr
  apply pF 49 [0] [] [] [.cell 2 27] hr cl73 Tryz.func73
  intro Φ hΦ hF g
  unfold F_spec_l1Cur_contest__io0 at hF
  try simp [go_sem, g]
  refine pw_wk ?_
  try simp [go_sem, g]
  refine pC hF [.io, .sh] c_spec_l1Cur_pick__io0 (fun z1 hF => ?_)
  try simp [go_sem, g]
  refine pC hF [.io, .sh] c_spec_l1Cur_pick__io0 (fun z2 hF => ?_)
  try simp [go_sem, g]
  refine pw_wkK [0, 2, 3] (by simp [go_sem, g]; rfl) ?_
  try simp [go_sem, g]
  refine pC hF [.io, .sh] c_spec_l1Cur_one__io0 (fun z3 hF => ?_)
  try simp [go_sem, g]
  refine pw_wk ?_
  repeat rw [sq]
  refine pJ hF (fun x6 => [(0, .v (.bx [.sl false 1 (z3.2.1.map row_u8), .int .i64 z3.2.2.1, .int .u64 z3.2.2.2])), (2, .bl [.int .i64 0, .int .i64 0, .int .i64 0, .int .i64 0, .int .i64 0]), (3, .bl [.int .i64 x6.1, .int .i64 x6.2.1, .int .i64 x6.2.2.1, .int .i64 x6.2.2.2.1, .int .i64 x6.2.2.2.2])]) (fun x6 hF => ?_) fun _ hj4 hF => ?_
  ·iterate 2 (try simp [go_sem, g]; refine pw_wk ?_)
   repeat rw [sq]
   refine pJ hF (fun x10 => [(0, .v (.bx [.sl false 1 (x10.1.1.map row_u8), .int .i64 x10.1.2.1, .int .u64 x10.1.2.2])), (2, .bl [.int .i64 0, .int .i64 0, .int .i64 0, .int .i64 0, .int .i64 0]), (3, .bl [.int .i64 x10.2.1, .int .i64 x10.2.2.1, .int .i64 x10.2.2.2.1, .int .i64 x10.2.2.2.2.1, .int .i64 x10.2.2.2.2.2.1]), (4, .v (.int .i64 x10.2.2.2.2.2.2))]) (fun x10 hF => ?_) fun _ hj8 hF => ?_
   ·try simp [go_sem, g]
    refine pC hF [.sh, .sh] c_spec_l1Least (fun z14 hF => ?_)
    try simp [go_sem, g]
    refine pC hF [.io, .sh] c_spec_l1Cur_pick__io0 (fun z15 hF => ?_)
    try simp [go_sem, g]
    refine pw_wkK [0, 2, 3, 4] (by simp [go_sem, g]; rfl) ?_
    repeat rw [sq]
    refine pw_draw D73_13 follows (by kernel_rfl) rfl ?_
    try simp only [go_sem, D73_13]
    try simp [go_sem, g]
    refine pC hF [.io, .sh] c_spec_l1Cur_pick__io0 (fun z16 hF => ?_)
    try simp [go_sem, g]
    refine pw_wkK [0, 2, 3] (by simp [go_sem, g]; rfl) ?_
    cases hΦ _ (Rn_some hF)
    try simp [go_sem, g]
    refine pw_wk ?_
    try simp [go_sem, g]
   ·repeat rw [sq]
    rw [pw_block]
    try simp [go_sem, g]
    refine pw_wk ?_
    repeat rw [sq]
    refine pI hF (fun h11 hF => ?_) (fun h11 hF => ?_)
    ·try simp [go_sem, g]
     refine pC hF [.io, .sh] c_spec_l1Cur_pick__io0 (fun z12 hF => ?_)
     try simp [go_sem, g]
     refine pw_wkK [0, 2, 3, 4] (by simp [go_sem, g]; rfl) ?_
     try simp [go_sem, g]
     exact pT (hj8 ((z12.2.1, z12.2.2.1, z12.2.2.2), x6.1, x6.2.1, x6.2.2.1, x6.2.2.2.1, i64.wrap (1 + z12.1), i64.wrap (x6.2.1 * (i64.wrap (1 + z12.1))))) (Rn_some hF)
    ·try simp [go_sem, g]
     refine pw_wkK [0, 2, 3, 4, 29] (by simp [go_sem, g]; rfl) ?_
     repeat rw [sq]
     refine pI hF (fun h13 hF => ?_) (fun h13 hF => ?_)
     ·try simp [go_sem, g]
      refine pw_wk ?_
      try simp [go_sem, g]
      exact pT (hj8 ((z3.2.1, z3.2.2.1, z3.2.2.2), x6.1, 0, x6.2.2.1, x6.2.2.2.1, x6.2.2.2.2, 3)) (Rn_some hF)
     ·try simp [go_sem, g]
      exact pT (hj8 ((z3.2.1, z3.2.2.1, z3.2.2.2), x6.1, x6.2.1, x6.2.2.1, x6.2.2.2.1, x6.2.2.2.2, x6.2.1)) (Rn_some hF)
  ·repeat rw [sq]
   refine pI hF (fun h7 hF => ?_) (fun h7 hF => ?_)
   ·try simp [go_sem, g]
    exact pT (hj4 (i64.wrap (1 + z1.1), 8, 0, 0, 0)) (Rn_some hF)
   ·try simp [go_sem, g]
    exact pT (hj4 (i64.wrap (1 + z1.1), i64.wrap (1 + z2.1), 0, 0, 0)) (Rn_some hF)
noncomputable def F_spec_l2Good (a0 : Group) : Option (Bool) :=
  (((F_spec_l1In a0.P 3 2000000000).bind fun z4 =>
  if z4 = true then (
  (F_spec_l1In a0.Q 2 (i64.wrap (a0.P - 1))).bind fun z6 =>
  if z6 = true then (
  gd (a0.Q ≠ 0) <|
  if (((i64.wrap (a0.P - 1)).tmod a0.Q) == 0) = true then (
  (F_spec_l1In a0.G 2 (i64.wrap (a0.P - 1))).bind fun z9 =>
  if z9 = true then (
  (F_spec_nPower a0.G a0.Q a0.P).bind fun z11 =>
  if (z11 == 1) = true then (
  (F_spec_nPrime a0.Q).bind fun z13 =>
  if z13 = true then (
  (F_spec_nPrime a0.P).bind fun z15 =>
  some z15) else (
  some false)) else (
  some false)) else (
  some false)) else (
  some false)) else (
  some false)) else (
  some false) : Option (Bool)).bind fun x3 =>
  some x3)
theorem c_spec_l2Good : ∀ {a0} {r}, F_spec_l2Good a0 = some r → PCalls Tryz.prog 29 [(.sh, .agg [.int .i64 a0.P, .int .i64 a0.Q, .int .i64 a0.G])] (Eo (.bool r) [.junk]) := by
  intro a0 r hr
  apply pF 51 [] [] [] [.tmp 2] hr cl29 Tryz.func29
  intro Φ hΦ hF g
  unfold F_spec_l2Good at hF
  try simp [go_sem, g]
  refine pw_wk ?_
  repeat rw [sq]
  refine pJ hF (fun x3 => [(2, .v (.bool x3))]) (fun x3 hF => ?_) fun _ hj1 hF => ?_
  ·cases hΦ _ (Rn_some hF)
   try simp [go_sem, g]
  ·try simp [go_sem, g]
   refine pC hF [.sh, .sh, .sh] c_spec_l1In (fun z4 hF => ?_)
   try simp [go_sem, g]
   refine pwg_F hF (fun h5 hF => ?_) fun h5 hF => ?_
   ·try simp [go_sem, g, h5]
    refine pC hF [.sh, .sh, .sh] c_spec_l1In (fun z6 hF => ?_)
    try simp [go_sem, g, h5]
    refine pwg_F hF (fun h7 hF => ?_) fun h7 hF => ?_
    ·obtain ⟨g, hF⟩ := Rz g hF
     try simp [go_sem, g, h7]
     refine pwg_F hF (fun h8 hF => ?_) fun h8 hF => ?_
     ·try simp [go_sem, g, h8]
      refine pC hF [.sh, .sh, .sh] c_spec_l1In (fun z9 hF => ?_)
      try simp [go_sem, g, h8]
      refine pwg_F hF (fun h10 hF => ?_) fun h10 hF => ?_
      ·try simp [go_sem, g, h10]
       refine pC hF [.sh, .sh, .sh] c_spec_nPower (fun z11 hF => ?_)
       try simp [go_sem, g, h10]
       refine pwg_F hF (fun h12 hF => ?_) fun h12 hF => ?_
       ·try simp [go_sem, g, h12]
        refine pC hF [.sh] c_spec_nPrime (fun z13 hF => ?_)
        try simp [go_sem, g, h12]
        refine pwg_F hF (fun h14 hF => ?_) fun h14 hF => ?_
        ·try simp [go_sem, g, h14]
         refine pC hF [.sh] c_spec_nPrime (fun z15 hF => ?_)
         try simp [go_sem, g, h14]
         exact pT (hj1 z15) (Rn_some hF)
        ·try simp [go_sem, g, h14]
         exact pT (hj1 false) (Rn_some hF)
       ·try simp [go_sem, g, h12]
        exact pT (hj1 false) (Rn_some hF)
      ·try simp [go_sem, g, h10]
       exact pT (hj1 false) (Rn_some hF)
     ·try simp [go_sem, g, h8]
      exact pT (hj1 false) (Rn_some hF)
    ·try simp [go_sem, g, h7]
     exact pT (hj1 false) (Rn_some hF)
   ·try simp [go_sem, g, h5]
    exact pT (hj1 false) (Rn_some hF)
noncomputable def F_spec_vContest (a0 : Contest) : Option (Bool) :=
  ((if decide (a0.Least < 0) = true then (
  some true) else (
  some (decide (a0.Most < a0.Least))) : Option (Bool)).bind fun x3 =>
  if x3 = true then (
  some false) else (
  ((if (a0.Kind == 1) = true then (
  some (a0.Kind == 1)) else (
  some (a0.Kind == 3)) : Option (Bool)).bind fun x8 =>
  if x8 = true then (
  (((F_spec_l1In a0.Options 1 8).bind fun z14 =>
  if z14 = true then (
  if decide (a0.Most ≤ a0.Options) = true then (
  some (a0.Points == 0)) else (
  some false)) else (
  some false) : Option (Bool)).bind fun x13 =>
  some x13)) else (
  if (a0.Kind == 2) = true then (
  (((F_spec_l1In a0.Options 1 8).bind fun z21 =>
  if z21 = true then (
  (F_spec_l1In a0.Points 1 5).bind fun z23 =>
  if z23 = true then (
  some (decide (a0.Most ≤ (i64.wrap (a0.Options * a0.Points))))) else (
  some false)) else (
  some false) : Option (Bool)).bind fun x20 =>
  some x20)) else (
  ((if (a0.Kind == 4) = true then (
  if (a0.Options == 0) = true then (
  if decide (a0.Most ≤ 5) = true then (
  some (a0.Points == 0)) else (
  some false)) else (
  some false)) else (
  some false) : Option (Bool)).bind fun x27 =>
  some x27))))))
theorem c_spec_vContest : ∀ {a0} {r}, F_spec_vContest a0 = some r → PCalls Tryz.prog 79 [(.sh, .agg [.int .i64 a0.Kind, .int .i64 a0.Options, .int .i64 a0.Least, .int .i64 a0.Most, .int .i64 a0.Points])] (Eo (.bool r) [.junk]) := by
  intro a0 r hr
  apply pF 71 [] [] [] [.tmp 2] hr cl79 Tryz.func79
  intro Φ hΦ hF g
  unfold F_spec_vContest at hF
  try simp [go_sem, g]
  refine pw_wk ?_
  repeat rw [sq]
  refine pJ hF (fun x3 => [(1, .bl [.int .i64 a0.Kind, .int .i64 a0.Options, .int .i64 a0.Least, .int .i64 a0.Most, .int .i64 a0.Points]), (12, .v (.bool x3))]) (fun x3 hF => ?_) fun _ hj1 hF => ?_
  ·repeat rw [sq]
   refine pI hF (fun h5 hF => ?_) (fun h5 hF => ?_)
   ·cases hΦ _ (Rn_some hF)
    try simp [go_sem, g]
    refine pw_wk ?_
    try simp [go_sem, g]
   ·iterate 2 (try simp [go_sem, g]; refine pw_wk ?_)
    repeat rw [sq]
    rw [pw_block]
    try simp [go_sem, g]
    refine pw_wk ?_
    repeat rw [sq]
    refine pJ hF (fun x8 => [(1, .bl [.int .i64 a0.Kind, .int .i64 a0.Options, .int .i64 a0.Least, .int .i64 a0.Most, .int .i64 a0.Points]), (14, .v (.int .i64 a0.Kind)), (15, .v (.bool x8))]) (fun x8 hF => ?_) fun _ hj6 hF => ?_
    ·repeat rw [sq]
     refine pI hF (fun h10 hF => ?_) (fun h10 hF => ?_)
     ·repeat rw [sq]
      refine pJ hF (fun x13 => [(2, .v (.bool x13))]) (fun x13 hF => ?_) fun _ hj11 hF => ?_
      ·cases hΦ _ (Rn_some hF)
       try simp [go_sem, g]
      ·try simp [go_sem, g]
       refine pC hF [.sh, .sh, .sh] c_spec_l1In (fun z14 hF => ?_)
       try simp [go_sem, g]
       refine pwg_F hF (fun h15 hF => ?_) fun h15 hF => ?_
       ·try simp [go_sem, g, h15]
        refine pwg_F hF (fun h16 hF => ?_) fun h16 hF => ?_
        ·try simp [go_sem, g, h16]
         exact pT (hj11 (a0.Points == 0)) (Rn_some hF)
        ·try simp [go_sem, g, h16]
         exact pT (hj11 false) (Rn_some hF)
       ·try simp [go_sem, g, h15]
        exact pT (hj11 false) (Rn_some hF)
     ·try simp [go_sem, g]
      refine pw_wk ?_
      repeat rw [sq]
      refine pI hF (fun h17 hF => ?_) (fun h17 hF => ?_)
      ·repeat rw [sq]
       refine pJ hF (fun x20 => [(2, .v (.bool x20))]) (fun x20 hF => ?_) fun _ hj18 hF => ?_
       ·cases hΦ _ (Rn_some hF)
        try simp [go_sem, g]
       ·try simp [go_sem, g]
        refine pC hF [.sh, .sh, .sh] c_spec_l1In (fun z21 hF => ?_)
        try simp [go_sem, g]
        refine pwg_F hF (fun h22 hF => ?_) fun h22 hF => ?_
        ·try simp [go_sem, g, h22]
         refine pC hF [.sh, .sh, .sh] c_spec_l1In (fun z23 hF => ?_)
         try simp [go_sem, g, h22]
         refine pwg_F hF (fun h24 hF => ?_) fun h24 hF => ?_
         ·try simp [go_sem, g, h24]
          exact pT (hj18 (decide (a0.Most ≤ (i64.wrap (a0.Options * a0.Points))))) (Rn_some hF)
         ·try simp [go_sem, g, h24]
          exact pT (hj18 false) (Rn_some hF)
        ·try simp [go_sem, g, h22]
         exact pT (hj18 false) (Rn_some hF)
      ·try simp [go_sem, g]
       refine pw_wk ?_
       repeat rw [sq]
       refine pJ hF (fun x27 => [(2, .v (.bool x27))]) (fun x27 hF => ?_) fun _ hj25 hF => ?_
       ·cases hΦ _ (Rn_some hF)
        try simp [go_sem, g]
       ·try simp [go_sem, g]
        refine pwg_F hF (fun h28 hF => ?_) fun h28 hF => ?_
        ·try simp [go_sem, g, h28]
         refine pwg_F hF (fun h29 hF => ?_) fun h29 hF => ?_
         ·try simp [go_sem, g, h29]
          refine pwg_F hF (fun h30 hF => ?_) fun h30 hF => ?_
          ·try simp [go_sem, g, h30]
           exact pT (hj25 (a0.Points == 0)) (Rn_some hF)
          ·try simp [go_sem, g, h30]
           exact pT (hj25 false) (Rn_some hF)
         ·try simp [go_sem, g, h29]
          exact pT (hj25 false) (Rn_some hF)
        ·try simp [go_sem, g, h28]
         exact pT (hj25 false) (Rn_some hF)
    ·repeat rw [sq]
     refine pI hF (fun h9 hF => ?_) (fun h9 hF => ?_)
     ·try simp [go_sem, g]
      exact pT (hj6 (a0.Kind == 1)) (Rn_some hF)
     ·try simp [go_sem, g]
      exact pT (hj6 (a0.Kind == 3)) (Rn_some hF)
  ·try simp [go_sem, g]
   refine pwg_F hF (fun h4 hF => ?_) fun h4 hF => ?_
   ·try simp [go_sem, g, h4]
    exact pT (hj1 true) (Rn_some hF)
   ·try simp [go_sem, g, h4]
    exact pT (hj1 (decide (a0.Most < a0.Least))) (Rn_some hF)
noncomputable def F_spec_vMarks (a0 : Contest) (a1 : (List Int)) : Option ((List Int)) :=
  gd (0 ≤ a0.Options ∧ a0.Options ≤ a0.Options ∧ 8 * a0.Options ≤ 140737488355328 ∧ a0.Options ≤ 4611686018427387904) <|
  (some (List.replicate a0.Options.toNat 0)).bind fun x1 =>
  ((rloop (σ := (List Int)) (fun i17 s16 =>
  (ix a1 i17).bind fun x23 =>
  (ix s16 x23).bind fun x24 =>
  some (.go (s16.set x23.toNat 1))) (fun s16 => s16) (a1.length) 0 x1 : Option ((List Int))).bind fun x6 =>
  some x6)
theorem c_spec_vMarks : ∀ {a0} {a1} {r}, F_spec_vMarks a0 a1 = some r → PCalls Tryz.prog 104 [(.sh, .agg [.int .i64 a0.Kind, .int .i64 a0.Options, .int .i64 a0.Least, .int .i64 a0.Most, .int .i64 a0.Points]), (.sh, .sl false 1 (a1.map row_i64))] (Eo (.sl true 1 (r.map row_i64)) [.junk, .junk]) := by
  intro a0 a1 r hr
  apply pF 22 [] [] [] [.tmp 4] hr cl104 Tryz.func104
  intro Φ hΦ hF g
  unfold F_spec_vMarks at hF
  obtain ⟨g, hF⟩ := Rg g hF
  obtain ⟨x1, e2, hF⟩ := Rn_bind hF
  have g3 : List.replicate a0.Options.toNat ([.int .i64 0] : List PV) = x1.map row_i64 := by injection e2 with e2; rw [← e2]; simp [go_sem]
  iterate 3 (try simp [go_sem, g, g3]; try intros; refine pw_wk ?_)
  repeat rw [sq]
  refine pJ hF (fun x6 => [(5, .v (.sl true 1 (x6.map row_i64)))]) (fun x6 hF => ?_) fun _ hj4 hF => ?_
  ·try simp [go_sem, g]
   refine pw_wkK [4] (by simp [go_sem, g]; rfl) ?_
   cases hΦ _ (Rn_some hF)
   try simp [go_sem, g]
  ·repeat rw [sq]
   rw [pw_block]
   obtain ⟨b25, hb26, hψ20⟩ := hF
   refine pR hb26 (fun i17 s16 => [(5, .v (.sl true 1 (s16.map row_i64))), (11, .v (.sl false 1 (a1.map row_i64))), (12, .v (.int .i64 (a1.length : Int))), (13, .v (.int .i64 i17))]) (fun s16 _ hN27 => ?_) (fun i17 s16 _ _ hi21 hi22 ho18 hg19 hF => ?_)
   ·subst hN27
    try simp [go_sem]
    refine pw_wk ?_
    repeat rw [sq]
    refine pw_cond_f (by simp [go_sem]) ?_
    try simp [go_sem]
    exact pT (hj4 s16) hψ20 (by simp [go_sem])
   ·try simp [go_sem, g]
    refine pw_wkK [5, 11, 12, 13, 14] (by simp [go_sem, g]; rfl) ?_
    repeat rw [sq]
    refine pw_cond_t (by simp [go_sem, g, hi21, hi22]) ?_
    try simp [go_sem, g]
    refine pw_wk ?_
    repeat rw [sq]
    rw [pw_block]
    obtain ⟨x23, g, hF⟩ := Rx g hF
    obtain ⟨x24, g, hF⟩ := Rx g hF
    iterate 2 (try simp [go_sem, g]; refine pw_wk ?_)
    try simp [go_sem, g]
    exact pT (hg19 (s16.set x23.toNat 1)) (Rn_some hF) (by simp [go_sem, g, wr_i hi21 hi22 (by assumption)])
noncomputable def F_spec_vNumber (a0 : (List Int)) (a1 : Int) (a2 : Int) : Option (Int) :=
  ((wloop (σ := Int × Int) (fun s4 =>
  if decide (0 ≤ s4.2) = true then (
  (ix a0 s4.2).bind fun x10 =>
  some (.go (i64.wrap ((i64.wrap ((i64.wrap (s4.1 * a1)) + x10)) + a2), i64.wrap (s4.2 - 1)))) else (
  some (.out s4.1))) (0, i64.wrap ((a0.length : Int) - 1)) : Option (Int)).bind fun x3 =>
  some x3)
theorem c_spec_vNumber : ∀ {a0} {a1} {a2} {r}, F_spec_vNumber a0 a1 a2 = some r → PCalls Tryz.prog 103 [(.sh, .sl false 1 (a0.map row_i64)), (.sh, .int .i64 a1), (.sh, .int .i64 a2)] (Eo (.int .i64 r) [.junk, .junk, .junk]) := by
  intro a0 a1 a2 r hr
  apply pF 27 [] [] [] [.tmp 6] hr cl103 Tryz.func103
  intro Φ hΦ hF g
  unfold F_spec_vNumber at hF
  iterate 3 (try simp [go_sem, g]; try intros; refine pw_wk ?_)
  repeat rw [sq]
  refine pJ hF (fun x3 => [(7, .v (.int .i64 x3))]) (fun x3 hF => ?_) fun _ hj1 hF => ?_
  ·cases hΦ _ (Rn_some hF)
   try simp [go_sem, g]
   refine pw_wk ?_
   try simp [go_sem, g]
  ·repeat rw [sq]
   rw [pw_block]
   obtain ⟨b11, hb12, hψ8⟩ := hF
   refine pL hb12 (fun s4 => [(0, .v (.sl false 1 (a0.map row_i64))), (1, .v (.int .i64 a1)), (2, .v (.int .i64 a2)), (7, .v (.int .i64 s4.1)), (8, .v (.int .i64 s4.2))]) (fun s4 _ _ ho6 hg7 hF => ?_)
   try simp [go_sem, g]
   refine pw_wk ?_
   repeat rw [sq]
   refine pI hF (fun h9 hF => ?_) (fun h9 hF => ?_)
   ·try simp [go_sem, g]
    refine pw_wk ?_
    repeat rw [sq]
    rw [pw_block]
    obtain ⟨x10, g, hF⟩ := Rx g hF
    try simp [go_sem, g]
    refine pw_wkK [0, 1, 2, 7, 8] (by simp [go_sem, g]; rfl) ?_
    try simp [go_sem, g]
    exact pT (hg7 (i64.wrap ((i64.wrap ((i64.wrap (s4.1 * a1)) + x10)) + a2), i64.wrap (s4.2 - 1))) (Rn_some hF)
   ·try simp [go_sem, g]
    cases ho6 _ (Rn_some hF)
    exact pT (hj1 s4.1) hψ8
noncomputable def F_spec_vCode (a0 : Contest) (a1 : (List Int)) : Option (Int) :=
  if (a0.Kind == 1) = true then (
  (F_spec_vMarks a0 a1).bind fun z2 =>
  (F_spec_vNumber z2 2 0).bind fun z3 =>
  some z3) else (
  if (a0.Kind == 2) = true then (
  (F_spec_vNumber a1 (i64.wrap (a0.Points + 1)) 0).bind fun z5 =>
  some z5) else (
  if (a0.Kind == 3) = true then (
  (F_spec_vNumber a1 (i64.wrap (a0.Options + 1)) 1).bind fun z7 =>
  some z7) else (
  (F_spec_vNumber a1 27 0).bind fun z8 =>
  some z8)))
theorem c_spec_vCode : ∀ {a0} {a1} {r}, F_spec_vCode a0 a1 = some r → PCalls Tryz.prog 95 [(.sh, .agg [.int .i64 a0.Kind, .int .i64 a0.Options, .int .i64 a0.Least, .int .i64 a0.Most, .int .i64 a0.Points]), (.sh, .sl false 1 (a1.map row_i64))] (Eo (.int .i64 r) [.junk, .junk]) := by
  intro a0 a1 r hr
  apply pF 29 [] [] [] [.tmp 4] hr cl95 Tryz.func95
  intro Φ hΦ hF g
  unfold F_spec_vCode at hF
  iterate 2 (try simp [go_sem, g]; refine pw_wk ?_)
  repeat rw [sq]
  rw [pw_block]
  try simp [go_sem, g]
  refine pw_wk ?_
  repeat rw [sq]
  refine pI hF (fun h1 hF => ?_) (fun h1 hF => ?_)
  ·try simp [go_sem, g]
   refine pC hF [.sh, .sh] c_spec_vMarks (fun z2 hF => ?_)
   try simp [go_sem, g]
   refine pC hF [.sh, .sh, .sh] c_spec_vNumber (fun z3 hF => ?_)
   try simp [go_sem, g]
   refine pw_wkK [4] (by simp [go_sem, g]; rfl) ?_
   cases hΦ _ (Rn_some hF)
   try simp [go_sem, g]
  ·try simp [go_sem, g]
   refine pw_wk ?_
   repeat rw [sq]
   refine pI hF (fun h4 hF => ?_) (fun h4 hF => ?_)
   ·try simp [go_sem, g]
    refine pC hF [.sh, .sh, .sh] c_spec_vNumber (fun z5 hF => ?_)
    try simp [go_sem, g]
    refine pw_wkK [4] (by simp [go_sem, g]; rfl) ?_
    cases hΦ _ (Rn_some hF)
    try simp [go_sem, g]
   ·try simp [go_sem, g]
    refine pw_wkK [1, 2, 20] (by simp [go_sem, g]; rfl) ?_
    repeat rw [sq]
    refine pI hF (fun h6 hF => ?_) (fun h6 hF => ?_)
    ·try simp [go_sem, g]
     refine pC hF [.sh, .sh, .sh] c_spec_vNumber (fun z7 hF => ?_)
     cases hΦ _ (Rn_some hF)
     try simp [go_sem, g]
     refine pw_wk ?_
     try simp [go_sem, g]
    ·try simp [go_sem, g]
     refine pw_wk ?_
     try simp [go_sem, g]
     refine pC hF [.sh, .sh, .sh] c_spec_vNumber (fun z8 hF => ?_)
     cases hΦ _ (Rn_some hF)
     try simp [go_sem, g]
     refine pw_wk ?_
     try simp [go_sem, g]
noncomputable def F_spec_bGreatest (a0 : Contest) : Option (Int) :=
  ((if (a0.Kind == 1) = true then (
  wloop (σ := (List Int) × Int) (fun s5 =>
  if decide (s5.2 < a0.Options) = true then (
  gd ((s5.1.length + 1) * 8 ≤ 140737488355328 ∧ s5.1.length + 1 ≤ 4611686018427387904) <|
  some (.go (s5.1 ++ [s5.2], i64.wrap (s5.2 + 1)))) else (
  some (.out s5.1))) ([], i64.wrap (a0.Options - a0.Most))) else (
  if (a0.Kind == 2) = true then (
  gd (0 ≤ a0.Options ∧ a0.Options ≤ a0.Options ∧ 8 * a0.Options ≤ 140737488355328 ∧ a0.Options ≤ 4611686018427387904) <|
  (some (List.replicate a0.Options.toNat 0)).bind fun x14 =>
  wloop (σ := (List Int) × Int × Int) (fun s26 =>
  if decide (0 ≤ s26.2.2) = true then (
  (F_spec_l1Least s26.2.1 a0.Points).bind fun z32 =>
  (ix s26.1 s26.2.2).bind fun x33 =>
  (ix (s26.1.set s26.2.2.toNat z32) s26.2.2).bind fun x34 =>
  some (.go (s26.1.set s26.2.2.toNat z32, i64.wrap (s26.2.1 - x34), i64.wrap (s26.2.2 - 1)))) else (
  some (.out s26.1))) (x14, a0.Most, i64.wrap (a0.Options - 1))) else (
  if (a0.Kind == 3) = true then (
  wloop (σ := (List Int) × Int) (fun s38 =>
  if decide (s38.2 < a0.Options) = true then (
  gd ((s38.1.length + 1) * 8 ≤ 140737488355328 ∧ s38.1.length + 1 ≤ 4611686018427387904) <|
  some (.go (s38.1 ++ [s38.2], i64.wrap (s38.2 + 1)))) else (
  some (.out s38.1))) ([], i64.wrap (a0.Options - a0.Most))) else (
  wloop (σ := (List Int) × Int) (fun s46 =>
  if decide (s46.2 < a0.Most) = true then (
  gd ((s46.1.length + 1) * 8 ≤ 140737488355328 ∧ s46.1.length + 1 ≤ 4611686018427387904) <|
  some (.go (s46.1 ++ [26], i64.wrap (s46.2 + 1)))) else (
  some (.out s46.1))) ([], 0)))) : Option ((List Int))).bind fun x3 =>
  (F_spec_vCode a0 x3).bind fun z54 =>
  some z54)
theorem c_spec_bGreatest : ∀ {a0} {r}, F_spec_bGreatest a0 = some r → PCalls Tryz.prog 80 [(.sh, .agg [.int .i64 a0.Kind, .int .i64 a0.Options, .int .i64 a0.Least, .int .i64 a0.Most, .int .i64 a0.Points])] (Eo (.int .i64 r) [.junk]) := by
  intro a0 r hr
  apply pF 84 [] [] [] [.tmp 2] hr cl80 Tryz.func80
  intro Φ hΦ hF g
  unfold F_spec_bGreatest at hF
  iterate 3 (try simp [go_sem, g]; refine pw_wk ?_)
  repeat rw [sq]
  refine pJ hF (fun x3 => [(1, .bl [.int .i64 a0.Kind, .int .i64 a0.Options, .int .i64 a0.Least, .int .i64 a0.Most, .int .i64 a0.Points]), (3, .v (.sl true 1 (x3.map row_i64)))]) (fun x3 hF => ?_) fun _ hj1 hF => ?_
  ·try simp [go_sem, g]
   refine pC hF [.sh, .sh] c_spec_vCode (fun z54 hF => ?_)
   cases hΦ _ (Rn_some hF)
   try simp [go_sem, g]
   refine pw_wk ?_
   try simp [go_sem, g]
  ·repeat rw [sq]
   rw [pw_block]
   try simp [go_sem, g]
   refine pw_wk ?_
   repeat rw [sq]
   refine pI hF (fun h4 hF => ?_) (fun h4 hF => ?_)
   ·try simp [go_sem, g]
    refine pw_wkK [1, 3, 4] (by simp [go_sem, g]; rfl) ?_
    repeat rw [sq]
    rw [pw_block]
    obtain ⟨b11, hb12, hψ9⟩ := hF
    refine pL hb12 (fun s5 => [(1, .bl [.int .i64 a0.Kind, .int .i64 a0.Options, .int .i64 a0.Least, .int .i64 a0.Most, .int .i64 a0.Points]), (3, .v (.sl true 1 (s5.1.map row_i64))), (4, .v (.int .i64 s5.2))]) (fun s5 _ _ ho7 hg8 hF => ?_)
    try simp [go_sem, g]
    refine pw_wk ?_
    repeat rw [sq]
    refine pI hF (fun h10 hF => ?_) (fun h10 hF => ?_)
    ·try simp [go_sem, g]
     refine pw_wk ?_
     repeat rw [sq]
     rw [pw_block]
     obtain ⟨g, hF⟩ := Rg g hF
     try simp [go_sem, g]
     refine pw_wk ?_
     try simp [go_sem, g]
     exact pT (hg8 (s5.1 ++ [s5.2], i64.wrap (s5.2 + 1))) (Rn_some hF)
    ·try simp [go_sem, g]
     cases ho7 _ (Rn_some hF)
     exact pT (hj1 s5.1) hψ9
   ·try simp [go_sem, g]
    refine pw_wk ?_
    repeat rw [sq]
    refine pI hF (fun h13 hF => ?_) (fun h13 hF => ?_)
    ·obtain ⟨g, hF⟩ := Rg g hF
     obtain ⟨x14, e15, hF⟩ := Rn_bind hF
     have g16 : List.replicate a0.Options.toNat ([.int .i64 0] : List PV) = x14.map row_i64 := by injection e15 with e15; rw [← e15]; simp [go_sem]
     try simp [go_sem, g, g16]
     refine pw_wkK [1, 3] (by simp [go_sem, g]; rfl) ?_
     iterate 2 (try simp [go_sem, g]; refine pw_wk ?_)
     repeat rw [sq]
     rw [pw_block]
     obtain ⟨b35, hb36, hψ30⟩ := hF
     refine pL hb36 (fun s26 => [(1, .bl [.int .i64 a0.Kind, .int .i64 a0.Options, .int .i64 a0.Least, .int .i64 a0.Most, .int .i64 a0.Points]), (3, .v (.sl true 1 (s26.1.map row_i64))), (5, .v (.int .i64 s26.2.1)), (6, .v (.int .i64 s26.2.2))]) (fun s26 _ _ ho28 hg29 hF => ?_)
     try simp [go_sem, g]
     refine pw_wk ?_
     repeat rw [sq]
     refine pI hF (fun h31 hF => ?_) (fun h31 hF => ?_)
     ·try simp [go_sem, g]
      refine pw_wk ?_
      repeat rw [sq]
      rw [pw_block]
      try simp [go_sem, g]
      refine pC hF [.sh, .sh] c_spec_l1Least (fun z32 hF => ?_)
      obtain ⟨x33, g, hF⟩ := Rx g hF
      try simp [go_sem, g]
      refine pw_wkK [1, 3, 5, 6] (by simp [go_sem, g]; rfl) ?_
      obtain ⟨x34, g, hF⟩ := Rx g hF
      try simp [go_sem, g]
      refine pw_wk ?_
      try simp [go_sem, g]
      exact pT (hg29 (s26.1.set s26.2.2.toNat z32, i64.wrap (s26.2.1 - x34), i64.wrap (s26.2.2 - 1))) (Rn_some hF)
     ·try simp [go_sem, g]
      cases ho28 _ (Rn_some hF)
      exact pT (hj1 s26.1) hψ30
    ·try simp [go_sem, g]
     refine pw_wkK [1, 3, 64] (by simp [go_sem, g]; rfl) ?_
     repeat rw [sq]
     refine pI hF (fun h37 hF => ?_) (fun h37 hF => ?_)
     ·try simp [go_sem, g]
      refine pw_wk ?_
      repeat rw [sq]
      rw [pw_block]
      obtain ⟨b44, hb45, hψ42⟩ := hF
      refine pL hb45 (fun s38 => [(1, .bl [.int .i64 a0.Kind, .int .i64 a0.Options, .int .i64 a0.Least, .int .i64 a0.Most, .int .i64 a0.Points]), (3, .v (.sl true 1 (s38.1.map row_i64))), (7, .v (.int .i64 s38.2))]) (fun s38 _ _ ho40 hg41 hF => ?_)
      try simp [go_sem, g]
      refine pw_wkK [1, 3, 7, 74] (by simp [go_sem, g]; rfl) ?_
      repeat rw [sq]
      refine pI hF (fun h43 hF => ?_) (fun h43 hF => ?_)
      ·try simp [go_sem, g]
       refine pw_wk ?_
       repeat rw [sq]
       rw [pw_block]
       obtain ⟨g, hF⟩ := Rg g hF
       try simp [go_sem, g]
       refine pw_wk ?_
       try simp [go_sem, g]
       exact pT (hg41 (s38.1 ++ [s38.2], i64.wrap (s38.2 + 1))) (Rn_some hF)
      ·try simp [go_sem, g]
       cases ho40 _ (Rn_some hF)
       exact pT (hj1 s38.1) hψ42
     ·try simp [go_sem, g]
      refine pw_wk ?_
      repeat rw [sq]
      rw [pw_block]
      obtain ⟨b52, hb53, hψ50⟩ := hF
      refine pL hb53 (fun s46 => [(1, .bl [.int .i64 a0.Kind, .int .i64 a0.Options, .int .i64 a0.Least, .int .i64 a0.Most, .int .i64 a0.Points]), (3, .v (.sl true 1 (s46.1.map row_i64))), (8, .v (.int .i64 s46.2))]) (fun s46 _ _ ho48 hg49 hF => ?_)
      try simp [go_sem, g]
      refine pw_wk ?_
      repeat rw [sq]
      refine pI hF (fun h51 hF => ?_) (fun h51 hF => ?_)
      ·try simp [go_sem, g]
       refine pw_wk ?_
       repeat rw [sq]
       rw [pw_block]
       obtain ⟨g, hF⟩ := Rg g hF
       try simp [go_sem, g]
       refine pw_wk ?_
       try simp [go_sem, g]
       exact pT (hg49 (s46.1 ++ [26], i64.wrap (s46.2 + 1))) (Rn_some hF)
      ·try simp [go_sem, g]
       cases ho48 _ (Rn_some hF)
       exact pT (hj1 s46.1) hψ50
noncomputable def F_spec_bRows (a0 : Contest) : Option (Bool) :=
  ((if (a0.Kind == 1) = true then (
  some true) else (
  some (a0.Kind == 2)) : Option (Bool)).bind fun x3 =>
  some x3)
theorem c_spec_bRows : ∀ {a0} {r}, F_spec_bRows a0 = some r → PCalls Tryz.prog 52 [(.sh, .agg [.int .i64 a0.Kind, .int .i64 a0.Options, .int .i64 a0.Least, .int .i64 a0.Most, .int .i64 a0.Points])] (Eo (.bool r) [.junk]) := by
  intro a0 r hr
  apply pF 11 [] [] [] [.tmp 2] hr cl52 Tryz.func52
  intro Φ hΦ hF g
  unfold F_spec_bRows at hF
  try simp [go_sem, g]
  refine pw_wk ?_
  repeat rw [sq]
  refine pJ hF (fun x3 => [(2, .v (.bool x3))]) (fun x3 hF => ?_) fun _ hj1 hF => ?_
  ·cases hΦ _ (Rn_some hF)
   try simp [go_sem, g]
  ·try simp [go_sem, g]
   refine pwg_F hF (fun h4 hF => ?_) fun h4 hF => ?_
   ·try simp [go_sem, g, h4]
    exact pT (hj1 true) (Rn_some hF)
   ·try simp [go_sem, g, h4]
    exact pT (hj1 (a0.Kind == 2)) (Rn_some hF)
def D51_1 : List DE := [d2 0 [2] 2 2, d3 1 [5], d0 2 [6], d0 3 [7], d2 4 [3, 8] 3 3, d3 5 [9, 8], d0 6 [10, 8], d0 7 [8, 11], d0 8 [12], d2 9 [3, 13] 3 3, d3 10 [14, 13], d0 11 [15, 13], d0 12 [13, 16], d0 13 [17], d2 14 [3, 18] 3 3, d1 16 [2, 18] 2, d2 17 [21, 18] 2 21, d3 15 [19, 18], d0 18 [20, 22, 18], d0 19 [18, 23]]
noncomputable def F_spec_bGood (a0 : Group) (a1 : Contest) : Option (Bool) :=
  (((F_spec_l2Good a0).bind fun z4 =>
  if (!z4) = true then (
  some true) else (
  (F_spec_vContest a1).bind fun z6 =>
  if (!z6) = true then (
  some true) else (
  (F_spec_bGreatest a1).bind fun z8 =>
  if decide (100000 < z8) = true then (
  some true) else (
  (F_spec_bGreatest a1).bind fun z10 =>
  some (decide (a0.Q ≤ z10))))) : Option (Bool)).bind fun x3 =>
  if x3 = true then (
  some false) else (
  (((F_spec_bRows a1).bind fun z15 =>
  if (!z15) = true then (
  some true) else (
  if decide ((i64.wrap (a1.Most - a1.Least)) < 8) = true then (
  some (decide (a1.Most < a0.Q))) else (
  some false)) : Option (Bool)).bind fun x14 =>
  some x14)))
theorem c_spec_bGood : ∀ {a0} {a1} {r}, F_spec_bGood a0 a1 = some r → PCalls Tryz.prog 51 [(.sh, .agg [.int .i64 a0.P, .int .i64 a0.Q, .int .i64 a0.G]), (.sh, .agg [.int .i64 a1.Kind, .int .i64 a1.Options, .int .i64 a1.Least, .int .i64 a1.Most, .int .i64 a1.Points])] (Eo (.bool r) [.junk, .junk]) := by
  intro a0 a1 r hr
  apply pF 43 [] [] [] [.tmp 4] hr cl51 Tryz.func51
  intro Φ hΦ hF g
  unfold F_spec_bGood at hF
  try simp [go_sem, g]
  refine pw_wk ?_
  repeat rw [sq]
  refine pJ hF (fun x3 => [(2, .bl [.int .i64 a0.P, .int .i64 a0.Q, .int .i64 a0.G]), (3, .bl [.int .i64 a1.Kind, .int .i64 a1.Options, .int .i64 a1.Least, .int .i64 a1.Most, .int .i64 a1.Points]), (24, .v (.bool x3))]) (fun x3 hF => ?_) fun _ hj1 hF => ?_
  ·repeat rw [sq]
   refine pI hF (fun h11 hF => ?_) (fun h11 hF => ?_)
   ·cases hΦ _ (Rn_some hF)
    try simp [go_sem, g]
    refine pw_wk ?_
    try simp [go_sem, g]
   ·try simp [go_sem, g]
    refine pw_wk ?_
    repeat rw [sq]
    refine pJ hF (fun x14 => [(4, .v (.bool x14))]) (fun x14 hF => ?_) fun _ hj12 hF => ?_
    ·cases hΦ _ (Rn_some hF)
     try simp [go_sem, g]
    ·try simp [go_sem, g]
     refine pC hF [.sh] c_spec_bRows (fun z15 hF => ?_)
     try simp [go_sem, g]
     refine pwg_F hF (fun h16 hF => ?_) fun h16 hF => ?_
     ·try simp [go_sem, g, h16]
      exact pT (hj12 true) (Rn_some hF)
     ·try simp [go_sem, g, h16]
      refine pwg_F hF (fun h17 hF => ?_) fun h17 hF => ?_
      ·try simp [go_sem, g, h17, h16]
       exact pT (hj12 (decide (a1.Most < a0.Q))) (Rn_some hF)
      ·try simp [go_sem, g, h17, h16]
       exact pT (hj12 false) (Rn_some hF)
  ·repeat rw [sq]
   refine pw_draw D51_1 follows (by kernel_rfl) rfl ?_
   try simp only [go_sem, D51_1]
   try simp [go_sem, g]
   refine pC hF [.sh] c_spec_l2Good (fun z4 hF => ?_)
   try simp [go_sem, g]
   refine pwgD_F hF (fun h5 hF => ?_) fun h5 hF => ?_
   ·try simp [go_sem, g, h5]
    exact pT (hj1 true) (Rn_some hF)
   ·try simp [go_sem, g, h5]
    refine pC hF [.sh] c_spec_vContest (fun z6 hF => ?_)
    try simp [go_sem, g, h5]
    refine pwgD_F hF (fun h7 hF => ?_) fun h7 hF => ?_
    ·try simp [go_sem, g, h7]
     exact pT (hj1 true) (Rn_some hF)
    ·try simp [go_sem, g, h7]
     refine pC hF [.sh] c_spec_bGreatest (fun z8 hF => ?_)
     try simp [go_sem, g, h7]
     refine pwgD_F hF (fun h9 hF => ?_) fun h9 hF => ?_
     ·try simp [go_sem, g, h9]
      exact pT (hj1 true) (Rn_some hF)
     ·try simp [go_sem, g, h9]
      refine pC hF [.sh] c_spec_bGreatest (fun z10 hF => ?_)
      try simp [go_sem, g, h9]
      exact pT (hj1 (decide (a0.Q ≤ z10))) (Rn_some hF)
def D101_3 : List DE := [d0 0 [0], d0 3 [0], d1 6 [3] 3, d2 7 [14] 3 14, d3 1 [8], d0 2 [9], d3 4 [11], d0 5 [10, 12], d0 8 [13, 15], d0 9 [16]]
noncomputable def F_spec_l1Cur_expo__io0 (a0c0 : (List Int)) (a0c1 : Int) (a0c2 : Int) (a1 : Group) : Option (Int × ((List Int) × Int × Int)) :=
  if decide (a1.Q < 2) = true then (
  some (0, (a0c0, a0c1, a0c2))) else (
  (F_spec_l1Cur_pick__io0 a0c0 a0c1 a0c2 60000).bind fun z2 =>
  (F_spec_l1Cur_pick__io0 z2.2.1 z2.2.2.1 z2.2.2.2 60000).bind fun z3 =>
  gd (a1.Q ≠ 0) <|
  some ((i64.wrap ((i64.wrap (z2.1 * 60000)) + z3.1)).tmod a1.Q, (z3.2.1, z3.2.2.1, z3.2.2.2)))
theorem c_spec_l1Cur_expo__io0 : ∀ {a0c0} {a0c1} {a0c2} {a1} {r}, F_spec_l1Cur_expo__io0 a0c0 a0c1 a0c2 a1 = some r → PCalls Tryz.prog 101 [(.io, .bx [.sl false 1 (a0c0.map row_u8), .int .i64 a0c1, .int .u64 a0c2]), (.sh, .agg [.int .i64 a1.P, .int .i64 a1.Q, .int .i64 a1.G])] (Eo (.int .i64 r.1) [.bx [.sl false 1 (r.2.1.map row_u8), .int .i64 r.2.2.1, .int .u64 r.2.2.2], .junk]) := by
  intro a0c0 a0c1 a0c2 a1 r hr
  apply pF 17 [0] [] [] [.tmp 4] hr cl101 Tryz.func101
  intro Φ hΦ hF g
  unfold F_spec_l1Cur_expo__io0 at hF
  iterate 2 (try simp [go_sem, g]; refine pw_wk ?_)
  repeat rw [sq]
  refine pI hF (fun h1 hF => ?_) (fun h1 hF => ?_)
  ·cases hΦ _ (Rn_some hF)
   try simp [go_sem, g]
   refine pw_wk ?_
   try simp [go_sem, g]
  ·try simp [go_sem, g]
   refine pw_wk ?_
   repeat rw [sq]
   refine pw_draw D101_3 follows (by kernel_rfl) rfl ?_
   try simp only [go_sem, D101_3]
   try simp [go_sem, g]
   refine pC hF [.io, .sh] c_spec_l1Cur_pick__io0 (fun z2 hF => ?_)
   try simp [go_sem, g]
   refine pC hF [.io, .sh] c_spec_l1Cur_pick__io0 (fun z3 hF => ?_)
   obtain ⟨g, hF⟩ := Rz g hF
   try simp [go_sem, g]
   refine pw_wkK [0, 4] (by simp [go_sem, g]; rfl) ?_
   cases hΦ _ (Rn_some hF)
   try simp [go_sem, g]
def D89_3 : List DE := [d2 0 [3] 3 3, d1 1 [3] 3, d2 2 [14] 3 14, d1 3 [3] 3, d2 4 [16] 3 16, d0 6 [0], d2 7 [3] 3 3, d3 5 [15, 17], d3 8 [19, 20], d3 9 [13, 18, 21], d0 10 [22]]
noncomputable def F_spec_l1Cur_element__io0 (a0c0 : (List Int)) (a0c1 : Int) (a0c2 : Int) (a1 : Group) : Option (Int × ((List Int) × Int × Int)) :=
  ((if decide (a1.P < 3) = true then (
  some true) else (
  some (decide (a1.Q < 1))) : Option (Bool)).bind fun x3 =>
  if x3 = true then (
  some (1, (a0c0, a0c1, a0c2))) else (
  (F_spec_nMod a1.G a1.P).bind fun z6 =>
  (F_spec_l1Cur_expo__io0 a0c0 a0c1 a0c2 a1).bind fun z7 =>
  (F_spec_gExp a1 z6 z7.1).bind fun z8 =>
  some (z8, (z7.2.1, z7.2.2.1, z7.2.2.2))))
theorem c_spec_l1Cur_element__io0 : ∀ {a0c0} {a0c1} {a0c2} {a1} {r}, F_spec_l1Cur_element__io0 a0c0 a0c1 a0c2 a1 = some r → PCalls Tryz.prog 89 [(.io, .bx [.sl false 1 (a0c0.map row_u8), .int .i64 a0c1, .int .u64 a0c2]), (.sh, .agg [.int .i64 a1.P, .int .i64 a1.Q, .int .i64 a1.G])] (Eo (.int .i64 r.1) [.bx [.sl false 1 (r.2.1.map row_u8), .int .i64 r.2.2.1, .int .u64 r.2.2.2], .junk]) := by
  intro a0c0 a0c1 a0c2 a1 r hr
  apply pF 23 [0] [] [] [.tmp 4] hr cl89 Tryz.func89
  intro Φ hΦ hF g
  unfold F_spec_l1Cur_element__io0 at hF
  try simp [go_sem, g]
  refine pw_wk ?_
  repeat rw [sq]
  refine pJ hF (fun x3 => [(0, .v (.bx [.sl false 1 (a0c0.map row_u8), .int .i64 a0c1, .int .u64 a0c2])), (3, .bl [.int .i64 a1.P, .int .i64 a1.Q, .int .i64 a1.G]), (12, .v (.bool x3))]) (fun x3 hF => ?_) fun _ hj1 hF => ?_
  ·repeat rw [sq]
   refine pI hF (fun h5 hF => ?_) (fun h5 hF => ?_)
   ·cases hΦ _ (Rn_some hF)
    try simp [go_sem, g]
    refine pw_wk ?_
    try simp [go_sem, g]
   ·try simp [go_sem, g]
    refine pw_wk ?_
    repeat rw [sq]
    refine pw_draw D89_3 follows (by kernel_rfl) rfl ?_
    try simp only [go_sem, D89_3]
    try simp [go_sem, g]
    refine pC hF [.sh, .sh] c_spec_nMod (fun z6 hF => ?_)
    try simp [go_sem, g]
    refine pC hF [.io, .sh] c_spec_l1Cur_expo__io0 (fun z7 hF => ?_)
    try simp [go_sem, g]
    refine pC hF [.sh, .sh, .sh] c_spec_gExp (fun z8 hF => ?_)
    try simp [go_sem, g]
    refine pw_wkK [0, 4] (by simp [go_sem, g]; rfl) ?_
    cases hΦ _ (Rn_some hF)
    try simp [go_sem, g]
  ·try simp [go_sem, g]
   refine pwg_F hF (fun h4 hF => ?_) fun h4 hF => ?_
   ·try simp [go_sem, g, h4]
    exact pT (hj1 true) (Rn_some hF)
   ·try simp [go_sem, g, h4]
    exact pT (hj1 (decide (a1.Q < 1))) (Rn_some hF)
def D70_10 : List DE := [d2 0 [5] 5 5, d0 1 [0], d2 2 [5] 5 5, d2 4 [6] 6 6, d3 3 [31, 32], d2 5 [2, 30] 2 2, d0 6 [33], d2 7 [4, 34] 4 4]
noncomputable def F_spec_l1Cur_booth__io0 (a0c0 : (List Int)) (a0c1 : Int) (a0c2 : Int) : Option (Group × Int × Contest × ((List Int) × Int × Int)) :=
  (F_spec_l1Cur_group__io0 a0c0 a0c1 a0c2).bind fun z1 =>
  (F_spec_l1Cur_contest__io0 z1.2.1 z1.2.2.1 z1.2.2.2).bind fun z2 =>
  ((wloop (σ := ((List Int) × Int × Int) × Int × Int × Int × Int × Int × Int) (fun s18 =>
  ((if decide (s18.2.2.2.2.2.2 < 8) = true then (
  (F_spec_bGood z1.1 (Contest.mk s18.2.1 s18.2.2.1 s18.2.2.2.1 s18.2.2.2.2.1 s18.2.2.2.2.2.1)).bind fun z27 =>
  some (!z27)) else (
  some false) : Option (Bool)).bind fun x25 =>
  if x25 = true then (
  (F_spec_l1Cur_contest__io0 s18.1.1 s18.1.2.1 s18.1.2.2).bind fun z29 =>
  some (.go ((z29.2.1, z29.2.2.1, z29.2.2.2), z29.1.Kind, z29.1.Options, z29.1.Least, z29.1.Most, z29.1.Points, i64.wrap (s18.2.2.2.2.2.2 + 1)))) else (
  some (.out ((s18.1.1, s18.1.2.1, s18.1.2.2), s18.2.1, s18.2.2.1, s18.2.2.2.1, s18.2.2.2.2.1, s18.2.2.2.2.2.1))))) ((z2.2.1, z2.2.2.1, z2.2.2.2), z2.1.Kind, z2.1.Options, z2.1.Least, z2.1.Most, z2.1.Points, 0) : Option ((((List Int) × Int × Int) × Int × Int × Int × Int × Int))).bind fun x5 =>
  (F_spec_bGood z1.1 (Contest.mk x5.2.1 x5.2.2.1 x5.2.2.2.1 x5.2.2.2.2.1 x5.2.2.2.2.2)).bind fun z32 =>
  ((if (!z32) = true then (
  some (23, 11, 2, 1, 2, 0, 1, 0)) else (
  some (z1.1.P, z1.1.Q, z1.1.G, x5.2.1, x5.2.2.1, x5.2.2.2.1, x5.2.2.2.2.1, x5.2.2.2.2.2)) : Option ((Int × Int × Int × Int × Int × Int × Int × Int))).bind fun x35 =>
  (F_spec_l1Cur_element__io0 x5.1.1 x5.1.2.1 x5.1.2.2 (Group.mk x35.1 x35.2.1 x35.2.2.1)).bind fun z37 =>
  some ((Group.mk x35.1 x35.2.1 x35.2.2.1), z37.1, (Contest.mk x35.2.2.2.1 x35.2.2.2.2.1 x35.2.2.2.2.2.1 x35.2.2.2.2.2.2.1 x35.2.2.2.2.2.2.2), (z37.2.1, z37.2.2.1, z37.2.2.2))))
theorem c_spec_l1Cur_booth__io0 : ∀ {a0c0} {a0c1} {a0c2} {r}, F_spec_l1Cur_booth__io0 a0c0 a0c1 a0c2 = some r → PCalls Tryz.prog 70 [(.io, .bx [.sl false 1 (a0c0.map row_u8), .int .i64 a0c1, .int .u64 a0c2])] (Eo (.tup [.agg [.int .i64 r.1.P, .int .i64 r.1.Q, .int .i64 r.1.G], .int .i64 r.2.1, .agg [.int .i64 r.2.2.1.Kind, .int .i64 r.2.2.1.Options, .int .i64 r.2.2.1.Least, .int .i64 r.2.2.1.Most, .int .i64 r.2.2.1.Points]]) [.bx [.sl false 1 (r.2.2.2.1.map row_u8), .int .i64 r.2.2.2.2.1, .int .u64 r.2.2.2.2.2]]) := by
  intro a0c0 a0c1 a0c2 r hr
  apply pF 35 [0] [] [] [.cell 2 25, .tmp 3, .cell 4 27] hr cl70 Tryz.func70
  intro Φ hΦ hF g
  unfold F_spec_l1Cur_booth__io0 at hF
  try simp [go_sem, g]
  refine pw_wk ?_
  try simp [go_sem, g]
  refine pC hF [.io] c_spec_l1Cur_group__io0 (fun z1 hF => ?_)
  try simp [go_sem, g]
  refine pw_wk ?_
  try simp [go_sem, g]
  refine pC hF [.io] c_spec_l1Cur_contest__io0 (fun z2 hF => ?_)
  try simp [go_sem, g]
  refine pw_wkK [0, 2, 4, 5, 6] (by simp [go_sem, g]; rfl) ?_
  try simp [go_sem, g]
  refine pw_wk ?_
  repeat rw [sq]
  refine pJ hF (fun x5 => [(0, .v (.bx [.sl false 1 (x5.1.1.map row_u8), .int .i64 x5.1.2.1, .int .u64 x5.1.2.2])), (2, .bl [.int .i64 0, .int .i64 0, .int .i64 0]), (4, .bl [.int .i64 0, .int .i64 0, .int .i64 0, .int .i64 0, .int .i64 0]), (5, .bl [.int .i64 z1.1.P, .int .i64 z1.1.Q, .int .i64 z1.1.G]), (6, .bl [.int .i64 x5.2.1, .int .i64 x5.2.2.1, .int .i64 x5.2.2.2.1, .int .i64 x5.2.2.2.2.1, .int .i64 x5.2.2.2.2.2])]) (fun x5 hF => ?_) fun _ hj3 hF => ?_
  ·try simp [go_sem, g]
   refine pC hF [.sh, .sh] c_spec_bGood (fun z32 hF => ?_)
   try simp [go_sem, g]
   refine pw_wk ?_
   repeat rw [sq]
   refine pJ hF (fun x35 => [(0, .v (.bx [.sl false 1 (x5.1.1.map row_u8), .int .i64 x5.1.2.1, .int .u64 x5.1.2.2])), (2, .bl [.int .i64 0, .int .i64 0, .int .i64 0]), (4, .bl [.int .i64 0, .int .i64 0, .int .i64 0, .int .i64 0, .int .i64 0]), (5, .bl [.int .i64 x35.1, .int .i64 x35.2.1, .int .i64 x35.2.2.1]), (6, .bl [.int .i64 x35.2.2.2.1, .int .i64 x35.2.2.2.2.1, .int .i64 x35.2.2.2.2.2.1, .int .i64 x35.2.2.2.2.2.2.1, .int .i64 x35.2.2.2.2.2.2.2])]) (fun x35 hF => ?_) fun _ hj33 hF => ?_
   ·repeat rw [sq]
    refine pw_draw D70_10 follows (by kernel_rfl) rfl ?_
    try simp only [go_sem, D70_10]
    try simp [go_sem, g]
    refine pC hF [.io, .sh] c_spec_l1Cur_element__io0 (fun z37 hF => ?_)
    try simp [go_sem, g]
    refine pw_wkK [0, 2, 3, 4] (by simp [go_sem, g]; rfl) ?_
    cases hΦ _ (Rn_some hF)
    try simp [go_sem, g]
   ·repeat rw [sq]
    refine pI hF (fun h36 hF => ?_) (fun h36 hF => ?_)
    ·try simp [go_sem, g]
     refine pw_wk ?_
     try simp [go_sem, g]
     exact pT (hj33 (23, 11, 2, 1, 2, 0, 1, 0)) (Rn_some hF)
    ·try simp [go_sem, g]
     exact pT (hj33 (z1.1.P, z1.1.Q, z1.1.G, x5.2.1, x5.2.2.1, x5.2.2.2.1, x5.2.2.2.2.1, x5.2.2.2.2.2)) (Rn_some hF)
  ·repeat rw [sq]
   rw [pw_block]
   obtain ⟨b30, hb31, hψ22⟩ := hF
   refine pL hb31 (fun s18 => [(0, .v (.bx [.sl false 1 (s18.1.1.map row_u8), .int .i64 s18.1.2.1, .int .u64 s18.1.2.2])), (2, .bl [.int .i64 0, .int .i64 0, .int .i64 0]), (4, .bl [.int .i64 0, .int .i64 0, .int .i64 0, .int .i64 0, .int .i64 0]), (5, .bl [.int .i64 z1.1.P, .int .i64 z1.1.Q, .int .i64 z1.1.G]), (6, .bl [.int .i64 s18.2.1, .int .i64 s18.2.2.1, .int .i64 s18.2.2.2.1, .int .i64 s18.2.2.2.2.1, .int .i64 s18.2.2.2.2.2.1]), (7, .v (.int .i64 s18.2.2.2.2.2.2))]) (fun s18 _ _ ho20 hg21 hF => ?_)
   repeat rw [sq]
   refine pJ hF (fun x25 => [(0, .v (.bx [.sl false 1 (s18.1.1.map row_u8), .int .i64 s18.1.2.1, .int .u64 s18.1.2.2])), (2, .bl [.int .i64 0, .int .i64 0, .int .i64 0]), (4, .bl [.int .i64 0, .int .i64 0, .int .i64 0, .int .i64 0, .int .i64 0]), (5, .bl [.int .i64 z1.1.P, .int .i64 z1.1.Q, .int .i64 z1.1.G]), (6, .bl [.int .i64 s18.2.1, .int .i64 s18.2.2.1, .int .i64 s18.2.2.2.1, .int .i64 s18.2.2.2.2.1, .int .i64 s18.2.2.2.2.2.1]), (7, .v (.int .i64 s18.2.2.2.2.2.2)), (19, .v (.bool x25))]) (fun x25 hF => ?_) fun _ hj23 hF => ?_
   ·repeat rw [sq]
    refine pI hF (fun h28 hF => ?_) (fun h28 hF => ?_)
    ·try simp [go_sem, g]
     refine pw_wk ?_
     repeat rw [sq]
     rw [pw_block]
     try simp [go_sem, g]
     refine pC hF [.io] c_spec_l1Cur_contest__io0 (fun z29 hF => ?_)
     try simp [go_sem, g]
     refine pw_wk ?_
     try simp [go_sem, g]
     exact pT (hg21 ((z29.2.1, z29.2.2.1, z29.2.2.2), z29.1.Kind, z29.1.Options, z29.1.Least, z29.1.Most, z29.1.Points, i64.wrap (s18.2.2.2.2.2.2 + 1))) (Rn_some hF)
    ·try simp [go_sem, g]
     cases ho20 _ (Rn_some hF)
     exact pT (hj3 ((s18.1.1, s18.1.2.1, s18.1.2.2), s18.2.1, s18.2.2.1, s18.2.2.2.1, s18.2.2.2.2.1, s18.2.2.2.2.2.1)) hψ22
   ·try simp [go_sem, g]
    refine pwg_F hF (fun h26 hF => ?_) fun h26 hF => ?_
    ·try simp [go_sem, g, h26]
     refine pC hF [.sh, .sh] c_spec_bGood (fun z27 hF => ?_)
     try simp [go_sem, g, h26]
     exact pT (hj23 (!z27)) (Rn_some hF)
    ·try simp [go_sem, g, h26]
     exact pT (hj23 false) (Rn_some hF)
noncomputable def F_spec_l3Digest (a0 : Int) : Option (Bool) :=
  (F_spec_l1In a0 0 4611686018427387903).bind fun z1 =>
  some z1
theorem c_spec_l3Digest : ∀ {a0} {r}, F_spec_l3Digest a0 = some r → PCalls Tryz.prog 39 [(.sh, .int .i64 a0)] (Eo (.bool r) [.junk]) := by
  intro a0 r hr
  apply pF 5 [] [] [] [.tmp 2] hr cl39 Tryz.func39
  intro Φ hΦ hF g
  unfold F_spec_l3Digest at hF
  try simp [go_sem, g]
  refine pw_wk ?_
  try simp [go_sem, g]
  refine pC hF [.sh, .sh, .sh] c_spec_l1In (fun z1 hF => ?_)
  cases hΦ _ (Rn_some hF)
  try simp [go_sem, g]
  refine pw_wk ?_
  try simp [go_sem, g]
noncomputable def F_spec_bTop (a0 : Contest) : Option (Int) :=
  if (a0.Kind == 1) = true then (
  some 1) else (
  some a0.Points)
theorem c_spec_bTop : ∀ {a0} {r}, F_spec_bTop a0 = some r → PCalls Tryz.prog 53 [(.sh, .agg [.int .i64 a0.Kind, .int .i64 a0.Options, .int .i64 a0.Least, .int .i64 a0.Most, .int .i64 a0.Points])] (Eo (.int .i64 r) [.junk]) := by
  intro a0 r hr
  apply pF 8 [] [] [] [.tmp 2] hr cl53 Tryz.func53
  intro Φ hΦ hF g
  unfold F_spec_bTop at hF
  iterate 2 (try simp [go_sem, g]; refine pw_wk ?_)
  repeat rw [sq]
  refine pI hF (fun h1 hF => ?_) (fun h1 hF => ?_)
  ·cases hΦ _ (Rn_some hF)
   try simp [go_sem, g]
   refine pw_wk ?_
   try simp [go_sem, g]
  ·cases hΦ _ (Rn_some hF)
   iterate 2 (try simp [go_sem, g]; refine pw_wk ?_)
   try simp [go_sem, g]
noncomputable def F_spec_l3With (a0 : ByteArray) (a1 : (List Int)) : Option ((List Int)) :=
  ((wloop (σ := (List Int) × Int) (fun s4 =>
  if decide (s4.2 < (a0.size : Int)) = true then (
  (ixs a0 s4.2).bind fun x10 =>
  gd ((s4.1.length + 1) * 8 ≤ 140737488355328 ∧ s4.1.length + 1 ≤ 4611686018427387904) <|
  some (.go (s4.1 ++ [i64.wrap x10], i64.wrap (s4.2 + 1)))) else (
  some (.out s4.1))) ([(a0.size : Int)], 0) : Option ((List Int))).bind fun x3 =>
  gd ((x3.length + a1.length) * 8 ≤ 140737488355328 ∧ x3.length + a1.length ≤ 4611686018427387904) <|
  some (x3 ++ a1))
theorem c_spec_l3With : ∀ {a0} {a1} {r}, F_spec_l3With a0 a1 = some r → PCalls Tryz.prog 88 [(.sh, .str a0), (.sh, .sl false 1 (a1.map row_i64))] (Eo (.sl true 1 (r.map row_i64)) [.junk, .junk]) := by
  intro a0 a1 r hr
  apply pF 26 [] [] [] [.tmp 4] hr cl88 Tryz.func88
  intro Φ hΦ hF g
  unfold F_spec_l3With at hF
  iterate 3 (try simp [go_sem, g]; refine pw_wk ?_)
  repeat rw [sq]
  refine pJ hF (fun x3 => [(1, .v (.sl false 1 (a1.map row_i64))), (5, .v (.sl true 1 (x3.map row_i64)))]) (fun x3 hF => ?_) fun _ hj1 hF => ?_
  ·obtain ⟨g, hF⟩ := Rg g hF
   try simp [go_sem, g]
   refine pw_wkK [4] (by simp [go_sem, g]; rfl) ?_
   cases hΦ _ (Rn_some hF)
   try simp [go_sem, g]
  ·repeat rw [sq]
   rw [pw_block]
   obtain ⟨b11, hb12, hψ8⟩ := hF
   refine pL hb12 (fun s4 => [(0, .v (.str a0)), (1, .v (.sl false 1 (a1.map row_i64))), (5, .v (.sl true 1 (s4.1.map row_i64))), (6, .v (.int .i64 s4.2))]) (fun s4 _ _ ho6 hg7 hF => ?_)
   try simp [go_sem, g]
   refine pw_wkK [0, 1, 5, 6, 13] (by simp [go_sem, g]; rfl) ?_
   repeat rw [sq]
   refine pI hF (fun h9 hF => ?_) (fun h9 hF => ?_)
   ·try simp [go_sem, g]
    refine pw_wk ?_
    repeat rw [sq]
    rw [pw_block]
    obtain ⟨x10, g, hF⟩ := Rxs g hF
    obtain ⟨g, hF⟩ := Rg g hF
    try simp [go_sem, g]
    refine pw_wk ?_
    try simp [go_sem, g]
    exact pT (hg7 (s4.1 ++ [i64.wrap x10], i64.wrap (s4.2 + 1))) (Rn_some hF)
   ·try simp [go_sem, g]
    cases ho6 _ (Rn_some hF)
    exact pT (hj1 s4.1) hψ8
noncomputable def F_spec_l3State_absorb__io0 (a0c0 : Int) (a0c1 : Int) (a1 : Int) : Option ((Int × Int)) :=
  (some [a1.tmod 2147483648, i64.wrap (a1.tdiv 2147483648)]).bind fun x1 =>
  wloop (σ := (Int × Int) × Int) (fun s10 =>
  if decide (s10.2 < (x1.length : Int)) = true then (
  (ix x1 s10.2).bind fun x16 =>
  some (.go (((i64.wrap ((i64.wrap ((i64.wrap (48271 * s10.1.1)) + x16)) + 1)).tmod 2147483647, (i64.wrap ((i64.wrap ((i64.wrap (69621 * s10.1.2)) + x16)) + 1)).tmod 2147483647), i64.wrap (s10.2 + 1)))) else (
  some (.out (s10.1.1, s10.1.2)))) ((a0c0, a0c1), 0)
theorem c_spec_l3State_absorb__io0 : ∀ {a0c0} {a0c1} {a1} {r}, F_spec_l3State_absorb__io0 a0c0 a0c1 a1 = some r → PCalls Tryz.prog 85 [(.io, .bx [.int .i64 a0c0, .int .i64 a0c1]), (.sh, .int .i64 a1)] (Eo (.junk) [.bx [.int .i64 r.1, .int .i64 r.2], .junk]) := by
  intro a0c0 a0c1 a1 r hr
  apply pF 41 [0] [] [] [] hr cl85 Tryz.func85
  intro Φ hΦ hF g
  unfold F_spec_l3State_absorb__io0 at hF
  have g := Ld g 2147483648
  obtain ⟨x1, e2, hF⟩ := Rn_bind hF
  have g := And.intro g (show [[.int .i64 (a1.tmod 2147483648)], [.int .i64 (i64.wrap (a1.tdiv 2147483648))]] = x1.map row_i64 by injection e2 with e2; rw [← e2]; simp [go_sem])
  try simp [go_sem, g]
  try intros
  refine pw_wk ?_
  repeat rw [sq]
  rw [pw_block]
  obtain ⟨b17, hb18, hψ14⟩ := hF
  refine pL hb18 (fun s10 => [(0, .v (.bx [.int .i64 s10.1.1, .int .i64 s10.1.2])), (10, .v (.sl true 1 (x1.map row_i64))), (11, .v (.int .i64 (x1.length : Int))), (12, .v (.int .i64 s10.2))]) (fun s10 _ _ ho12 hg13 hF => ?_)
  try simp [go_sem, g]
  refine pw_wk ?_
  repeat rw [sq]
  refine pI hF (fun h15 hF => ?_) (fun h15 hF => ?_)
  ·try simp [go_sem, g]
   refine pw_wk ?_
   repeat rw [sq]
   rw [pw_block]
   obtain ⟨x16, g, hF⟩ := Rx g hF
   try simp [go_sem, g]
   refine pw_wkK [0, 5, 10, 11, 12] (by simp [go_sem, g]; rfl) ?_
   have g := Ld g 2147483647
   try simp [go_sem, g]
   refine pw_wkK [0, 5, 10, 11, 12] (by simp [go_sem, g]; rfl) ?_
   try simp [go_sem, g]
   refine pw_wkK [0, 10, 11, 12] (by simp [go_sem, g]; rfl) ?_
   try simp [go_sem, g]
   exact pT (hg13 (((i64.wrap ((i64.wrap ((i64.wrap (48271 * s10.1.1)) + x16)) + 1)).tmod 2147483647, (i64.wrap ((i64.wrap ((i64.wrap (69621 * s10.1.2)) + x16)) + 1)).tmod 2147483647), i64.wrap (s10.2 + 1))) (Rn_some hF)
  ·cases ho12 _ (Rn_some hF)
   cases hΦ _ hψ14
   try simp [go_sem, g]
def D67_8 : List DE := [d0 0 [3], d0 1 [22], d0 2 [23], d0 3 [24], d0 4 [25], d0 5 [3], d0 6 [27], d0 7 [28], d0 8 [29], d0 9 [26, 30], d0 10 [31]]
noncomputable def F_spec_hInts (a0 : (List Int)) : Option (Int) :=
  (F_spec_l3State_absorb__io0 1 2 (a0.length : Int)).bind fun z1 =>
  ((rloop (σ := (Int × Int)) (fun i15 s14 =>
  (ix a0 i15).bind fun x21 =>
  (F_spec_l3State_absorb__io0 s14.1 s14.2 x21).bind fun z22 =>
  some (.go (z22.1, z22.2))) (fun s14 => (s14.1, s14.2)) (a0.length) 0 (z1.1, z1.2) : Option ((Int × Int))).bind fun x4 =>
  some (i64.wrap ((i64.wrap (x4.1 * 2147483648)) + x4.2)))
theorem c_spec_hInts : ∀ {a0} {r}, F_spec_hInts a0 = some r → PCalls Tryz.prog 67 [(.sh, .sl false 1 (a0.map row_i64))] (Eo (.int .i64 r) [.junk]) := by
  intro a0 r hr
  apply pF 32 [] [] [7] [.tmp 2] hr cl67 Tryz.func67
  intro Φ hΦ hF g
  unfold F_spec_hInts at hF
  iterate 2 (try simp [go_sem, g]; try intros; refine pw_wk ?_)
  try simp [go_sem, g]
  try intros
  refine pC hF [.io, .sh] c_spec_l3State_absorb__io0 (fun z1 hF => ?_)
  try simp [go_sem, g]
  try intros
  refine pw_wk ?_
  try simp [go_sem, g]
  try intros
  refine pw_wkK [3, 12, 13, 14] (by simp [go_sem, g]; rfl) ?_
  repeat rw [sq]
  refine pJ hF (fun x4 => [(3, .v (.bx [.int .i64 x4.1, .int .i64 x4.2]))]) (fun x4 hF => ?_) fun _ hj2 hF => ?_
  ·repeat rw [sq]
   refine pw_draw D67_8 follows (by kernel_rfl) rfl ?_
   try simp only [go_sem, D67_8]
   try simp [go_sem, g]
   refine pw_wkK [2] (by simp [go_sem, g]; rfl) ?_
   cases hΦ _ (Rn_some hF)
   try simp [go_sem, g]
  ·repeat rw [sq]
   rw [pw_block]
   obtain ⟨b23, hb24, hψ18⟩ := hF
   refine pR hb24 (fun i15 s14 => [(3, .v (.bx [.int .i64 s14.1, .int .i64 s14.2])), (12, .v (.sl false 1 (a0.map row_i64))), (13, .v (.int .i64 (a0.length : Int))), (14, .v (.int .i64 i15))]) (fun s14 _ hN25 => ?_) (fun i15 s14 _ _ hi19 hi20 ho16 hg17 hF => ?_)
   ·subst hN25
    try simp [go_sem]
    refine pw_wk ?_
    repeat rw [sq]
    refine pw_cond_f (by simp [go_sem]) ?_
    try simp [go_sem]
    exact pT (hj2 (s14.1, s14.2)) hψ18 (by simp [go_sem])
   ·try simp [go_sem, g]
    refine pw_wk ?_
    repeat rw [sq]
    refine pw_cond_t (by simp [go_sem, g, hi19, hi20]) ?_
    try simp [go_sem, g]
    refine pw_wk ?_
    repeat rw [sq]
    rw [pw_block]
    obtain ⟨x21, g, hF⟩ := Rx g hF
    try simp [go_sem, g]
    refine pw_wk ?_
    try simp [go_sem, g]
    refine pC hF [.io, .sh] c_spec_l3State_absorb__io0 (fun z22 hF => ?_)
    try simp [go_sem, g]
    refine pw_wk ?_
    try simp [go_sem, g]
    exact pT (hg17 (z22.1, z22.2)) (Rn_some hF) (by simp [go_sem, g, wr_i hi19 hi20 (by assumption)])
noncomputable def F_spec_hLabelled (a0 : ByteArray) (a1 : (List Int)) : Option (Int) :=
  (F_spec_l3With a0 a1).bind fun z1 =>
  (F_spec_hInts z1).bind fun z2 =>
  some z2
theorem c_spec_hLabelled : ∀ {a0} {a1} {r}, F_spec_hLabelled a0 a1 = some r → PCalls Tryz.prog 69 [(.sh, .str a0), (.sh, .sl false 1 (a1.map row_i64))] (Eo (.int .i64 r) [.junk, .junk]) := by
  intro a0 a1 r hr
  apply pF 9 [] [] [] [.tmp 4] hr cl69 Tryz.func69
  intro Φ hΦ hF g
  unfold F_spec_hLabelled at hF
  try simp [go_sem, g]
  refine pw_wk ?_
  try simp [go_sem, g]
  refine pC hF [.sh, .sh] c_spec_l3With (fun z1 hF => ?_)
  try simp [go_sem, g]
  refine pC hF [.sh] c_spec_hInts (fun z2 hF => ?_)
  cases hΦ _ (Rn_some hF)
  try simp [go_sem, g]
  refine pw_wk ?_
  try simp [go_sem, g]
def D96_4 : List DE := [d0 0 [1], d1 1 [3] 3, d2 2 [15] 3 15, d1 3 [3] 3, d2 4 [17] 3 17, d1 5 [3] 3, d2 6 [19] 3 19, d0 7 [2], d0 8 [7], d0 9 [16, 18, 20, 21, 22], d1 11 [3] 3, d2 12 [25] 3 25, d0 13 [26], ⟨10, [14, 23], [], none, true, true, true⟩, d0 14 [24, 27], d0 15 [28], d0 16 [29]]
def D96_5 : List DE := [d0 0 [8], d1 1 [3] 3, d2 2 [31] 3 31, d0 3 [32], d1 4 [3] 3, d2 5 [34] 3 34, d0 6 [33, 35], d1 7 [3] 3, d2 8 [37] 3 37, d3 9 [30, 36, 38], d0 10 [39]]
noncomputable def F_spec_hDerived (a0 : Group) (a1 : ByteArray) (a2 : Int) : Option (Int) :=
  ((wloop (σ := Int) (fun s4 =>
  if decide (s4 < 1000) = true then (
  (F_spec_hLabelled a1 [a0.P, a0.Q, a0.G, a2, s4]).bind fun z10 =>
  gd (i64.wrap (a0.P - 1) ≠ 0) <|
  gd (a0.Q ≠ 0) <|
  (F_spec_nPower (i64.wrap (1 + (z10.tmod (i64.wrap (a0.P - 1))))) (i64.wrap ((i64.wrap (a0.P - 1)).tdiv a0.Q)) a0.P).bind fun z11 =>
  if (z11 != 1) = true then (
  some (.out (.inr z11))) else (
  some (.go (i64.wrap (s4 + 1))))) else (
  some (.out (.inl ())))) 0 : Option (Unit ⊕ Int)).bind (Sum.elim (fun x3 =>
  some 0) some))
theorem c_spec_hDerived : ∀ {a0} {a1} {a2} {r}, F_spec_hDerived a0 a1 a2 = some r → PCalls Tryz.prog 96 [(.sh, .agg [.int .i64 a0.P, .int .i64 a0.Q, .int .i64 a0.G]), (.sh, .str a1), (.sh, .int .i64 a2)] (Eo (.int .i64 r) [.junk, .junk, .junk]) := by
  intro a0 a1 a2 r hr
  apply pF 43 [] [] [] [.tmp 6] hr cl96 Tryz.func96
  intro Φ hΦ hF g
  unfold F_spec_hDerived at hF
  iterate 2 (try simp [go_sem, g]; refine pw_wk ?_)
  repeat rw [sq]
  refine pJs hF (fun x3 => []) (fun x3 hF => ?_) fun _ hj1 hr2 hF => ?_
  ·cases hΦ _ (Rn_some hF)
   try simp [go_sem, g]
   refine pw_wk ?_
   try simp [go_sem, g]
  ·repeat rw [sq]
   rw [pw_block]
   obtain ⟨b13, hb14, hψ8⟩ := hF
   refine pL hb14 (fun s4 => [(1, .v (.str a1)), (2, .v (.int .i64 a2)), (3, .bl [.int .i64 a0.P, .int .i64 a0.Q, .int .i64 a0.G]), (7, .v (.int .i64 s4))]) (fun s4 _ _ ho6 hg7 hF => ?_)
   try simp [go_sem, g]
   refine pw_wk ?_
   repeat rw [sq]
   refine pI hF (fun h9 hF => ?_) (fun h9 hF => ?_)
   ·try simp [go_sem, g]
    refine pw_wk ?_
    repeat rw [sq]
    rw [pw_block]
    repeat rw [sq]
    refine pw_draw D96_4 follows (by kernel_rfl) rfl ?_
    try simp only [go_sem, D96_4]
    try simp [go_sem, g]
    refine pC hF [.sh, .sh] c_spec_hLabelled (fun z10 hF => ?_)
    obtain ⟨g, hF⟩ := Rz g hF
    try simp [go_sem, g]
    refine pw_wkK [1, 2, 3, 7, 8] (by simp [go_sem, g]; rfl) ?_
    repeat rw [sq]
    refine pw_draw D96_5 follows (by kernel_rfl) rfl ?_
    try simp only [go_sem, D96_5]
    obtain ⟨g, hF⟩ := Rz g hF
    try simp [go_sem, g]
    refine pC hF [.sh, .sh, .sh] c_spec_nPower (fun z11 hF => ?_)
    try simp [go_sem, g]
    refine pw_wkK [1, 2, 3, 7, 9] (by simp [go_sem, g]; rfl) ?_
    try simp [go_sem, g]
    refine pw_wk ?_
    repeat rw [sq]
    refine pI hF (fun h12 hF => ?_) (fun h12 hF => ?_)
    ·cases ho6 _ (Rn_some hF)
     cases hΦ _ (hr2 _ hψ8)
     try simp [go_sem, g]
     refine pw_wk ?_
     try simp [go_sem, g]
    ·try simp [go_sem, g]
     refine pw_wk ?_
     try simp [go_sem, g]
     exact pT (hg7 (i64.wrap (s4 + 1))) (Rn_some hF)
   ·try simp [go_sem, g]
    cases ho6 _ (Rn_some hF)
    exact pT (hj1 ()) hψ8
noncomputable def F_spec_DeriveElement (a0 : Group) (a1 : ByteArray) (a2 : Int) : Option (Int × Bool) :=
  (((F_spec_l2Good a0).bind fun z4 =>
  if (!z4) = true then (
  some true) else (
  if decide (40 < (a1.size : Int)) = true then (
  some true) else (
  (F_spec_l3Digest a2).bind fun z7 =>
  some (!z7))) : Option (Bool)).bind fun x3 =>
  if x3 = true then (
  some (0, false)) else (
  (F_spec_hDerived a0 a1 a2).bind fun z9 =>
  some (z9, decide (0 < z9))))
theorem c_spec_DeriveElement : ∀ {a0} {a1} {a2} {r}, F_spec_DeriveElement a0 a1 a2 = some r → PCalls Tryz.prog 81 [(.sh, .agg [.int .i64 a0.P, .int .i64 a0.Q, .int .i64 a0.G]), (.sh, .str a1), (.sh, .int .i64 a2)] (Eo (.tup [.int .i64 r.1, .bool r.2]) [.junk, .junk, .junk]) := by
  intro a0 a1 a2 r hr
  apply pF 29 [] [] [] [.tmp 6, .tmp 7] hr cl81 Tryz.func81
  intro Φ hΦ hF g
  unfold F_spec_DeriveElement at hF
  try simp [go_sem, g]
  refine pw_wk ?_
  repeat rw [sq]
  refine pJ hF (fun x3 => [(1, .v (.str a1)), (2, .v (.int .i64 a2)), (3, .bl [.int .i64 a0.P, .int .i64 a0.Q, .int .i64 a0.G]), (21, .v (.bool x3))]) (fun x3 hF => ?_) fun _ hj1 hF => ?_
  ·repeat rw [sq]
   refine pI hF (fun h8 hF => ?_) (fun h8 hF => ?_)
   ·cases hΦ _ (Rn_some hF)
    try simp [go_sem, g]
    refine pw_wk ?_
    try simp [go_sem, g]
   ·try simp [go_sem, g]
    refine pw_wk ?_
    try simp [go_sem, g]
    refine pC hF [.sh, .sh, .sh] c_spec_hDerived (fun z9 hF => ?_)
    try simp [go_sem, g]
    refine pw_wk ?_
    try simp [go_sem, g]
    refine pw_wkK [6, 7] (by simp [go_sem, g]; rfl) ?_
    cases hΦ _ (Rn_some hF)
    try simp [go_sem, g]
  ·try simp [go_sem, g]
   refine pC hF [.sh] c_spec_l2Good (fun z4 hF => ?_)
   try simp [go_sem, g]
   refine pwg_F hF (fun h5 hF => ?_) fun h5 hF => ?_
   ·try simp [go_sem, g, h5]
    exact pT (hj1 true) (Rn_some hF)
   ·try simp [go_sem, g, h5]
    refine pwg_F hF (fun h6 hF => ?_) fun h6 hF => ?_
    ·try simp [go_sem, g, h6]
     exact pT (hj1 true) (Rn_some hF)
    ·try simp [go_sem, g, h6]
     refine pC hF [.sh] c_spec_l3Digest (fun z7 hF => ?_)
     try simp [go_sem, g, h6]
     exact pT (hj1 (!z7)) (Rn_some hF)
noncomputable def F_spec_DeriveElements (a0 : Group) (a1 : ByteArray) (a2 : Int) : Option ((List Int) × Bool) :=
  (((F_spec_l2Good a0).bind fun z4 =>
  if (!z4) = true then (
  some true) else (
  if decide (40 < (a1.size : Int)) = true then (
  some true) else (
  (F_spec_l1In a2 0 100).bind fun z7 =>
  some (!z7))) : Option (Bool)).bind fun x3 =>
  if x3 = true then (
  some ([], false)) else (
  ((wloop (σ := (List Int) × Int) (fun s12 =>
  if decide (s12.2 < a2) = true then (
  (F_spec_hDerived a0 a1 s12.2).bind fun z18 =>
  if (z18 == 0) = true then (
  some (.out (.inr ([], false)))) else (
  gd ((s12.1.length + 1) * 8 ≤ 140737488355328 ∧ s12.1.length + 1 ≤ 4611686018427387904) <|
  some (.go (s12.1 ++ [z18], i64.wrap (s12.2 + 1))))) else (
  some (.out (.inl s12.1)))) ([], 0) : Option ((List Int) ⊕ ((List Int) × Bool))).bind (Sum.elim (fun x11 =>
  some (x11, true)) some))))
theorem c_spec_DeriveElements : ∀ {a0} {a1} {a2} {r}, F_spec_DeriveElements a0 a1 a2 = some r → PCalls Tryz.prog 82 [(.sh, .agg [.int .i64 a0.P, .int .i64 a0.Q, .int .i64 a0.G]), (.sh, .str a1), (.sh, .int .i64 a2)] (Eo (.tup [.sl true 1 (r.1.map row_i64), .bool r.2]) [.junk, .junk, .junk]) := by
  intro a0 a1 a2 r hr
  apply pF 40 [] [] [] [.tmp 6, .tmp 7] hr cl82 Tryz.func82
  intro Φ hΦ hF g
  unfold F_spec_DeriveElements at hF
  try simp [go_sem, g]
  refine pw_wk ?_
  repeat rw [sq]
  refine pJ hF (fun x3 => [(1, .v (.str a1)), (2, .v (.int .i64 a2)), (3, .bl [.int .i64 a0.P, .int .i64 a0.Q, .int .i64 a0.G]), (23, .v (.bool x3))]) (fun x3 hF => ?_) fun _ hj1 hF => ?_
  ·repeat rw [sq]
   refine pI hF (fun h8 hF => ?_) (fun h8 hF => ?_)
   ·cases hΦ _ (Rn_some hF)
    try simp [go_sem, g]
    refine pw_wk ?_
    try simp [go_sem, g]
   ·iterate 3 (try simp [go_sem, g]; refine pw_wk ?_)
    repeat rw [sq]
    refine pJs hF (fun x11 => [(8, .v (.sl true 1 (x11.map row_i64)))]) (fun x11 hF => ?_) fun _ hj9 hr10 hF => ?_
    ·cases hΦ _ (Rn_some hF)
     try simp [go_sem, g]
     refine pw_wk ?_
     try simp [go_sem, g]
    ·repeat rw [sq]
     rw [pw_block]
     obtain ⟨b20, hb21, hψ16⟩ := hF
     refine pL hb21 (fun s12 => [(1, .v (.str a1)), (2, .v (.int .i64 a2)), (3, .bl [.int .i64 a0.P, .int .i64 a0.Q, .int .i64 a0.G]), (8, .v (.sl true 1 (s12.1.map row_i64))), (9, .v (.int .i64 s12.2))]) (fun s12 _ _ ho14 hg15 hF => ?_)
     try simp [go_sem, g]
     refine pw_wk ?_
     repeat rw [sq]
     refine pI hF (fun h17 hF => ?_) (fun h17 hF => ?_)
     ·try simp [go_sem, g]
      refine pw_wk ?_
      repeat rw [sq]
      rw [pw_block]
      try simp [go_sem, g]
      refine pC hF [.sh, .sh, .sh] c_spec_hDerived (fun z18 hF => ?_)
      try simp [go_sem, g]
      refine pw_wkK [1, 2, 3, 8, 9, 10] (by simp [go_sem, g]; rfl) ?_
      try simp [go_sem, g]
      refine pw_wk ?_
      repeat rw [sq]
      refine pI hF (fun h19 hF => ?_) (fun h19 hF => ?_)
      ·cases ho14 _ (Rn_some hF)
       cases hΦ _ (hr10 _ hψ16)
       try simp [go_sem, g]
       refine pw_wk ?_
       try simp [go_sem, g]
      ·obtain ⟨g, hF⟩ := Rg g hF
       iterate 2 (try simp [go_sem, g]; refine pw_wk ?_)
       try simp [go_sem, g]
       exact pT (hg15 (s12.1 ++ [z18], i64.wrap (s12.2 + 1))) (Rn_some hF)
     ·try simp [go_sem, g]
      cases ho14 _ (Rn_some hF)
      exact pT (hj9 s12.1) hψ16
  ·try simp [go_sem, g]
   refine pC hF [.sh] c_spec_l2Good (fun z4 hF => ?_)
   try simp [go_sem, g]
   refine pwg_F hF (fun h5 hF => ?_) fun h5 hF => ?_
   ·try simp [go_sem, g, h5]
    exact pT (hj1 true) (Rn_some hF)
   ·try simp [go_sem, g, h5]
    refine pwg_F hF (fun h6 hF => ?_) fun h6 hF => ?_
    ·try simp [go_sem, g, h6]
     exact pT (hj1 true) (Rn_some hF)
    ·try simp [go_sem, g, h6]
     refine pC hF [.sh, .sh, .sh] c_spec_l1In (fun z7 hF => ?_)
     try simp [go_sem, g, h6]
     exact pT (hj1 (!z7)) (Rn_some hF)
noncomputable def F_spec_BasesOf (a0 : Group) (a1 : Int) : Option (Bases × Bool) :=
  (((F_spec_l2Good a0).bind fun z4 =>
  if (!z4) = true then (
  some true) else (
  (F_spec_l1In a1 0 24).bind fun z6 =>
  some (!z6)) : Option (Bool)).bind fun x3 =>
  if x3 = true then (
  some ((Bases.mk 0 []), false)) else (
  (F_spec_DeriveElement a0 (⟨#[104]⟩ : ByteArray) 0).bind fun z8 =>
  (F_spec_DeriveElements a0 (⟨#[104, 115]⟩ : ByteArray) a1).bind fun z9 =>
  ((if (!z8.2) = true then (
  some true) else (
  some (!z9.2)) : Option (Bool)).bind fun x12 =>
  if x12 = true then (
  some ((Bases.mk 0 []), false)) else (
  some ((Bases.mk z8.1 z9.1), true)))))
theorem c_spec_BasesOf : ∀ {a0} {a1} {r}, F_spec_BasesOf a0 a1 = some r → PCalls Tryz.prog 54 [(.sh, .agg [.int .i64 a0.P, .int .i64 a0.Q, .int .i64 a0.G]), (.sh, .int .i64 a1)] (Eo (.tup [.agg [.int .i64 r.1.H, .sl true 1 (r.1.Hs.map row_i64)], .bool r.2]) [.junk, .junk]) := by
  intro a0 a1 r hr
  apply pF 40 [] [] [] [.cell 4 71, .tmp 5] hr cl54 Tryz.func54
  intro Φ hΦ hF g
  unfold F_spec_BasesOf at hF
  try simp [go_sem, g]
  refine pw_wk ?_
  repeat rw [sq]
  refine pJ hF (fun x3 => [(1, .v (.int .i64 a1)), (2, .bl [.int .i64 a0.P, .int .i64 a0.Q, .int .i64 a0.G]), (4, .bl [.int .i64 0, .sl true 1 []]), (17, .v (.bool x3))]) (fun x3 hF => ?_) fun _ hj1 hF => ?_
  ·repeat rw [sq]
   refine pI hF (fun h7 hF => ?_) (fun h7 hF => ?_)
   ·cases hΦ _ (Rn_some hF)
    try simp [go_sem, g]
    refine pw_wk ?_
    try simp [go_sem, g]
   ·try simp [go_sem, g]
    refine pw_wk ?_
    try simp [go_sem, g]
    refine pC hF [.sh, .sh, .sh] c_spec_DeriveElement (fun z8 hF => ?_)
    try simp [go_sem, g]
    refine pw_wkK [1, 2, 4, 6, 7] (by simp [go_sem, g]; rfl) ?_
    try simp [go_sem, g]
    refine pC hF [.sh, .sh, .sh] c_spec_DeriveElements (fun z9 hF => ?_)
    try simp [go_sem, g]
    refine pw_wk ?_
    repeat rw [sq]
    refine pJ hF (fun x12 => [(4, .bl [.int .i64 0, .sl true 1 []]), (6, .v (.int .i64 z8.1)), (8, .v (.sl true 1 (z9.1.map row_i64))), (35, .v (.bool x12))]) (fun x12 hF => ?_) fun _ hj10 hF => ?_
    ·repeat rw [sq]
     refine pI hF (fun h14 hF => ?_) (fun h14 hF => ?_)
     ·try simp [go_sem, g]
      refine pw_wkK [4, 5] (by simp [go_sem, g]; rfl) ?_
      cases hΦ _ (Rn_some hF)
      try simp [go_sem, g]
     ·try simp [go_sem, g]
      refine pw_wk ?_
      try simp [go_sem, g]
      refine pw_wkK [4, 5] (by simp [go_sem, g]; rfl) ?_
      cases hΦ _ (Rn_some hF)
      try simp [go_sem, g]
    ·try simp [go_sem, g]
     refine pwg_F hF (fun h13 hF => ?_) fun h13 hF => ?_
     ·try simp [go_sem, g, h13]
      exact pT (hj10 true) (Rn_some hF)
     ·try simp [go_sem, g, h13]
      exact pT (hj10 (!z9.2)) (Rn_some hF)
  ·try simp [go_sem, g]
   refine pC hF [.sh] c_spec_l2Good (fun z4 hF => ?_)
   try simp [go_sem, g]
   refine pwg_F hF (fun h5 hF => ?_) fun h5 hF => ?_
   ·try simp [go_sem, g, h5]
    exact pT (hj1 true) (Rn_some hF)
   ·try simp [go_sem, g, h5]
    refine pC hF [.sh, .sh, .sh] c_spec_l1In (fun z6 hF => ?_)
    try simp [go_sem, g, h5]
    exact pT (hj1 (!z6)) (Rn_some hF)
def D21_3 : List DE := [d1 0 [1] 1, d2 1 [48] 1 48, d3 2 [49], d0 3 [50], d1 4 [1, 51] 1, d2 5 [52, 51] 1 52, d1 6 [1, 51] 1, d2 7 [54, 51] 1 54, d1 10 [1, 51] 1, d1 11 [58, 51] 1, d2 12 [59, 51] 1 59, d3 8 [55, 51], d0 9 [53, 56, 51], d0 13 [57, 60, 51], d0 14 [51, 61]]
noncomputable def F_spec_nPlan (a0 : Plan) : Option (Bool) :=
  (((F_spec_bGood a0.Gr a0.Ct).bind fun z4 =>
  if (!z4) = true then (
  some true) else (
  (F_spec_l1In a0.Threshold 1 a0.Trustees).bind fun z6 =>
  if (!z6) = true then (
  some true) else (
  if decide (4 < a0.Trustees) = true then (
  some true) else (
  if decide (a0.Gr.Q ≤ 7) = true then (
  some true) else (
  (F_spec_l1In a0.Mixers 0 3).bind fun z10 =>
  if (!z10) = true then (
  some true) else (
  (F_spec_l1In a0.Voters 1 12).bind fun z12 =>
  if (!z12) = true then (
  some true) else (
  (F_spec_l3Digest a0.Seed).bind fun z14 =>
  some (!z14))))))) : Option (Bool)).bind fun x3 =>
  if x3 = true then (
  some false) else (
  (((F_spec_bRows a0.Ct).bind fun z19 =>
  if z19 = true then (
  (F_spec_bTop a0.Ct).bind fun z21 =>
  some (decide (a0.Gr.Q ≤ (i64.wrap (a0.Voters * z21))))) else (
  some false) : Option (Bool)).bind fun x18 =>
  if x18 = true then (
  some false) else (
  (F_spec_BasesOf a0.Gr 12).bind fun z23 =>
  some z23.2))))
theorem c_spec_nPlan : ∀ {a0} {r}, F_spec_nPlan a0 = some r → PCalls Tryz.prog 21 [(.sh, .agg [.int .i64 a0.Gr.P, .int .i64 a0.Gr.Q, .int .i64 a0.Gr.G, .int .i64 a0.Ct.Kind, .int .i64 a0.Ct.Options, .int .i64 a0.Ct.Least, .int .i64 a0.Ct.Most, .int .i64 a0.Ct.Points, .int .i64 a0.Threshold, .int .i64 a0.Trustees, .int .i64 a0.Mixers, .int .i64 a0.Voters, .int .i64 a0.Seed])] (Eo (.bool r) [.junk]) := by
  intro a0 r hr
  apply pF 70 [] [] [] [.tmp 2] hr cl21 Tryz.func21
  intro Φ hΦ hF g
  unfold F_spec_nPlan at hF
  try simp [go_sem, g]
  refine pw_wk ?_
  repeat rw [sq]
  refine pJ hF (fun x3 => [(1, .bl [.int .i64 a0.Gr.P, .int .i64 a0.Gr.Q, .int .i64 a0.Gr.G, .int .i64 a0.Ct.Kind, .int .i64 a0.Ct.Options, .int .i64 a0.Ct.Least, .int .i64 a0.Ct.Most, .int .i64 a0.Ct.Points, .int .i64 a0.Threshold, .int .i64 a0.Trustees, .int .i64 a0.Mixers, .int .i64 a0.Voters, .int .i64 a0.Seed]), (47, .v (.bool x3))]) (fun x3 hF => ?_) fun _ hj1 hF => ?_
  ·repeat rw [sq]
   refine pI hF (fun h15 hF => ?_) (fun h15 hF => ?_)
   ·cases hΦ _ (Rn_some hF)
    try simp [go_sem, g]
    refine pw_wk ?_
    try simp [go_sem, g]
   ·try simp [go_sem, g]
    refine pw_wk ?_
    repeat rw [sq]
    refine pJ hF (fun x18 => [(1, .bl [.int .i64 a0.Gr.P, .int .i64 a0.Gr.Q, .int .i64 a0.Gr.G, .int .i64 a0.Ct.Kind, .int .i64 a0.Ct.Options, .int .i64 a0.Ct.Least, .int .i64 a0.Ct.Most, .int .i64 a0.Ct.Points, .int .i64 a0.Threshold, .int .i64 a0.Trustees, .int .i64 a0.Mixers, .int .i64 a0.Voters, .int .i64 a0.Seed]), (62, .v (.bool x18))]) (fun x18 hF => ?_) fun _ hj16 hF => ?_
    ·repeat rw [sq]
     refine pI hF (fun h22 hF => ?_) (fun h22 hF => ?_)
     ·cases hΦ _ (Rn_some hF)
      try simp [go_sem, g]
      refine pw_wk ?_
      try simp [go_sem, g]
     ·try simp [go_sem, g]
      refine pw_wk ?_
      try simp [go_sem, g]
      refine pC hF [.sh, .sh] c_spec_BasesOf (fun z23 hF => ?_)
      try simp [go_sem, g]
      refine pw_wkK [4] (by simp [go_sem, g]; rfl) ?_
      cases hΦ _ (Rn_some hF)
      try simp [go_sem, g]
      refine pw_wk ?_
      try simp [go_sem, g]
    ·repeat rw [sq]
     refine pw_draw D21_3 follows (by kernel_rfl) rfl ?_
     try simp only [go_sem, D21_3]
     try simp [go_sem, g]
     refine pC hF [.sh] c_spec_bRows (fun z19 hF => ?_)
     try simp [go_sem, g]
     refine pwgD_F hF (fun h20 hF => ?_) fun h20 hF => ?_
     ·try simp [go_sem, g, h20]
      refine pC hF [.sh] c_spec_bTop (fun z21 hF => ?_)
      try simp [go_sem, g, h20]
      exact pT (hj16 (decide (a0.Gr.Q ≤ (i64.wrap (a0.Voters * z21))))) (Rn_some hF)
     ·try simp [go_sem, g, h20]
      exact pT (hj16 false) (Rn_some hF)
  ·try simp [go_sem, g]
   refine pC hF [.sh, .sh] c_spec_bGood (fun z4 hF => ?_)
   try simp [go_sem, g]
   refine pwg_F hF (fun h5 hF => ?_) fun h5 hF => ?_
   ·try simp [go_sem, g, h5]
    exact pT (hj1 true) (Rn_some hF)
   ·try simp [go_sem, g, h5]
    refine pC hF [.sh, .sh, .sh] c_spec_l1In (fun z6 hF => ?_)
    try simp [go_sem, g, h5]
    refine pwg_F hF (fun h7 hF => ?_) fun h7 hF => ?_
    ·try simp [go_sem, g, h7]
     exact pT (hj1 true) (Rn_some hF)
    ·try simp [go_sem, g, h7]
     refine pwg_F hF (fun h8 hF => ?_) fun h8 hF => ?_
     ·try simp [go_sem, g, h8]
      exact pT (hj1 true) (Rn_some hF)
     ·try simp [go_sem, g, h8]
      refine pwg_F hF (fun h9 hF => ?_) fun h9 hF => ?_
      ·try simp [go_sem, g, h9]
       exact pT (hj1 true) (Rn_some hF)
      ·try simp [go_sem, g, h9]
       refine pC hF [.sh, .sh, .sh] c_spec_l1In (fun z10 hF => ?_)
       try simp [go_sem, g, h9]
       refine pwg_F hF (fun h11 hF => ?_) fun h11 hF => ?_
       ·try simp [go_sem, g, h11]
        exact pT (hj1 true) (Rn_some hF)
       ·try simp [go_sem, g, h11]
        refine pC hF [.sh, .sh, .sh] c_spec_l1In (fun z12 hF => ?_)
        try simp [go_sem, g, h11]
        refine pwg_F hF (fun h13 hF => ?_) fun h13 hF => ?_
        ·try simp [go_sem, g, h13]
         exact pT (hj1 true) (Rn_some hF)
        ·try simp [go_sem, g, h13]
         refine pC hF [.sh] c_spec_l3Digest (fun z14 hF => ?_)
         try simp [go_sem, g, h13]
         exact pT (hj1 (!z14)) (Rn_some hF)
noncomputable def F_spec_l1Cur_plan__io0 (a0c0 : (List Int)) (a0c1 : Int) (a0c2 : Int) : Option (Plan × ((List Int) × Int × Int)) :=
  (F_spec_l1Cur_pick__io0 a0c0 a0c1 a0c2 60000).bind fun z1 =>
  (F_spec_l1Cur_booth__io0 z1.2.1 z1.2.2.1 z1.2.2.2).bind fun z2 =>
  (F_spec_l1Least 3 (i64.wrap (z2.1.Q - 1))).bind fun z3 =>
  (F_spec_l1Cur_pick__io0 z2.2.2.2.1 z2.2.2.2.2.1 z2.2.2.2.2.2 z3).bind fun z4 =>
  (F_spec_l1Cur_pick__io0 z4.2.1 z4.2.2.1 z4.2.2.2 (i64.wrap (1 + z4.1))).bind fun z5 =>
  (F_spec_l1Cur_pick__io0 z5.2.1 z5.2.2.1 z5.2.2.2 3).bind fun z6 =>
  (F_spec_l1Cur_pick__io0 z6.2.1 z6.2.2.1 z6.2.2.2 4).bind fun z7 =>
  (F_spec_nPlan (Plan.mk z2.1 z2.2.2.1 (i64.wrap (1 + z5.1)) (i64.wrap (1 + z4.1)) z6.1 (i64.wrap (1 + z7.1)) z1.1)).bind fun z8 =>
  ((if (!z8) = true then (
  some (1000000007, 500000003, 4, z2.2.2.1.Kind, z2.2.2.1.Options, z2.2.2.1.Least, z2.2.2.1.Most, z2.2.2.1.Points, i64.wrap (1 + z5.1), i64.wrap (1 + z4.1), z6.1, i64.wrap (1 + z7.1), z1.1)) else (
  some (z2.1.P, z2.1.Q, z2.1.G, z2.2.2.1.Kind, z2.2.2.1.Options, z2.2.2.1.Least, z2.2.2.1.Most, z2.2.2.1.Points, i64.wrap (1 + z5.1), i64.wrap (1 + z4.1), z6.1, i64.wrap (1 + z7.1), z1.1)) : Option ((Int × Int × Int × Int × Int × Int × Int × Int × Int × Int × Int × Int × Int))).bind fun x11 =>
  (F_spec_nPlan (Plan.mk (Group.mk x11.1 x11.2.1 x11.2.2.1) (Contest.mk x11.2.2.2.1 x11.2.2.2.2.1 x11.2.2.2.2.2.1 x11.2.2.2.2.2.2.1 x11.2.2.2.2.2.2.2.1) x11.2.2.2.2.2.2.2.2.1 x11.2.2.2.2.2.2.2.2.2.1 x11.2.2.2.2.2.2.2.2.2.2.1 x11.2.2.2.2.2.2.2.2.2.2.2.1 x11.2.2.2.2.2.2.2.2.2.2.2.2)).bind fun z13 =>
  ((if (!z13) = true then (
  some (x11.1, x11.2.1, x11.2.2.1, 1, 2, 0, 1, 0, x11.2.2.2.2.2.2.2.2.1, x11.2.2.2.2.2.2.2.2.2.1, x11.2.2.2.2.2.2.2.2.2.2.1, x11.2.2.2.2.2.2.2.2.2.2.2.1, x11.2.2.2.2.2.2.2.2.2.2.2.2)) else (
  some (x11.1, x11.2.1, x11.2.2.1, x11.2.2.2.1, x11.2.2.2.2.1, x11.2.2.2.2.2.1, x11.2.2.2.2.2.2.1, x11.2.2.2.2.2.2.2.1, x11.2.2.2.2.2.2.2.2.1, x11.2.2.2.2.2.2.2.2.2.1, x11.2.2.2.2.2.2.2.2.2.2.1, x11.2.2.2.2.2.2.2.2.2.2.2.1, x11.2.2.2.2.2.2.2.2.2.2.2.2)) : Option ((Int × Int × Int × Int × Int × Int × Int × Int × Int × Int × Int × Int × Int))).bind fun x16 =>
  some ((Plan.mk (Group.mk x16.1 x16.2.1 x16.2.2.1) (Contest.mk x16.2.2.2.1 x16.2.2.2.2.1 x16.2.2.2.2.2.1 x16.2.2.2.2.2.2.1 x16.2.2.2.2.2.2.2.1) x16.2.2.2.2.2.2.2.2.1 x16.2.2.2.2.2.2.2.2.2.1 x16.2.2.2.2.2.2.2.2.2.2.1 x16.2.2.2.2.2.2.2.2.2.2.2.1 x16.2.2.2.2.2.2.2.2.2.2.2.2), (z7.2.1, z7.2.2.1, z7.2.2.2))))
theorem c_spec_l1Cur_plan__io0 : ∀ {a0c0} {a0c1} {a0c2} {r}, F_spec_l1Cur_plan__io0 a0c0 a0c1 a0c2 = some r → PCalls Tryz.prog 41 [(.io, .bx [.sl false 1 (a0c0.map row_u8), .int .i64 a0c1, .int .u64 a0c2])] (Eo (.agg [.int .i64 r.1.Gr.P, .int .i64 r.1.Gr.Q, .int .i64 r.1.Gr.G, .int .i64 r.1.Ct.Kind, .int .i64 r.1.Ct.Options, .int .i64 r.1.Ct.Least, .int .i64 r.1.Ct.Most, .int .i64 r.1.Ct.Points, .int .i64 r.1.Threshold, .int .i64 r.1.Trustees, .int .i64 r.1.Mixers, .int .i64 r.1.Voters, .int .i64 r.1.Seed]) [.bx [.sl false 1 (r.2.1.map row_u8), .int .i64 r.2.2.1, .int .u64 r.2.2.2]]) := by
  intro a0c0 a0c1 a0c2 r hr
  apply pF 48 [0] [] [] [.cell 2 29] hr cl41 Tryz.func41
  intro Φ hΦ hF g
  unfold F_spec_l1Cur_plan__io0 at hF
  try simp [go_sem, g]
  refine pw_wk ?_
  try simp [go_sem, g]
  refine pC hF [.io, .sh] c_spec_l1Cur_pick__io0 (fun z1 hF => ?_)
  try simp [go_sem, g]
  refine pw_wk ?_
  try simp [go_sem, g]
  refine pC hF [.io] c_spec_l1Cur_booth__io0 (fun z2 hF => ?_)
  try simp [go_sem, g]
  refine pw_wkK [0, 2, 3] (by simp [go_sem, g]; rfl) ?_
  try simp [go_sem, g]
  refine pC hF [.sh, .sh] c_spec_l1Least (fun z3 hF => ?_)
  try simp [go_sem, g]
  refine pC hF [.io, .sh] c_spec_l1Cur_pick__io0 (fun z4 hF => ?_)
  try simp [go_sem, g]
  refine pw_wkK [0, 2, 3] (by simp [go_sem, g]; rfl) ?_
  try simp [go_sem, g]
  refine pC hF [.io, .sh] c_spec_l1Cur_pick__io0 (fun z5 hF => ?_)
  try simp [go_sem, g]
  refine pw_wk ?_
  try simp [go_sem, g]
  refine pC hF [.io, .sh] c_spec_l1Cur_pick__io0 (fun z6 hF => ?_)
  try simp [go_sem, g]
  refine pw_wkK [0, 2, 3] (by simp [go_sem, g]; rfl) ?_
  try simp [go_sem, g]
  refine pC hF [.io, .sh] c_spec_l1Cur_pick__io0 (fun z7 hF => ?_)
  try simp [go_sem, g]
  refine pw_wk ?_
  try simp [go_sem, g]
  refine pC hF [.sh] c_spec_nPlan (fun z8 hF => ?_)
  try simp [go_sem, g]
  refine pw_wk ?_
  repeat rw [sq]
  refine pJ hF (fun x11 => [(0, .v (.bx [.sl false 1 (z7.2.1.map row_u8), .int .i64 z7.2.2.1, .int .u64 z7.2.2.2])), (2, .bl [.int .i64 0, .int .i64 0, .int .i64 0, .int .i64 0, .int .i64 0, .int .i64 0, .int .i64 0, .int .i64 0, .int .i64 0, .int .i64 0, .int .i64 0, .int .i64 0, .int .i64 0]), (3, .bl [.int .i64 x11.1, .int .i64 x11.2.1, .int .i64 x11.2.2.1, .int .i64 x11.2.2.2.1, .int .i64 x11.2.2.2.2.1, .int .i64 x11.2.2.2.2.2.1, .int .i64 x11.2.2.2.2.2.2.1, .int .i64 x11.2.2.2.2.2.2.2.1, .int .i64 x11.2.2.2.2.2.2.2.2.1, .int .i64 x11.2.2.2.2.2.2.2.2.2.1, .int .i64 x11.2.2.2.2.2.2.2.2.2.2.1, .int .i64 x11.2.2.2.2.2.2.2.2.2.2.2.1, .int .i64 x11.2.2.2.2.2.2.2.2.2.2.2.2])]) (fun x11 hF => ?_) fun _ hj9 hF => ?_
  ·try simp [go_sem, g]
   refine pC hF [.sh] c_spec_nPlan (fun z13 hF => ?_)
   try simp [go_sem, g]
   refine pw_wkK [0, 2, 3, 44] (by simp [go_sem, g]; rfl) ?_
   repeat rw [sq]
   refine pJ hF (fun x16 => [(0, .v (.bx [.sl false 1 (z7.2.1.map row_u8), .int .i64 z7.2.2.1, .int .u64 z7.2.2.2])), (2, .bl [.int .i64 0, .int .i64 0, .int .i64 0, .int .i64 0, .int .i64 0, .int .i64 0, .int .i64 0, .int .i64 0, .int .i64 0, .int .i64 0, .int .i64 0, .int .i64 0, .int .i64 0]), (3, .bl [.int .i64 x16.1, .int .i64 x16.2.1, .int .i64 x16.2.2.1, .int .i64 x16.2.2.2.1, .int .i64 x16.2.2.2.2.1, .int .i64 x16.2.2.2.2.2.1, .int .i64 x16.2.2.2.2.2.2.1, .int .i64 x16.2.2.2.2.2.2.2.1, .int .i64 x16.2.2.2.2.2.2.2.2.1, .int .i64 x16.2.2.2.2.2.2.2.2.2.1, .int .i64 x16.2.2.2.2.2.2.2.2.2.2.1, .int .i64 x16.2.2.2.2.2.2.2.2.2.2.2.1, .int .i64 x16.2.2.2.2.2.2.2.2.2.2.2.2])]) (fun x16 hF => ?_) fun _ hj14 hF => ?_
   ·cases hΦ _ (Rn_some hF)
    try simp [go_sem, g]
    refine pw_wk ?_
    try simp [go_sem, g]
   ·repeat rw [sq]
    refine pI hF (fun h17 hF => ?_) (fun h17 hF => ?_)
    ·try simp [go_sem, g]
     exact pT (hj14 (x11.1, x11.2.1, x11.2.2.1, 1, 2, 0, 1, 0, x11.2.2.2.2.2.2.2.2.1, x11.2.2.2.2.2.2.2.2.2.1, x11.2.2.2.2.2.2.2.2.2.2.1, x11.2.2.2.2.2.2.2.2.2.2.2.1, x11.2.2.2.2.2.2.2.2.2.2.2.2)) (Rn_some hF)
    ·try simp [go_sem, g]
     exact pT (hj14 (x11.1, x11.2.1, x11.2.2.1, x11.2.2.2.1, x11.2.2.2.2.1, x11.2.2.2.2.2.1, x11.2.2.2.2.2.2.1, x11.2.2.2.2.2.2.2.1, x11.2.2.2.2.2.2.2.2.1, x11.2.2.2.2.2.2.2.2.2.1, x11.2.2.2.2.2.2.2.2.2.2.1, x11.2.2.2.2.2.2.2.2.2.2.2.1, x11.2.2.2.2.2.2.2.2.2.2.2.2)) (Rn_some hF)
  ·repeat rw [sq]
   refine pI hF (fun h12 hF => ?_) (fun h12 hF => ?_)
   ·try simp [go_sem, g]
    exact pT (hj9 (1000000007, 500000003, 4, z2.2.2.1.Kind, z2.2.2.1.Options, z2.2.2.1.Least, z2.2.2.1.Most, z2.2.2.1.Points, i64.wrap (1 + z5.1), i64.wrap (1 + z4.1), z6.1, i64.wrap (1 + z7.1), z1.1)) (Rn_some hF)
   ·try simp [go_sem, g]
    exact pT (hj9 (z2.1.P, z2.1.Q, z2.1.G, z2.2.2.1.Kind, z2.2.2.1.Options, z2.2.2.1.Least, z2.2.2.1.Most, z2.2.2.1.Points, i64.wrap (1 + z5.1), i64.wrap (1 + z4.1), z6.1, i64.wrap (1 + z7.1), z1.1)) (Rn_some hF)
noncomputable def F_spec_l1Cur_anyGroup__io0 (a0c0 : (List Int)) (a0c1 : Int) (a0c2 : Int) : Option (Group × ((List Int) × Int × Int)) :=
  (F_spec_l1Cur_group__io0 a0c0 a0c1 a0c2).bind fun z1 =>
  (F_spec_l1Cur_pick__io0 z1.2.1 z1.2.2.1 z1.2.2.2 24).bind fun z2 =>
  ((if (z2.1 == 0) = true then (
  (F_spec_l1Cur_among__io0_mv1 z2.2.1 z2.2.2.1 z2.2.2.2 [0, i64.wrap (z1.1.P + 2), 4, (-7)]).bind fun z7 =>
  some ((z7.2.1, z7.2.2.1, z7.2.2.2), z7.1, z1.1.Q, z1.1.G)) else (
  if (z2.1 == 1) = true then (
  (F_spec_l1Cur_among__io0_mv1 z2.2.1 z2.2.2.1 z2.2.2.2 [0, 1, i64.wrap (z1.1.Q + 1), i64.wrap (z1.1.P - 1)]).bind fun z9 =>
  some ((z9.2.1, z9.2.2.1, z9.2.2.2), z1.1.P, z9.1, z1.1.G)) else (
  if (z2.1 == 2) = true then (
  (F_spec_l1Cur_among__io0_mv1 z2.2.1 z2.2.2.1 z2.2.2.2 [0, 1, i64.wrap (z1.1.P - 1), z1.1.P, i64.wrap (z1.1.G + 1)]).bind fun z11 =>
  some ((z11.2.1, z11.2.2.1, z11.2.2.2), z1.1.P, z1.1.Q, z11.1)) else (
  some ((z2.2.1, z2.2.2.1, z2.2.2.2), z1.1.P, z1.1.Q, z1.1.G)))) : Option ((((List Int) × Int × Int) × Int × Int × Int))).bind fun x5 =>
  some ((Group.mk x5.2.1 x5.2.2.1 x5.2.2.2), (x5.1.1, x5.1.2.1, x5.1.2.2)))
theorem c_spec_l1Cur_anyGroup__io0 : ∀ {a0c0} {a0c1} {a0c2} {r}, F_spec_l1Cur_anyGroup__io0 a0c0 a0c1 a0c2 = some r → PCalls Tryz.prog 42 [(.io, .bx [.sl false 1 (a0c0.map row_u8), .int .i64 a0c1, .int .u64 a0c2])] (Eo (.agg [.int .i64 r.1.P, .int .i64 r.1.Q, .int .i64 r.1.G]) [.bx [.sl false 1 (r.2.1.map row_u8), .int .i64 r.2.2.1, .int .u64 r.2.2.2]]) := by
  intro a0c0 a0c1 a0c2 r hr
  apply pF 44 [0] [] [] [.cell 2 25] hr cl42 Tryz.func42
  intro Φ hΦ hF g
  unfold F_spec_l1Cur_anyGroup__io0 at hF
  try simp [go_sem, g]
  refine pw_wk ?_
  try simp [go_sem, g]
  refine pC hF [.io] c_spec_l1Cur_group__io0 (fun z1 hF => ?_)
  try simp [go_sem, g]
  refine pw_wk ?_
  try simp [go_sem, g]
  refine pC hF [.io, .sh] c_spec_l1Cur_pick__io0 (fun z2 hF => ?_)
  try simp [go_sem, g]
  refine pw_wk ?_
  repeat rw [sq]
  refine pJ hF (fun x5 => [(0, .v (.bx [.sl false 1 (x5.1.1.map row_u8), .int .i64 x5.1.2.1, .int .u64 x5.1.2.2])), (2, .bl [.int .i64 0, .int .i64 0, .int .i64 0]), (3, .bl [.int .i64 x5.2.1, .int .i64 x5.2.2.1, .int .i64 x5.2.2.2])]) (fun x5 hF => ?_) fun _ hj3 hF => ?_
  ·cases hΦ _ (Rn_some hF)
   try simp [go_sem, g]
   refine pw_wk ?_
   try simp [go_sem, g]
  ·repeat rw [sq]
   rw [pw_block]
   try simp [go_sem, g]
   refine pw_wk ?_
   repeat rw [sq]
   refine pI hF (fun h6 hF => ?_) (fun h6 hF => ?_)
   ·try simp [go_sem, g]
    refine pC hF [.io, .mv] c_spec_l1Cur_among__io0_mv1 (fun z7 hF => ?_)
    try simp [go_sem, g]
    exact pT (hj3 ((z7.2.1, z7.2.2.1, z7.2.2.2), z7.1, z1.1.Q, z1.1.G)) (Rn_some hF)
   ·try simp [go_sem, g]
    refine pw_wkK [0, 2, 3, 7, 17] (by simp [go_sem, g]; rfl) ?_
    repeat rw [sq]
    refine pI hF (fun h8 hF => ?_) (fun h8 hF => ?_)
    ·try simp [go_sem, g]
     refine pC hF [.io, .mv] c_spec_l1Cur_among__io0_mv1 (fun z9 hF => ?_)
     try simp [go_sem, g]
     exact pT (hj3 ((z9.2.1, z9.2.2.1, z9.2.2.2), z1.1.P, z9.1, z1.1.G)) (Rn_some hF)
    ·try simp [go_sem, g]
     refine pw_wk ?_
     repeat rw [sq]
     refine pI hF (fun h10 hF => ?_) (fun h10 hF => ?_)
     ·try simp [go_sem, g]
      refine pC hF [.io, .mv] c_spec_l1Cur_among__io0_mv1 (fun z11 hF => ?_)
      try simp [go_sem, g]
      exact pT (hj3 ((z11.2.1, z11.2.2.1, z11.2.2.2), z1.1.P, z1.1.Q, z11.1)) (Rn_some hF)
     ·try simp [go_sem, g]
      exact pT (hj3 ((z2.2.1, z2.2.2.1, z2.2.2.2), z1.1.P, z1.1.Q, z1.1.G)) (Rn_some hF)
noncomputable def F_spec_l1Cur_anyContest__io0 (a0c0 : (List Int)) (a0c1 : Int) (a0c2 : Int) : Option (Contest × ((List Int) × Int × Int)) :=
  (F_spec_l1Cur_contest__io0 a0c0 a0c1 a0c2).bind fun z1 =>
  (F_spec_l1Cur_pick__io0 z1.2.1 z1.2.2.1 z1.2.2.2 20).bind fun z2 =>
  ((if (z2.1 == 0) = true then (
  (F_spec_l1Cur_among__io0_mv1 z2.2.1 z2.2.2.1 z2.2.2.2 [0, 5, 4, 1]).bind fun z7 =>
  some ((z7.2.1, z7.2.2.1, z7.2.2.2), z7.1, z1.1.Options, z1.1.Least, z1.1.Most, z1.1.Points)) else (
  if (z2.1 == 1) = true then (
  (F_spec_l1Cur_among__io0_mv1 z2.2.1 z2.2.2.1 z2.2.2.2 [0, 9, (-1), 8]).bind fun z9 =>
  some ((z9.2.1, z9.2.2.1, z9.2.2.2), z1.1.Kind, z9.1, z1.1.Least, z1.1.Most, z1.1.Points)) else (
  if (z2.1 == 2) = true then (
  (F_spec_l1Cur_among__io0_mv1 z2.2.1 z2.2.2.1 z2.2.2.2 [(-1), z1.1.Most, i64.wrap (z1.1.Most + 1)]).bind fun z11 =>
  some ((z11.2.1, z11.2.2.1, z11.2.2.2), z1.1.Kind, z1.1.Options, z11.1, z1.1.Most, z1.1.Points)) else (
  if (z2.1 == 3) = true then (
  (F_spec_l1Cur_among__io0_mv1 z2.2.1 z2.2.2.1 z2.2.2.2 [0, 5, 6, 40, 41, 8, 9]).bind fun z13 =>
  some ((z13.2.1, z13.2.2.1, z13.2.2.2), z1.1.Kind, z1.1.Options, z1.1.Least, z13.1, z1.1.Points)) else (
  if (z2.1 == 4) = true then (
  (F_spec_l1Cur_among__io0_mv1 z2.2.1 z2.2.2.1 z2.2.2.2 [0, 5, 6, (-1)]).bind fun z15 =>
  some ((z15.2.1, z15.2.2.1, z15.2.2.2), z1.1.Kind, z1.1.Options, z1.1.Least, z1.1.Most, z15.1)) else (
  some ((z2.2.1, z2.2.2.1, z2.2.2.2), z1.1.Kind, z1.1.Options, z1.1.Least, z1.1.Most, z1.1.Points)))))) : Option ((((List Int) × Int × Int) × Int × Int × Int × Int × Int))).bind fun x5 =>
  some ((Contest.mk x5.2.1 x5.2.2.1 x5.2.2.2.1 x5.2.2.2.2.1 x5.2.2.2.2.2), (x5.1.1, x5.1.2.1, x5.1.2.2)))
theorem c_spec_l1Cur_anyContest__io0 : ∀ {a0c0} {a0c1} {a0c2} {r}, F_spec_l1Cur_anyContest__io0 a0c0 a0c1 a0c2 = some r → PCalls Tryz.prog 43 [(.io, .bx [.sl false 1 (a0c0.map row_u8), .int .i64 a0c1, .int .u64 a0c2])] (Eo (.agg [.int .i64 r.1.Kind, .int .i64 r.1.Options, .int .i64 r.1.Least, .int .i64 r.1.Most, .int .i64 r.1.Points]) [.bx [.sl false 1 (r.2.1.map row_u8), .int .i64 r.2.2.1, .int .u64 r.2.2.2]]) := by
  intro a0c0 a0c1 a0c2 r hr
  apply pF 44 [0] [] [] [.cell 2 27] hr cl43 Tryz.func43
  intro Φ hΦ hF g
  unfold F_spec_l1Cur_anyContest__io0 at hF
  try simp [go_sem, g]
  refine pw_wk ?_
  try simp [go_sem, g]
  refine pC hF [.io] c_spec_l1Cur_contest__io0 (fun z1 hF => ?_)
  try simp [go_sem, g]
  refine pw_wk ?_
  try simp [go_sem, g]
  refine pC hF [.io, .sh] c_spec_l1Cur_pick__io0 (fun z2 hF => ?_)
  try simp [go_sem, g]
  refine pw_wk ?_
  repeat rw [sq]
  refine pJ hF (fun x5 => [(0, .v (.bx [.sl false 1 (x5.1.1.map row_u8), .int .i64 x5.1.2.1, .int .u64 x5.1.2.2])), (2, .bl [.int .i64 0, .int .i64 0, .int .i64 0, .int .i64 0, .int .i64 0]), (3, .bl [.int .i64 x5.2.1, .int .i64 x5.2.2.1, .int .i64 x5.2.2.2.1, .int .i64 x5.2.2.2.2.1, .int .i64 x5.2.2.2.2.2])]) (fun x5 hF => ?_) fun _ hj3 hF => ?_
  ·cases hΦ _ (Rn_some hF)
   try simp [go_sem, g]
   refine pw_wk ?_
   try simp [go_sem, g]
  ·repeat rw [sq]
   rw [pw_block]
   try simp [go_sem, g]
   refine pw_wk ?_
   repeat rw [sq]
   refine pI hF (fun h6 hF => ?_) (fun h6 hF => ?_)
   ·try simp [go_sem, g]
    refine pC hF [.io, .mv] c_spec_l1Cur_among__io0_mv1 (fun z7 hF => ?_)
    try simp [go_sem, g]
    exact pT (hj3 ((z7.2.1, z7.2.2.1, z7.2.2.2), z7.1, z1.1.Options, z1.1.Least, z1.1.Most, z1.1.Points)) (Rn_some hF)
   ·try simp [go_sem, g]
    refine pw_wkK [0, 2, 3, 7, 14] (by simp [go_sem, g]; rfl) ?_
    repeat rw [sq]
    refine pI hF (fun h8 hF => ?_) (fun h8 hF => ?_)
    ·try simp [go_sem, g]
     refine pC hF [.io, .mv] c_spec_l1Cur_among__io0_mv1 (fun z9 hF => ?_)
     try simp [go_sem, g]
     exact pT (hj3 ((z9.2.1, z9.2.2.1, z9.2.2.2), z1.1.Kind, z9.1, z1.1.Least, z1.1.Most, z1.1.Points)) (Rn_some hF)
    ·try simp [go_sem, g]
     refine pw_wk ?_
     repeat rw [sq]
     refine pI hF (fun h10 hF => ?_) (fun h10 hF => ?_)
     ·try simp [go_sem, g]
      refine pC hF [.io, .mv] c_spec_l1Cur_among__io0_mv1 (fun z11 hF => ?_)
      try simp [go_sem, g]
      exact pT (hj3 ((z11.2.1, z11.2.2.1, z11.2.2.2), z1.1.Kind, z1.1.Options, z11.1, z1.1.Most, z1.1.Points)) (Rn_some hF)
     ·try simp [go_sem, g]
      refine pw_wk ?_
      repeat rw [sq]
      refine pI hF (fun h12 hF => ?_) (fun h12 hF => ?_)
      ·try simp [go_sem, g]
       refine pC hF [.io, .mv] c_spec_l1Cur_among__io0_mv1 (fun z13 hF => ?_)
       try simp [go_sem, g]
       exact pT (hj3 ((z13.2.1, z13.2.2.1, z13.2.2.2), z1.1.Kind, z1.1.Options, z1.1.Least, z13.1, z1.1.Points)) (Rn_some hF)
      ·try simp [go_sem, g]
       refine pw_wk ?_
       repeat rw [sq]
       refine pI hF (fun h14 hF => ?_) (fun h14 hF => ?_)
       ·try simp [go_sem, g]
        refine pC hF [.io, .mv] c_spec_l1Cur_among__io0_mv1 (fun z15 hF => ?_)
        try simp [go_sem, g]
        exact pT (hj3 ((z15.2.1, z15.2.2.1, z15.2.2.2), z1.1.Kind, z1.1.Options, z1.1.Least, z1.1.Most, z15.1)) (Rn_some hF)
       ·try simp [go_sem, g]
        exact pT (hj3 ((z2.2.1, z2.2.2.1, z2.2.2.2), z1.1.Kind, z1.1.Options, z1.1.Least, z1.1.Most, z1.1.Points)) (Rn_some hF)
noncomputable def F_spec_l1Cur_digest__io0 (a0c0 : (List Int)) (a0c1 : Int) (a0c2 : Int) : Option (Int × ((List Int) × Int × Int)) :=
  (F_spec_l1Cur_pick__io0 a0c0 a0c1 a0c2 16).bind fun z1 =>
  if (z1.1 == 0) = true then (
  (F_spec_l1Cur_among__io0_mv1 z1.2.1 z1.2.2.1 z1.2.2.2 [(-1), 4611686018427387903, 4611686018427387904, 2147483648, 2147483647, 2147483647]).bind fun z3 =>
  some (z3.1, (z3.2.1, z3.2.2.1, z3.2.2.2))) else (
  ((if (z1.1 == 1) = true then (
  some (z1.1 == 1)) else (
  if (z1.1 == 2) = true then (
  some (z1.1 == 2)) else (
  some (z1.1 == 3))) : Option (Bool)).bind fun x6 =>
  if x6 = true then (
  (F_spec_l1Cur_pick__io0 z1.2.1 z1.2.2.1 z1.2.2.2 60000).bind fun z10 =>
  (F_spec_hInts [z10.1]).bind fun z11 =>
  some (z11, (z10.2.1, z10.2.2.1, z10.2.2.2))) else (
  (F_spec_l1Cur_pick__io0 z1.2.1 z1.2.2.1 z1.2.2.2 200).bind fun z12 =>
  some (z12.1, (z12.2.1, z12.2.2.1, z12.2.2.2)))))
theorem c_spec_l1Cur_digest__io0 : ∀ {a0c0} {a0c1} {a0c2} {r}, F_spec_l1Cur_digest__io0 a0c0 a0c1 a0c2 = some r → PCalls Tryz.prog 34 [(.io, .bx [.sl false 1 (a0c0.map row_u8), .int .i64 a0c1, .int .u64 a0c2])] (Eo (.int .i64 r.1) [.bx [.sl false 1 (r.2.1.map row_u8), .int .i64 r.2.2.1, .int .u64 r.2.2.2]]) := by
  intro a0c0 a0c1 a0c2 r hr
  apply pF 20 [0] [] [] [.tmp 2] hr cl34 Tryz.func34
  intro Φ hΦ hF g
  unfold F_spec_l1Cur_digest__io0 at hF
  try simp [go_sem, g]
  refine pw_wk ?_
  try simp [go_sem, g]
  refine pC hF [.io, .sh] c_spec_l1Cur_pick__io0 (fun z1 hF => ?_)
  try simp [go_sem, g]
  refine pw_wk ?_
  repeat rw [sq]
  rw [pw_block]
  try simp [go_sem, g]
  refine pw_wk ?_
  repeat rw [sq]
  refine pI hF (fun h2 hF => ?_) (fun h2 hF => ?_)
  ·try simp [go_sem, g]
   refine pC hF [.io, .mv] c_spec_l1Cur_among__io0_mv1 (fun z3 hF => ?_)
   cases hΦ _ (Rn_some hF)
   try simp [go_sem, g]
   refine pw_wk ?_
   try simp [go_sem, g]
  ·try simp [go_sem, g]
   refine pw_wk ?_
   repeat rw [sq]
   refine pJ hF (fun x6 => [(0, .v (.bx [.sl false 1 (z1.2.1.map row_u8), .int .i64 z1.2.2.1, .int .u64 z1.2.2.2])), (10, .v (.bool x6))]) (fun x6 hF => ?_) fun _ hj4 hF => ?_
   ·repeat rw [sq]
    refine pI hF (fun h9 hF => ?_) (fun h9 hF => ?_)
    ·try simp [go_sem, g]
     refine pC hF [.io, .sh] c_spec_l1Cur_pick__io0 (fun z10 hF => ?_)
     try simp [go_sem, g]
     refine pC hF [.sh] c_spec_hInts (fun z11 hF => ?_)
     try simp [go_sem, g]
     refine pw_wkK [0, 2] (by simp [go_sem, g]; rfl) ?_
     cases hΦ _ (Rn_some hF)
     try simp [go_sem, g]
    ·try simp [go_sem, g]
     refine pw_wk ?_
     try simp [go_sem, g]
     refine pC hF [.io, .sh] c_spec_l1Cur_pick__io0 (fun z12 hF => ?_)
     try simp [go_sem, g]
     refine pw_wkK [0, 2] (by simp [go_sem, g]; rfl) ?_
     cases hΦ _ (Rn_some hF)
     try simp [go_sem, g]
   ·repeat rw [sq]
    refine pI hF (fun h7 hF => ?_) (fun h7 hF => ?_)
    ·try simp [go_sem, g]
     exact pT (hj4 (z1.1 == 1)) (Rn_some hF)
    ·try simp [go_sem, g]
     refine pw_wk ?_
     repeat rw [sq]
     refine pI hF (fun h8 hF => ?_) (fun h8 hF => ?_)
     ·try simp [go_sem, g]
      exact pT (hj4 (z1.1 == 2)) (Rn_some hF)
     ·try simp [go_sem, g]
      exact pT (hj4 (z1.1 == 3)) (Rn_some hF)
noncomputable def F_spec_l1Cur_anyPlan__io0 (a0c0 : (List Int)) (a0c1 : Int) (a0c2 : Int) : Option (Plan × ((List Int) × Int × Int)) :=
  (F_spec_l1Cur_plan__io0 a0c0 a0c1 a0c2).bind fun z1 =>
  (F_spec_l1Cur_pick__io0 z1.2.1 z1.2.2.1 z1.2.2.2 24).bind fun z2 =>
  ((if (z2.1 == 0) = true then (
  (F_spec_l1Cur_anyGroup__io0 z2.2.1 z2.2.2.1 z2.2.2.2).bind fun z7 =>
  some ((z7.2.1, z7.2.2.1, z7.2.2.2), z7.1.P, z7.1.Q, z7.1.G, z1.1.Ct.Kind, z1.1.Ct.Options, z1.1.Ct.Least, z1.1.Ct.Most, z1.1.Ct.Points, z1.1.Threshold, z1.1.Trustees, z1.1.Mixers, z1.1.Voters, z1.1.Seed)) else (
  if (z2.1 == 1) = true then (
  (F_spec_l1Cur_anyContest__io0 z2.2.1 z2.2.2.1 z2.2.2.2).bind fun z9 =>
  some ((z9.2.1, z9.2.2.1, z9.2.2.2), z1.1.Gr.P, z1.1.Gr.Q, z1.1.Gr.G, z9.1.Kind, z9.1.Options, z9.1.Least, z9.1.Most, z9.1.Points, z1.1.Threshold, z1.1.Trustees, z1.1.Mixers, z1.1.Voters, z1.1.Seed)) else (
  if (z2.1 == 2) = true then (
  (F_spec_l1Cur_among__io0_mv1 z2.2.1 z2.2.2.1 z2.2.2.2 [0, i64.wrap (z1.1.Trustees + 1)]).bind fun z11 =>
  some ((z11.2.1, z11.2.2.1, z11.2.2.2), z1.1.Gr.P, z1.1.Gr.Q, z1.1.Gr.G, z1.1.Ct.Kind, z1.1.Ct.Options, z1.1.Ct.Least, z1.1.Ct.Most, z1.1.Ct.Points, z11.1, z1.1.Trustees, z1.1.Mixers, z1.1.Voters, z1.1.Seed)) else (
  if (z2.1 == 3) = true then (
  (F_spec_l1Cur_among__io0_mv1 z2.2.1 z2.2.2.1 z2.2.2.2 [0, 4, 5]).bind fun z13 =>
  some ((z13.2.1, z13.2.2.1, z13.2.2.2), z1.1.Gr.P, z1.1.Gr.Q, z1.1.Gr.G, z1.1.Ct.Kind, z1.1.Ct.Options, z1.1.Ct.Least, z1.1.Ct.Most, z1.1.Ct.Points, z1.1.Threshold, z13.1, z1.1.Mixers, z1.1.Voters, z1.1.Seed)) else (
  if (z2.1 == 4) = true then (
  (F_spec_l1Cur_among__io0_mv1 z2.2.1 z2.2.2.1 z2.2.2.2 [(-1), 3, 4]).bind fun z15 =>
  some ((z15.2.1, z15.2.2.1, z15.2.2.2), z1.1.Gr.P, z1.1.Gr.Q, z1.1.Gr.G, z1.1.Ct.Kind, z1.1.Ct.Options, z1.1.Ct.Least, z1.1.Ct.Most, z1.1.Ct.Points, z1.1.Threshold, z1.1.Trustees, z15.1, z1.1.Voters, z1.1.Seed)) else (
  if (z2.1 == 5) = true then (
  (F_spec_l1Cur_among__io0_mv1 z2.2.1 z2.2.2.1 z2.2.2.2 [0, 12, 13]).bind fun z17 =>
  some ((z17.2.1, z17.2.2.1, z17.2.2.2), z1.1.Gr.P, z1.1.Gr.Q, z1.1.Gr.G, z1.1.Ct.Kind, z1.1.Ct.Options, z1.1.Ct.Least, z1.1.Ct.Most, z1.1.Ct.Points, z1.1.Threshold, z1.1.Trustees, z1.1.Mixers, z17.1, z1.1.Seed)) else (
  if (z2.1 == 6) = true then (
  (F_spec_l1Cur_digest__io0 z2.2.1 z2.2.2.1 z2.2.2.2).bind fun z19 =>
  some ((z19.2.1, z19.2.2.1, z19.2.2.2), z1.1.Gr.P, z1.1.Gr.Q, z1.1.Gr.G, z1.1.Ct.Kind, z1.1.Ct.Options, z1.1.Ct.Least, z1.1.Ct.Most, z1.1.Ct.Points, z1.1.Threshold, z1.1.Trustees, z1.1.Mixers, z1.1.Voters, z19.1)) else (
  some ((z2.2.1, z2.2.2.1, z2.2.2.2), z1.1.Gr.P, z1.1.Gr.Q, z1.1.Gr.G, z1.1.Ct.Kind, z1.1.Ct.Options, z1.1.Ct.Least, z1.1.Ct.Most, z1.1.Ct.Points, z1.1.Threshold, z1.1.Trustees, z1.1.Mixers, z1.1.Voters, z1.1.Seed)))))))) : Option ((((List Int) × Int × Int) × Int × Int × Int × Int × Int × Int × Int × Int × Int × Int × Int × Int × Int))).bind fun x5 =>
  some ((Plan.mk (Group.mk x5.2.1 x5.2.2.1 x5.2.2.2.1) (Contest.mk x5.2.2.2.2.1 x5.2.2.2.2.2.1 x5.2.2.2.2.2.2.1 x5.2.2.2.2.2.2.2.1 x5.2.2.2.2.2.2.2.2.1) x5.2.2.2.2.2.2.2.2.2.1 x5.2.2.2.2.2.2.2.2.2.2.1 x5.2.2.2.2.2.2.2.2.2.2.2.1 x5.2.2.2.2.2.2.2.2.2.2.2.2.1 x5.2.2.2.2.2.2.2.2.2.2.2.2.2), (x5.1.1, x5.1.2.1, x5.1.2.2)))
theorem c_spec_l1Cur_anyPlan__io0 : ∀ {a0c0} {a0c1} {a0c2} {r}, F_spec_l1Cur_anyPlan__io0 a0c0 a0c1 a0c2 = some r → PCalls Tryz.prog 16 [(.io, .bx [.sl false 1 (a0c0.map row_u8), .int .i64 a0c1, .int .u64 a0c2])] (Eo (.agg [.int .i64 r.1.Gr.P, .int .i64 r.1.Gr.Q, .int .i64 r.1.Gr.G, .int .i64 r.1.Ct.Kind, .int .i64 r.1.Ct.Options, .int .i64 r.1.Ct.Least, .int .i64 r.1.Ct.Most, .int .i64 r.1.Ct.Points, .int .i64 r.1.Threshold, .int .i64 r.1.Trustees, .int .i64 r.1.Mixers, .int .i64 r.1.Voters, .int .i64 r.1.Seed]) [.bx [.sl false 1 (r.2.1.map row_u8), .int .i64 r.2.2.1, .int .u64 r.2.2.2]]) := by
  intro a0c0 a0c1 a0c2 r hr
  apply pF 51 [0] [] [] [.cell 2 29] hr cl16 Tryz.func16
  intro Φ hΦ hF g
  unfold F_spec_l1Cur_anyPlan__io0 at hF
  try simp [go_sem, g]
  refine pw_wk ?_
  try simp [go_sem, g]
  refine pC hF [.io] c_spec_l1Cur_plan__io0 (fun z1 hF => ?_)
  try simp [go_sem, g]
  refine pw_wk ?_
  try simp [go_sem, g]
  refine pC hF [.io, .sh] c_spec_l1Cur_pick__io0 (fun z2 hF => ?_)
  try simp [go_sem, g]
  refine pw_wk ?_
  repeat rw [sq]
  refine pJ hF (fun x5 => [(0, .v (.bx [.sl false 1 (x5.1.1.map row_u8), .int .i64 x5.1.2.1, .int .u64 x5.1.2.2])), (2, .bl [.int .i64 0, .int .i64 0, .int .i64 0, .int .i64 0, .int .i64 0, .int .i64 0, .int .i64 0, .int .i64 0, .int .i64 0, .int .i64 0, .int .i64 0, .int .i64 0, .int .i64 0]), (3, .bl [.int .i64 x5.2.1, .int .i64 x5.2.2.1, .int .i64 x5.2.2.2.1, .int .i64 x5.2.2.2.2.1, .int .i64 x5.2.2.2.2.2.1, .int .i64 x5.2.2.2.2.2.2.1, .int .i64 x5.2.2.2.2.2.2.2.1, .int .i64 x5.2.2.2.2.2.2.2.2.1, .int .i64 x5.2.2.2.2.2.2.2.2.2.1, .int .i64 x5.2.2.2.2.2.2.2.2.2.2.1, .int .i64 x5.2.2.2.2.2.2.2.2.2.2.2.1, .int .i64 x5.2.2.2.2.2.2.2.2.2.2.2.2.1, .int .i64 x5.2.2.2.2.2.2.2.2.2.2.2.2.2])]) (fun x5 hF => ?_) fun _ hj3 hF => ?_
  ·cases hΦ _ (Rn_some hF)
   try simp [go_sem, g]
   refine pw_wk ?_
   try simp [go_sem, g]
  ·repeat rw [sq]
   rw [pw_block]
   try simp [go_sem, g]
   refine pw_wk ?_
   repeat rw [sq]
   refine pI hF (fun h6 hF => ?_) (fun h6 hF => ?_)
   ·try simp [go_sem, g]
    refine pC hF [.io] c_spec_l1Cur_anyGroup__io0 (fun z7 hF => ?_)
    try simp [go_sem, g]
    exact pT (hj3 ((z7.2.1, z7.2.2.1, z7.2.2.2), z7.1.P, z7.1.Q, z7.1.G, z1.1.Ct.Kind, z1.1.Ct.Options, z1.1.Ct.Least, z1.1.Ct.Most, z1.1.Ct.Points, z1.1.Threshold, z1.1.Trustees, z1.1.Mixers, z1.1.Voters, z1.1.Seed)) (Rn_some hF)
   ·try simp [go_sem, g]
    refine pw_wkK [0, 2, 3, 7, 13] (by simp [go_sem, g]; rfl) ?_
    repeat rw [sq]
    refine pI hF (fun h8 hF => ?_) (fun h8 hF => ?_)
    ·try simp [go_sem, g]
     refine pC hF [.io] c_spec_l1Cur_anyContest__io0 (fun z9 hF => ?_)
     try simp [go_sem, g]
     exact pT (hj3 ((z9.2.1, z9.2.2.1, z9.2.2.2), z1.1.Gr.P, z1.1.Gr.Q, z1.1.Gr.G, z9.1.Kind, z9.1.Options, z9.1.Least, z9.1.Most, z9.1.Points, z1.1.Threshold, z1.1.Trustees, z1.1.Mixers, z1.1.Voters, z1.1.Seed)) (Rn_some hF)
    ·try simp [go_sem, g]
     refine pw_wk ?_
     repeat rw [sq]
     refine pI hF (fun h10 hF => ?_) (fun h10 hF => ?_)
     ·try simp [go_sem, g]
      refine pC hF [.io, .mv] c_spec_l1Cur_among__io0_mv1 (fun z11 hF => ?_)
      try simp [go_sem, g]
      exact pT (hj3 ((z11.2.1, z11.2.2.1, z11.2.2.2), z1.1.Gr.P, z1.1.Gr.Q, z1.1.Gr.G, z1.1.Ct.Kind, z1.1.Ct.Options, z1.1.Ct.Least, z1.1.Ct.Most, z1.1.Ct.Points, z11.1, z1.1.Trustees, z1.1.Mixers, z1.1.Voters, z1.1.Seed)) (Rn_some hF)
     ·try simp [go_sem, g]
      refine pw_wk ?_
      repeat rw [sq]
      refine pI hF (fun h12 hF => ?_) (fun h12 hF => ?_)
      ·try simp [go_sem, g]
       refine pC hF [.io, .mv] c_spec_l1Cur_among__io0_mv1 (fun z13 hF => ?_)
       try simp [go_sem, g]
       exact pT (hj3 ((z13.2.1, z13.2.2.1, z13.2.2.2), z1.1.Gr.P, z1.1.Gr.Q, z1.1.Gr.G, z1.1.Ct.Kind, z1.1.Ct.Options, z1.1.Ct.Least, z1.1.Ct.Most, z1.1.Ct.Points, z1.1.Threshold, z13.1, z1.1.Mixers, z1.1.Voters, z1.1.Seed)) (Rn_some hF)
      ·try simp [go_sem, g]
       refine pw_wk ?_
       repeat rw [sq]
       refine pI hF (fun h14 hF => ?_) (fun h14 hF => ?_)
       ·try simp [go_sem, g]
        refine pC hF [.io, .mv] c_spec_l1Cur_among__io0_mv1 (fun z15 hF => ?_)
        try simp [go_sem, g]
        exact pT (hj3 ((z15.2.1, z15.2.2.1, z15.2.2.2), z1.1.Gr.P, z1.1.Gr.Q, z1.1.Gr.G, z1.1.Ct.Kind, z1.1.Ct.Options, z1.1.Ct.Least, z1.1.Ct.Most, z1.1.Ct.Points, z1.1.Threshold, z1.1.Trustees, z15.1, z1.1.Voters, z1.1.Seed)) (Rn_some hF)
       ·try simp [go_sem, g]
        refine pw_wk ?_
        repeat rw [sq]
        refine pI hF (fun h16 hF => ?_) (fun h16 hF => ?_)
        ·try simp [go_sem, g]
         refine pC hF [.io, .mv] c_spec_l1Cur_among__io0_mv1 (fun z17 hF => ?_)
         try simp [go_sem, g]
         exact pT (hj3 ((z17.2.1, z17.2.2.1, z17.2.2.2), z1.1.Gr.P, z1.1.Gr.Q, z1.1.Gr.G, z1.1.Ct.Kind, z1.1.Ct.Options, z1.1.Ct.Least, z1.1.Ct.Most, z1.1.Ct.Points, z1.1.Threshold, z1.1.Trustees, z1.1.Mixers, z17.1, z1.1.Seed)) (Rn_some hF)
        ·try simp [go_sem, g]
         refine pw_wkK [0, 2, 3, 45] (by simp [go_sem, g]; rfl) ?_
         repeat rw [sq]
         refine pI hF (fun h18 hF => ?_) (fun h18 hF => ?_)
         ·try simp [go_sem, g]
          refine pC hF [.io] c_spec_l1Cur_digest__io0 (fun z19 hF => ?_)
          try simp [go_sem, g]
          exact pT (hj3 ((z19.2.1, z19.2.2.1, z19.2.2.2), z1.1.Gr.P, z1.1.Gr.Q, z1.1.Gr.G, z1.1.Ct.Kind, z1.1.Ct.Options, z1.1.Ct.Least, z1.1.Ct.Most, z1.1.Ct.Points, z1.1.Threshold, z1.1.Trustees, z1.1.Mixers, z1.1.Voters, z19.1)) (Rn_some hF)
         ·try simp [go_sem, g]
          exact pT (hj3 ((z2.2.1, z2.2.2.1, z2.2.2.2), z1.1.Gr.P, z1.1.Gr.Q, z1.1.Gr.G, z1.1.Ct.Kind, z1.1.Ct.Options, z1.1.Ct.Least, z1.1.Ct.Most, z1.1.Ct.Points, z1.1.Threshold, z1.1.Trustees, z1.1.Mixers, z1.1.Voters, z1.1.Seed)) (Rn_some hF)
noncomputable def F_spec_DrawTrusteeShare (a0 : (List Int)) : Option (Plan × Int) :=
  (F_spec_l1Cur_anyPlan__io0 a0 0 0).bind fun z1 =>
  (F_spec_l1Cur_pick__io0 z1.2.1 z1.2.2.1 z1.2.2.2 6).bind fun z2 =>
  some (z1.1, z2.1)
theorem c_spec_DrawTrusteeShare : ∀ {a0} {r}, F_spec_DrawTrusteeShare a0 = some r → PCalls Tryz.prog 5 [(.sh, .sl false 1 (a0.map row_u8))] (Eo (.tup [.agg [.int .i64 r.1.Gr.P, .int .i64 r.1.Gr.Q, .int .i64 r.1.Gr.G, .int .i64 r.1.Ct.Kind, .int .i64 r.1.Ct.Options, .int .i64 r.1.Ct.Least, .int .i64 r.1.Ct.Most, .int .i64 r.1.Ct.Points, .int .i64 r.1.Threshold, .int .i64 r.1.Trustees, .int .i64 r.1.Mixers, .int .i64 r.1.Voters, .int .i64 r.1.Seed], .int .i64 r.2]) [.junk]) := by
  intro a0 r hr
  apply pF 12 [] [] [7] [.cell 2 29, .tmp 3] hr cl5 Tryz.func5
  intro Φ hΦ hF g
  unfold F_spec_DrawTrusteeShare at hF
  iterate 2 (try simp [go_sem, g]; refine pw_wk ?_)
  try simp [go_sem, g]
  refine pC hF [.io] c_spec_l1Cur_anyPlan__io0 (fun z1 hF => ?_)
  try simp [go_sem, g]
  refine pC hF [.io, .sh] c_spec_l1Cur_pick__io0 (fun z2 hF => ?_)
  try simp [go_sem, g]
  refine pw_wkK [2, 3] (by simp [go_sem, g]; rfl) ?_
  cases hΦ _ (Rn_some hF)
  try simp [go_sem, g]
noncomputable def F_impl_within (a0 : Int) (a1 : Int) (a2 : Int) : Option (Bool) :=
  ((if decide (a1 ≤ a0) = true then (
  some (decide (a0 ≤ a2))) else (
  some false) : Option (Bool)).bind fun x3 =>
  some x3)
theorem c_impl_within : ∀ {a0} {a1} {a2} {r}, F_impl_within a0 a1 a2 = some r → PCalls Tryz.prog 19 [(.sh, .int .i64 a0), (.sh, .int .i64 a1), (.sh, .int .i64 a2)] (Eo (.bool r) [.junk, .junk, .junk]) := by
  intro a0 a1 a2 r hr
  apply pF 15 [] [] [] [.tmp 6] hr cl19 Tryz.func19
  intro Φ hΦ hF g
  unfold F_impl_within at hF
  try simp [go_sem, g]
  refine pw_wk ?_
  repeat rw [sq]
  refine pJ hF (fun x3 => [(6, .v (.bool x3))]) (fun x3 hF => ?_) fun _ hj1 hF => ?_
  ·cases hΦ _ (Rn_some hF)
   try simp [go_sem, g]
  ·try simp [go_sem, g]
   refine pwg_F hF (fun h4 hF => ?_) fun h4 hF => ?_
   ·try simp [go_sem, g, h4]
    exact pT (hj1 (decide (a0 ≤ a2))) (Rn_some hF)
   ·try simp [go_sem, g, h4]
    exact pT (hj1 false) (Rn_some hF)
noncomputable def F_impl_isModulus (a0 : Int) : Option (Bool) :=
  (F_impl_within a0 2 2000000000).bind fun z1 =>
  some z1
theorem c_impl_isModulus : ∀ {a0} {r}, F_impl_isModulus a0 = some r → PCalls Tryz.prog 102 [(.sh, .int .i64 a0)] (Eo (.bool r) [.junk]) := by
  intro a0 r hr
  apply pF 5 [] [] [] [.tmp 2] hr cl102 Tryz.func102
  intro Φ hΦ hF g
  unfold F_impl_isModulus at hF
  try simp [go_sem, g]
  refine pw_wk ?_
  try simp [go_sem, g]
  refine pC hF [.sh, .sh, .sh] c_impl_within (fun z1 hF => ?_)
  cases hΦ _ (Rn_some hF)
  try simp [go_sem, g]
  refine pw_wk ?_
  try simp [go_sem, g]
noncomputable def F_impl_isPrime (a0 : Int) : Option (Bool) :=
  (((F_impl_isModulus a0).bind fun z4 =>
  if (!z4) = true then (
  some true) else (
  if ((a0.tmod 2) == 0) = true then (
  some (a0 != 2)) else (
  some false)) : Option (Bool)).bind fun x3 =>
  if x3 = true then (
  some false) else (
  ((wloop (σ := Int) (fun s11 =>
  if decide ((i64.wrap (s11 * s11)) ≤ a0) = true then (
  gd (s11 ≠ 0) <|
  if ((a0.tmod s11) == 0) = true then (
  some (.out (.inr false))) else (
  some (.go (i64.wrap (s11 + 2))))) else (
  some (.out (.inl ())))) 3 : Option (Unit ⊕ Bool)).bind (Sum.elim (fun x10 =>
  some true) some))))
theorem c_impl_isPrime : ∀ {a0} {r}, F_impl_isPrime a0 = some r → PCalls Tryz.prog 92 [(.sh, .int .i64 a0)] (Eo (.bool r) [.junk]) := by
  intro a0 r hr
  apply pF 27 [] [] [] [.tmp 2] hr cl92 Tryz.func92
  intro Φ hΦ hF g
  unfold F_impl_isPrime at hF
  try simp [go_sem, g]
  refine pw_wk ?_
  repeat rw [sq]
  refine pJ hF (fun x3 => [(0, .v (.int .i64 a0)), (15, .v (.bool x3))]) (fun x3 hF => ?_) fun _ hj1 hF => ?_
  ·repeat rw [sq]
   refine pI hF (fun h7 hF => ?_) (fun h7 hF => ?_)
   ·cases hΦ _ (Rn_some hF)
    try simp [go_sem, g]
    refine pw_wk ?_
    try simp [go_sem, g]
   ·iterate 2 (try simp [go_sem, g]; refine pw_wk ?_)
    repeat rw [sq]
    refine pJs hF (fun x10 => []) (fun x10 hF => ?_) fun _ hj8 hr9 hF => ?_
    ·cases hΦ _ (Rn_some hF)
     try simp [go_sem, g]
     refine pw_wk ?_
     try simp [go_sem, g]
    ·repeat rw [sq]
     rw [pw_block]
     obtain ⟨b18, hb19, hψ15⟩ := hF
     refine pL hb19 (fun s11 => [(0, .v (.int .i64 a0)), (3, .v (.int .i64 s11))]) (fun s11 _ _ ho13 hg14 hF => ?_)
     try simp [go_sem, g]
     refine pw_wk ?_
     repeat rw [sq]
     refine pI hF (fun h16 hF => ?_) (fun h16 hF => ?_)
     ·try simp [go_sem, g]
      refine pw_wk ?_
      repeat rw [sq]
      rw [pw_block]
      obtain ⟨g, hF⟩ := Rz g hF
      try simp [go_sem, g]
      refine pw_wkK [0, 3, 26] (by simp [go_sem, g]; rfl) ?_
      repeat rw [sq]
      refine pI hF (fun h17 hF => ?_) (fun h17 hF => ?_)
      ·cases ho13 _ (Rn_some hF)
       cases hΦ _ (hr9 _ hψ15)
       try simp [go_sem, g]
       refine pw_wk ?_
       try simp [go_sem, g]
      ·try simp [go_sem, g]
       refine pw_wk ?_
       try simp [go_sem, g]
       exact pT (hg14 (i64.wrap (s11 + 2))) (Rn_some hF)
     ·try simp [go_sem, g]
      cases ho13 _ (Rn_some hF)
      exact pT (hj8 ()) hψ15
  ·try simp [go_sem, g]
   refine pC hF [.sh] c_impl_isModulus (fun z4 hF => ?_)
   try simp [go_sem, g]
   refine pwg_F hF (fun h5 hF => ?_) fun h5 hF => ?_
   ·try simp [go_sem, g, h5]
    exact pT (hj1 true) (Rn_some hF)
   ·have g := Ld g 2
    try simp [go_sem, g, h5]
    refine pwg_F hF (fun h6 hF => ?_) fun h6 hF => ?_
    ·try simp [go_sem, g, h6, h5]
     exact pT (hj1 (a0 != 2)) (Rn_some hF)
    ·try simp [go_sem, g, h6, h5]
     exact pT (hj1 false) (Rn_some hF)
noncomputable def F_impl_power (a0 : Int) (a1 : Int) (a2 : Int) : Option (Int) :=
  gd (a2 ≠ 0) <|
  ((wloop (σ := Int × Int × Int) (fun s4 =>
  if decide (0 < s4.2.1) = true then (
  ((if ((i64.wrap ((BitVec.ofInt i64.bits s4.2.1 &&& BitVec.ofInt i64.bits 1).toNat)) == 1) = true then (
  gd (a2 ≠ 0) <|
  some ((i64.wrap (s4.2.2 * s4.1)).tmod a2)) else (
  some s4.2.2) : Option (Int)).bind fun x12 =>
  gd (a2 ≠ 0) <|
  some (.go ((i64.wrap (s4.1 * s4.1)).tmod a2, s4.2.1.fdiv 2, x12)))) else (
  some (.out s4.2.2))) (a0, a1, (1 : Int).tmod a2) : Option (Int)).bind fun x3 =>
  some x3)
theorem c_impl_power : ∀ {a0} {a1} {a2} {r}, F_impl_power a0 a1 a2 = some r → PCalls Tryz.prog 84 [(.sh, .int .i64 a0), (.sh, .int .i64 a1), (.sh, .int .i64 a2)] (Eo (.int .i64 r) [.junk, .junk, .junk]) := by
  intro a0 a1 a2 r hr
  apply pF 28 [] [] [] [.tmp 6] hr cl84 Tryz.func84
  intro Φ hΦ hF g
  unfold F_impl_power at hF
  obtain ⟨g, hF⟩ := Rz g hF
  iterate 2 (try simp [go_sem, g]; refine pw_wk ?_)
  repeat rw [sq]
  refine pJ hF (fun x3 => [(7, .v (.int .i64 x3))]) (fun x3 hF => ?_) fun _ hj1 hF => ?_
  ·cases hΦ _ (Rn_some hF)
   try simp [go_sem, g]
   refine pw_wk ?_
   try simp [go_sem, g]
  ·repeat rw [sq]
   rw [pw_block]
   obtain ⟨b14, hb15, hψ8⟩ := hF
   refine pL hb15 (fun s4 => [(0, .v (.int .i64 s4.1)), (1, .v (.int .i64 s4.2.1)), (2, .v (.int .i64 a2)), (7, .v (.int .i64 s4.2.2))]) (fun s4 _ _ ho6 hg7 hF => ?_)
   try simp [go_sem, g]
   refine pw_wk ?_
   repeat rw [sq]
   refine pI hF (fun h9 hF => ?_) (fun h9 hF => ?_)
   ·try simp [go_sem, g]
    refine pw_wk ?_
    repeat rw [sq]
    rw [pw_block]
    try simp [go_sem, g]
    refine pw_wk ?_
    repeat rw [sq]
    refine pJ hF (fun x12 => [(0, .v (.int .i64 s4.1)), (1, .v (.int .i64 s4.2.1)), (2, .v (.int .i64 a2)), (7, .v (.int .i64 x12))]) (fun x12 hF => ?_) fun _ hj10 hF => ?_
    ·obtain ⟨g, hF⟩ := Rz g hF
     try simp [go_sem, g]
     refine pw_wkK [0, 1, 2, 7] (by simp [go_sem, g]; rfl) ?_
     have g := Ls g 1
     try simp [go_sem, g]
     exact pT (hg7 ((i64.wrap (s4.1 * s4.1)).tmod a2, s4.2.1.fdiv 2, x12)) (Rn_some hF)
    ·repeat rw [sq]
     refine pI hF (fun h13 hF => ?_) (fun h13 hF => ?_)
     ·obtain ⟨g, hF⟩ := Rz g hF
      try simp [go_sem, g]
      exact pT (hj10 ((i64.wrap (s4.2.2 * s4.1)).tmod a2)) (Rn_some hF)
     ·try simp [go_sem, g]
      exact pT (hj10 s4.2.2) (Rn_some hF)
   ·try simp [go_sem, g]
    cases ho6 _ (Rn_some hF)
    exact pT (hj1 s4.2.2) hψ8
noncomputable def F_impl_IsValidGroup (a0 : Group) : Option (Bool) :=
  (((F_impl_within a0.P 3 2000000000).bind fun z4 =>
  if z4 = true then (
  (F_impl_within a0.Q 2 (i64.wrap (a0.P - 1))).bind fun z6 =>
  if z6 = true then (
  gd (a0.Q ≠ 0) <|
  if (((i64.wrap (a0.P - 1)).tmod a0.Q) == 0) = true then (
  (F_impl_within a0.G 2 (i64.wrap (a0.P - 1))).bind fun z9 =>
  if z9 = true then (
  (F_impl_isPrime a0.P).bind fun z11 =>
  if z11 = true then (
  (F_impl_isPrime a0.Q).bind fun z13 =>
  if z13 = true then (
  (F_impl_power a0.G a0.Q a0.P).bind fun z15 =>
  some (z15 == 1)) else (
  some false)) else (
  some false)) else (
  some false)) else (
  some false)) else (
  some false)) else (
  some false) : Option (Bool)).bind fun x3 =>
  some x3)
theorem c_impl_IsValidGroup : ∀ {a0} {r}, F_impl_IsValidGroup a0 = some r → PCalls Tryz.prog 74 [(.sh, .agg [.int .i64 a0.P, .int .i64 a0.Q, .int .i64 a0.G])] (Eo (.bool r) [.junk]) := by
  intro a0 r hr
  apply pF 51 [] [] [] [.tmp 2] hr cl74 Tryz.func74
  intro Φ hΦ hF g
  unfold F_impl_IsValidGroup at hF
  try simp [go_sem, g]
  refine pw_wk ?_
  repeat rw [sq]
  refine pJ hF (fun x3 => [(2, .v (.bool x3))]) (fun x3 hF => ?_) fun _ hj1 hF => ?_
  ·cases hΦ _ (Rn_some hF)
   try simp [go_sem, g]
  ·try simp [go_sem, g]
   refine pC hF [.sh, .sh, .sh] c_impl_within (fun z4 hF => ?_)
   try simp [go_sem, g]
   refine pwg_F hF (fun h5 hF => ?_) fun h5 hF => ?_
   ·try simp [go_sem, g, h5]
    refine pC hF [.sh, .sh, .sh] c_impl_within (fun z6 hF => ?_)
    try simp [go_sem, g, h5]
    refine pwg_F hF (fun h7 hF => ?_) fun h7 hF => ?_
    ·obtain ⟨g, hF⟩ := Rz g hF
     try simp [go_sem, g, h7]
     refine pwg_F hF (fun h8 hF => ?_) fun h8 hF => ?_
     ·try simp [go_sem, g, h8]
      refine pC hF [.sh, .sh, .sh] c_impl_within (fun z9 hF => ?_)
      try simp [go_sem, g, h8]
      refine pwg_F hF (fun h10 hF => ?_) fun h10 hF => ?_
      ·try simp [go_sem, g, h10]
       refine pC hF [.sh] c_impl_isPrime (fun z11 hF => ?_)
       try simp [go_sem, g, h10]
       refine pwg_F hF (fun h12 hF => ?_) fun h12 hF => ?_
       ·try simp [go_sem, g, h12]
        refine pC hF [.sh] c_impl_isPrime (fun z13 hF => ?_)
        try simp [go_sem, g, h12]
        refine pwg_F hF (fun h14 hF => ?_) fun h14 hF => ?_
        ·try simp [go_sem, g, h14]
         refine pC hF [.sh, .sh, .sh] c_impl_power (fun z15 hF => ?_)
         try simp [go_sem, g, h14]
         exact pT (hj1 (z15 == 1)) (Rn_some hF)
        ·try simp [go_sem, g, h14]
         exact pT (hj1 false) (Rn_some hF)
       ·try simp [go_sem, g, h12]
        exact pT (hj1 false) (Rn_some hF)
      ·try simp [go_sem, g, h10]
       exact pT (hj1 false) (Rn_some hF)
     ·try simp [go_sem, g, h8]
      exact pT (hj1 false) (Rn_some hF)
    ·try simp [go_sem, g, h7]
     exact pT (hj1 false) (Rn_some hF)
   ·try simp [go_sem, g, h5]
    exact pT (hj1 false) (Rn_some hF)
noncomputable def F_impl_IsValidContest (a0 : Contest) : Option (Bool) :=
  ((if decide (a0.Least < 0) = true then (
  some true) else (
  some (decide (a0.Most < a0.Least))) : Option (Bool)).bind fun x3 =>
  if x3 = true then (
  some false) else (
  ((if (a0.Kind == 1) = true then (
  some (a0.Kind == 1)) else (
  some (a0.Kind == 3)) : Option (Bool)).bind fun x8 =>
  if x8 = true then (
  (((F_impl_within a0.Options 1 8).bind fun z14 =>
  if z14 = true then (
  if decide (a0.Most ≤ a0.Options) = true then (
  some (a0.Points == 0)) else (
  some false)) else (
  some false) : Option (Bool)).bind fun x13 =>
  some x13)) else (
  if (a0.Kind == 2) = true then (
  (((F_impl_within a0.Options 1 8).bind fun z21 =>
  if z21 = true then (
  (F_impl_within a0.Points 1 5).bind fun z23 =>
  if z23 = true then (
  some (decide (a0.Most ≤ (i64.wrap (a0.Options * a0.Points))))) else (
  some false)) else (
  some false) : Option (Bool)).bind fun x20 =>
  some x20)) else (
  if (a0.Kind == 4) = true then (
  ((if (a0.Options == 0) = true then (
  if decide (a0.Most ≤ 5) = true then (
  some (a0.Points == 0)) else (
  some false)) else (
  some false) : Option (Bool)).bind fun x28 =>
  some x28)) else (
  some false))))))
theorem c_impl_IsValidContest : ∀ {a0} {r}, F_impl_IsValidContest a0 = some r → PCalls Tryz.prog 75 [(.sh, .agg [.int .i64 a0.Kind, .int .i64 a0.Options, .int .i64 a0.Least, .int .i64 a0.Most, .int .i64 a0.Points])] (Eo (.bool r) [.junk]) := by
  intro a0 r hr
  apply pF 68 [] [] [] [.tmp 2] hr cl75 Tryz.func75
  intro Φ hΦ hF g
  unfold F_impl_IsValidContest at hF
  try simp [go_sem, g]
  refine pw_wk ?_
  repeat rw [sq]
  refine pJ hF (fun x3 => [(1, .bl [.int .i64 a0.Kind, .int .i64 a0.Options, .int .i64 a0.Least, .int .i64 a0.Most, .int .i64 a0.Points]), (12, .v (.bool x3))]) (fun x3 hF => ?_) fun _ hj1 hF => ?_
  ·repeat rw [sq]
   refine pI hF (fun h5 hF => ?_) (fun h5 hF => ?_)
   ·cases hΦ _ (Rn_some hF)
    try simp [go_sem, g]
    refine pw_wk ?_
    try simp [go_sem, g]
   ·iterate 2 (try simp [go_sem, g]; refine pw_wk ?_)
    repeat rw [sq]
    rw [pw_block]
    try simp [go_sem, g]
    refine pw_wk ?_
    repeat rw [sq]
    refine pJ hF (fun x8 => [(1, .bl [.int .i64 a0.Kind, .int .i64 a0.Options, .int .i64 a0.Least, .int .i64 a0.Most, .int .i64 a0.Points]), (14, .v (.int .i64 a0.Kind)), (15, .v (.bool x8))]) (fun x8 hF => ?_) fun _ hj6 hF => ?_
    ·repeat rw [sq]
     refine pI hF (fun h10 hF => ?_) (fun h10 hF => ?_)
     ·repeat rw [sq]
      refine pJ hF (fun x13 => [(2, .v (.bool x13))]) (fun x13 hF => ?_) fun _ hj11 hF => ?_
      ·cases hΦ _ (Rn_some hF)
       try simp [go_sem, g]
      ·try simp [go_sem, g]
       refine pC hF [.sh, .sh, .sh] c_impl_within (fun z14 hF => ?_)
       try simp [go_sem, g]
       refine pwg_F hF (fun h15 hF => ?_) fun h15 hF => ?_
       ·try simp [go_sem, g, h15]
        refine pwg_F hF (fun h16 hF => ?_) fun h16 hF => ?_
        ·try simp [go_sem, g, h16]
         exact pT (hj11 (a0.Points == 0)) (Rn_some hF)
        ·try simp [go_sem, g, h16]
         exact pT (hj11 false) (Rn_some hF)
       ·try simp [go_sem, g, h15]
        exact pT (hj11 false) (Rn_some hF)
     ·try simp [go_sem, g]
      refine pw_wk ?_
      repeat rw [sq]
      refine pI hF (fun h17 hF => ?_) (fun h17 hF => ?_)
      ·repeat rw [sq]
       refine pJ hF (fun x20 => [(2, .v (.bool x20))]) (fun x20 hF => ?_) fun _ hj18 hF => ?_
       ·cases hΦ _ (Rn_some hF)
        try simp [go_sem, g]
       ·try simp [go_sem, g]
        refine pC hF [.sh, .sh, .sh] c_impl_within (fun z21 hF => ?_)
        try simp [go_sem, g]
        refine pwg_F hF (fun h22 hF => ?_) fun h22 hF => ?_
        ·try simp [go_sem, g, h22]
         refine pC hF [.sh, .sh, .sh] c_impl_within (fun z23 hF => ?_)
         try simp [go_sem, g, h22]
         refine pwg_F hF (fun h24 hF => ?_) fun h24 hF => ?_
         ·try simp [go_sem, g, h24]
          exact pT (hj18 (decide (a0.Most ≤ (i64.wrap (a0.Options * a0.Points))))) (Rn_some hF)
         ·try simp [go_sem, g, h24]
          exact pT (hj18 false) (Rn_some hF)
        ·try simp [go_sem, g, h22]
         exact pT (hj18 false) (Rn_some hF)
      ·try simp [go_sem, g]
       refine pw_wkK [1, 53] (by simp [go_sem, g]; rfl) ?_
       repeat rw [sq]
       refine pI hF (fun h25 hF => ?_) (fun h25 hF => ?_)
       ·repeat rw [sq]
        refine pJ hF (fun x28 => [(2, .v (.bool x28))]) (fun x28 hF => ?_) fun _ hj26 hF => ?_
        ·cases hΦ _ (Rn_some hF)
         try simp [go_sem, g]
        ·try simp [go_sem, g]
         refine pwg_F hF (fun h29 hF => ?_) fun h29 hF => ?_
         ·try simp [go_sem, g, h29]
          refine pwg_F hF (fun h30 hF => ?_) fun h30 hF => ?_
          ·try simp [go_sem, g, h30]
           exact pT (hj26 (a0.Points == 0)) (Rn_some hF)
          ·try simp [go_sem, g, h30]
           exact pT (hj26 false) (Rn_some hF)
         ·try simp [go_sem, g, h29]
          exact pT (hj26 false) (Rn_some hF)
       ·cases hΦ _ (Rn_some hF)
        iterate 2 (try simp [go_sem, g]; refine pw_wk ?_)
        try simp [go_sem, g]
    ·repeat rw [sq]
     refine pI hF (fun h9 hF => ?_) (fun h9 hF => ?_)
     ·try simp [go_sem, g]
      exact pT (hj6 (a0.Kind == 1)) (Rn_some hF)
     ·try simp [go_sem, g]
      exact pT (hj6 (a0.Kind == 3)) (Rn_some hF)
  ·try simp [go_sem, g]
   refine pwg_F hF (fun h4 hF => ?_) fun h4 hF => ?_
   ·try simp [go_sem, g, h4]
    exact pT (hj1 true) (Rn_some hF)
   ·try simp [go_sem, g, h4]
    exact pT (hj1 (decide (a0.Most < a0.Least))) (Rn_some hF)
noncomputable def F_impl_Contest_base (a0 : Contest) : Option (Int) :=
  if (a0.Kind == 2) = true then (
  some (i64.wrap (a0.Points + 1))) else (
  if (a0.Kind == 3) = true then (
  some (i64.wrap (a0.Options + 1))) else (
  if (a0.Kind == 4) = true then (
  some 27) else (
  some 2)))
theorem c_impl_Contest_base : ∀ {a0} {r}, F_impl_Contest_base a0 = some r → PCalls Tryz.prog 94 [(.sh, .agg [.int .i64 a0.Kind, .int .i64 a0.Options, .int .i64 a0.Least, .int .i64 a0.Most, .int .i64 a0.Points])] (Eo (.int .i64 r) [.junk]) := by
  intro a0 r hr
  apply pF 17 [] [] [] [.tmp 2] hr cl94 Tryz.func94
  intro Φ hΦ hF g
  unfold F_impl_Contest_base at hF
  iterate 2 (try simp [go_sem, g]; refine pw_wk ?_)
  repeat rw [sq]
  rw [pw_block]
  try simp [go_sem, g]
  refine pw_wk ?_
  repeat rw [sq]
  refine pI hF (fun h1 hF => ?_) (fun h1 hF => ?_)
  ·try simp [go_sem, g]
   refine pw_wkK [2] (by simp [go_sem, g]; rfl) ?_
   cases hΦ _ (Rn_some hF)
   try simp [go_sem, g]
  ·try simp [go_sem, g]
   refine pw_wk ?_
   repeat rw [sq]
   refine pI hF (fun h2 hF => ?_) (fun h2 hF => ?_)
   ·try simp [go_sem, g]
    refine pw_wkK [2] (by simp [go_sem, g]; rfl) ?_
    cases hΦ _ (Rn_some hF)
    try simp [go_sem, g]
   ·try simp [go_sem, g]
    refine pw_wkK [15] (by simp [go_sem, g]; rfl) ?_
    repeat rw [sq]
    refine pI hF (fun h3 hF => ?_) (fun h3 hF => ?_)
    ·cases hΦ _ (Rn_some hF)
     try simp [go_sem, g]
     refine pw_wk ?_
     try simp [go_sem, g]
    ·cases hΦ _ (Rn_some hF)
     iterate 2 (try simp [go_sem, g]; refine pw_wk ?_)
     try simp [go_sem, g]
noncomputable def F_impl_codeOf (a0 : (List Int)) (a1 : Int) : Option (Int) :=
  ((wloop (σ := Int × Int) (fun s4 =>
  if decide (0 ≤ s4.2) = true then (
  (ix a0 s4.2).bind fun x10 =>
  some (.go (i64.wrap ((i64.wrap (s4.1 * a1)) + x10), i64.wrap (s4.2 - 1)))) else (
  some (.out s4.1))) (0, i64.wrap ((a0.length : Int) - 1)) : Option (Int)).bind fun x3 =>
  some x3)
theorem c_impl_codeOf : ∀ {a0} {a1} {r}, F_impl_codeOf a0 a1 = some r → PCalls Tryz.prog 93 [(.sh, .sl false 1 (a0.map row_i64)), (.sh, .int .i64 a1)] (Eo (.int .i64 r) [.junk, .junk]) := by
  intro a0 a1 r hr
  apply pF 23 [] [] [] [.tmp 4] hr cl93 Tryz.func93
  intro Φ hΦ hF g
  unfold F_impl_codeOf at hF
  iterate 3 (try simp [go_sem, g]; try intros; refine pw_wk ?_)
  repeat rw [sq]
  refine pJ hF (fun x3 => [(5, .v (.int .i64 x3))]) (fun x3 hF => ?_) fun _ hj1 hF => ?_
  ·cases hΦ _ (Rn_some hF)
   try simp [go_sem, g]
   refine pw_wk ?_
   try simp [go_sem, g]
  ·repeat rw [sq]
   rw [pw_block]
   obtain ⟨b11, hb12, hψ8⟩ := hF
   refine pL hb12 (fun s4 => [(0, .v (.sl false 1 (a0.map row_i64))), (1, .v (.int .i64 a1)), (5, .v (.int .i64 s4.1)), (6, .v (.int .i64 s4.2))]) (fun s4 _ _ ho6 hg7 hF => ?_)
   try simp [go_sem, g]
   refine pw_wk ?_
   repeat rw [sq]
   refine pI hF (fun h9 hF => ?_) (fun h9 hF => ?_)
   ·try simp [go_sem, g]
    refine pw_wk ?_
    repeat rw [sq]
    rw [pw_block]
    obtain ⟨x10, g, hF⟩ := Rx g hF
    try simp [go_sem, g]
    refine pw_wkK [0, 1, 5, 6] (by simp [go_sem, g]; rfl) ?_
    try simp [go_sem, g]
    exact pT (hg7 (i64.wrap ((i64.wrap (s4.1 * a1)) + x10), i64.wrap (s4.2 - 1))) (Rn_some hF)
   ·try simp [go_sem, g]
    cases ho6 _ (Rn_some hF)
    exact pT (hj1 s4.1) hψ8
noncomputable def F_impl_Contest_greatest (a0 : Contest) : Option (Int) :=
  ((if (a0.Kind == 1) = true then (
  wloop (σ := (List Int) × Int) (fun s5 =>
  if decide (s5.2 < a0.Options) = true then (
  ((if decide ((i64.wrap (a0.Options - a0.Most)) ≤ s5.2) = true then (
  some 1) else (
  some 0) : Option (Int)).bind fun x13 =>
  gd ((s5.1.length + 1) * 8 ≤ 140737488355328 ∧ s5.1.length + 1 ≤ 4611686018427387904) <|
  some (.go (s5.1 ++ [x13], i64.wrap (s5.2 + 1))))) else (
  some (.out s5.1))) ([], 0)) else (
  if (a0.Kind == 2) = true then (
  gd (0 ≤ a0.Options ∧ a0.Options ≤ a0.Options ∧ 8 * a0.Options ≤ 140737488355328 ∧ a0.Options ≤ 4611686018427387904) <|
  (some (List.replicate a0.Options.toNat 0)).bind fun x18 =>
  wloop (σ := (List Int) × Int × Int) (fun s29 =>
  if decide (0 ≤ s29.2.2) = true then (
  (ix s29.1 s29.2.2).bind fun x35 =>
  (ix (s29.1.set s29.2.2.toNat (if a0.Points < s29.2.1 then a0.Points else s29.2.1)) s29.2.2).bind fun x36 =>
  some (.go (s29.1.set s29.2.2.toNat (if a0.Points < s29.2.1 then a0.Points else s29.2.1), i64.wrap (s29.2.1 - x36), i64.wrap (s29.2.2 - 1)))) else (
  some (.out s29.1))) (x18, a0.Most, i64.wrap (a0.Options - 1))) else (
  if (a0.Kind == 3) = true then (
  wloop (σ := (List Int) × Int) (fun s40 =>
  if decide (s40.2 < a0.Most) = true then (
  gd ((s40.1.length + 1) * 8 ≤ 140737488355328 ∧ s40.1.length + 1 ≤ 4611686018427387904) <|
  some (.go (s40.1 ++ [i64.wrap ((i64.wrap ((i64.wrap (a0.Options - a0.Most)) + 1)) + s40.2)], i64.wrap (s40.2 + 1)))) else (
  some (.out s40.1))) ([], 0)) else (
  wloop (σ := (List Int) × Int) (fun s48 =>
  if decide (s48.2 < a0.Most) = true then (
  gd ((s48.1.length + 1) * 8 ≤ 140737488355328 ∧ s48.1.length + 1 ≤ 4611686018427387904) <|
  some (.go (s48.1 ++ [26], i64.wrap (s48.2 + 1)))) else (
  some (.out s48.1))) ([], 0)))) : Option ((List Int))).bind fun x3 =>
  (F_impl_Contest_base a0).bind fun z56 =>
  (F_impl_codeOf x3 z56).bind fun z57 =>
  some z57)
theorem c_impl_Contest_greatest : ∀ {a0} {r}, F_impl_Contest_greatest a0 = some r → PCalls Tryz.prog 76 [(.sh, .agg [.int .i64 a0.Kind, .int .i64 a0.Options, .int .i64 a0.Least, .int .i64 a0.Most, .int .i64 a0.Points])] (Eo (.int .i64 r) [.junk]) := by
  intro a0 r hr
  apply pF 89 [] [] [] [.tmp 2] hr cl76 Tryz.func76
  intro Φ hΦ hF g
  unfold F_impl_Contest_greatest at hF
  iterate 3 (try simp [go_sem, g]; refine pw_wk ?_)
  repeat rw [sq]
  refine pJ hF (fun x3 => [(1, .bl [.int .i64 a0.Kind, .int .i64 a0.Options, .int .i64 a0.Least, .int .i64 a0.Most, .int .i64 a0.Points]), (3, .v (.sl true 1 (x3.map row_i64)))]) (fun x3 hF => ?_) fun _ hj1 hF => ?_
  ·try simp [go_sem, g]
   refine pC hF [.sh] c_impl_Contest_base (fun z56 hF => ?_)
   try simp [go_sem, g]
   refine pC hF [.sh, .sh] c_impl_codeOf (fun z57 hF => ?_)
   try simp [go_sem, g]
   refine pw_wkK [2] (by simp [go_sem, g]; rfl) ?_
   cases hΦ _ (Rn_some hF)
   try simp [go_sem, g]
  ·repeat rw [sq]
   rw [pw_block]
   try simp [go_sem, g]
   refine pw_wk ?_
   repeat rw [sq]
   refine pI hF (fun h4 hF => ?_) (fun h4 hF => ?_)
   ·try simp [go_sem, g]
    refine pw_wkK [1, 3, 23, 24] (by simp [go_sem, g]; rfl) ?_
    repeat rw [sq]
    rw [pw_block]
    obtain ⟨b15, hb16, hψ9⟩ := hF
    refine pL hb16 (fun s5 => [(1, .bl [.int .i64 a0.Kind, .int .i64 a0.Options, .int .i64 a0.Least, .int .i64 a0.Most, .int .i64 a0.Points]), (3, .v (.sl true 1 (s5.1.map row_i64))), (23, .v (.int .i64 a0.Options)), (24, .v (.int .i64 s5.2))]) (fun s5 _ _ ho7 hg8 hF => ?_)
    try simp [go_sem, g]
    refine pw_wk ?_
    repeat rw [sq]
    refine pI hF (fun h10 hF => ?_) (fun h10 hF => ?_)
    ·try simp [go_sem, g]
     refine pw_wk ?_
     repeat rw [sq]
     rw [pw_block]
     iterate 2 (try simp [go_sem, g]; refine pw_wk ?_)
     try simp [go_sem, g]
     refine pw_wkK [1, 3, 5, 23, 24, 33] (by simp [go_sem, g]; rfl) ?_
     repeat rw [sq]
     refine pJ hF (fun x13 => [(1, .bl [.int .i64 a0.Kind, .int .i64 a0.Options, .int .i64 a0.Least, .int .i64 a0.Most, .int .i64 a0.Points]), (3, .v (.sl true 1 (s5.1.map row_i64))), (5, .v (.int .i64 x13)), (23, .v (.int .i64 a0.Options)), (24, .v (.int .i64 s5.2))]) (fun x13 hF => ?_) fun _ hj11 hF => ?_
     ·obtain ⟨g, hF⟩ := Rg g hF
      try simp [go_sem, g]
      refine pw_wk ?_
      try simp [go_sem, g]
      exact pT (hg8 (s5.1 ++ [x13], i64.wrap (s5.2 + 1))) (Rn_some hF)
     ·repeat rw [sq]
      refine pI hF (fun h14 hF => ?_) (fun h14 hF => ?_)
      ·try simp [go_sem, g]
       exact pT (hj11 1) (Rn_some hF)
      ·try simp [go_sem, g]
       exact pT (hj11 0) (Rn_some hF)
    ·try simp [go_sem, g]
     cases ho7 _ (Rn_some hF)
     exact pT (hj1 s5.1) hψ9
   ·try simp [go_sem, g]
    refine pw_wkK [1, 3, 11, 39] (by simp [go_sem, g]; rfl) ?_
    repeat rw [sq]
    refine pI hF (fun h17 hF => ?_) (fun h17 hF => ?_)
    ·obtain ⟨g, hF⟩ := Rg g hF
     obtain ⟨x18, e19, hF⟩ := Rn_bind hF
     have g20 : List.replicate a0.Options.toNat ([.int .i64 0] : List PV) = x18.map row_i64 := by injection e19 with e19; rw [← e19]; simp [go_sem]
     iterate 2 (try simp [go_sem, g, g20]; refine pw_wk ?_)
     try simp [go_sem, g, g20]
     refine pw_wkK [1, 3, 6, 7] (by simp [go_sem, g]; rfl) ?_
     repeat rw [sq]
     rw [pw_block]
     obtain ⟨b37, hb38, hψ33⟩ := hF
     refine pL hb38 (fun s29 => [(1, .bl [.int .i64 a0.Kind, .int .i64 a0.Options, .int .i64 a0.Least, .int .i64 a0.Most, .int .i64 a0.Points]), (3, .v (.sl true 1 (s29.1.map row_i64))), (6, .v (.int .i64 s29.2.1)), (7, .v (.int .i64 s29.2.2))]) (fun s29 _ _ ho31 hg32 hF => ?_)
     try simp [go_sem, g]
     refine pw_wk ?_
     repeat rw [sq]
     refine pI hF (fun h34 hF => ?_) (fun h34 hF => ?_)
     ·try simp [go_sem, g]
      refine pw_wk ?_
      repeat rw [sq]
      rw [pw_block]
      obtain ⟨x35, g, hF⟩ := Rx g hF
      try simp [go_sem, g]
      refine pw_wkK [1, 3, 6, 7] (by simp [go_sem, g]; rfl) ?_
      obtain ⟨x36, g, hF⟩ := Rx g hF
      try simp [go_sem, g]
      refine pw_wk ?_
      try simp [go_sem, g]
      exact pT (hg32 (s29.1.set s29.2.2.toNat (if a0.Points < s29.2.1 then a0.Points else s29.2.1), i64.wrap (s29.2.1 - x36), i64.wrap (s29.2.2 - 1))) (Rn_some hF)
     ·try simp [go_sem, g]
      cases ho31 _ (Rn_some hF)
      exact pT (hj1 s29.1) hψ33
    ·try simp [go_sem, g]
     refine pw_wk ?_
     repeat rw [sq]
     refine pI hF (fun h39 hF => ?_) (fun h39 hF => ?_)
     ·try simp [go_sem, g]
      refine pw_wk ?_
      repeat rw [sq]
      rw [pw_block]
      obtain ⟨b46, hb47, hψ44⟩ := hF
      refine pL hb47 (fun s40 => [(1, .bl [.int .i64 a0.Kind, .int .i64 a0.Options, .int .i64 a0.Least, .int .i64 a0.Most, .int .i64 a0.Points]), (3, .v (.sl true 1 (s40.1.map row_i64))), (69, .v (.int .i64 a0.Most)), (70, .v (.int .i64 s40.2))]) (fun s40 _ _ ho42 hg43 hF => ?_)
      try simp [go_sem, g]
      refine pw_wk ?_
      repeat rw [sq]
      refine pI hF (fun h45 hF => ?_) (fun h45 hF => ?_)
      ·try simp [go_sem, g]
       refine pw_wk ?_
       repeat rw [sq]
       rw [pw_block]
       obtain ⟨g, hF⟩ := Rg g hF
       try simp [go_sem, g]
       refine pw_wk ?_
       try simp [go_sem, g]
       refine pw_wkK [1, 3, 69, 70] (by simp [go_sem, g]; rfl) ?_
       try simp [go_sem, g]
       exact pT (hg43 (s40.1 ++ [i64.wrap ((i64.wrap ((i64.wrap (a0.Options - a0.Most)) + 1)) + s40.2)], i64.wrap (s40.2 + 1))) (Rn_some hF)
      ·try simp [go_sem, g]
       cases ho42 _ (Rn_some hF)
       exact pT (hj1 s40.1) hψ44
     ·try simp [go_sem, g]
      refine pw_wk ?_
      repeat rw [sq]
      rw [pw_block]
      obtain ⟨b54, hb55, hψ52⟩ := hF
      refine pL hb55 (fun s48 => [(1, .bl [.int .i64 a0.Kind, .int .i64 a0.Options, .int .i64 a0.Least, .int .i64 a0.Most, .int .i64 a0.Points]), (3, .v (.sl true 1 (s48.1.map row_i64))), (13, .v (.int .i64 a0.Most)), (14, .v (.int .i64 s48.2))]) (fun s48 _ _ ho50 hg51 hF => ?_)
      try simp [go_sem, g]
      refine pw_wk ?_
      repeat rw [sq]
      refine pI hF (fun h53 hF => ?_) (fun h53 hF => ?_)
      ·try simp [go_sem, g]
       refine pw_wk ?_
       repeat rw [sq]
       rw [pw_block]
       obtain ⟨g, hF⟩ := Rg g hF
       try simp [go_sem, g]
       refine pw_wkK [1, 3, 13, 14] (by simp [go_sem, g]; rfl) ?_
       try simp [go_sem, g]
       exact pT (hg51 (s48.1 ++ [26], i64.wrap (s48.2 + 1))) (Rn_some hF)
      ·try simp [go_sem, g]
       cases ho50 _ (Rn_some hF)
       exact pT (hj1 s48.1) hψ52
noncomputable def F_impl_Contest_isForm (a0 : Contest) : Option (Bool) :=
  ((if (a0.Kind == 1) = true then (
  some true) else (
  some (a0.Kind == 2)) : Option (Bool)).bind fun x3 =>
  some x3)
theorem c_impl_Contest_isForm : ∀ {a0} {r}, F_impl_Contest_isForm a0 = some r → PCalls Tryz.prog 46 [(.sh, .agg [.int .i64 a0.Kind, .int .i64 a0.Options, .int .i64 a0.Least, .int .i64 a0.Most, .int .i64 a0.Points])] (Eo (.bool r) [.junk]) := by
  intro a0 r hr
  apply pF 11 [] [] [] [.tmp 2] hr cl46 Tryz.func46
  intro Φ hΦ hF g
  unfold F_impl_Contest_isForm at hF
  try simp [go_sem, g]
  refine pw_wk ?_
  repeat rw [sq]
  refine pJ hF (fun x3 => [(2, .v (.bool x3))]) (fun x3 hF => ?_) fun _ hj1 hF => ?_
  ·cases hΦ _ (Rn_some hF)
   try simp [go_sem, g]
  ·try simp [go_sem, g]
   refine pwg_F hF (fun h4 hF => ?_) fun h4 hF => ?_
   ·try simp [go_sem, g, h4]
    exact pT (hj1 true) (Rn_some hF)
   ·try simp [go_sem, g, h4]
    exact pT (hj1 (a0.Kind == 2)) (Rn_some hF)
def D45_1 : List DE := [d2 0 [2] 2 2, d3 1 [5], d0 2 [6], d0 3 [7], d2 4 [3, 8] 3 3, d3 5 [9, 8], d0 6 [10, 8], d0 7 [8, 11], d0 8 [12], d2 9 [3, 13] 3 3, d3 10 [14, 13], d0 11 [15, 13], d0 12 [13, 16], d0 13 [17], d2 14 [3, 18] 3 3, d1 16 [2, 18] 2, d2 17 [21, 18] 2 21, d3 15 [19, 18], d0 18 [20, 22, 18], d0 19 [18, 23]]
noncomputable def F_impl_IsSealable (a0 : Group) (a1 : Contest) : Option (Bool) :=
  (((F_impl_IsValidGroup a0).bind fun z4 =>
  if (!z4) = true then (
  some true) else (
  (F_impl_IsValidContest a1).bind fun z6 =>
  if (!z6) = true then (
  some true) else (
  (F_impl_Contest_greatest a1).bind fun z8 =>
  if decide (100000 < z8) = true then (
  some true) else (
  (F_impl_Contest_greatest a1).bind fun z10 =>
  some (decide (a0.Q ≤ z10))))) : Option (Bool)).bind fun x3 =>
  if x3 = true then (
  some false) else (
  (((F_impl_Contest_isForm a1).bind fun z15 =>
  if (!z15) = true then (
  some true) else (
  if decide ((i64.wrap (a1.Most - a1.Least)) < 8) = true then (
  some (decide (a1.Most < a0.Q))) else (
  some false)) : Option (Bool)).bind fun x14 =>
  some x14)))
theorem c_impl_IsSealable : ∀ {a0} {a1} {r}, F_impl_IsSealable a0 a1 = some r → PCalls Tryz.prog 45 [(.sh, .agg [.int .i64 a0.P, .int .i64 a0.Q, .int .i64 a0.G]), (.sh, .agg [.int .i64 a1.Kind, .int .i64 a1.Options, .int .i64 a1.Least, .int .i64 a1.Most, .int .i64 a1.Points])] (Eo (.bool r) [.junk, .junk]) := by
  intro a0 a1 r hr
  apply pF 43 [] [] [] [.tmp 4] hr cl45 Tryz.func45
  intro Φ hΦ hF g
  unfold F_impl_IsSealable at hF
  try simp [go_sem, g]
  refine pw_wk ?_
  repeat rw [sq]
  refine pJ hF (fun x3 => [(2, .bl [.int .i64 a0.P, .int .i64 a0.Q, .int .i64 a0.G]), (3, .bl [.int .i64 a1.Kind, .int .i64 a1.Options, .int .i64 a1.Least, .int .i64 a1.Most, .int .i64 a1.Points]), (24, .v (.bool x3))]) (fun x3 hF => ?_) fun _ hj1 hF => ?_
  ·repeat rw [sq]
   refine pI hF (fun h11 hF => ?_) (fun h11 hF => ?_)
   ·cases hΦ _ (Rn_some hF)
    try simp [go_sem, g]
    refine pw_wk ?_
    try simp [go_sem, g]
   ·try simp [go_sem, g]
    refine pw_wk ?_
    repeat rw [sq]
    refine pJ hF (fun x14 => [(4, .v (.bool x14))]) (fun x14 hF => ?_) fun _ hj12 hF => ?_
    ·cases hΦ _ (Rn_some hF)
     try simp [go_sem, g]
    ·try simp [go_sem, g]
     refine pC hF [.sh] c_impl_Contest_isForm (fun z15 hF => ?_)
     try simp [go_sem, g]
     refine pwg_F hF (fun h16 hF => ?_) fun h16 hF => ?_
     ·try simp [go_sem, g, h16]
      exact pT (hj12 true) (Rn_some hF)
     ·try simp [go_sem, g, h16]
      refine pwg_F hF (fun h17 hF => ?_) fun h17 hF => ?_
      ·try simp [go_sem, g, h17, h16]
       exact pT (hj12 (decide (a1.Most < a0.Q))) (Rn_some hF)
      ·try simp [go_sem, g, h17, h16]
       exact pT (hj12 false) (Rn_some hF)
  ·repeat rw [sq]
   refine pw_draw D45_1 follows (by kernel_rfl) rfl ?_
   try simp only [go_sem, D45_1]
   try simp [go_sem, g]
   refine pC hF [.sh] c_impl_IsValidGroup (fun z4 hF => ?_)
   try simp [go_sem, g]
   refine pwgD_F hF (fun h5 hF => ?_) fun h5 hF => ?_
   ·try simp [go_sem, g, h5]
    exact pT (hj1 true) (Rn_some hF)
   ·try simp [go_sem, g, h5]
    refine pC hF [.sh] c_impl_IsValidContest (fun z6 hF => ?_)
    try simp [go_sem, g, h5]
    refine pwgD_F hF (fun h7 hF => ?_) fun h7 hF => ?_
    ·try simp [go_sem, g, h7]
     exact pT (hj1 true) (Rn_some hF)
    ·try simp [go_sem, g, h7]
     refine pC hF [.sh] c_impl_Contest_greatest (fun z8 hF => ?_)
     try simp [go_sem, g, h7]
     refine pwgD_F hF (fun h9 hF => ?_) fun h9 hF => ?_
     ·try simp [go_sem, g, h9]
      exact pT (hj1 true) (Rn_some hF)
     ·try simp [go_sem, g, h9]
      refine pC hF [.sh] c_impl_Contest_greatest (fun z10 hF => ?_)
      try simp [go_sem, g, h9]
      exact pT (hj1 (decide (a0.Q ≤ z10))) (Rn_some hF)
noncomputable def F_impl_isDigest (a0 : Int) : Option (Bool) :=
  (F_impl_within a0 0 4611686018427387903).bind fun z1 =>
  some z1
theorem c_impl_isDigest : ∀ {a0} {r}, F_impl_isDigest a0 = some r → PCalls Tryz.prog 37 [(.sh, .int .i64 a0)] (Eo (.bool r) [.junk]) := by
  intro a0 r hr
  apply pF 5 [] [] [] [.tmp 2] hr cl37 Tryz.func37
  intro Φ hΦ hF g
  unfold F_impl_isDigest at hF
  try simp [go_sem, g]
  refine pw_wk ?_
  try simp [go_sem, g]
  refine pC hF [.sh, .sh, .sh] c_impl_within (fun z1 hF => ?_)
  cases hΦ _ (Rn_some hF)
  try simp [go_sem, g]
  refine pw_wk ?_
  try simp [go_sem, g]
noncomputable def F_impl_Contest_most (a0 : Contest) : Option (Int) :=
  if (a0.Kind == 2) = true then (
  some a0.Points) else (
  some 1)
theorem c_impl_Contest_most : ∀ {a0} {r}, F_impl_Contest_most a0 = some r → PCalls Tryz.prog 47 [(.sh, .agg [.int .i64 a0.Kind, .int .i64 a0.Options, .int .i64 a0.Least, .int .i64 a0.Most, .int .i64 a0.Points])] (Eo (.int .i64 r) [.junk]) := by
  intro a0 r hr
  apply pF 8 [] [] [] [.tmp 2] hr cl47 Tryz.func47
  intro Φ hΦ hF g
  unfold F_impl_Contest_most at hF
  iterate 2 (try simp [go_sem, g]; refine pw_wk ?_)
  repeat rw [sq]
  refine pI hF (fun h1 hF => ?_) (fun h1 hF => ?_)
  ·cases hΦ _ (Rn_some hF)
   try simp [go_sem, g]
   refine pw_wk ?_
   try simp [go_sem, g]
  ·cases hΦ _ (Rn_some hF)
   iterate 2 (try simp [go_sem, g]; refine pw_wk ?_)
   try simp [go_sem, g]
noncomputable def F_impl_labelled (a0 : ByteArray) (a1 : (List Int)) : Option ((List Int)) :=
  ((wloop (σ := (List Int) × Int) (fun s4 =>
  if decide (s4.2 < (a0.size : Int)) = true then (
  (ixs a0 s4.2).bind fun x10 =>
  gd ((s4.1.length + 1) * 8 ≤ 140737488355328 ∧ s4.1.length + 1 ≤ 4611686018427387904) <|
  some (.go (s4.1 ++ [i64.wrap x10], i64.wrap (s4.2 + 1)))) else (
  some (.out s4.1))) ([(a0.size : Int)], 0) : Option ((List Int))).bind fun x3 =>
  gd ((x3.length + a1.length) * 8 ≤ 140737488355328 ∧ x3.length + a1.length ≤ 4611686018427387904) <|
  some (x3 ++ a1))
theorem c_impl_labelled : ∀ {a0} {a1} {r}, F_impl_labelled a0 a1 = some r → PCalls Tryz.prog 87 [(.sh, .str a0), (.sh, .sl false 1 (a1.map row_i64))] (Eo (.sl true 1 (r.map row_i64)) [.junk, .junk]) := by
  intro a0 a1 r hr
  apply pF 26 [] [] [] [.tmp 4] hr cl87 Tryz.func87
  intro Φ hΦ hF g
  unfold F_impl_labelled at hF
  iterate 3 (try simp [go_sem, g]; refine pw_wk ?_)
  repeat rw [sq]
  refine pJ hF (fun x3 => [(1, .v (.sl false 1 (a1.map row_i64))), (5, .v (.sl true 1 (x3.map row_i64)))]) (fun x3 hF => ?_) fun _ hj1 hF => ?_
  ·obtain ⟨g, hF⟩ := Rg g hF
   try simp [go_sem, g]
   refine pw_wkK [4] (by simp [go_sem, g]; rfl) ?_
   cases hΦ _ (Rn_some hF)
   try simp [go_sem, g]
  ·repeat rw [sq]
   rw [pw_block]
   obtain ⟨b11, hb12, hψ8⟩ := hF
   refine pL hb12 (fun s4 => [(0, .v (.str a0)), (1, .v (.sl false 1 (a1.map row_i64))), (5, .v (.sl true 1 (s4.1.map row_i64))), (11, .v (.int .i64 (a0.size : Int))), (12, .v (.int .i64 s4.2))]) (fun s4 _ _ ho6 hg7 hF => ?_)
   try simp [go_sem, g]
   refine pw_wk ?_
   repeat rw [sq]
   refine pI hF (fun h9 hF => ?_) (fun h9 hF => ?_)
   ·try simp [go_sem, g]
    refine pw_wk ?_
    repeat rw [sq]
    rw [pw_block]
    try simp [go_sem, g]
    refine pw_wkK [0, 1, 5, 6, 11, 12] (by simp [go_sem, g]; rfl) ?_
    obtain ⟨x10, g, hF⟩ := Rxs g hF
    obtain ⟨g, hF⟩ := Rg g hF
    try simp [go_sem, g]
    refine pw_wk ?_
    try simp [go_sem, g]
    exact pT (hg7 (s4.1 ++ [i64.wrap x10], i64.wrap (s4.2 + 1))) (Rn_some hF)
   ·try simp [go_sem, g]
    cases ho6 _ (Rn_some hF)
    exact pT (hj1 s4.1) hψ8
noncomputable def F_impl_areAll_1__impl_isDigest (a0 : Int) : Option (Bool) :=
  (F_impl_isDigest a0).bind fun z1 =>
  some (!z1)
theorem c_impl_areAll_1__impl_isDigest : ∀ {a0} {r}, F_impl_areAll_1__impl_isDigest a0 = some r → PCalls Tryz.prog 107 [(.sh, .int .i64 a0), (.sh, .fp [.func (.func 37) [] []])] (Eo (.bool r) [.junk, .junk]) := by
  intro a0 r hr
  apply pF 8 [] [] [] [.tmp 3] hr cl107 Tryz.func107
  intro Φ hΦ hF g
  unfold F_impl_areAll_1__impl_isDigest at hF
  try simp [go_sem, g]
  refine pw_wk ?_
  try simp [go_sem, g]
  refine pC hF [.sh] c_impl_isDigest (fun z1 hF => ?_)
  cases hΦ _ (Rn_some hF)
  try simp [go_sem, g]
  refine pw_wk ?_
  try simp [go_sem, g]
noncomputable def F_slices_IndexFunc_int_int__impl_areAll_1_impl_isDigest (a0 : (List Int)) : Option (Int) :=
  ((rloop (σ := Unit) (fun i5 s4 =>
  (ix a0 i5).bind fun x11 =>
  (F_impl_areAll_1__impl_isDigest x11).bind fun z12 =>
  if z12 = true then (
  some (.out (.inr i5))) else (
  some (.go ()))) (fun s4 => .inl ()) (a0.length) 0 () : Option (Unit ⊕ Int)).bind (Sum.elim (fun x3 =>
  some (-1)) some))
theorem c_slices_IndexFunc_int_int__impl_areAll_1_impl_isDigest : ∀ {a0} {r}, F_slices_IndexFunc_int_int__impl_areAll_1_impl_isDigest a0 = some r → PCalls Tryz.prog 108 [(.sh, .sl false 1 (a0.map row_i64)), (.sh, .func (.func 107) [] [.fp [.func (.func 37) [] []]])] (Eo (.int .i64 r) [.junk, .junk]) := by
  intro a0 r hr
  apply pF 19 [] [] [] [.tmp 4] hr cl108 Tryz.func108
  intro Φ hΦ hF g
  unfold F_slices_IndexFunc_int_int__impl_areAll_1_impl_isDigest at hF
  iterate 2 (try simp [go_sem, g]; try intros; refine pw_wk ?_)
  repeat rw [sq]
  refine pJs hF (fun x3 => []) (fun x3 hF => ?_) fun _ hj1 hr2 hF => ?_
  ·cases hΦ _ (Rn_some hF)
   try simp [go_sem, g]
   refine pw_wk ?_
   try simp [go_sem, g]
  ·repeat rw [sq]
   rw [pw_block]
   obtain ⟨b14, hb15, hψ8⟩ := hF
   refine pR hb15 (fun i5 s4 => [(0, .v (.sl false 1 (a0.map row_i64))), (1, .v (.func (.func 107) [] [.fp [.func (.func 37) [] []]])), (7, .v (.int .i64 (a0.length : Int))), (8, .v (.int .i64 i5))]) (fun s4 _ hN16 => ?_) (fun i5 s4 _ _ hi9 hi10 ho6 hg7 hF => ?_)
   ·subst hN16
    try simp [go_sem]
    refine pw_wk ?_
    repeat rw [sq]
    refine pw_cond_f (by simp [go_sem]) ?_
    try simp [go_sem]
    exact pT (hj1 ()) hψ8 (by simp [go_sem])
   ·try simp [go_sem, g]
    refine pw_wk ?_
    repeat rw [sq]
    refine pw_cond_t (by simp [go_sem, g, hi9, hi10]) ?_
    try simp [go_sem, g]
    refine pw_wk ?_
    repeat rw [sq]
    rw [pw_block]
    obtain ⟨x11, g, hF⟩ := Rx g hF
    try simp [go_sem, g]
    refine pw_wk ?_
    try simp [go_sem, g]
    refine pC hF [.sh] c_impl_areAll_1__impl_isDigest (fun z12 hF => ?_)
    try simp [go_sem, g]
    refine pw_wkK [0, 1, 5, 7, 8, 16] (by simp [go_sem, g]; rfl) ?_
    repeat rw [sq]
    refine pI hF (fun h13 hF => ?_) (fun h13 hF => ?_)
    ·cases ho6 _ (Rn_some hF)
     cases hΦ _ (hr2 _ hψ8)
     try simp [go_sem, g]
     refine pw_wk ?_
     try simp [go_sem, g]
    ·try simp [go_sem, g]
     refine pw_wk ?_
     try simp [go_sem, g]
     exact pT (hg7 ()) (Rn_some hF) (by simp [go_sem, g, wr_i hi9 hi10 (by assumption)])
noncomputable def F_slices_ContainsFunc_int_int__impl_areAll_1_impl_isDigest (a0 : (List Int)) : Option (Bool) :=
  (F_slices_IndexFunc_int_int__impl_areAll_1_impl_isDigest a0).bind fun z1 =>
  some (decide (0 ≤ z1))
theorem c_slices_ContainsFunc_int_int__impl_areAll_1_impl_isDigest : ∀ {a0} {r}, F_slices_ContainsFunc_int_int__impl_areAll_1_impl_isDigest a0 = some r → PCalls Tryz.prog 106 [(.sh, .sl false 1 (a0.map row_i64)), (.sh, .func (.func 107) [] [.fp [.func (.func 37) [] []]])] (Eo (.bool r) [.junk, .junk]) := by
  intro a0 r hr
  apply pF 9 [] [] [] [.tmp 4] hr cl106 Tryz.func106
  intro Φ hΦ hF g
  unfold F_slices_ContainsFunc_int_int__impl_areAll_1_impl_isDigest at hF
  try simp [go_sem, g]
  refine pw_wk ?_
  try simp [go_sem, g]
  refine pC hF [.sh, .sh] c_slices_IndexFunc_int_int__impl_areAll_1_impl_isDigest (fun z1 hF => ?_)
  cases hΦ _ (Rn_some hF)
  try simp [go_sem, g]
  refine pw_wk ?_
  try simp [go_sem, g]
noncomputable def F_impl_areAll__impl_isDigest (a0 : (List Int)) : Option (Bool) :=
  (F_slices_ContainsFunc_int_int__impl_areAll_1_impl_isDigest a0).bind fun z1 =>
  some (!z1)
theorem c_impl_areAll__impl_isDigest : ∀ {a0} {r}, F_impl_areAll__impl_isDigest a0 = some r → PCalls Tryz.prog 105 [(.sh, .sl false 1 (a0.map row_i64)), (.sh, .func (.func 37) [] [])] (Eo (.bool r) [.junk, .junk]) := by
  intro a0 r hr
  apply pF 9 [] [] [1000000] [.tmp 4] hr cl105 Tryz.func105
  intro Φ hΦ hF g
  unfold F_impl_areAll__impl_isDigest at hF
  try simp [go_sem, g]
  refine pw_wk ?_
  try simp [go_sem, g]
  refine pC hF [.sh, .sh] c_slices_ContainsFunc_int_int__impl_areAll_1_impl_isDigest (fun z1 hF => ?_)
  cases hΦ _ (Rn_some hF)
  try simp [go_sem, g]
  refine pw_wk ?_
  try simp [go_sem, g]
noncomputable def F_impl_areDigests (a0 : (List Int)) : Option (Bool) :=
  ((if decide ((a0.length : Int) ≤ 400) = true then (
  (F_impl_areAll__impl_isDigest a0).bind fun z5 =>
  some z5) else (
  some false) : Option (Bool)).bind fun x3 =>
  some x3)
theorem c_impl_areDigests : ∀ {a0} {r}, F_impl_areDigests a0 = some r → PCalls Tryz.prog 99 [(.sh, .sl false 1 (a0.map row_i64))] (Eo (.bool r) [.junk]) := by
  intro a0 r hr
  apply pF 10 [] [] [] [.tmp 2] hr cl99 Tryz.func99
  intro Φ hΦ hF g
  unfold F_impl_areDigests at hF
  try simp [go_sem, g]
  refine pw_wk ?_
  repeat rw [sq]
  refine pJ hF (fun x3 => [(2, .v (.bool x3))]) (fun x3 hF => ?_) fun _ hj1 hF => ?_
  ·cases hΦ _ (Rn_some hF)
   try simp [go_sem, g]
  ·try simp [go_sem, g]
   try intros
   refine pwg_F hF (fun h4 hF => ?_) fun h4 hF => ?_
   ·try simp [go_sem, g, h4]
    refine pC hF [.sh, .sh] c_impl_areAll__impl_isDigest (fun z5 hF => ?_)
    try simp [go_sem, g, h4]
    exact pT (hj1 z5) (Rn_some hF)
   ·try simp [go_sem, g, h4]
    exact pT (hj1 false) (Rn_some hF)
noncomputable def F_impl_hash (a0 : (List Int)) : Option (Int) :=
  gd (([(a0.length : Int)].length + a0.length) * 8 ≤ 140737488355328 ∧ [(a0.length : Int)].length + a0.length ≤ 4611686018427387904) <|
  (some ([(a0.length : Int)] ++ a0)).bind fun x1 =>
  ((rloop (σ := Int × Int) (fun i7 s6 =>
  (ix x1 i7).bind fun x13 =>
  some (.go ((i64.wrap ((i64.wrap ((i64.wrap (48271 * ((i64.wrap ((i64.wrap ((i64.wrap (48271 * s6.1)) + (i64.wrap ((BitVec.ofInt i64.bits x13 &&& BitVec.ofInt i64.bits 2147483647).toNat)))) + 1)).tmod 2147483647))) + (x13.fdiv 2147483648))) + 1)).tmod 2147483647, (i64.wrap ((i64.wrap ((i64.wrap (69621 * ((i64.wrap ((i64.wrap ((i64.wrap (69621 * s6.2)) + (i64.wrap ((BitVec.ofInt i64.bits x13 &&& BitVec.ofInt i64.bits 2147483647).toNat)))) + 1)).tmod 2147483647))) + (x13.fdiv 2147483648))) + 1)).tmod 2147483647))) (fun s6 => (s6.1, s6.2)) (x1.length) 0 (1, 2) : Option ((Int × Int))).bind fun x5 =>
  some (i64.wrap ((i64.wrap (x5.1 * 2147483648)) + x5.2)))
theorem c_impl_hash : ∀ {a0} {r}, F_impl_hash a0 = some r → PCalls Tryz.prog 100 [(.sh, .sl false 1 (a0.map row_i64))] (Eo (.int .i64 r) [.junk]) := by
  intro a0 r hr
  apply pF 52 [] [] [] [.tmp 2] hr cl100 Tryz.func100
  intro Φ hΦ hF g
  unfold F_impl_hash at hF
  obtain ⟨g, hF⟩ := Rg g hF
  obtain ⟨x1, e2, hF⟩ := Rn_bind hF
  have g := And.intro g (show [.int .i64 (a0.length : Int)] :: (List.map row_i64 a0) = x1.map row_i64 by injection e2 with e2; rw [← e2]; simp [go_sem])
  iterate 2 (try simp [go_sem, g]; try intros; refine pw_wk ?_)
  try simp [go_sem, g]
  try intros
  refine pw_wkK [3, 4, 13, 14, 15] (by simp [go_sem, g]; rfl) ?_
  repeat rw [sq]
  refine pJ hF (fun x5 => [(3, .v (.int .i64 x5.1)), (4, .v (.int .i64 x5.2))]) (fun x5 hF => ?_) fun _ hj3 hF => ?_
  ·have g := Ls g 31
   cases hΦ _ (Rn_some hF)
   try simp [go_sem, g]
   refine pw_wk ?_
   try simp [go_sem, g]
  ·repeat rw [sq]
   rw [pw_block]
   obtain ⟨b14, hb15, hψ10⟩ := hF
   refine pR hb15 (fun i7 s6 => [(3, .v (.int .i64 s6.1)), (4, .v (.int .i64 s6.2)), (13, .v (.sl true 1 (x1.map row_i64))), (14, .v (.int .i64 (x1.length : Int))), (15, .v (.int .i64 i7))]) (fun s6 _ hN16 => ?_) (fun i7 s6 _ _ hi11 hi12 ho8 hg9 hF => ?_)
   ·subst hN16
    try simp [go_sem]
    refine pw_wk ?_
    repeat rw [sq]
    refine pw_cond_f (by simp [go_sem]) ?_
    try simp [go_sem]
    exact pT (hj3 (s6.1, s6.2)) hψ10 (by simp [go_sem])
   ·try simp [go_sem, g]
    refine pw_wk ?_
    repeat rw [sq]
    refine pw_cond_t (by simp [go_sem, g, hi11, hi12]) ?_
    try simp [go_sem, g]
    refine pw_wk ?_
    repeat rw [sq]
    rw [pw_block]
    obtain ⟨x13, g, hF⟩ := Rx g hF
    have g := Ls g 31
    try simp [go_sem, g]
    refine pw_wk ?_
    try simp [go_sem, g]
    refine pw_wkK [3, 4, 7, 8, 13, 14, 15] (by simp [go_sem, g]; rfl) ?_
    have g := Ld g 2147483647
    try simp [go_sem, g]
    refine pw_wk ?_
    try simp [go_sem, g]
    refine pw_wkK [3, 4, 7, 8, 13, 14, 15] (by simp [go_sem, g]; rfl) ?_
    try simp [go_sem, g]
    refine pw_wk ?_
    try simp [go_sem, g]
    refine pw_wkK [3, 4, 13, 14, 15] (by simp [go_sem, g]; rfl) ?_
    try simp [go_sem, g]
    exact pT (hg9 ((i64.wrap ((i64.wrap ((i64.wrap (48271 * ((i64.wrap ((i64.wrap ((i64.wrap (48271 * s6.1)) + (i64.wrap ((BitVec.ofInt i64.bits x13 &&& BitVec.ofInt i64.bits 2147483647).toNat)))) + 1)).tmod 2147483647))) + (x13.fdiv 2147483648))) + 1)).tmod 2147483647, (i64.wrap ((i64.wrap ((i64.wrap (69621 * ((i64.wrap ((i64.wrap ((i64.wrap (69621 * s6.2)) + (i64.wrap ((BitVec.ofInt i64.bits x13 &&& BitVec.ofInt i64.bits 2147483647).toNat)))) + 1)).tmod 2147483647))) + (x13.fdiv 2147483648))) + 1)).tmod 2147483647)) (Rn_some hF) (by simp [go_sem, g, wr_i hi11 hi12 (by assumption)])
noncomputable def F_impl_HashInts (a0 : (List Int)) : Option (Int × Bool) :=
  (F_impl_areDigests a0).bind fun z1 =>
  if (!z1) = true then (
  some (0, false)) else (
  (F_impl_hash a0).bind fun z3 =>
  some (z3, true))
theorem c_impl_HashInts : ∀ {a0} {r}, F_impl_HashInts a0 = some r → PCalls Tryz.prog 86 [(.sh, .sl false 1 (a0.map row_i64))] (Eo (.tup [.int .i64 r.1, .bool r.2]) [.junk]) := by
  intro a0 r hr
  apply pF 9 [] [] [] [.tmp 2, .tmp 3] hr cl86 Tryz.func86
  intro Φ hΦ hF g
  unfold F_impl_HashInts at hF
  try simp [go_sem, g]
  refine pw_wk ?_
  try simp [go_sem, g]
  refine pC hF [.sh] c_impl_areDigests (fun z1 hF => ?_)
  try simp [go_sem, g]
  refine pw_wk ?_
  repeat rw [sq]
  refine pI hF (fun h2 hF => ?_) (fun h2 hF => ?_)
  ·cases hΦ _ (Rn_some hF)
   try simp [go_sem, g]
   refine pw_wk ?_
   try simp [go_sem, g]
  ·try simp [go_sem, g]
   refine pw_wk ?_
   try simp [go_sem, g]
   refine pC hF [.sh] c_impl_hash (fun z3 hF => ?_)
   cases hΦ _ (Rn_some hF)
   try simp [go_sem, g]
   refine pw_wk ?_
   try simp [go_sem, g]
noncomputable def F_impl_HashLabelled (a0 : ByteArray) (a1 : (List Int)) : Option (Int × Bool) :=
  ((if decide (40 < (a0.size : Int)) = true then (
  some true) else (
  some (decide (400 < (a1.length : Int)))) : Option (Bool)).bind fun x3 =>
  if x3 = true then (
  some (0, false)) else (
  (F_impl_labelled a0 a1).bind fun z6 =>
  (F_impl_HashInts z6).bind fun z7 =>
  some (z7.1, z7.2)))
theorem c_impl_HashLabelled : ∀ {a0} {a1} {r}, F_impl_HashLabelled a0 a1 = some r → PCalls Tryz.prog 68 [(.sh, .str a0), (.sh, .sl false 1 (a1.map row_i64))] (Eo (.tup [.int .i64 r.1, .bool r.2]) [.junk, .junk]) := by
  intro a0 a1 r hr
  apply pF 20 [] [] [] [.tmp 4, .tmp 5] hr cl68 Tryz.func68
  intro Φ hΦ hF g
  unfold F_impl_HashLabelled at hF
  try simp [go_sem, g]
  refine pw_wk ?_
  repeat rw [sq]
  refine pJ hF (fun x3 => [(0, .v (.str a0)), (1, .v (.sl false 1 (a1.map row_i64))), (13, .v (.bool x3))]) (fun x3 hF => ?_) fun _ hj1 hF => ?_
  ·repeat rw [sq]
   refine pI hF (fun h5 hF => ?_) (fun h5 hF => ?_)
   ·cases hΦ _ (Rn_some hF)
    try simp [go_sem, g]
    refine pw_wk ?_
    try simp [go_sem, g]
   ·try simp [go_sem, g]
    refine pw_wk ?_
    try simp [go_sem, g]
    refine pC hF [.sh, .sh] c_impl_labelled (fun z6 hF => ?_)
    try simp [go_sem, g]
    refine pC hF [.sh] c_impl_HashInts (fun z7 hF => ?_)
    try simp [go_sem, g]
    refine pw_wkK [4, 5] (by simp [go_sem, g]; rfl) ?_
    cases hΦ _ (Rn_some hF)
    try simp [go_sem, g]
  ·try simp [go_sem, g]
   refine pwg_F hF (fun h4 hF => ?_) fun h4 hF => ?_
   ·try simp [go_sem, g, h4]
    exact pT (hj1 true) (Rn_some hF)
   ·try simp [go_sem, g, h4]
    try intros
    exact pT (hj1 (decide (400 < (a1.length : Int)))) (Rn_some hF)
def D77_7 : List DE := [d0 0 [9], d1 1 [3] 3, d2 2 [32] 3 32, d0 3 [33], d0 4 [31, 34], d0 5 [35], d1 6 [3] 3, d2 7 [37] 3 37, d0 8 [38], d1 9 [3] 3, d2 10 [40] 3 40, d0 11 [39, 41], d1 12 [3] 3, d2 13 [43] 3 43, d3 14 [36, 42, 44], d0 15 [45]]
noncomputable def F_impl_Group_derive (a0 : Group) (a1 : ByteArray) (a2 : Int) : Option (Int × Bool) :=
  ((wloop (σ := Int) (fun s4 =>
  if decide (s4 < 1000) = true then (
  (F_impl_HashLabelled a1 [a0.P, a0.Q, a0.G, a2, s4]).bind fun z10 =>
  if (!z10.2) = true then (
  some (.out (.inr (0, false)))) else (
  gd (i64.wrap (a0.P - 1) ≠ 0) <|
  gd (a0.Q ≠ 0) <|
  (F_impl_power (i64.wrap (1 + (z10.1.tmod (i64.wrap (a0.P - 1))))) (i64.wrap ((i64.wrap (a0.P - 1)).tdiv a0.Q)) a0.P).bind fun z12 =>
  if (z12 != 1) = true then (
  some (.out (.inr (z12, true)))) else (
  some (.go (i64.wrap (s4 + 1)))))) else (
  some (.out (.inl ())))) 0 : Option (Unit ⊕ (Int × Bool))).bind (Sum.elim (fun x3 =>
  some (0, false)) some))
theorem c_impl_Group_derive : ∀ {a0} {a1} {a2} {r}, F_impl_Group_derive a0 a1 a2 = some r → PCalls Tryz.prog 77 [(.sh, .agg [.int .i64 a0.P, .int .i64 a0.Q, .int .i64 a0.G]), (.sh, .str a1), (.sh, .int .i64 a2)] (Eo (.tup [.int .i64 r.1, .bool r.2]) [.junk, .junk, .junk]) := by
  intro a0 a1 a2 r hr
  apply pF 50 [] [] [] [.tmp 6, .tmp 7] hr cl77 Tryz.func77
  intro Φ hΦ hF g
  unfold F_impl_Group_derive at hF
  iterate 2 (try simp [go_sem, g]; refine pw_wk ?_)
  repeat rw [sq]
  refine pJs hF (fun x3 => []) (fun x3 hF => ?_) fun _ hj1 hr2 hF => ?_
  ·cases hΦ _ (Rn_some hF)
   try simp [go_sem, g]
   refine pw_wk ?_
   try simp [go_sem, g]
  ·repeat rw [sq]
   rw [pw_block]
   obtain ⟨b14, hb15, hψ8⟩ := hF
   refine pL hb15 (fun s4 => [(1, .v (.str a1)), (2, .v (.int .i64 a2)), (3, .bl [.int .i64 a0.P, .int .i64 a0.Q, .int .i64 a0.G]), (12, .v (.int .i64 s4))]) (fun s4 _ _ ho6 hg7 hF => ?_)
   try simp [go_sem, g]
   refine pw_wk ?_
   repeat rw [sq]
   refine pI hF (fun h9 hF => ?_) (fun h9 hF => ?_)
   ·try simp [go_sem, g]
    refine pw_wk ?_
    repeat rw [sq]
    rw [pw_block]
    try simp [go_sem, g]
    refine pw_wk ?_
    try simp [go_sem, g]
    refine pC hF [.sh, .sh] c_impl_HashLabelled (fun z10 hF => ?_)
    try simp [go_sem, g]
    refine pw_wkK [1, 2, 3, 9, 10, 12] (by simp [go_sem, g]; rfl) ?_
    try simp [go_sem, g]
    refine pw_wk ?_
    repeat rw [sq]
    refine pI hF (fun h11 hF => ?_) (fun h11 hF => ?_)
    ·cases ho6 _ (Rn_some hF)
     cases hΦ _ (hr2 _ hψ8)
     try simp [go_sem, g]
     refine pw_wk ?_
     try simp [go_sem, g]
    ·try simp [go_sem, g]
     refine pw_wk ?_
     repeat rw [sq]
     refine pw_draw D77_7 follows (by kernel_rfl) rfl ?_
     try simp only [go_sem, D77_7]
     obtain ⟨g, hF⟩ := Rz g hF
     obtain ⟨g, hF⟩ := Rz g hF
     try simp [go_sem, g]
     refine pC hF [.sh, .sh, .sh] c_impl_power (fun z12 hF => ?_)
     try simp [go_sem, g]
     refine pw_wkK [1, 2, 3, 11, 12] (by simp [go_sem, g]; rfl) ?_
     try simp [go_sem, g]
     refine pw_wk ?_
     repeat rw [sq]
     refine pI hF (fun h13 hF => ?_) (fun h13 hF => ?_)
     ·cases ho6 _ (Rn_some hF)
      cases hΦ _ (hr2 _ hψ8)
      try simp [go_sem, g]
      refine pw_wk ?_
      try simp [go_sem, g]
     ·try simp [go_sem, g]
      refine pw_wk ?_
      try simp [go_sem, g]
      exact pT (hg7 (i64.wrap (s4 + 1))) (Rn_some hF)
   ·try simp [go_sem, g]
    cases ho6 _ (Rn_some hF)
    exact pT (hj1 ()) hψ8
noncomputable def F_impl_Group_basesOf (a0 : Group) (a1 : Int) : Option (Bases × Bool) :=
  (F_impl_Group_derive a0 (⟨#[104]⟩ : ByteArray) 0).bind fun z1 =>
  ((wloop (σ := Int × (List Int) × Bool × Int) (fun s16 =>
  if decide (s16.2.2.2 < a1) = true then (
  (F_impl_Group_derive a0 (⟨#[104, 115]⟩ : ByteArray) s16.2.2.2).bind fun z22 =>
  ((if s16.2.2.1 = true then (
  some z22.2) else (
  some false) : Option (Bool)).bind fun x25 =>
  gd ((s16.2.1.length + 1) * 8 ≤ 140737488355328 ∧ s16.2.1.length + 1 ≤ 4611686018427387904) <|
  some (.go (s16.1, s16.2.1 ++ [z22.1], x25, i64.wrap (s16.2.2.2 + 1))))) else (
  some (.out (s16.1, s16.2.1, s16.2.2.1)))) (z1.1, [], true, 0) : Option ((Int × (List Int) × Bool))).bind fun x4 =>
  ((if (!z1.2) = true then (
  some true) else (
  some (!x4.2.2)) : Option (Bool)).bind fun x31 =>
  if x31 = true then (
  some ((Bases.mk 0 []), false)) else (
  some ((Bases.mk x4.1 x4.2.1), true))))
theorem c_impl_Group_basesOf : ∀ {a0} {a1} {r}, F_impl_Group_basesOf a0 a1 = some r → PCalls Tryz.prog 48 [(.sh, .agg [.int .i64 a0.P, .int .i64 a0.Q, .int .i64 a0.G]), (.sh, .int .i64 a1)] (Eo (.tup [.agg [.int .i64 r.1.H, .sl true 1 (r.1.Hs.map row_i64)], .bool r.2]) [.junk, .junk]) := by
  intro a0 a1 r hr
  apply pF 49 [] [] [] [.cell 4 71, .tmp 5] hr cl48 Tryz.func48
  intro Φ hΦ hF g
  unfold F_impl_Group_basesOf at hF
  try simp [go_sem, g]
  refine pw_wk ?_
  try simp [go_sem, g]
  refine pC hF [.sh, .sh, .sh] c_impl_Group_derive (fun z1 hF => ?_)
  try simp [go_sem, g]
  refine pw_wkK [1, 2, 4, 6, 7] (by simp [go_sem, g]; rfl) ?_
  iterate 2 (try simp [go_sem, g]; refine pw_wk ?_)
  repeat rw [sq]
  refine pJ hF (fun x4 => [(4, .bl [.int .i64 0, .sl true 1 []]), (7, .v (.bool z1.2)), (8, .bl [.int .i64 x4.1, .sl true 1 (x4.2.1.map row_i64)]), (9, .v (.bool x4.2.2))]) (fun x4 hF => ?_) fun _ hj2 hF => ?_
  ·repeat rw [sq]
   refine pJ hF (fun x31 => [(4, .bl [.int .i64 0, .sl true 1 []]), (8, .bl [.int .i64 x4.1, .sl true 1 (x4.2.1.map row_i64)]), (46, .v (.bool x31))]) (fun x31 hF => ?_) fun _ hj29 hF => ?_
   ·repeat rw [sq]
    refine pI hF (fun h33 hF => ?_) (fun h33 hF => ?_)
    ·try simp [go_sem, g]
     refine pw_wkK [4, 5] (by simp [go_sem, g]; rfl) ?_
     cases hΦ _ (Rn_some hF)
     try simp [go_sem, g]
    ·try simp [go_sem, g]
     refine pw_wk ?_
     try simp [go_sem, g]
     refine pw_wkK [4, 5] (by simp [go_sem, g]; rfl) ?_
     cases hΦ _ (Rn_some hF)
     try simp [go_sem, g]
   ·try simp [go_sem, g]
    refine pwg_F hF (fun h32 hF => ?_) fun h32 hF => ?_
    ·try simp [go_sem, g, h32]
     exact pT (hj29 true) (Rn_some hF)
    ·try simp [go_sem, g, h32]
     exact pT (hj29 (!x4.2.2)) (Rn_some hF)
  ·repeat rw [sq]
   rw [pw_block]
   obtain ⟨b27, hb28, hψ20⟩ := hF
   refine pL hb28 (fun s16 => [(2, .bl [.int .i64 a0.P, .int .i64 a0.Q, .int .i64 a0.G]), (4, .bl [.int .i64 0, .sl true 1 []]), (7, .v (.bool z1.2)), (8, .bl [.int .i64 s16.1, .sl true 1 (s16.2.1.map row_i64)]), (9, .v (.bool s16.2.2.1)), (20, .v (.int .i64 a1)), (21, .v (.int .i64 s16.2.2.2))]) (fun s16 _ _ ho18 hg19 hF => ?_)
   try simp [go_sem, g]
   refine pw_wk ?_
   repeat rw [sq]
   refine pI hF (fun h21 hF => ?_) (fun h21 hF => ?_)
   ·try simp [go_sem, g]
    refine pw_wk ?_
    repeat rw [sq]
    rw [pw_block]
    try simp [go_sem, g]
    refine pw_wkK [2, 4, 7, 8, 9, 10, 20, 21] (by simp [go_sem, g]; rfl) ?_
    try simp [go_sem, g]
    refine pC hF [.sh, .sh, .sh] c_impl_Group_derive (fun z22 hF => ?_)
    try simp [go_sem, g]
    refine pw_wk ?_
    repeat rw [sq]
    refine pJ hF (fun x25 => [(2, .bl [.int .i64 a0.P, .int .i64 a0.Q, .int .i64 a0.G]), (4, .bl [.int .i64 0, .sl true 1 []]), (7, .v (.bool z1.2)), (8, .bl [.int .i64 s16.1, .sl true 1 (s16.2.1.map row_i64)]), (9, .v (.bool x25)), (11, .v (.int .i64 z22.1)), (20, .v (.int .i64 a1)), (21, .v (.int .i64 s16.2.2.2))]) (fun x25 hF => ?_) fun _ hj23 hF => ?_
    ·obtain ⟨g, hF⟩ := Rg g hF
     try simp [go_sem, g]
     refine pw_wkK [2, 4, 7, 8, 9, 20, 21] (by simp [go_sem, g]; rfl) ?_
     try simp [go_sem, g]
     exact pT (hg19 (s16.1, s16.2.1 ++ [z22.1], x25, i64.wrap (s16.2.2.2 + 1))) (Rn_some hF)
    ·try simp [go_sem, g]
     refine pwg_F hF (fun h26 hF => ?_) fun h26 hF => ?_
     ·try simp [go_sem, g, h26]
      exact pT (hj23 z22.2) (Rn_some hF)
     ·try simp [go_sem, g, h26]
      exact pT (hj23 false) (Rn_some hF)
   ·try simp [go_sem, g]
    cases ho18 _ (Rn_some hF)
    exact pT (hj2 (s16.1, s16.2.1, s16.2.2.1)) hψ20
def D18_3 : List DE := [d1 0 [1] 1, d2 1 [49] 1 49, d3 2 [50], d0 3 [51], d1 4 [1, 52] 1, d2 5 [53, 52] 1 53, d1 6 [1, 52] 1, d2 7 [55, 52] 1 55, d1 10 [1, 52] 1, d1 11 [59, 52] 1, d2 12 [60, 52] 1 60, d3 8 [56, 52], d0 9 [54, 57, 52], d0 13 [58, 61, 52], d0 14 [52, 62]]
noncomputable def F_impl_IsValidPlan (a0 : Plan) : Option (Bool) :=
  (((F_impl_IsSealable a0.Gr a0.Ct).bind fun z4 =>
  if (!z4) = true then (
  some true) else (
  if decide (a0.Gr.Q ≤ 7) = true then (
  some true) else (
  (F_impl_within a0.Trustees 1 4).bind fun z7 =>
  if (!z7) = true then (
  some true) else (
  (F_impl_within a0.Threshold 1 a0.Trustees).bind fun z9 =>
  if (!z9) = true then (
  some true) else (
  (F_impl_within a0.Mixers 0 3).bind fun z11 =>
  if (!z11) = true then (
  some true) else (
  (F_impl_within a0.Voters 1 12).bind fun z13 =>
  if (!z13) = true then (
  some true) else (
  (F_impl_isDigest a0.Seed).bind fun z15 =>
  some (!z15))))))) : Option (Bool)).bind fun x3 =>
  if x3 = true then (
  some false) else (
  (((F_impl_Contest_isForm a0.Ct).bind fun z20 =>
  if z20 = true then (
  (F_impl_Contest_most a0.Ct).bind fun z22 =>
  some (decide (a0.Gr.Q ≤ (i64.wrap (a0.Voters * z22))))) else (
  some false) : Option (Bool)).bind fun x19 =>
  if x19 = true then (
  some false) else (
  (F_impl_Group_basesOf a0.Gr 12).bind fun z24 =>
  some z24.2))))
theorem c_impl_IsValidPlan : ∀ {a0} {r}, F_impl_IsValidPlan a0 = some r → PCalls Tryz.prog 18 [(.sh, .agg [.int .i64 a0.Gr.P, .int .i64 a0.Gr.Q, .int .i64 a0.Gr.G, .int .i64 a0.Ct.Kind, .int .i64 a0.Ct.Options, .int .i64 a0.Ct.Least, .int .i64 a0.Ct.Most, .int .i64 a0.Ct.Points, .int .i64 a0.Threshold, .int .i64 a0.Trustees, .int .i64 a0.Mixers, .int .i64 a0.Voters, .int .i64 a0.Seed])] (Eo (.bool r) [.junk]) := by
  intro a0 r hr
  apply pF 71 [] [] [] [.tmp 2] hr cl18 Tryz.func18
  intro Φ hΦ hF g
  unfold F_impl_IsValidPlan at hF
  try simp [go_sem, g]
  refine pw_wk ?_
  repeat rw [sq]
  refine pJ hF (fun x3 => [(1, .bl [.int .i64 a0.Gr.P, .int .i64 a0.Gr.Q, .int .i64 a0.Gr.G, .int .i64 a0.Ct.Kind, .int .i64 a0.Ct.Options, .int .i64 a0.Ct.Least, .int .i64 a0.Ct.Most, .int .i64 a0.Ct.Points, .int .i64 a0.Threshold, .int .i64 a0.Trustees, .int .i64 a0.Mixers, .int .i64 a0.Voters, .int .i64 a0.Seed]), (48, .v (.bool x3))]) (fun x3 hF => ?_) fun _ hj1 hF => ?_
  ·repeat rw [sq]
   refine pI hF (fun h16 hF => ?_) (fun h16 hF => ?_)
   ·cases hΦ _ (Rn_some hF)
    try simp [go_sem, g]
    refine pw_wk ?_
    try simp [go_sem, g]
   ·try simp [go_sem, g]
    refine pw_wk ?_
    repeat rw [sq]
    refine pJ hF (fun x19 => [(1, .bl [.int .i64 a0.Gr.P, .int .i64 a0.Gr.Q, .int .i64 a0.Gr.G, .int .i64 a0.Ct.Kind, .int .i64 a0.Ct.Options, .int .i64 a0.Ct.Least, .int .i64 a0.Ct.Most, .int .i64 a0.Ct.Points, .int .i64 a0.Threshold, .int .i64 a0.Trustees, .int .i64 a0.Mixers, .int .i64 a0.Voters, .int .i64 a0.Seed]), (63, .v (.bool x19))]) (fun x19 hF => ?_) fun _ hj17 hF => ?_
    ·repeat rw [sq]
     refine pI hF (fun h23 hF => ?_) (fun h23 hF => ?_)
     ·cases hΦ _ (Rn_some hF)
      try simp [go_sem, g]
      refine pw_wk ?_
      try simp [go_sem, g]
     ·try simp [go_sem, g]
      refine pw_wk ?_
      try simp [go_sem, g]
      refine pC hF [.sh, .sh] c_impl_Group_basesOf (fun z24 hF => ?_)
      try simp [go_sem, g]
      refine pw_wkK [4] (by simp [go_sem, g]; rfl) ?_
      cases hΦ _ (Rn_some hF)
      try simp [go_sem, g]
      refine pw_wk ?_
      try simp [go_sem, g]
    ·repeat rw [sq]
     refine pw_draw D18_3 follows (by kernel_rfl) rfl ?_
     try simp only [go_sem, D18_3]
     try simp [go_sem, g]
     refine pC hF [.sh] c_impl_Contest_isForm (fun z20 hF => ?_)
     try simp [go_sem, g]
     refine pwgD_F hF (fun h21 hF => ?_) fun h21 hF => ?_
     ·try simp [go_sem, g, h21]
      refine pC hF [.sh] c_impl_Contest_most (fun z22 hF => ?_)
      try simp [go_sem, g, h21]
      exact pT (hj17 (decide (a0.Gr.Q ≤ (i64.wrap (a0.Voters * z22))))) (Rn_some hF)
     ·try simp [go_sem, g, h21]
      exact pT (hj17 false) (Rn_some hF)
  ·try simp [go_sem, g]
   refine pC hF [.sh, .sh] c_impl_IsSealable (fun z4 hF => ?_)
   try simp [go_sem, g]
   refine pwg_F hF (fun h5 hF => ?_) fun h5 hF => ?_
   ·try simp [go_sem, g, h5]
    exact pT (hj1 true) (Rn_some hF)
   ·try simp [go_sem, g, h5]
    refine pwg_F hF (fun h6 hF => ?_) fun h6 hF => ?_
    ·try simp [go_sem, g, h6]
     exact pT (hj1 true) (Rn_some hF)
    ·try simp [go_sem, g, h6]
     refine pC hF [.sh, .sh, .sh] c_impl_within (fun z7 hF => ?_)
     try simp [go_sem, g, h6]
     refine pwg_F hF (fun h8 hF => ?_) fun h8 hF => ?_
     ·try simp [go_sem, g, h8]
      exact pT (hj1 true) (Rn_some hF)
     ·try simp [go_sem, g, h8]
      refine pC hF [.sh, .sh, .sh] c_impl_within (fun z9 hF => ?_)
      try simp [go_sem, g, h8]
      refine pwg_F hF (fun h10 hF => ?_) fun h10 hF => ?_
      ·try simp [go_sem, g, h10]
       exact pT (hj1 true) (Rn_some hF)
      ·try simp [go_sem, g, h10]
       refine pC hF [.sh, .sh, .sh] c_impl_within (fun z11 hF => ?_)
       try simp [go_sem, g, h10]
       refine pwg_F hF (fun h12 hF => ?_) fun h12 hF => ?_
       ·try simp [go_sem, g, h12]
        exact pT (hj1 true) (Rn_some hF)
       ·try simp [go_sem, g, h12]
        refine pC hF [.sh, .sh, .sh] c_impl_within (fun z13 hF => ?_)
        try simp [go_sem, g, h12]
        refine pwg_F hF (fun h14 hF => ?_) fun h14 hF => ?_
        ·try simp [go_sem, g, h14]
         exact pT (hj1 true) (Rn_some hF)
        ·try simp [go_sem, g, h14]
         refine pC hF [.sh] c_impl_isDigest (fun z15 hF => ?_)
         try simp [go_sem, g, h14]
         exact pT (hj1 (!z15)) (Rn_some hF)
noncomputable def F_impl_Plan_coins (a0 : Plan) (a1 : ByteArray) (a2 : Int) (a3 : Int) : Option ((List Int)) :=
  ((wloop (σ := (List Int) × Int) (fun s4 =>
  if decide (s4.2 < a3) = true then (
  (F_impl_HashLabelled a1 [a0.Seed, a2, s4.2]).bind fun z10 =>
  gd (a0.Gr.Q ≠ 0) <|
  gd ((s4.1.length + 1) * 8 ≤ 140737488355328 ∧ s4.1.length + 1 ≤ 4611686018427387904) <|
  some (.go (s4.1 ++ [z10.1.tmod a0.Gr.Q], i64.wrap (s4.2 + 1)))) else (
  some (.out s4.1))) ([], 0) : Option ((List Int))).bind fun x3 =>
  some x3)
theorem c_impl_Plan_coins : ∀ {a0} {a1} {a2} {a3} {r}, F_impl_Plan_coins a0 a1 a2 a3 = some r → PCalls Tryz.prog 38 [(.sh, .agg [.int .i64 a0.Gr.P, .int .i64 a0.Gr.Q, .int .i64 a0.Gr.G, .int .i64 a0.Ct.Kind, .int .i64 a0.Ct.Options, .int .i64 a0.Ct.Least, .int .i64 a0.Ct.Most, .int .i64 a0.Ct.Points, .int .i64 a0.Threshold, .int .i64 a0.Trustees, .int .i64 a0.Mixers, .int .i64 a0.Voters, .int .i64 a0.Seed]), (.sh, .str a1), (.sh, .int .i64 a2), (.sh, .int .i64 a3)] (Eo (.sl true 1 (r.map row_i64)) [.junk, .junk, .junk, .junk]) := by
  intro a0 a1 a2 a3 r hr
  apply pF 38 [] [] [] [.tmp 8] hr cl38 Tryz.func38
  intro Φ hΦ hF g
  unfold F_impl_Plan_coins at hF
  iterate 3 (try simp [go_sem, g]; refine pw_wk ?_)
  repeat rw [sq]
  refine pJ hF (fun x3 => [(9, .v (.sl true 1 (x3.map row_i64)))]) (fun x3 hF => ?_) fun _ hj1 hF => ?_
  ·cases hΦ _ (Rn_some hF)
   try simp [go_sem, g]
   refine pw_wk ?_
   try simp [go_sem, g]
  ·repeat rw [sq]
   rw [pw_block]
   obtain ⟨b11, hb12, hψ8⟩ := hF
   refine pL hb12 (fun s4 => [(1, .v (.str a1)), (2, .v (.int .i64 a2)), (4, .bl [.int .i64 a0.Gr.P, .int .i64 a0.Gr.Q, .int .i64 a0.Gr.G, .int .i64 a0.Ct.Kind, .int .i64 a0.Ct.Options, .int .i64 a0.Ct.Least, .int .i64 a0.Ct.Most, .int .i64 a0.Ct.Points, .int .i64 a0.Threshold, .int .i64 a0.Trustees, .int .i64 a0.Mixers, .int .i64 a0.Voters, .int .i64 a0.Seed]), (9, .v (.sl true 1 (s4.1.map row_i64))), (14, .v (.int .i64 a3)), (15, .v (.int .i64 s4.2))]) (fun s4 _ _ ho6 hg7 hF => ?_)
   try simp [go_sem, g]
   refine pw_wk ?_
   repeat rw [sq]
   refine pI hF (fun h9 hF => ?_) (fun h9 hF => ?_)
   ·try simp [go_sem, g]
    refine pw_wk ?_
    repeat rw [sq]
    rw [pw_block]
    try simp [go_sem, g]
    refine pw_wk ?_
    try simp [go_sem, g]
    refine pC hF [.sh, .sh] c_impl_HashLabelled (fun z10 hF => ?_)
    try simp [go_sem, g]
    refine pw_wkK [1, 2, 4, 9, 11, 14, 15] (by simp [go_sem, g]; rfl) ?_
    obtain ⟨g, hF⟩ := Rz g hF
    obtain ⟨g, hF⟩ := Rg g hF
    try simp [go_sem, g]
    refine pw_wk ?_
    try simp [go_sem, g]
    exact pT (hg7 (s4.1 ++ [z10.1.tmod a0.Gr.Q], i64.wrap (s4.2 + 1))) (Rn_some hF)
   ·try simp [go_sem, g]
    cases ho6 _ (Rn_some hF)
    exact pT (hj1 s4.1) hψ8
def D50_5 : List DE := [d0 0 [7], d0 1 [2], d0 2 [16, 17], d0 3 [0], d0 4 [18, 19], d0 5 [1], d0 6 [8], d0 7 [21, 22], d0 8 [23], d0 9 [20, 24], d0 10 [0], d0 11 [25, 26], d0 12 [27]]
noncomputable def F_impl_evalPoly (a0 : Int) (a1 : (List Int)) (a2 : Int) : Option (Int) :=
  ((wloop (σ := Int × Int) (fun s4 =>
  if decide (0 ≤ s4.2) = true then (
  gd (a0 ≠ 0) <|
  (ix a1 s4.2).bind fun x10 =>
  gd (a0 ≠ 0) <|
  some (.go ((i64.wrap (((i64.wrap (s4.1 * a2)).tmod a0) + x10)).tmod a0, i64.wrap (s4.2 - 1)))) else (
  some (.out s4.1))) (0, i64.wrap ((a1.length : Int) - 1)) : Option (Int)).bind fun x3 =>
  some x3)
theorem c_impl_evalPoly : ∀ {a0} {a1} {a2} {r}, F_impl_evalPoly a0 a1 a2 = some r → PCalls Tryz.prog 50 [(.sh, .int .i64 a0), (.sh, .sl false 1 (a1.map row_i64)), (.sh, .int .i64 a2)] (Eo (.int .i64 r) [.junk, .junk, .junk]) := by
  intro a0 a1 a2 r hr
  apply pF 29 [] [] [] [.tmp 6] hr cl50 Tryz.func50
  intro Φ hΦ hF g
  unfold F_impl_evalPoly at hF
  iterate 3 (try simp [go_sem, g]; try intros; refine pw_wk ?_)
  repeat rw [sq]
  refine pJ hF (fun x3 => [(7, .v (.int .i64 x3))]) (fun x3 hF => ?_) fun _ hj1 hF => ?_
  ·cases hΦ _ (Rn_some hF)
   try simp [go_sem, g]
   refine pw_wk ?_
   try simp [go_sem, g]
  ·repeat rw [sq]
   rw [pw_block]
   obtain ⟨b11, hb12, hψ8⟩ := hF
   refine pL hb12 (fun s4 => [(0, .v (.int .i64 a0)), (1, .v (.sl false 1 (a1.map row_i64))), (2, .v (.int .i64 a2)), (7, .v (.int .i64 s4.1)), (8, .v (.int .i64 s4.2))]) (fun s4 _ _ ho6 hg7 hF => ?_)
   try simp [go_sem, g]
   refine pw_wk ?_
   repeat rw [sq]
   refine pI hF (fun h9 hF => ?_) (fun h9 hF => ?_)
   ·try simp [go_sem, g]
    refine pw_wk ?_
    repeat rw [sq]
    rw [pw_block]
    repeat rw [sq]
    refine pw_draw D50_5 follows (by kernel_rfl) rfl ?_
    try simp only [go_sem, D50_5]
    obtain ⟨g, hF⟩ := Rz g hF
    obtain ⟨x10, g, hF⟩ := Rx g hF
    obtain ⟨g, hF⟩ := Rz g hF
    try simp [go_sem, g]
    refine pw_wkK [0, 1, 2, 7, 8] (by simp [go_sem, g]; rfl) ?_
    try simp [go_sem, g]
    exact pT (hg7 ((i64.wrap (((i64.wrap (s4.1 * a2)).tmod a0) + x10)).tmod a0, i64.wrap (s4.2 - 1))) (Rn_some hF)
   ·try simp [go_sem, g]
    cases ho6 _ (Rn_some hF)
    exact pT (hj1 s4.1) hψ8
noncomputable def F_impl_mod (a0 : Int) (a1 : Int) : Option (Int) :=
  gd (a1 ≠ 0) <|
  gd (a1 ≠ 0) <|
  some ((i64.wrap ((a0.tmod a1) + a1)).tmod a1)
theorem c_impl_mod : ∀ {a0} {a1} {r}, F_impl_mod a0 a1 = some r → PCalls Tryz.prog 78 [(.sh, .int .i64 a0), (.sh, .int .i64 a1)] (Eo (.int .i64 r) [.junk, .junk]) := by
  intro a0 a1 r hr
  apply pF 12 [] [] [] [.tmp 4] hr cl78 Tryz.func78
  intro Φ hΦ hF g
  unfold F_impl_mod at hF
  obtain ⟨g, hF⟩ := Rz g hF
  obtain ⟨g, hF⟩ := Rz g hF
  cases hΦ _ (Rn_some hF)
  iterate 2 (try simp [go_sem, g]; refine pw_wk ?_)
  try simp [go_sem, g]
noncomputable def F_impl_Group_exp (a0 : Group) (a1 : Int) : Option (Int) :=
  (F_impl_mod a1 a0.Q).bind fun z1 =>
  some z1
theorem c_impl_Group_exp : ∀ {a0} {a1} {r}, F_impl_Group_exp a0 a1 = some r → PCalls Tryz.prog 49 [(.sh, .agg [.int .i64 a0.P, .int .i64 a0.Q, .int .i64 a0.G]), (.sh, .int .i64 a1)] (Eo (.int .i64 r) [.junk, .junk]) := by
  intro a0 a1 r hr
  apply pF 9 [] [] [] [.tmp 4] hr cl49 Tryz.func49
  intro Φ hΦ hF g
  unfold F_impl_Group_exp at hF
  try simp [go_sem, g]
  refine pw_wk ?_
  try simp [go_sem, g]
  refine pC hF [.sh, .sh] c_impl_mod (fun z1 hF => ?_)
  cases hΦ _ (Rn_some hF)
  try simp [go_sem, g]
  refine pw_wk ?_
  try simp [go_sem, g]
def D20_5 : List DE := [d1 0 [2] 2, d2 1 [13] 2 13, d0 2 [5], d1 3 [2] 2, d1 4 [16] 2, d2 5 [17] 2 17, d2 6 [2] 2 2, d0 7 [6], d1 8 [2] 2, d2 9 [21] 2 21, d0 11 [1], d3 10 [19, 20, 22], d3 12 [18, 23, 24], d0 13 [15, 25], d3 14 [14, 26], d0 15 [27]]
noncomputable def F_impl_Plan_share (a0 : Plan) (a1 : Int) : Option (Int) :=
  ((wloop (σ := Int × Int) (fun s4 =>
  if decide (s4.2 ≤ a0.Trustees) = true then (
  (F_impl_Plan_coins a0 (⟨#[100, 101, 97, 108]⟩ : ByteArray) s4.2 a0.Threshold).bind fun z10 =>
  (F_impl_evalPoly a0.Gr.Q z10 a1).bind fun z11 =>
  (F_impl_Group_exp a0.Gr (i64.wrap (s4.1 + z11))).bind fun z12 =>
  some (.go (z12, i64.wrap (s4.2 + 1)))) else (
  some (.out s4.1))) (0, 1) : Option (Int)).bind fun x3 =>
  some x3)
theorem c_impl_Plan_share : ∀ {a0} {a1} {r}, F_impl_Plan_share a0 a1 = some r → PCalls Tryz.prog 20 [(.sh, .agg [.int .i64 a0.Gr.P, .int .i64 a0.Gr.Q, .int .i64 a0.Gr.G, .int .i64 a0.Ct.Kind, .int .i64 a0.Ct.Options, .int .i64 a0.Ct.Least, .int .i64 a0.Ct.Most, .int .i64 a0.Ct.Points, .int .i64 a0.Threshold, .int .i64 a0.Trustees, .int .i64 a0.Mixers, .int .i64 a0.Voters, .int .i64 a0.Seed]), (.sh, .int .i64 a1)] (Eo (.int .i64 r) [.junk, .junk]) := by
  intro a0 a1 r hr
  apply pF 29 [] [] [] [.tmp 4] hr cl20 Tryz.func20
  intro Φ hΦ hF g
  unfold F_impl_Plan_share at hF
  iterate 3 (try simp [go_sem, g]; refine pw_wk ?_)
  repeat rw [sq]
  refine pJ hF (fun x3 => [(5, .v (.int .i64 x3))]) (fun x3 hF => ?_) fun _ hj1 hF => ?_
  ·cases hΦ _ (Rn_some hF)
   try simp [go_sem, g]
   refine pw_wk ?_
   try simp [go_sem, g]
  ·repeat rw [sq]
   rw [pw_block]
   obtain ⟨b13, hb14, hψ8⟩ := hF
   refine pL hb14 (fun s4 => [(1, .v (.int .i64 a1)), (2, .bl [.int .i64 a0.Gr.P, .int .i64 a0.Gr.Q, .int .i64 a0.Gr.G, .int .i64 a0.Ct.Kind, .int .i64 a0.Ct.Options, .int .i64 a0.Ct.Least, .int .i64 a0.Ct.Most, .int .i64 a0.Ct.Points, .int .i64 a0.Threshold, .int .i64 a0.Trustees, .int .i64 a0.Mixers, .int .i64 a0.Voters, .int .i64 a0.Seed]), (5, .v (.int .i64 s4.1)), (6, .v (.int .i64 s4.2))]) (fun s4 _ _ ho6 hg7 hF => ?_)
   try simp [go_sem, g]
   refine pw_wk ?_
   repeat rw [sq]
   refine pI hF (fun h9 hF => ?_) (fun h9 hF => ?_)
   ·try simp [go_sem, g]
    refine pw_wk ?_
    repeat rw [sq]
    rw [pw_block]
    repeat rw [sq]
    refine pw_draw D20_5 follows (by kernel_rfl) rfl ?_
    try simp only [go_sem, D20_5]
    try simp [go_sem, g]
    refine pC hF [.sh, .sh, .sh, .sh] c_impl_Plan_coins (fun z10 hF => ?_)
    try simp [go_sem, g]
    refine pC hF [.sh, .sh, .sh] c_impl_evalPoly (fun z11 hF => ?_)
    try simp [go_sem, g]
    refine pC hF [.sh, .sh] c_impl_Group_exp (fun z12 hF => ?_)
    try simp [go_sem, g]
    refine pw_wkK [1, 2, 5, 6] (by simp [go_sem, g]; rfl) ?_
    try simp [go_sem, g]
    exact pT (hg7 (z12, i64.wrap (s4.2 + 1))) (Rn_some hF)
   ·try simp [go_sem, g]
    cases ho6 _ (Rn_some hF)
    exact pT (hj1 s4.1) hψ8
noncomputable def F_impl_TrusteeShare (a0 : Plan) (a1 : Int) : Option (Int × Bool) :=
  (((F_impl_IsValidPlan a0).bind fun z4 =>
  if (!z4) = true then (
  some true) else (
  (F_impl_within a1 1 a0.Trustees).bind fun z6 =>
  some (!z6)) : Option (Bool)).bind fun x3 =>
  if x3 = true then (
  some (0, false)) else (
  (F_impl_Plan_share a0 a1).bind fun z8 =>
  some (z8, true)))
theorem c_impl_TrusteeShare : ∀ {a0} {a1} {r}, F_impl_TrusteeShare a0 a1 = some r → PCalls Tryz.prog 6 [(.sh, .agg [.int .i64 a0.Gr.P, .int .i64 a0.Gr.Q, .int .i64 a0.Gr.G, .int .i64 a0.Ct.Kind, .int .i64 a0.Ct.Options, .int .i64 a0.Ct.Least, .int .i64 a0.Ct.Most, .int .i64 a0.Ct.Points, .int .i64 a0.Threshold, .int .i64 a0.Trustees, .int .i64 a0.Mixers, .int .i64 a0.Voters, .int .i64 a0.Seed]), (.sh, .int .i64 a1)] (Eo (.tup [.int .i64 r.1, .bool r.2]) [.junk, .junk]) := by
  intro a0 a1 r hr
  apply pF 19 [] [] [] [.tmp 4, .tmp 5] hr cl6 Tryz.func6
  intro Φ hΦ hF g
  unfold F_impl_TrusteeShare at hF
  try simp [go_sem, g]
  refine pw_wk ?_
  repeat rw [sq]
  refine pJ hF (fun x3 => [(1, .v (.int .i64 a1)), (2, .bl [.int .i64 a0.Gr.P, .int .i64 a0.Gr.Q, .int .i64 a0.Gr.G, .int .i64 a0.Ct.Kind, .int .i64 a0.Ct.Options, .int .i64 a0.Ct.Least, .int .i64 a0.Ct.Most, .int .i64 a0.Ct.Points, .int .i64 a0.Threshold, .int .i64 a0.Trustees, .int .i64 a0.Mixers, .int .i64 a0.Voters, .int .i64 a0.Seed]), (15, .v (.bool x3))]) (fun x3 hF => ?_) fun _ hj1 hF => ?_
  ·repeat rw [sq]
   refine pI hF (fun h7 hF => ?_) (fun h7 hF => ?_)
   ·cases hΦ _ (Rn_some hF)
    try simp [go_sem, g]
    refine pw_wk ?_
    try simp [go_sem, g]
   ·try simp [go_sem, g]
    refine pw_wk ?_
    try simp [go_sem, g]
    refine pC hF [.sh, .sh] c_impl_Plan_share (fun z8 hF => ?_)
    cases hΦ _ (Rn_some hF)
    try simp [go_sem, g]
    refine pw_wk ?_
    try simp [go_sem, g]
  ·try simp [go_sem, g]
   refine pC hF [.sh] c_impl_IsValidPlan (fun z4 hF => ?_)
   try simp [go_sem, g]
   refine pwg_F hF (fun h5 hF => ?_) fun h5 hF => ?_
   ·try simp [go_sem, g, h5]
    exact pT (hj1 true) (Rn_some hF)
   ·try simp [go_sem, g, h5]
    refine pC hF [.sh, .sh, .sh] c_impl_within (fun z6 hF => ?_)
    try simp [go_sem, g, h5]
    exact pT (hj1 (!z6)) (Rn_some hF)
def D40_5 : List DE := [d0 0 [9], d0 1 [1], d1 2 [4] 4, d2 3 [18] 4 18, d0 4 [2], d0 5 [10], d0 6 [19, 20, 21], d1 8 [4] 4, d1 9 [24] 4, d2 10 [25] 4 25, ⟨7, [17, 22], [], none, true, true, true⟩, d0 11 [23, 26], d0 12 [27], ⟨13, [16, 28], [], none, true, false, false⟩, d0 14 [29]]
noncomputable def F_spec_nCoins (a0 : Plan) (a1 : ByteArray) (a2 : Int) (a3 : Int) : Option ((List Int)) :=
  ((wloop (σ := (List Int) × Int) (fun s4 =>
  if decide (s4.2 < a3) = true then (
  (F_spec_hLabelled a1 [a0.Seed, a2, s4.2]).bind fun z10 =>
  gd (a0.Gr.Q ≠ 0) <|
  gd ((s4.1.length + 1) * 8 ≤ 140737488355328 ∧ s4.1.length + 1 ≤ 4611686018427387904) <|
  some (.go (s4.1 ++ [z10.tmod a0.Gr.Q], i64.wrap (s4.2 + 1)))) else (
  some (.out s4.1))) ([], 0) : Option ((List Int))).bind fun x3 =>
  some x3)
theorem c_spec_nCoins : ∀ {a0} {a1} {a2} {a3} {r}, F_spec_nCoins a0 a1 a2 a3 = some r → PCalls Tryz.prog 40 [(.sh, .agg [.int .i64 a0.Gr.P, .int .i64 a0.Gr.Q, .int .i64 a0.Gr.G, .int .i64 a0.Ct.Kind, .int .i64 a0.Ct.Options, .int .i64 a0.Ct.Least, .int .i64 a0.Ct.Most, .int .i64 a0.Ct.Points, .int .i64 a0.Threshold, .int .i64 a0.Trustees, .int .i64 a0.Mixers, .int .i64 a0.Voters, .int .i64 a0.Seed]), (.sh, .str a1), (.sh, .int .i64 a2), (.sh, .int .i64 a3)] (Eo (.sl true 1 (r.map row_i64)) [.junk, .junk, .junk, .junk]) := by
  intro a0 a1 a2 a3 r hr
  apply pF 31 [] [] [] [.tmp 8] hr cl40 Tryz.func40
  intro Φ hΦ hF g
  unfold F_spec_nCoins at hF
  iterate 3 (try simp [go_sem, g]; refine pw_wk ?_)
  repeat rw [sq]
  refine pJ hF (fun x3 => [(9, .v (.sl true 1 (x3.map row_i64)))]) (fun x3 hF => ?_) fun _ hj1 hF => ?_
  ·cases hΦ _ (Rn_some hF)
   try simp [go_sem, g]
   refine pw_wk ?_
   try simp [go_sem, g]
  ·repeat rw [sq]
   rw [pw_block]
   obtain ⟨b11, hb12, hψ8⟩ := hF
   refine pL hb12 (fun s4 => [(1, .v (.str a1)), (2, .v (.int .i64 a2)), (3, .v (.int .i64 a3)), (4, .bl [.int .i64 a0.Gr.P, .int .i64 a0.Gr.Q, .int .i64 a0.Gr.G, .int .i64 a0.Ct.Kind, .int .i64 a0.Ct.Options, .int .i64 a0.Ct.Least, .int .i64 a0.Ct.Most, .int .i64 a0.Ct.Points, .int .i64 a0.Threshold, .int .i64 a0.Trustees, .int .i64 a0.Mixers, .int .i64 a0.Voters, .int .i64 a0.Seed]), (9, .v (.sl true 1 (s4.1.map row_i64))), (10, .v (.int .i64 s4.2))]) (fun s4 _ _ ho6 hg7 hF => ?_)
   try simp [go_sem, g]
   refine pw_wk ?_
   repeat rw [sq]
   refine pI hF (fun h9 hF => ?_) (fun h9 hF => ?_)
   ·try simp [go_sem, g]
    refine pw_wk ?_
    repeat rw [sq]
    rw [pw_block]
    repeat rw [sq]
    refine pw_draw D40_5 follows (by kernel_rfl) rfl ?_
    try simp only [go_sem, D40_5]
    try simp [go_sem, g]
    refine pC hF [.sh, .sh] c_spec_hLabelled (fun z10 hF => ?_)
    obtain ⟨g, hF⟩ := Rz g hF
    obtain ⟨g, hF⟩ := Rg g hF
    try simp [go_sem, g]
    refine pw_wkK [1, 2, 3, 4, 9, 10] (by simp [go_sem, g]; rfl) ?_
    try simp [go_sem, g]
    exact pT (hg7 (s4.1 ++ [z10.tmod a0.Gr.Q], i64.wrap (s4.2 + 1))) (Rn_some hF)
   ·try simp [go_sem, g]
    cases ho6 _ (Rn_some hF)
    exact pT (hj1 s4.1) hψ8
noncomputable def F_spec_nCoefs (a0 : Plan) (a1 : Int) : Option ((List Int)) :=
  (F_spec_nCoins a0 (⟨#[100, 101, 97, 108]⟩ : ByteArray) a1 a0.Threshold).bind fun z1 =>
  some z1
theorem c_spec_nCoefs : ∀ {a0} {a1} {r}, F_spec_nCoefs a0 a1 = some r → PCalls Tryz.prog 55 [(.sh, .agg [.int .i64 a0.Gr.P, .int .i64 a0.Gr.Q, .int .i64 a0.Gr.G, .int .i64 a0.Ct.Kind, .int .i64 a0.Ct.Options, .int .i64 a0.Ct.Least, .int .i64 a0.Ct.Most, .int .i64 a0.Ct.Points, .int .i64 a0.Threshold, .int .i64 a0.Trustees, .int .i64 a0.Mixers, .int .i64 a0.Voters, .int .i64 a0.Seed]), (.sh, .int .i64 a1)] (Eo (.sl true 1 (r.map row_i64)) [.junk, .junk]) := by
  intro a0 a1 r hr
  apply pF 10 [] [] [] [.tmp 4] hr cl55 Tryz.func55
  intro Φ hΦ hF g
  unfold F_spec_nCoefs at hF
  try simp [go_sem, g]
  refine pw_wk ?_
  try simp [go_sem, g]
  refine pC hF [.sh, .sh, .sh, .sh] c_spec_nCoins (fun z1 hF => ?_)
  cases hΦ _ (Rn_some hF)
  try simp [go_sem, g]
  refine pw_wk ?_
  try simp [go_sem, g]
def D23_10 : List DE := [d0 0 [8], d0 1 [1], d0 2 [26, 27], d0 3 [7], d0 4 [9], d0 5 [29, 30], d0 6 [31], d0 7 [28, 32], d1 8 [2] 2, d1 9 [34] 2, d2 10 [35] 2 35, d0 11 [33, 36], d0 12 [37]]
noncomputable def F_spec_nShare (a0 : Plan) (a1 : Int) : Option (Int) :=
  ((wloop (σ := Int × Int) (fun s4 =>
  if decide (s4.2 ≤ a0.Trustees) = true then (
  (F_spec_nCoefs a0 s4.2).bind fun z10 =>
  ((wloop (σ := Int × Int) (fun s14 =>
  if decide (0 ≤ s14.2) = true then (
  (ix z10 s14.2).bind fun x20 =>
  gd (a0.Gr.Q ≠ 0) <|
  some (.go ((i64.wrap ((i64.wrap (s14.1 * a1)) + x20)).tmod a0.Gr.Q, i64.wrap (s14.2 - 1)))) else (
  some (.out s14.1))) (0, i64.wrap ((z10.length : Int) - 1)) : Option (Int)).bind fun x13 =>
  gd (a0.Gr.Q ≠ 0) <|
  some (.go ((i64.wrap (s4.1 + x13)).tmod a0.Gr.Q, i64.wrap (s4.2 + 1))))) else (
  some (.out s4.1))) (0, 1) : Option (Int)).bind fun x3 =>
  some x3)
theorem c_spec_nShare : ∀ {a0} {a1} {r}, F_spec_nShare a0 a1 = some r → PCalls Tryz.prog 23 [(.sh, .agg [.int .i64 a0.Gr.P, .int .i64 a0.Gr.Q, .int .i64 a0.Gr.G, .int .i64 a0.Ct.Kind, .int .i64 a0.Ct.Options, .int .i64 a0.Ct.Least, .int .i64 a0.Ct.Most, .int .i64 a0.Ct.Points, .int .i64 a0.Threshold, .int .i64 a0.Trustees, .int .i64 a0.Mixers, .int .i64 a0.Voters, .int .i64 a0.Seed]), (.sh, .int .i64 a1)] (Eo (.int .i64 r) [.junk, .junk]) := by
  intro a0 a1 r hr
  apply pF 46 [] [] [] [.tmp 4] hr cl23 Tryz.func23
  intro Φ hΦ hF g
  unfold F_spec_nShare at hF
  iterate 3 (try simp [go_sem, g]; refine pw_wk ?_)
  repeat rw [sq]
  refine pJ hF (fun x3 => [(5, .v (.int .i64 x3))]) (fun x3 hF => ?_) fun _ hj1 hF => ?_
  ·cases hΦ _ (Rn_some hF)
   try simp [go_sem, g]
   refine pw_wk ?_
   try simp [go_sem, g]
  ·repeat rw [sq]
   rw [pw_block]
   obtain ⟨b23, hb24, hψ8⟩ := hF
   refine pL hb24 (fun s4 => [(1, .v (.int .i64 a1)), (2, .bl [.int .i64 a0.Gr.P, .int .i64 a0.Gr.Q, .int .i64 a0.Gr.G, .int .i64 a0.Ct.Kind, .int .i64 a0.Ct.Options, .int .i64 a0.Ct.Least, .int .i64 a0.Ct.Most, .int .i64 a0.Ct.Points, .int .i64 a0.Threshold, .int .i64 a0.Trustees, .int .i64 a0.Mixers, .int .i64 a0.Voters, .int .i64 a0.Seed]), (5, .v (.int .i64 s4.1)), (6, .v (.int .i64 s4.2))]) (fun s4 _ _ ho6 hg7 hF => ?_)
   try simp [go_sem, g]
   refine pw_wk ?_
   repeat rw [sq]
   refine pI hF (fun h9 hF => ?_) (fun h9 hF => ?_)
   ·try simp [go_sem, g]
    refine pw_wk ?_
    repeat rw [sq]
    rw [pw_block]
    try simp [go_sem, g]
    refine pC hF [.sh, .sh] c_spec_nCoefs (fun z10 hF => ?_)
    try simp [go_sem, g]
    refine pw_wkK [1, 2, 5, 6, 7] (by simp [go_sem, g]; rfl) ?_
    iterate 2 (try simp [go_sem, g]; try intros; refine pw_wk ?_)
    repeat rw [sq]
    refine pJ hF (fun x13 => [(1, .v (.int .i64 a1)), (2, .bl [.int .i64 a0.Gr.P, .int .i64 a0.Gr.Q, .int .i64 a0.Gr.G, .int .i64 a0.Ct.Kind, .int .i64 a0.Ct.Options, .int .i64 a0.Ct.Least, .int .i64 a0.Ct.Most, .int .i64 a0.Ct.Points, .int .i64 a0.Threshold, .int .i64 a0.Trustees, .int .i64 a0.Mixers, .int .i64 a0.Voters, .int .i64 a0.Seed]), (5, .v (.int .i64 s4.1)), (6, .v (.int .i64 s4.2)), (8, .v (.int .i64 x13))]) (fun x13 hF => ?_) fun _ hj11 hF => ?_
    ·obtain ⟨g, hF⟩ := Rz g hF
     try simp [go_sem, g]
     refine pw_wkK [1, 2, 5, 6] (by simp [go_sem, g]; rfl) ?_
     try simp [go_sem, g]
     exact pT (hg7 ((i64.wrap (s4.1 + x13)).tmod a0.Gr.Q, i64.wrap (s4.2 + 1))) (Rn_some hF)
    ·repeat rw [sq]
     rw [pw_block]
     obtain ⟨b21, hb22, hψ18⟩ := hF
     refine pL hb22 (fun s14 => [(1, .v (.int .i64 a1)), (2, .bl [.int .i64 a0.Gr.P, .int .i64 a0.Gr.Q, .int .i64 a0.Gr.G, .int .i64 a0.Ct.Kind, .int .i64 a0.Ct.Options, .int .i64 a0.Ct.Least, .int .i64 a0.Ct.Most, .int .i64 a0.Ct.Points, .int .i64 a0.Threshold, .int .i64 a0.Trustees, .int .i64 a0.Mixers, .int .i64 a0.Voters, .int .i64 a0.Seed]), (5, .v (.int .i64 s4.1)), (6, .v (.int .i64 s4.2)), (7, .v (.sl true 1 (z10.map row_i64))), (8, .v (.int .i64 s14.1)), (9, .v (.int .i64 s14.2))]) (fun s14 _ _ ho16 hg17 hF => ?_)
     try simp [go_sem, g]
     refine pw_wk ?_
     repeat rw [sq]
     refine pI hF (fun h19 hF => ?_) (fun h19 hF => ?_)
     ·try simp [go_sem, g]
      refine pw_wk ?_
      repeat rw [sq]
      rw [pw_block]
      repeat rw [sq]
      refine pw_draw D23_10 follows (by kernel_rfl) rfl ?_
      try simp only [go_sem, D23_10]
      obtain ⟨x20, g, hF⟩ := Rx g hF
      obtain ⟨g, hF⟩ := Rz g hF
      try simp [go_sem, g]
      refine pw_wkK [1, 2, 5, 6, 7, 8, 9] (by simp [go_sem, g]; rfl) ?_
      try simp [go_sem, g]
      exact pT (hg17 ((i64.wrap ((i64.wrap (s14.1 * a1)) + x20)).tmod a0.Gr.Q, i64.wrap (s14.2 - 1))) (Rn_some hF)
     ·try simp [go_sem, g]
      cases ho16 _ (Rn_some hF)
      exact pT (hj11 s14.1) hψ18
   ·try simp [go_sem, g]
    cases ho6 _ (Rn_some hF)
    exact pT (hj1 s4.1) hψ8
noncomputable def F_spec_TrusteeShare (a0 : Plan) (a1 : Int) : Option (Int × Bool) :=
  (((F_spec_nPlan a0).bind fun z4 =>
  if (!z4) = true then (
  some true) else (
  (F_spec_l1In a1 1 a0.Trustees).bind fun z6 =>
  some (!z6)) : Option (Bool)).bind fun x3 =>
  if x3 = true then (
  some (0, false)) else (
  (F_spec_nShare a0 a1).bind fun z8 =>
  some (z8, true)))
theorem c_spec_TrusteeShare : ∀ {a0} {a1} {r}, F_spec_TrusteeShare a0 a1 = some r → PCalls Tryz.prog 7 [(.sh, .agg [.int .i64 a0.Gr.P, .int .i64 a0.Gr.Q, .int .i64 a0.Gr.G, .int .i64 a0.Ct.Kind, .int .i64 a0.Ct.Options, .int .i64 a0.Ct.Least, .int .i64 a0.Ct.Most, .int .i64 a0.Ct.Points, .int .i64 a0.Threshold, .int .i64 a0.Trustees, .int .i64 a0.Mixers, .int .i64 a0.Voters, .int .i64 a0.Seed]), (.sh, .int .i64 a1)] (Eo (.tup [.int .i64 r.1, .bool r.2]) [.junk, .junk]) := by
  intro a0 a1 r hr
  apply pF 19 [] [] [] [.tmp 4, .tmp 5] hr cl7 Tryz.func7
  intro Φ hΦ hF g
  unfold F_spec_TrusteeShare at hF
  try simp [go_sem, g]
  refine pw_wk ?_
  repeat rw [sq]
  refine pJ hF (fun x3 => [(1, .v (.int .i64 a1)), (2, .bl [.int .i64 a0.Gr.P, .int .i64 a0.Gr.Q, .int .i64 a0.Gr.G, .int .i64 a0.Ct.Kind, .int .i64 a0.Ct.Options, .int .i64 a0.Ct.Least, .int .i64 a0.Ct.Most, .int .i64 a0.Ct.Points, .int .i64 a0.Threshold, .int .i64 a0.Trustees, .int .i64 a0.Mixers, .int .i64 a0.Voters, .int .i64 a0.Seed]), (15, .v (.bool x3))]) (fun x3 hF => ?_) fun _ hj1 hF => ?_
  ·repeat rw [sq]
   refine pI hF (fun h7 hF => ?_) (fun h7 hF => ?_)
   ·cases hΦ _ (Rn_some hF)
    try simp [go_sem, g]
    refine pw_wk ?_
    try simp [go_sem, g]
   ·try simp [go_sem, g]
    refine pw_wk ?_
    try simp [go_sem, g]
    refine pC hF [.sh, .sh] c_spec_nShare (fun z8 hF => ?_)
    cases hΦ _ (Rn_some hF)
    try simp [go_sem, g]
    refine pw_wk ?_
    try simp [go_sem, g]
  ·try simp [go_sem, g]
   refine pC hF [.sh] c_spec_nPlan (fun z4 hF => ?_)
   try simp [go_sem, g]
   refine pwg_F hF (fun h5 hF => ?_) fun h5 hF => ?_
   ·try simp [go_sem, g, h5]
    exact pT (hj1 true) (Rn_some hF)
   ·try simp [go_sem, g, h5]
    refine pC hF [.sh, .sh, .sh] c_spec_l1In (fun z6 hF => ?_)
    try simp [go_sem, g, h5]
    exact pT (hj1 (!z6)) (Rn_some hF)
theorem mul64 (n : Nat) (hn : n ≤ 1000000) (H : AH) : ACalls Tryz.prog 98 [.int .u64 1, .int .u64 n] H (fun v H' => v = .tuple #[.int .u64 0, .int .u64 n] ∧ H' = H) := by
  refine acalls_intro cl98 Tryz.func98 rfl rfl (by simp [Tryz.f98]) fun hw => ?_
  simp [Tryz.f98, awp, aops, aop, ahp, aplain, plainOps, matl, mat, plainV, putO, athen, FR.put, FR.init, rdv, rda, binV, binInt, okConst]
  simp [aend, resL, resV, resT, FR.put]
  have w : ∀ m : Int, 0 ≤ m → m ≤ 1000000 → u64.wrap m = m := fun m h1 h2 => by
    have : u64.wrap m = m % 18446744073709551616 := by simp [wrap, signed]; rfl
    rw [this]; omega
  have a1 : n % 2 ^ u64.bits &&& 4294967295 % 2 ^ u64.bits = n := by
    show n % 18446744073709551616 &&& (2 ^ 32 - 1) = n
    rw [Nat.and_two_pow_sub_one_eq_mod]; omega
  have a2 : 1 % 2 ^ u64.bits &&& 4294967295 % 2 ^ u64.bits = 1 := by decide
  have f1 : Int.fdiv 1 (2 ^ min 32 u64.bits) = 0 := by decide
  have f2 : (n : Int).fdiv (2 ^ min 32 u64.bits) = 0 := by
    show (n : Int).fdiv 4294967296 = 0
    rw [Int.fdiv_eq_ediv_of_nonneg _ (by omega)]; omega
  have f3 : Int.fdiv 0 (2 ^ min 32 u64.bits) = 0 := by decide
  have w1 := w n (by omega) (by omega)
  have w2 := w 1 (by omega) (by omega)
  have w3 := w 0 (by omega) (by omega)
  have a3 : ((0 : Int) % 2 ^ u64.bits).toNat &&& 4294967295 % 2 ^ u64.bits = 0 := by decide
  simp [a1, a2, f1, f2, f3, w1, w2, w3, a3]
theorem mulU (n : Nat) (hn : n ≤ 1000000) (H : AH) : ACalls Tryz.prog 83 [.int .u64 1, .int .u64 n] H (fun v H' => v = .tuple #[.int .u64 0, .int .u64 n] ∧ H' = H) := by
  refine acalls_intro cl83 Tryz.func83 rfl rfl (by simp [Tryz.f83]) fun hw => ?_
  simp [Tryz.f83, awp, aops, aop, ahp, aplain, plainOps, matl, mat, plainV, putO, athen, FR.put, FR.init, rdv, rda, binV, binInt, okConst]
  refine (mul64 n hn H).mono fun v H' hv => ?_
  obtain ⟨rfl, rfl⟩ := hv
  simp [aend, resL, resV, resT, FR.put]
def D56_9 : List DE := [d0 0 [8], d0 1 [7], d0 2 [8], d0 3 [39, 40], d0 4 [7], d0 5 [8], d0 6 [42, 43], d3 7 [41, 44], d0 8 [38, 45], d0 9 [46]]
theorem rep56 : RepC Tryz.prog 56 := by
  intro id off c n k a H hk ha hid hc h1 hn
  have e1 : elemTy Tryz.prog 34 = some 3 := by kernel_rfl
  have e2 : tsz Tryz.prog 3 = some (false, 1, 8, [.int .i64 0]) := by kernel_rfl
  refine acalls_intro cl56 Tryz.func56 rfl rfl (by simp [Tryz.f56]) fun hw => ?_
  have a1 : (0 : Int) ≤ (n : Int) := by omega
  have a2 : ¬ (n : Int) < 0 := by omega
  have a6 : decide (9223372036854775807 < (n : Int)) = false := by simp; omega
  have a3 : i64.wrap ((n : Nat) : Int) = (n : Int) := by rw [wrap_i64]; omega
  have a4 : u64.wrap ((n : Nat) : Int) = (n : Int) := by
    have : ∀ m : Int, u64.wrap m = m % 18446744073709551616 := fun m => by simp [wrap, signed]; rfl
    rw [this]; omega
  have a5 : u64.wrap 1 = 1 := by decide
  have i1 : intTy Tryz.prog 91 = some .u64 := by kernel_rfl
  have i2 : intTy Tryz.prog 3 = some .i64 := by kernel_rfl
  have i3 : isByS Tryz.prog 3 = false := by kernel_rfl
  have i4 : isByS Tryz.prog 91 = false := by kernel_rfl
  have k1 : ∀ m : Int, convV Tryz.prog 3 91 (.int .i64 m) = some (.int .u64 (u64.wrap m)) := fun m => by simp [convV, i1, i2]
  have k2 : ∀ m : Int, convV Tryz.prog 91 3 (.int .u64 m) = some (.int .i64 (i64.wrap m)) := fun m => by simp [convV, i1, i2]
  generalize hQ : aend _ _ _ = Q
  repeat refine awp_as ?_
  refine awp_step (by simp [awp, aops, aop, ahp, aplain, plainOps, matl, mat, plainV, putO, FR.init, okConst]; first | exact ⟨rfl, rfl⟩ | exact ⟨rfl, rfl, rfl⟩) ?_
  repeat refine awp_as ?_
  refine awp_step (by simp [awp, aops, aop, ahp, aplain, plainOps, matl, mat, plainV, putO, FR.put, FR.init, rdv, rda, binV, binInt, okConst, a2]; first | exact ⟨rfl, rfl⟩ | exact ⟨rfl, rfl, rfl⟩) ?_
  repeat refine awp_as ?_
  refine awp_step (by simp [awp, FR.put, rdv, okConst, a2, a6]; first | exact ⟨rfl, rfl⟩ | exact ⟨rfl, rfl, rfl⟩) ?_
  repeat refine awp_as ?_
  refine awp_step (by
    simp [awp, aops, aop, ahp, aplain, plainOps, matl, mat, plainV, putO, FR.put, FR.init, rdv, rda, binV, binInt, okConst, a2, a3, a4, a5, Am.lenV, e1, k1, i3]
    refine (mulU n hn H).mono fun v H' hv => ?_
    obtain ⟨rfl, rfl⟩ := hv
    first | exact ⟨rfl, rfl⟩ | exact ⟨rfl, rfl, rfl⟩) ?_
  repeat refine awp_as ?_
  refine awp_step (by simp [awp, aops, aop, ahp, aplain, plainOps, matl, mat, plainV, putO, FR.put, FR.init, rdv, rda, binV, binInt, okConst, yieldA, a2, a3, a4, a5, a6]; first | exact ⟨rfl, rfl⟩ | exact ⟨rfl, rfl, rfl⟩) ?_
  repeat refine awp_as ?_
  refine awp_step (by simp [awp, FR.put, rdv, okConst, a2, a6]; first | exact ⟨rfl, rfl⟩ | exact ⟨rfl, rfl, rfl⟩) ?_
  repeat refine awp_as ?_
  have b1 : 8 * (n : Int) ≤ 140737488355328 := by omega
  have b2 : (n : Int) ≤ 4611686018427387904 := by omega
  have b3 : (8 * (n : Int) ≤ 140737488355328 ∧ (n : Int) ≤ 4611686018427387904) := ⟨b1, b2⟩
  have hz : (List.replicate n [Value.int i64 0]).flatten = List.replicate n (.int .i64 0) := by simp
  refine awp_step (H' := H.push ⟨true, List.replicate n (.int .i64 0)⟩) (by
    simp [awp, aops, aop, ahp, aplain, plainOps, matl, mat, plainV, putO, FR.put, FR.init, rdv, rda, binV, binInt, okConst, a1, a2, a3, a4, a5, e1, e2, k2, i4, b1, b2, hz]
    exact rfl) ?_
  let B : Nat → Blk := fun m => ⟨true, List.replicate m (.int .i64 a) ++ List.replicate (n - m) (.int .i64 0)⟩
  have hps : ∀ x y, (H.push x).set H.n (some y) = H.push y := fun x y => by
    simp only [AH.push, AH.set, AH.mk.injEq, true_and]
    funext i
    split <;> rfl
  have hid' : id ≠ H.n := by omega
  have hl1 : ∀ x, (H.push x).load id off = some (k.cells.drop off) := fun x => by simp [AH.push, AH.load, hid', hk]
  have hd : k.cells.drop off = .int .i64 a :: k.cells.drop (off + 1) := by
    obtain ⟨h, e⟩ := List.getElem?_eq_some_iff.1 ha
    rw [List.drop_eq_getElem_cons h, e]
  have hb1 : ∀ x, (H.push x).b H.n = some x := fun x => by simp [AH.push]
  have hp1 : putAt (List.replicate n (.int .i64 0)) 0 [.int .i64 a] = some (B 1).cells := by
    obtain ⟨m, rfl⟩ : ∃ m, n = m + 1 := ⟨n - 1, by omega⟩
    simp [List.replicate_succ, putAt, B]
  have h1n : ¬ n = 0 := by omega
  have hmin : min 1 n = 1 := by omega
  repeat refine awp_as ?_
  refine awp_step (H' := H.push (B 1)) (by
    simp [awp, aops, aop, ahp, aplain, plainOps, matl, mat, plainV, putO, FR.put, FR.init, rdv, rda, binV, binInt, okConst, srcV, takeN, solid, e1, e2, hl1, hd, hb1, hmin, h1n, h1, hp1]
    exact ⟨rfl, hps _ _⟩) ?_
  repeat refine awp_as ?_
  refine awp_seqI (I := fun f g => f 7 = .v (.slice (some ⟨H.n, 0, some 1⟩) n n) ∧ g = H.push (B n)) ?_ ?_
  · show awp Tryz.prog _ (.loop _) (ablock 0 _) _ _
    refine awp_up (n := n) (fun m f g => 1 ≤ m ∧ f 7 = .v (.slice (some ⟨H.n, 0, some 1⟩) n n) ∧ f 8 = .v (.int .i64 (m : Int)) ∧ g = H.push (B m)) ?_ h1 ⟨Nat.le_refl _, by simp [FR.put], by simp [FR.put], rfl⟩
    rintro m f g hm ⟨m1, h7, h8, rfl⟩
    refine ⟨(FR.put (fun _ => jv) 7 (.v (.slice (some ⟨H.n, 0, some 1⟩) n n))).put 8 (.v (.int .i64 (m : Int))), fun t => ?_, ?_⟩
    · by_cases t8 : t = 8
      · subst t8; simp [FR.put, h8]
      · by_cases t7 : t = 7
        · subst t7; simp [FR.put, h7]
        · right; simp [FR.put, t7, t8]
    repeat refine awp_as ?_
    refine awp_step (H' := H.push (B m)) (by
      simp [awp, aops, aop, ahp, aplain, plainOps, matl, mat, plainV, putO, FR.put, FR.init, rdv, rda, binV, binInt, okConst, e1, e2, Am.lenV]
      exact rfl) ?_
    repeat refine awp_as ?_
    by_cases hmn : m < n
    · have hmn' : decide ((m : Int) < (n : Int)) = true := by simpa using hmn
      refine awp_step (H' := H.push (B m)) (by
        simp [awp, FR.put, rdv, hmn]
        exact rfl) ?_
      show awp Tryz.prog _ (.region 9 _ true) (ablock 1 _) _ _
      simp only [awp, if_true]
      refine ⟨follows, 0, D56_9, by kernel_rfl, ?_⟩
      have f1 : (0 : Int) ≤ (m : Int) := by omega
      have f3 : ¬ (n - m = 0) := by omega
      have f4 : ¬ (m = 0) := by omega
      have hld : (H.push (B m)).load H.n 0 = some (B m).cells := by simp [AH.load, hb1]
      have hT : takeN m (B m).cells = some (List.replicate m (.int .i64 a)) := by
        rw [takeN_ok (by simp [B])]
        simp [B]
      simp [D56_9, d0, d3, dops, dop, gop, gopx, dcond, okL, okS, okR, DE.ex, awp, athen, aops, aop, ahp, aplain, plainOps, matl, mat, plainV, putO, FR.put, rdv, rda, binV, binInt, okConst, e1, e2, Am.lenV, sliceV, sliceBnds, bnd, bndM, srcV, f1, f3, f4, hm, hld, hT, hb1, solid]
      obtain ⟨q, hq⟩ : ∃ q, q = min m (n - m) := ⟨_, rfl⟩
      rw [← hq]
      have q0 : 0 < q := by omega
      have q1 : m + q ≤ n := by omega
      have hw1 : i64.wrap ((m : Int) + (q : Int)) = ((m + q : Nat) : Int) := by rw [wrap_i64]; omega
      have hput : putAt (B m).cells m (List.replicate q (.int .i64 a)) = some (B (m + q)).cells := by
        have hne : List.replicate q (Value.int .i64 a) ≠ [] := by
          intro e0
          have := congrArg List.length e0
          simp at this; omega
        obtain ⟨r, hr⟩ := putAt_ok (cs := (B m).cells) (n := m) hne (by simp [B]; omega)
        rw [hr]
        rcases putAt_spec hr with ⟨h, _⟩ | ⟨_, rfl⟩
        · exact absurd h hne
        · congr 1
          simp only [B, List.length_replicate]
          rw [List.take_append_of_le_length (by simp), List.take_of_length_le (by simp), List.drop_append, List.drop_of_length_le (by simp), List.nil_append, List.length_replicate, List.drop_replicate, List.replicate_append_replicate]
          congr 2
          omega
      refine ⟨⟨rfl, q0⟩, ?_⟩
      rw [hput, hw1]
      refine ⟨m + q, by omega, q1, by omega, by simp [FR.put], by simp [FR.put], ?_⟩
      rw [show (⟨true, (B (m + q)).cells⟩ : Blk) = B (m + q) from rfl]
      exact hps _ _
    · have e : m = n := by omega
      subst e
      refine awp_seqX ?_
      simp [awp, FR.put, rdv, ablock]
  · rintro f g ⟨h7, rfl⟩
    subst hQ
    have hB : B n = ⟨true, List.replicate n (.int .i64 a)⟩ := by simp [B]
    simp [awp, aops, aop, ahp, aplain, plainOps, matl, mat, plainV, putO, athen, FR.put, rdv, rda, okConst, h7, aend, resL, resV, resT, Tryz.f56, hB]
def F_slices_Repeat_int_int (a0 : List Int) (a1 : Int) : Option (List Int) :=
  gd (a0.length = 1 ∧ 1 ≤ a1 ∧ a1 ≤ 1000000) <|
  some (List.replicate a1.toNat (a0.headD 0))
theorem c_slices_Repeat_int_int {a0 : List Int} {a1 : Int} {r : List Int} (hr : F_slices_Repeat_int_int a0 a1 = some r) : PCalls Tryz.prog 56 [(.sh, .sl false 1 (a0.map row_i64)), (.sh, .int .i64 a1)] (Eo (.sl true 1 (r.map row_i64)) [.junk, .junk]) := by
  have hF : Rn _ (fun x => x = r) := ⟨r, hr, rfl⟩
  unfold F_slices_Repeat_int_int at hF
  obtain ⟨⟨g0, g1, g2⟩, hF⟩ := Rn_gd hF
  have h1 := Rn_some hF
  subst h1
  obtain ⟨n, rfl⟩ := Int.eq_ofNat_of_zero_le (by omega : 0 ≤ a1)
  obtain ⟨x, rfl⟩ := List.length_eq_one_iff.1 g0
  rw [show (List.replicate (n : Int).toNat ([x].headD 0)).map row_i64 = List.replicate n [.int .i64 x] from by rw [List.map_replicate]; rfl]
  exact rep_calls (md := .sh) rep56 cl56 (fun E x v h => ⟨none, h⟩) (by omega) (by omega)
def D58_1 : List DE := [d0 0 [1], d0 1 [2], d1 2 [3] 3, d2 3 [9] 3 9, d1 5 [3] 3, d2 6 [12] 3 12, d3 4 [8, 10], d3 7 [7, 11, 13], d0 8 [14]]
noncomputable def F_impl_Group_pow (a0 : Group) (a1 : Int) (a2 : Int) : Option (Int) :=
  (F_impl_mod a2 a0.Q).bind fun z1 =>
  (F_impl_power a1 z1 a0.P).bind fun z2 =>
  some z2
theorem c_impl_Group_pow : ∀ {a0} {a1} {a2} {r}, F_impl_Group_pow a0 a1 a2 = some r → PCalls Tryz.prog 58 [(.sh, .agg [.int .i64 a0.P, .int .i64 a0.Q, .int .i64 a0.G]), (.sh, .int .i64 a1), (.sh, .int .i64 a2)] (Eo (.int .i64 r) [.junk, .junk, .junk]) := by
  intro a0 a1 a2 r hr
  apply pF 15 [] [] [] [.tmp 6] hr cl58 Tryz.func58
  intro Φ hΦ hF g
  unfold F_impl_Group_pow at hF
  try simp [go_sem, g]
  refine pw_wk ?_
  repeat rw [sq]
  refine pw_draw D58_1 follows (by kernel_rfl) rfl ?_
  try simp only [go_sem, D58_1]
  try simp [go_sem, g]
  refine pC hF [.sh, .sh] c_impl_mod (fun z1 hF => ?_)
  try simp [go_sem, g]
  refine pC hF [.sh, .sh, .sh] c_impl_power (fun z2 hF => ?_)
  try simp [go_sem, g]
  refine pw_wkK [6] (by simp [go_sem, g]; rfl) ?_
  cases hΦ _ (Rn_some hF)
  try simp [go_sem, g]
noncomputable def F_impl_Group_mul (a0 : Group) (a1 : (List Int)) : Option (Int) :=
  ((rloop (σ := Int) (fun i5 s4 =>
  (ix a1 i5).bind fun x11 =>
  gd (a0.P ≠ 0) <|
  some (.go ((i64.wrap (s4 * x11)).tmod a0.P))) (fun s4 => s4) (a1.length) 0 1 : Option (Int)).bind fun x3 =>
  some x3)
theorem c_impl_Group_mul : ∀ {a0} {a1} {r}, F_impl_Group_mul a0 a1 = some r → PCalls Tryz.prog 57 [(.sh, .agg [.int .i64 a0.P, .int .i64 a0.Q, .int .i64 a0.G]), (.sh, .sl false 1 (a1.map row_i64))] (Eo (.int .i64 r) [.junk, .junk]) := by
  intro a0 a1 r hr
  apply pF 22 [] [] [] [.tmp 4] hr cl57 Tryz.func57
  intro Φ hΦ hF g
  unfold F_impl_Group_mul at hF
  iterate 3 (try simp [go_sem, g]; try intros; refine pw_wk ?_)
  repeat rw [sq]
  refine pJ hF (fun x3 => [(5, .v (.int .i64 x3))]) (fun x3 hF => ?_) fun _ hj1 hF => ?_
  ·cases hΦ _ (Rn_some hF)
   try simp [go_sem, g]
   refine pw_wk ?_
   try simp [go_sem, g]
  ·repeat rw [sq]
   rw [pw_block]
   obtain ⟨b12, hb13, hψ8⟩ := hF
   refine pR hb13 (fun i5 s4 => [(2, .bl [.int .i64 a0.P, .int .i64 a0.Q, .int .i64 a0.G]), (5, .v (.int .i64 s4)), (8, .v (.sl false 1 (a1.map row_i64))), (9, .v (.int .i64 (a1.length : Int))), (10, .v (.int .i64 i5))]) (fun s4 _ hN14 => ?_) (fun i5 s4 _ _ hi9 hi10 ho6 hg7 hF => ?_)
   ·subst hN14
    try simp [go_sem]
    refine pw_wk ?_
    repeat rw [sq]
    refine pw_cond_f (by simp [go_sem]) ?_
    try simp [go_sem]
    exact pT (hj1 s4) hψ8 (by simp [go_sem])
   ·try simp [go_sem, g]
    refine pw_wk ?_
    repeat rw [sq]
    refine pw_cond_t (by simp [go_sem, g, hi9, hi10]) ?_
    try simp [go_sem, g]
    refine pw_wk ?_
    repeat rw [sq]
    rw [pw_block]
    obtain ⟨x11, g, hF⟩ := Rx g hF
    try simp [go_sem, g]
    refine pw_wkK [2, 5, 7, 8, 9, 10] (by simp [go_sem, g]; rfl) ?_
    obtain ⟨g, hF⟩ := Rz g hF
    try simp [go_sem, g]
    refine pw_wk ?_
    try simp [go_sem, g]
    exact pT (hg7 ((i64.wrap (s4 * x11)).tmod a0.P)) (Rn_some hF) (by simp [go_sem, g, wr_i hi9 hi10 (by assumption)])
def D24_8 : List DE := [d0 0 [3], d0 1 [5], d1 2 [1] 1, d2 3 [30] 1 30, d0 4 [3], d0 5 [5], d0 6 [32, 33], d0 7 [34], d1 8 [1] 1, d2 9 [36] 1 36, d1 10 [1] 1, d1 11 [38] 1, d2 12 [39] 1 39, d0 13 [6], ⟨14, [37, 40, 41], [], none, false, true, false⟩, d0 15 [35, 42], ⟨16, [31, 43], [], none, true, true, true⟩, d0 17 [28, 29], d0 18 [45, 44]]
noncomputable def F_impl_Plan_commits (a0 : Plan) : Option ((List Int)) :=
  (F_slices_Repeat_int_int [1] a0.Threshold).bind fun z1 =>
  ((wloop (σ := (List Int) × Int) (fun s41 =>
  if decide (s41.2 ≤ a0.Trustees) = true then (
  (((F_impl_Plan_coins a0 (⟨#[100, 101, 97, 108]⟩ : ByteArray) s41.2 a0.Threshold).bind fun z50 =>
  rloop (σ := (List Int)) (fun i63 s62 =>
  (ix z50 i63).bind fun x69 =>
  (ix s62 i63).bind fun x70 =>
  (F_impl_Group_pow a0.Gr a0.Gr.G x69).bind fun z71 =>
  (F_impl_Group_mul a0.Gr [x70, z71]).bind fun z72 =>
  some (.go (s62.set i63.toNat z72))) (fun s62 => s62) (z50.length) 0 s41.1 : Option ((List Int))).bind fun x49 =>
  some (.go (x49, i64.wrap (s41.2 + 1))))) else (
  some (.out s41.1))) (z1, 1) : Option ((List Int))).bind fun x4 =>
  some x4)
theorem c_impl_Plan_commits : ∀ {a0} {r}, F_impl_Plan_commits a0 = some r → PCalls Tryz.prog 24 [(.sh, .agg [.int .i64 a0.Gr.P, .int .i64 a0.Gr.Q, .int .i64 a0.Gr.G, .int .i64 a0.Ct.Kind, .int .i64 a0.Ct.Options, .int .i64 a0.Ct.Least, .int .i64 a0.Ct.Most, .int .i64 a0.Ct.Points, .int .i64 a0.Threshold, .int .i64 a0.Trustees, .int .i64 a0.Mixers, .int .i64 a0.Voters, .int .i64 a0.Seed])] (Eo (.sl true 1 (r.map row_i64)) [.junk]) := by
  intro a0 r hr
  apply pF 48 [] [] [] [.tmp 2] hr cl24 Tryz.func24
  intro Φ hΦ hF g
  unfold F_impl_Plan_commits at hF
  try simp [go_sem, g]
  refine pw_wk ?_
  try simp [go_sem, g]
  refine pC hF [.sh, .sh] c_slices_Repeat_int_int (fun z1 hF => ?_)
  iterate 2 (try simp [go_sem, g]; refine pw_wk ?_)
  repeat rw [sq]
  refine pJ hF (fun x4 => [(3, .v (.sl true 1 (x4.map row_i64)))]) (fun x4 hF => ?_) fun _ hj2 hF => ?_
  ·try simp [go_sem, g]
   refine pw_wkK [2] (by simp [go_sem, g]; rfl) ?_
   cases hΦ _ (Rn_some hF)
   try simp [go_sem, g]
  ·repeat rw [sq]
   rw [pw_block]
   obtain ⟨b77, hb78, hψ45⟩ := hF
   refine pL hb78 (fun s41 => [(1, .bl [.int .i64 a0.Gr.P, .int .i64 a0.Gr.Q, .int .i64 a0.Gr.G, .int .i64 a0.Ct.Kind, .int .i64 a0.Ct.Options, .int .i64 a0.Ct.Least, .int .i64 a0.Ct.Most, .int .i64 a0.Ct.Points, .int .i64 a0.Threshold, .int .i64 a0.Trustees, .int .i64 a0.Mixers, .int .i64 a0.Voters, .int .i64 a0.Seed]), (3, .v (.sl true 1 (s41.1.map row_i64))), (4, .v (.int .i64 s41.2))]) (fun s41 _ _ ho43 hg44 hF => ?_)
   try simp [go_sem, g]
   refine pw_wkK [1, 3, 4, 14] (by simp [go_sem, g]; rfl) ?_
   repeat rw [sq]
   refine pI hF (fun h46 hF => ?_) (fun h46 hF => ?_)
   ·try simp [go_sem, g]
    refine pw_wk ?_
    repeat rw [sq]
    refine pJ hF (fun x49 => [(1, .bl [.int .i64 a0.Gr.P, .int .i64 a0.Gr.Q, .int .i64 a0.Gr.G, .int .i64 a0.Ct.Kind, .int .i64 a0.Ct.Options, .int .i64 a0.Ct.Least, .int .i64 a0.Ct.Most, .int .i64 a0.Ct.Points, .int .i64 a0.Threshold, .int .i64 a0.Trustees, .int .i64 a0.Mixers, .int .i64 a0.Voters, .int .i64 a0.Seed]), (3, .v (.sl true 1 (x49.map row_i64))), (4, .v (.int .i64 s41.2))]) (fun x49 hF => ?_) fun _ hj47 hF => ?_
    ·try simp [go_sem, g]
     exact pT (hg44 (x49, i64.wrap (s41.2 + 1))) (Rn_some hF)
    ·repeat rw [sq]
     rw [pw_block]
     try simp [go_sem, g]
     refine pC hF [.sh, .sh, .sh, .sh] c_impl_Plan_coins (fun z50 hF => ?_)
     try simp [go_sem, g]
     try intros
     refine pw_wk ?_
     repeat rw [sq]
     rw [pw_block]
     obtain ⟨b73, hb74, hψ66⟩ := hF
     refine pR hb74 (fun i63 s62 => [(1, .bl [.int .i64 a0.Gr.P, .int .i64 a0.Gr.Q, .int .i64 a0.Gr.G, .int .i64 a0.Ct.Kind, .int .i64 a0.Ct.Options, .int .i64 a0.Ct.Least, .int .i64 a0.Ct.Most, .int .i64 a0.Ct.Points, .int .i64 a0.Threshold, .int .i64 a0.Trustees, .int .i64 a0.Mixers, .int .i64 a0.Voters, .int .i64 a0.Seed]), (3, .v (.sl true 1 (s62.map row_i64))), (4, .v (.int .i64 s41.2)), (21, .v (.sl true 1 (z50.map row_i64))), (22, .v (.int .i64 (z50.length : Int))), (23, .v (.int .i64 i63))]) (fun s62 _ hN75 => ?_) (fun i63 s62 _ _ hi67 hi68 ho64 hg65 hF => ?_)
     ·subst hN75
      try simp [go_sem]
      refine pw_wk ?_
      repeat rw [sq]
      refine pw_cond_f (by simp [go_sem]) ?_
      try simp [go_sem]
      exact pT (hj47 s62) hψ66 (by simp [go_sem])
     ·try simp [go_sem, g]
      refine pw_wk ?_
      repeat rw [sq]
      refine pw_cond_t (by simp [go_sem, g, hi67, hi68]) ?_
      try simp [go_sem, g]
      refine pw_wk ?_
      repeat rw [sq]
      rw [pw_block]
      obtain ⟨x69, g, hF⟩ := Rx g hF
      try simp [go_sem, g]
      refine pw_wkK [1, 3, 4, 5, 6, 21, 22, 23] (by simp [go_sem, g]; rfl) ?_
      repeat rw [sq]
      refine pw_draw D24_8 follows (by kernel_rfl) rfl ?_
      try simp only [go_sem, D24_8]
      obtain ⟨x70, g, hF⟩ := Rx g hF
      try simp [go_sem, g]
      refine pCD hF c_impl_Group_pow (fun z71 hF => ?_)
      try simp [go_sem, g]
      refine pC hF [.sh, .sh] c_impl_Group_mul (fun z72 hF => ?_)
      try simp [go_sem, g]
      refine pw_wkK [1, 3, 4, 21, 22, 23] (by simp [go_sem, g]; rfl) ?_
      try simp [go_sem, g]
      exact pT (hg65 (s62.set i63.toNat z72)) (Rn_some hF) (by simp [go_sem, g, wr_i hi67 hi68 (by assumption)])
   ·try simp [go_sem, g]
    cases ho43 _ (Rn_some hF)
    exact pT (hj2 s41.1) hψ45
noncomputable def F_impl_JointCommits (a0 : Plan) : Option ((List Int) × Bool) :=
  (F_impl_IsValidPlan a0).bind fun z1 =>
  if (!z1) = true then (
  some ([], false)) else (
  (F_impl_Plan_commits a0).bind fun z3 =>
  some (z3, true))
theorem c_impl_JointCommits : ∀ {a0} {r}, F_impl_JointCommits a0 = some r → PCalls Tryz.prog 8 [(.sh, .agg [.int .i64 a0.Gr.P, .int .i64 a0.Gr.Q, .int .i64 a0.Gr.G, .int .i64 a0.Ct.Kind, .int .i64 a0.Ct.Options, .int .i64 a0.Ct.Least, .int .i64 a0.Ct.Most, .int .i64 a0.Ct.Points, .int .i64 a0.Threshold, .int .i64 a0.Trustees, .int .i64 a0.Mixers, .int .i64 a0.Voters, .int .i64 a0.Seed])] (Eo (.tup [.sl true 1 (r.1.map row_i64), .bool r.2]) [.junk]) := by
  intro a0 r hr
  apply pF 9 [] [] [] [.tmp 2, .tmp 3] hr cl8 Tryz.func8
  intro Φ hΦ hF g
  unfold F_impl_JointCommits at hF
  try simp [go_sem, g]
  refine pw_wk ?_
  try simp [go_sem, g]
  refine pC hF [.sh] c_impl_IsValidPlan (fun z1 hF => ?_)
  try simp [go_sem, g]
  refine pw_wk ?_
  repeat rw [sq]
  refine pI hF (fun h2 hF => ?_) (fun h2 hF => ?_)
  ·cases hΦ _ (Rn_some hF)
   try simp [go_sem, g]
   refine pw_wk ?_
   try simp [go_sem, g]
  ·try simp [go_sem, g]
   refine pw_wk ?_
   try simp [go_sem, g]
   refine pC hF [.sh] c_impl_Plan_commits (fun z3 hF => ?_)
   try simp [go_sem, g]
   refine pw_wkK [2, 3] (by simp [go_sem, g]; rfl) ?_
   cases hΦ _ (Rn_some hF)
   try simp [go_sem, g]
noncomputable def F_spec_nDealt (a0 : Plan) (a1 : Int) : Option ((List Int)) :=
  (F_spec_nCoefs a0 a1).bind fun z1 =>
  ((rloop (σ := (List Int)) (fun i6 s5 =>
  (ix z1 i6).bind fun x12 =>
  (F_spec_gExp a0.Gr a0.Gr.G x12).bind fun z13 =>
  gd ((s5.length + 1) * 8 ≤ 140737488355328 ∧ s5.length + 1 ≤ 4611686018427387904) <|
  some (.go (s5 ++ [z13]))) (fun s5 => s5) (z1.length) 0 [] : Option ((List Int))).bind fun x4 =>
  some x4)
theorem c_spec_nDealt : ∀ {a0} {a1} {r}, F_spec_nDealt a0 a1 = some r → PCalls Tryz.prog 59 [(.sh, .agg [.int .i64 a0.Gr.P, .int .i64 a0.Gr.Q, .int .i64 a0.Gr.G, .int .i64 a0.Ct.Kind, .int .i64 a0.Ct.Options, .int .i64 a0.Ct.Least, .int .i64 a0.Ct.Most, .int .i64 a0.Ct.Points, .int .i64 a0.Threshold, .int .i64 a0.Trustees, .int .i64 a0.Mixers, .int .i64 a0.Voters, .int .i64 a0.Seed]), (.sh, .int .i64 a1)] (Eo (.sl true 1 (r.map row_i64)) [.junk, .junk]) := by
  intro a0 a1 r hr
  apply pF 28 [] [] [] [.tmp 4] hr cl59 Tryz.func59
  intro Φ hΦ hF g
  unfold F_spec_nDealt at hF
  iterate 2 (try simp [go_sem, g]; refine pw_wk ?_)
  try simp [go_sem, g]
  refine pC hF [.sh, .sh] c_spec_nCoefs (fun z1 hF => ?_)
  try simp [go_sem, g]
  try intros
  refine pw_wk ?_
  repeat rw [sq]
  refine pJ hF (fun x4 => [(5, .v (.sl true 1 (x4.map row_i64)))]) (fun x4 hF => ?_) fun _ hj2 hF => ?_
  ·try simp [go_sem, g]
   refine pw_wkK [4] (by simp [go_sem, g]; rfl) ?_
   cases hΦ _ (Rn_some hF)
   try simp [go_sem, g]
  ·repeat rw [sq]
   rw [pw_block]
   obtain ⟨b14, hb15, hψ9⟩ := hF
   refine pR hb15 (fun i6 s5 => [(2, .bl [.int .i64 a0.Gr.P, .int .i64 a0.Gr.Q, .int .i64 a0.Gr.G, .int .i64 a0.Ct.Kind, .int .i64 a0.Ct.Options, .int .i64 a0.Ct.Least, .int .i64 a0.Ct.Most, .int .i64 a0.Ct.Points, .int .i64 a0.Threshold, .int .i64 a0.Trustees, .int .i64 a0.Mixers, .int .i64 a0.Voters, .int .i64 a0.Seed]), (5, .v (.sl true 1 (s5.map row_i64))), (10, .v (.sl true 1 (z1.map row_i64))), (11, .v (.int .i64 (z1.length : Int))), (12, .v (.int .i64 i6))]) (fun s5 _ hN16 => ?_) (fun i6 s5 _ _ hi10 hi11 ho7 hg8 hF => ?_)
   ·subst hN16
    try simp [go_sem]
    refine pw_wk ?_
    repeat rw [sq]
    refine pw_cond_f (by simp [go_sem]) ?_
    try simp [go_sem]
    exact pT (hj2 s5) hψ9 (by simp [go_sem])
   ·try simp [go_sem, g]
    refine pw_wk ?_
    repeat rw [sq]
    refine pw_cond_t (by simp [go_sem, g, hi10, hi11]) ?_
    try simp [go_sem, g]
    refine pw_wk ?_
    repeat rw [sq]
    rw [pw_block]
    obtain ⟨x12, g, hF⟩ := Rx g hF
    try simp [go_sem, g]
    refine pw_wkK [2, 5, 7, 10, 11, 12] (by simp [go_sem, g]; rfl) ?_
    try simp [go_sem, g]
    refine pC hF [.sh, .sh, .sh] c_spec_gExp (fun z13 hF => ?_)
    obtain ⟨g, hF⟩ := Rg g hF
    try simp [go_sem, g]
    refine pw_wkK [2, 5, 10, 11, 12] (by simp [go_sem, g]; rfl) ?_
    try simp [go_sem, g]
    exact pT (hg8 (s5 ++ [z13])) (Rn_some hF) (by simp [go_sem, g, wr_i hi10 hi11 (by assumption)])
noncomputable def F_spec_gMul (a0 : Group) (a1 : (List Int)) : Option (Int) :=
  ((rloop (σ := Int) (fun i5 s4 =>
  (ix a1 i5).bind fun x11 =>
  gd (a0.P ≠ 0) <|
  some (.go ((i64.wrap (s4 * x11)).tmod a0.P))) (fun s4 => s4) (a1.length) 0 1 : Option (Int)).bind fun x3 =>
  some x3)
end Go.Pm
