/-
  Plain functions and their walks. Written by wip/tools/lift.py.
-/
import Derived.Test.YtikiohlamlipnaaGreatM39
namespace Go.Pm
open Go.Am IntKind
open Go.Proofs
set_option maxRecDepth 100000
attribute [local irreducible] pw pwx pw1 pwg qv qz qf
attribute [-simp] List.map_set
set_option linter.unusedSimpArgs false
set_option linter.unusedVariables false
noncomputable section
def za4 (a0 : Group) (a1 : List Int) (a2 : Cipher) (a3 : List Partial) : Option (Int × Bool) :=
 (zaZ a0 a1 a2 a3).bind fun z1 =>
 ((if (!z1.2) = true then (
 some true) else (
 some (decide ((z1.1.length : Int) < (a1.length : Int)))) : Option Bool).bind fun x4 =>
 if x4 = true then (
 some (0, false)) else (
 gd (0 ≤ (a1.length : Int)) <|
 gd (0 ≤ a1.length ∧ a1.length ≤ z1.1.length) <|
 ((zas (σ := (List Int) × List Int) (fun i11 s10 =>
 (ix ((z1.1.take a1.length).drop 0) i11).bind fun x18 =>
 (ix a3 x18).bind fun x19 =>
 gd ((s10.1.length + 1) * 8 ≤ 140737488355328 ∧ s10.1.length + 1 ≤ 4611686018427387904) <|
 gd ((s10.2.length + 1) * 8 ≤ 140737488355328 ∧ s10.2.length + 1 ≤ 4611686018427387904) <|
 some (.go (s10.1 ++ [x19.Index], s10.2 ++ [x19.Value]))) (fun s10 => (s10.1, s10.2)) (((z1.1.take a1.length).drop 0).length) 0 ([], []) : Option ((List Int × List Int))).bind fun x9 =>
 (zey a0.Q x9.1 0).bind fun z24 =>
 (zcx a0 x9.2 z24).bind fun z25 =>
 (zcP a0 z25).bind fun z26 =>
 (zbk a0 [a2.B, z26]).bind fun z27 =>
 some (z27, true))))
theorem zf7 : ∀ {a0} {a1} {a2} {a3} {r}, za4 a0 a1 a2 a3 = some r → PCalls Tryz.prog 15 [(.sh, vE a0), (.sh, vC a1), (.sh, vQ a2), (.sh, vX a3)] (Eo (.tup [.int .i64 r.1, .bool r.2]) [.junk, .junk, .junk, .junk]) := by
 intro a0 a1 a2 a3 r hr
 apply pF 75 [] [10] [] [.tmp 8, .tmp 9] hr zD1 Tryz.func15
 intro Φ hΦ hF g
 unfold za4 at hF
 refine wW ?_
 refine wC hF [.sh, .sh, .sh, .sh] zgZ (fun z1 hF => ?_)
 refine wK [1, 3, 4, 6, 10, 11] ?_
 refine wJ hF (fun x4 => [(1, .v (vC a1)), (3, .v (vX a3)), (4, .bl [.int .i64 a0.P, .int .i64 a0.Q, .int .i64 a0.G]), (6, .bl [.int .i64 a2.A, .int .i64 a2.B]), (10, .v (vC z1.1)), (32, .v (.bool x4))]) (fun x4 hF => ?_) fun _ hj2 hF => ?_
 ·refine wI hF (fun h6 hF => ?_) (fun h6 hF => ?_)
  ·exact wl hΦ hF
  obtain ⟨g, hF⟩ := Rg g hF
  obtain ⟨g, hF⟩ := Rg g hF
  iterate 2 (try simp [go_sem, g]; try intros; refine zav ?_)
  try simp [go_sem, g]
  try intros
  refine wK [3, 4, 6, 12, 13, 38, 39, 40] ?_
  refine wJ hF (fun x9 => [(4, .bl [.int .i64 a0.P, .int .i64 a0.Q, .int .i64 a0.G]), (6, .bl [.int .i64 a2.A, .int .i64 a2.B]), (12, .v (vD x9.1)), (13, .v (vD x9.2))]) (fun x9 hF => ?_) fun _ hj7 hF => ?_
  ·refine wX zxT follows ?_
   refine wC hF [.sh, .sh, .sh] zmg (fun z24 hF => ?_)
   refine wC hF [.sh, .sh, .sh] zg1 (fun z25 hF => ?_)
   refine wC hF [.sh, .sh] zio (fun z26 hF => ?_)
   refine wC hF [.sh, .sh] zeb (fun z27 hF => ?_)
   refine wK [8, 9] ?_
   exact wm hΦ hF
  refine wB ?_
  obtain ⟨b20, hb21, hψ14⟩ := hF
  refine pR hb21 (fun i11 s10 => [(3, .v (vX a3)), (4, .bl [.int .i64 a0.P, .int .i64 a0.Q, .int .i64 a0.G]), (6, .bl [.int .i64 a2.A, .int .i64 a2.B]), (12, .v (vD s10.1)), (13, .v (vD s10.2)), (38, .v (vC ((z1.1.take a1.length).drop 0))), (39, .v (.int .i64 (((z1.1.take a1.length).drop 0).length : Int))), (40, .v (.int .i64 i11))]) (fun s10 _ hN22 => ?_) (fun i11 s10 _ _ hi15 hi16 ho12 hg13 hF => ?_)
  ·exact wn hN22 (hj7 _) hψ14
  have hi17 := hi16
  try simp at hi17
  refine wW ?_
  refine wt ?_ (hb := by simp [go_sem, g, hi15, hi16, hi17] <;> omega)
  refine wW ?_
  refine wB ?_
  obtain ⟨x18, g, hF⟩ := Rxq g hF
  refine wW ?_
  repeat rw [sq]
  refine zpW 13 7 zAK zwd follows (by decide) (by kernel_rfl) (by kernel_rfl) rfl rfl ?_ ?_
  ·obtain ⟨x19, g, hF⟩ := Rx g hF
   obtain ⟨g, hF⟩ := Rg g hF
   obtain ⟨g, hF⟩ := Rg g hF
   refine wK [3, 4, 6, 12, 13, 38, 39, 40] ?_
   exact wT (hg13 (s10.1 ++ [x19.Index], s10.2 ++ [x19.Value])) (zaa hF) (a := by simp [go_sem, g, zoT hi15 hi16 (by first | assumption | (simp; assumption) | (simp; omega))])
  obtain ⟨x19, g, hF⟩ := Rx g hF
  obtain ⟨g, hF⟩ := Rg g hF
  obtain ⟨g, hF⟩ := Rg g hF
  refine wK [3, 4, 6, 12, 13, 38, 39, 40] ?_
  exact wT (hg13 (s10.1 ++ [x19.Index], s10.2 ++ [x19.Value])) (zaa hF) (a := by simp [go_sem, g, zoT hi15 hi16 (by first | assumption | (simp; assumption) | (simp; omega))])
 refine wG hF (fun h5 hF => ?_) fun h5 hF => ?_
 ·exact wV h5 (hj2 _) (zaa hF)
 try simp [go_sem, g, h5]
 try intros
 exact wT (hj2 _) (zaa hF)
def zdu (a0 : Group) (a1 : List Int) : Option Bool :=
 ((zas (σ := Unit) (fun i5 s4 =>
 (ix a1 i5).bind fun x11 =>
 (((za3 x11 1 (i64.wrap (a0.P - 1))).bind fun z15 =>
 if (!z15) = true then (
 some true) else (
 (zbt x11 a0.Q a0.P).bind fun z17 =>
 some (z17 != 1)) : Option Bool).bind fun x14 =>
 if x14 = true then (
 some (.out (.inr false))) else (
 some (.go ())))) (fun s4 => .inl ()) (a1.length) 0 () : Option (Unit ⊕ Bool)).bind (Sum.elim (fun x3 =>
 some true) some))
theorem zhO : ∀ {a0} {a1} {r}, zdu a0 a1 = some r → PCalls Tryz.prog 116 [(.sh, vE a0), (.sh, vC a1)] (Eo (.bool r) [.junk, .junk]) := by
 intro a0 a1 r hr
 apply pF 29 [] [] [] [.tmp 4] hr zAL Tryz.func116
 intro Φ hΦ hF g
 unfold zdu at hF
 iterate 2 (try simp [go_sem, g]; try intros; refine zav ?_)
 refine wS hF (fun x3 => []) (fun x3 hF => ?_) fun _ hj1 hr2 hF => ?_
 ·exact wl hΦ hF
 refine wB ?_
 obtain ⟨b19, hb20, hψ8⟩ := hF
 refine pR hb20 (fun i5 s4 => [(2, .bl [.int .i64 a0.P, .int .i64 a0.Q, .int .i64 a0.G]), (7, .v (vC a1)), (8, .v (.int .i64 (a1.length : Int))), (9, .v (.int .i64 i5))]) (fun s4 _ hN21 => ?_) (fun i5 s4 _ _ hi9 hi10 ho6 hg7 hF => ?_)
 ·exact wn hN21 (hj1 _) hψ8
 refine wW ?_
 refine wu hi9 hi10 ?_
 refine wW ?_
 refine wB ?_
 obtain ⟨x11, g, hF⟩ := Rx g hF
 refine wW ?_
 refine wJ hF (fun x14 => [(2, .bl [.int .i64 a0.P, .int .i64 a0.Q, .int .i64 a0.G]), (7, .v (vC a1)), (8, .v (.int .i64 (a1.length : Int))), (9, .v (.int .i64 i5)), (27, .v (.bool x14))]) (fun x14 hF => ?_) fun _ hj12 hF => ?_
 ·refine wI hF (fun h18 hF => ?_) (fun h18 hF => ?_)
  ·refine wK [4] ?_
   cases ho6 _ (zaa hF)
   cases hΦ _ (hr2 _ hψ8)
   try simp [go_sem, g]
  refine wW ?_
  exact wi hi9 hi10 (hg7 _) (zaa hF)
 refine wC hF [.sh, .sh, .sh] zbI (fun z15 hF => ?_)
 refine wG hF (fun h16 hF => ?_) fun h16 hF => ?_
 ·exact wV h16 (hj12 _) (zaa hF)
 try simp [go_sem, g, h16]
 refine wC hF [.sh, .sh, .sh] zen (fun z17 hF => ?_)
 exact wV h16 (hj12 _) (zaa hF)
def zeu (a0 : Group) (a1 : List Int) : Option Bool :=
 (((za3 (a1.length : Int) 1 7).bind fun z4 =>
 if z4 = true then (
 (zdu a0 a1).bind fun z6 =>
 some z6) else (
 some false) : Option Bool).bind fun x3 =>
 some x3)
theorem zmu : ∀ {a0} {a1} {r}, zeu a0 a1 = some r → PCalls Tryz.prog 106 [(.sh, vE a0), (.sh, vC a1)] (Eo (.bool r) [.junk, .junk]) := by
 intro a0 a1 r hr
 apply pF 13 [] [] [] [.tmp 4] hr zz4 Tryz.func106
 intro Φ hΦ hF g
 unfold zeu at hF
 refine wW ?_
 refine wJ hF (fun x3 => [(4, .v (.bool x3))]) (fun x3 hF => ?_) fun _ hj1 hF => ?_
 ·exact wm hΦ hF
 try simp [go_sem, g]
 try intros
 refine wC hF [.sh, .sh, .sh] zbI (fun z4 hF => ?_)
 refine wG hF (fun h5 hF => ?_) fun h5 hF => ?_
 ·try simp [go_sem, g, h5]
  refine wC hF [.sh, .sh] zhO (fun z6 hF => ?_)
  exact wV h5 (hj1 _) (zaa hF)
 exact wV h5 (hj1 _) (zaa hF)
def zeS (a0 : Group) (a1 : List Cipher) : Option Bool :=
 if decide (24 < (a1.length : Int)) = true then (
 some false) else (
 ((zas (σ := Unit) (fun i6 s5 =>
 (ix a1 i6).bind fun x12 =>
 (zdu a0 [x12.A, x12.B]).bind fun z13 =>
 if (!z13) = true then (
 some (.out (.inr false))) else (
 some (.go ()))) (fun s5 => .inl ()) (a1.length) 0 () : Option (Unit ⊕ Bool)).bind (Sum.elim (fun x4 =>
 some true) some)))
theorem zkK : ∀ {a0} {a1} {r}, zeS a0 a1 = some r → PCalls Tryz.prog 62 [(.sh, vE a0), (.sh, vZ a1)] (Eo (.bool r) [.junk, .junk]) := by
 intro a0 a1 r hr
 apply pF 25 [] [] [] [.tmp 4] hr zDm Tryz.func62
 intro Φ hΦ hF g
 unfold zeS at hF
 iterate 2 (try simp [go_sem, g]; try intros; refine zav ?_)
 refine wI hF (fun h1 hF => ?_) (fun h1 hF => ?_)
 ·exact wl hΦ hF
 iterate 2 (try simp [go_sem, g]; try intros; refine zav ?_)
 refine wS hF (fun x4 => []) (fun x4 hF => ?_) fun _ hj2 hr3 hF => ?_
 ·exact wl hΦ hF
 refine wB ?_
 obtain ⟨b15, hb16, hψ9⟩ := hF
 refine pR hb16 (fun i6 s5 => [(2, .bl [.int .i64 a0.P, .int .i64 a0.Q, .int .i64 a0.G]), (10, .v (vZ a1)), (11, .v (.int .i64 (a1.length : Int))), (12, .v (.int .i64 i6))]) (fun s5 _ hN17 => ?_) (fun i6 s5 _ _ hi10 hi11 ho7 hg8 hF => ?_)
 ·exact wn hN17 (hj2 _) hψ9
 refine wW ?_
 refine wu hi10 hi11 ?_
 refine wW ?_
 refine wB ?_
 obtain ⟨x12, g, hF⟩ := Rx g hF
 refine wK [2, 6, 10, 11, 12] ?_
 refine wC hF [.sh, .sh] zhO (fun z13 hF => ?_)
 refine wW ?_
 refine wI hF (fun h14 hF => ?_) (fun h14 hF => ?_)
 ·cases ho7 _ (zaa hF)
  cases hΦ _ (hr3 _ hψ9)
  refine wW ?_
  try simp [go_sem, g]
 refine wW ?_
 exact wi hi10 hi11 (hg8 _) (zaa hF)
def zdb (a0 : Group) (a1 : List Int) (a2 : Cipher) (a3 : List Partial) : Option Bool :=
 (((zcJ a0).bind fun z4 =>
 if z4 = true then (
 (zeu a0 a1).bind fun z6 =>
 if z6 = true then (
 (zeS a0 [a2]).bind fun z8 =>
 if z8 = true then (
 some (decide ((a3.length : Int) ≤ 14))) else (
 some false)) else (
 some false)) else (
 some false) : Option Bool).bind fun x3 =>
 some x3)
theorem zj3 : ∀ {a0} {a1} {a2} {a3} {r}, zdb a0 a1 a2 a3 = some r → PCalls Tryz.prog 52 [(.sh, vE a0), (.sh, vC a1), (.sh, vQ a2), (.sh, vX a3)] (Eo (.bool r) [.junk, .junk, .junk, .junk]) := by
 intro a0 a1 a2 a3 r hr
 apply pF 27 [] [] [] [.tmp 8] hr zFS Tryz.func52
 intro Φ hΦ hF g
 unfold zdb at hF
 refine wW ?_
 refine wJ hF (fun x3 => [(8, .v (.bool x3))]) (fun x3 hF => ?_) fun _ hj1 hF => ?_
 ·exact wm hΦ hF
 refine wC hF [.sh] zfb (fun z4 hF => ?_)
 refine wG hF (fun h5 hF => ?_) fun h5 hF => ?_
 ·try simp [go_sem, g, h5]
  refine wC hF [.sh, .sh] zmu (fun z6 hF => ?_)
  try simp [go_sem, g, h5]
  refine wG hF (fun h7 hF => ?_) fun h7 hF => ?_
  ·try simp [go_sem, g, h7]
   refine wC hF [.sh, .sh] zkK (fun z8 hF => ?_)
   try simp [go_sem, g, h7]
   refine wG hF (fun h9 hF => ?_) fun h9 hF => ?_
   ·try simp [go_sem, g, h9]
    try intros
    exact wT (hj1 _) (zaa hF)
   exact wV h9 (hj1 _) (zaa hF)
  exact wV h7 (hj1 _) (zaa hF)
 exact wV h5 (hj1 _) (zaa hF)
def zeL (a0 : List Int) (a1 : Int) : Option Bool :=
 ((zas (σ := Unit) (fun i5 s4 =>
 (ix a0 i5).bind fun x11 =>
 if (x11 == a1) = true then (
 some (.out (.inr true))) else (
 some (.go ()))) (fun s4 => .inl ()) (a0.length) 0 () : Option (Unit ⊕ Bool)).bind (Sum.elim (fun x3 =>
 some false) some))
theorem zpV : ∀ {a0} {a1} {r}, zeL a0 a1 = some r → PCalls Tryz.prog 44 [(.sh, vC a0), (.sh, .int .i64 a1)] (Eo (.bool r) [.junk, .junk]) := by
 intro a0 a1 r hr
 apply pF 17 [] [] [] [.tmp 4] hr zEr Tryz.func44
 intro Φ hΦ hF g
 unfold zeL at hF
 iterate 2 (try simp [go_sem, g]; try intros; refine zav ?_)
 refine wS hF (fun x3 => []) (fun x3 hF => ?_) fun _ hj1 hr2 hF => ?_
 ·exact wl hΦ hF
 refine wB ?_
 obtain ⟨b13, hb14, hψ8⟩ := hF
 refine pR hb14 (fun i5 s4 => [(1, .v (.int .i64 a1)), (7, .v (vC a0)), (8, .v (.int .i64 (a0.length : Int))), (9, .v (.int .i64 i5))]) (fun s4 _ hN15 => ?_) (fun i5 s4 _ _ hi9 hi10 ho6 hg7 hF => ?_)
 ·exact wn hN15 (hj1 _) hψ8
 refine wW ?_
 refine wu hi9 hi10 ?_
 refine wW ?_
 refine wB ?_
 obtain ⟨x11, g, hF⟩ := Rx g hF
 refine wW ?_
 refine wK [1, 7, 8, 9, 15] ?_
 refine wI hF (fun h12 hF => ?_) (fun h12 hF => ?_)
 ·cases ho6 _ (zaa hF)
  cases hΦ _ (hr2 _ hψ8)
  refine wW ?_
  try simp [go_sem, g]
 refine wW ?_
 exact wi hi9 hi10 (hg7 _) (zaa hF)
@[go_sem] def zyu : List DE := [d1 0 [9] 9, d2 1 [14] 9 14, d0 2 [15], d0 3 [2], d0 4 [17], d0 5 [16, 18], d0 6 [19], d1 7 [9, 20] 9, d2 8 [21, 20] 9 21, d0 9 [22, 20], d0 10 [23, 20], d0 11 [20, 24], d0 12 [25], d1 13 [9, 26] 9, d2 14 [27, 26] 9 27, d0 15 [28, 26], d0 16 [2, 26], d0 17 [30, 26], d0 18 [31, 26], d0 19 [32, 26], d0 20 [29, 33, 26], d0 21 [26, 34], d0 22 [35], d2 23 [5, 36] 5 5, d1 24 [9, 36] 9, d2 25 [38, 36] 9 38, d3 26 [37, 39, 36], d0 27 [40, 36], d0 28 [36, 41], d0 29 [42], d2 30 [5, 43] 5 5, d1 31 [9, 43] 9, d2 32 [45, 43] 9 45, d3 33 [44, 46, 43], d0 34 [47, 43], d0 35 [43, 48]]
@[go_sem] def zyD : List DE := [d0 0 [11], d2 1 [5] 5 5, d0 2 [1], d0 3 [2], d0 4 [3], d1 5 [9] 9, d2 6 [59] 9 59, d3 7 [57, 58, 60], d3 8 [55, 56, 61], d0 9 [54, 62]]
@[go_sem] def zyi : List DE := [d2 0 [5] 5 5, d0 1 [13], d1 2 [9] 9, d2 3 [73] 9 73, d2 5 [5] 5 5, d1 6 [9] 9, d2 7 [77] 9 77, d0 8 [12], d0 9 [78, 79], d0 10 [80], d2 11 [5] 5 5, d0 12 [3], d0 13 [12], d0 14 [83, 84], d0 15 [85], d0 16 [11], ⟨4, [71, 72, 74], [], none, false, true, false⟩, ⟨17, [82, 86, 87], [], none, false, true, false⟩, d0 18 [81, 88], ⟨19, [76, 89], [], none, true, true, true⟩, d0 20 [75, 90]]
def zeH (a0 : Group) (a1 : ByteArray) (a2 : (List (List Int))) (a3 : List Int) (a4 : Proof) : Option Bool :=
 ((if ((a4.Commits.length : Int) != (a2.length : Int)) = true then (
 some true) else (
 if ((a4.Challenges.length : Int) != 1) = true then (
 some true) else (
 (ix a2 0).bind fun x6 =>
 if ((a4.Responses.length : Int) != (x6.length : Int)) = true then (
 some true) else (
 (zdu a0 a4.Commits).bind fun z8 =>
 if (!z8) = true then (
 some true) else (
 (zdz a0 a4.Responses).bind fun z10 =>
 some (!z10))))) : Option Bool).bind fun x3 =>
 if x3 = true then (
 some false) else (
 (ix a4.Challenges 0).bind fun x12 =>
 (zc7 a2 a3 a4.Commits).bind fun z13 =>
 (zcq a0 a1 z13).bind fun z14 =>
 if (x12 != z14) = true then (
 some false) else (
 ((zas (σ := Unit) (fun i20 s19 =>
 (ix a2 i20).bind fun x26 =>
 (ix a4.Commits i20).bind fun x27 =>
 (ix a3 i20).bind fun x28 =>
 (zc3 a0 x26 a4.Responses).bind fun z29 =>
 (zaP a0 x28 x12).bind fun z30 =>
 (zcY a0 [x27, z30]).bind fun z31 =>
 if (z29 != z31) = true then (
 some (.out (.inr false))) else (
 some (.go ()))) (fun s19 => .inl ()) (a2.length) 0 () : Option (Unit ⊕ Bool)).bind (Sum.elim (fun x18 =>
 some true) some)))))
theorem zmY : ∀ {a0} {a1} {a2} {a3} {a4} {r}, zeH a0 a1 a2 a3 a4 = some r → PCalls Tryz.prog 166 [(.sh, vE a0), (.sh, .str a1), (.sh, vG a2), (.sh, vC a3), (.sh, vU a4)] (Eo (.bool r) [.junk, .junk, .junk, .junk, .junk]) := by
 intro a0 a1 a2 a3 a4 r hr
 apply pF 93 [] [] [] [.tmp 10] hr zBy Tryz.func166
 intro Φ hΦ hF g
 unfold zeH at hF
 refine wW ?_
 refine wJ hF (fun x3 => [(1, .v (.str a1)), (2, .v (vG a2)), (3, .v (vC a3)), (5, .bl [.int .i64 a0.P, .int .i64 a0.Q, .int .i64 a0.G]), (9, .bl [vC a4.Commits, vC a4.Challenges, vC a4.Responses]), (49, .v (.bool x3))]) (fun x3 hF => ?_) fun _ hj1 hF => ?_
 ·refine wI hF (fun h11 hF => ?_) (fun h11 hF => ?_)
  ·exact wl hΦ hF
  obtain ⟨x12, g, hF⟩ := Rxn g 0 hF
  iterate 2 refine wW ?_
  refine wX zyD follows ?_
  refine wC hF [.sh, .sh, .sh] zhI (fun z13 hF => ?_)
  refine wC hF [.sh, .sh, .sh] zhH (fun z14 hF => ?_)
  refine wK [2, 3, 5, 9, 11, 63] ?_
  refine wI hF (fun h15 hF => ?_) (fun h15 hF => ?_)
  ·exact wl hΦ hF
  iterate 2 (try simp [go_sem, g]; try intros; refine zav ?_)
  refine wS hF (fun x18 => []) (fun x18 hF => ?_) fun _ hj16 hr17 hF => ?_
  ·exact wl hΦ hF
  refine wB ?_
  obtain ⟨b33, hb34, hψ23⟩ := hF
  refine pR hb34 (fun i20 s19 => [(3, .v (vC a3)), (5, .bl [.int .i64 a0.P, .int .i64 a0.Q, .int .i64 a0.G]), (9, .bl [vC a4.Commits, vC a4.Challenges, vC a4.Responses]), (11, .v (.int .i64 x12)), (64, .v (vG a2)), (65, .v (.int .i64 (a2.length : Int))), (66, .v (.int .i64 i20))]) (fun s19 _ hN35 => ?_) (fun i20 s19 _ _ hi24 hi25 ho21 hg22 hF => ?_)
  ·exact wn hN35 (hj16 _) hψ23
  refine wW ?_
  refine wu hi24 hi25 ?_
  refine wW ?_
  refine wB ?_
  obtain ⟨x26, g, hF⟩ := Rx g hF
  refine wW ?_
  refine wX zyi follows ?_
  obtain ⟨x27, g, hF⟩ := Rx g hF
  obtain ⟨x28, g, hF⟩ := Rx g hF
  refine wD hF zih (fun z29 hF => ?_)
  refine wD hF zcE (fun z30 hF => ?_)
  refine wC hF [.sh, .sh] zfZ (fun z31 hF => ?_)
  refine wK [3, 5, 9, 11, 64, 65, 66, 91] ?_
  refine wI hF (fun h32 hF => ?_) (fun h32 hF => ?_)
  ·cases ho21 _ (zaa hF)
   cases hΦ _ (hr17 _ hψ23)
   refine wW ?_
   try simp [go_sem, g]
  refine wW ?_
  exact wi hi24 hi25 (hg22 _) (zaa hF)
 refine wX zyu follows ?_
 try simp [go_sem, g]
 try intros
 refine wH hF (fun h4 hF => ?_) fun h4 hF => ?_
 ·exact wV h4 (hj1 _) (zaa hF)
 try simp [go_sem, g, h4]
 try intros
 refine wH hF (fun h5 hF => ?_) fun h5 hF => ?_
 ·exact wV h5 (hj1 _) (zaa hF)
 obtain ⟨x6, g, hF⟩ := Rxn g 0 hF
 try simp [go_sem, g, h5]
 try intros
 refine wH hF (fun h7 hF => ?_) fun h7 hF => ?_
 ·exact wV h7 (hj1 _) (zaa hF)
 try simp [go_sem, g, h7]
 refine wC hF [.sh, .sh] zhO (fun z8 hF => ?_)
 try simp [go_sem, g, h7]
 refine wH hF (fun h9 hF => ?_) fun h9 hF => ?_
 ·exact wV h9 (hj1 _) (zaa hF)
 try simp [go_sem, g, h9]
 refine wC hF [.sh, .sh] zgR (fun z10 hF => ?_)
 exact wV h9 (hj1 _) (zaa hF)
def ze2 (a0 : Group) (a1 : ByteArray) (a2 : EqualLog) (a3 : Proof) : Option Bool :=
 (zeH a0 a1 [[a2.G1], [a2.G2]] [a2.Y1, a2.Y2] a3).bind fun z1 =>
 some z1
theorem zlT : ∀ {a0} {a1} {a2} {a3} {r}, ze2 a0 a1 a2 a3 = some r → PCalls Tryz.prog 125 [(.sh, vE a0), (.sh, .str a1), (.sh, vAA a2), (.sh, vU a3)] (Eo (.bool r) [.junk, .junk, .junk, .junk]) := by
 intro a0 a1 a2 a3 r hr
 apply pF 25 [] [] [] [.tmp 8] hr zzl Tryz.func125
 intro Φ hΦ hF g
 unfold ze2 at hF
 refine wW ?_
 refine wC hF [.sh, .sh, .sh, .sh, .sh] zmY (fun z1 hF => ?_)
 refine wK [8] ?_
 exact wm hΦ hF
@[go_sem] def zzK : List DE := [d2 0 [4] 4 4, d1 1 [4] 4, d2 2 [22] 4 22, d2 3 [4] 4 4, d0 4 [1], d1 5 [7] 7, d2 6 [26] 7 26, d1 8 [6] 6, d2 9 [29] 6 29, d1 10 [7] 7, d2 11 [31] 7 31, d1 13 [7] 7, d2 14 [34] 7 34, d3 7 [24, 25, 27], d0 12 [23, 28, 30, 32], d3 15 [21, 33, 35], d0 16 [36]]
def zdt (a0 : Group) (a1 : List Int) (a2 : Cipher) (a3 : Partial) : Option Bool :=
 (((za3 a3.Index 1 7).bind fun z4 =>
 if (!z4) = true then (
 some true) else (
 (zdu a0 [a3.Value]).bind fun z6 =>
 some (!z6)) : Option Bool).bind fun x3 =>
 if x3 = true then (
 some false) else (
 (zeZ a0 a1 a3.Index).bind fun z8 =>
 (ze2 a0 (⟨#[112, 97, 114, 116, 105, 97, 108]⟩ : ByteArray) (EqualLog.mk a0.G z8 a2.A a3.Value) a3.Pi).bind fun z9 =>
 some z9))
theorem zjs : ∀ {a0} {a1} {a2} {a3} {r}, zdt a0 a1 a2 a3 = some r → PCalls Tryz.prog 74 [(.sh, vE a0), (.sh, vC a1), (.sh, vQ a2), (.sh, vY a3)] (Eo (.bool r) [.junk, .junk, .junk, .junk]) := by
 intro a0 a1 a2 a3 r hr
 apply pF 37 [] [] [] [.tmp 8] hr zDR Tryz.func74
 intro Φ hΦ hF g
 unfold zdt at hF
 refine wW ?_
 refine wJ hF (fun x3 => [(1, .v (vC a1)), (4, .bl [.int .i64 a0.P, .int .i64 a0.Q, .int .i64 a0.G]), (6, .bl [.int .i64 a2.A, .int .i64 a2.B]), (7, .bl [.int .i64 a3.Index, .int .i64 a3.Value, vC a3.Pi.Commits, vC a3.Pi.Challenges, vC a3.Pi.Responses]), (20, .v (.bool x3))]) (fun x3 hF => ?_) fun _ hj1 hF => ?_
 ·refine wI hF (fun h7 hF => ?_) (fun h7 hF => ?_)
  ·exact wl hΦ hF
  refine wW ?_
  refine wX zzK follows ?_
  refine wC hF [.sh, .sh, .sh] zmh (fun z8 hF => ?_)
  refine wC hF [.sh, .sh, .sh, .sh] zlT (fun z9 hF => ?_)
  refine wK [8] ?_
  exact wm hΦ hF
 refine wC hF [.sh, .sh, .sh] zbI (fun z4 hF => ?_)
 refine wG hF (fun h5 hF => ?_) fun h5 hF => ?_
 ·exact wV h5 (hj1 _) (zaa hF)
 try simp [go_sem, g, h5]
 refine wC hF [.sh, .sh] zhO (fun z6 hF => ?_)
 exact wV h5 (hj1 _) (zaa hF)
def zfs (a0 : Group) (a1 : List Int) (a2 : Cipher) (a3 : List Partial) : Option ((List Int)) :=
 ((zas (σ := (List Int) × List Int) (fun i5 s4 =>
 (((ix a3 i5).bind fun x14 =>
 (((zeL s4.2 x14.Index).bind fun z18 =>
 if (!z18) = true then (
 (zdt a0 a1 a2 x14).bind fun z20 =>
 some z20) else (
 some false) : Option Bool).bind fun x17 =>
 if x17 = true then (
 gd ((s4.1.length + 1) * 8 ≤ 140737488355328 ∧ s4.1.length + 1 ≤ 4611686018427387904) <|
 gd ((s4.2.length + 1) * 8 ≤ 140737488355328 ∧ s4.2.length + 1 ≤ 4611686018427387904) <|
 some (s4.1 ++ [i5], s4.2 ++ [x14.Index])) else (
 some (s4.1, s4.2))) : Option ((List Int × List Int))).bind fun x13 =>
 some (.go (x13.1, x13.2)))) (fun s4 => s4.1) (a3.length) 0 ([], []) : Option ((List Int))).bind fun x3 =>
 some x3)
theorem zov : ∀ {a0} {a1} {a2} {a3} {r}, zfs a0 a1 a2 a3 = some r → PCalls Tryz.prog 107 [(.sh, vE a0), (.sh, vC a1), (.sh, vQ a2), (.sh, vX a3)] (Eo (vD r) [.junk, .junk, .junk, .junk]) := by
 intro a0 a1 a2 a3 r hr
 apply pF 43 [] [] [] [.tmp 8] hr zBu Tryz.func107
 intro Φ hΦ hF g
 unfold zfs at hF
 iterate 3 (try simp [go_sem, g]; try intros; refine zav ?_)
 refine wJ hF (fun x3 => [(9, .v (vD x3))]) (fun x3 hF => ?_) fun _ hj1 hF => ?_
 ·refine wK [8] ?_
  exact wm hΦ hF
 refine wB ?_
 obtain ⟨b22, hb23, hψ8⟩ := hF
 refine pR hb23 (fun i5 s4 => [(1, .v (vC a1)), (4, .bl [.int .i64 a0.P, .int .i64 a0.Q, .int .i64 a0.G]), (6, .bl [.int .i64 a2.A, .int .i64 a2.B]), (9, .v (vD s4.1)), (10, .v (vD s4.2)), (13, .v (vX a3)), (14, .v (.int .i64 (a3.length : Int))), (15, .v (.int .i64 i5))]) (fun s4 _ hN24 => ?_) (fun i5 s4 _ _ hi9 hi10 ho6 hg7 hF => ?_)
 ·exact wn hN24 (hj1 _) hψ8
 refine wW ?_
 refine wu hi9 hi10 ?_
 refine wW ?_
 refine wJ hF (fun x13 => [(1, .v (vC a1)), (4, .bl [.int .i64 a0.P, .int .i64 a0.Q, .int .i64 a0.G]), (6, .bl [.int .i64 a2.A, .int .i64 a2.B]), (9, .v (vD x13.1)), (10, .v (vD x13.2)), (13, .v (vX a3)), (14, .v (.int .i64 (a3.length : Int))), (15, .v (.int .i64 i5))]) (fun x13 hF => ?_) fun _ hj11 hF => ?_
 ·exact wi hi9 hi10 (hg7 _) (zaa hF)
 refine wB ?_
 obtain ⟨x14, g, hF⟩ := Rx g hF
 refine wK [1, 4, 6, 9, 10, 11, 12, 13, 14, 15] ?_
 refine wJ hF (fun x17 => [(1, .v (vC a1)), (4, .bl [.int .i64 a0.P, .int .i64 a0.Q, .int .i64 a0.G]), (6, .bl [.int .i64 a2.A, .int .i64 a2.B]), (9, .v (vD s4.1)), (10, .v (vD s4.2)), (11, .v (.int .i64 i5)), (12, .bl [.int .i64 x14.Index, .int .i64 x14.Value, vC x14.Pi.Commits, vC x14.Pi.Challenges, vC x14.Pi.Responses]), (13, .v (vX a3)), (14, .v (.int .i64 (a3.length : Int))), (15, .v (.int .i64 i5)), (31, .v (.bool x17))]) (fun x17 hF => ?_) fun _ hj15 hF => ?_
 ·refine wI hF (fun h21 hF => ?_) (fun h21 hF => ?_)
  ·obtain ⟨g, hF⟩ := Rg g hF
   obtain ⟨g, hF⟩ := Rg g hF
   refine wW ?_
   exact wT (hj11 _) (zaa hF)
  exact wT (hj11 _) (zaa hF)
 refine wC hF [.sh, .sh] zpV (fun z18 hF => ?_)
 refine wG hF (fun h19 hF => ?_) fun h19 hF => ?_
 ·try simp [go_sem, g, h19]
  refine wC hF [.sh, .sh, .sh, .sh] zjs (fun z20 hF => ?_)
  exact wV h19 (hj15 _) (zaa hF)
 exact wV h19 (hj15 _) (zaa hF)
def zb0 (a0 : Int) (a1 : Int) : Option (Int × Bool) :=
 (zbL a0 a1).bind fun z1 =>
 ((zbc (σ := Int × Int × Int × Int) (fun s5 =>
 if (s5.2.1 != 0) = true then (
 gd (s5.2.1 ≠ 0) <|
 some (.go (s5.2.1, i64.wrap (s5.1 - (i64.wrap ((i64.wrap (s5.1.tdiv s5.2.1)) * s5.2.1))), s5.2.2.2, i64.wrap (s5.2.2.1 - (i64.wrap ((i64.wrap (s5.1.tdiv s5.2.1)) * s5.2.2.2)))))) else (
 some (.out (s5.1, s5.2.2.1)))) (z1, a1, 1, 0) : Option ((Int × Int))).bind fun x4 =>
 (zbL x4.2 a1).bind fun z13 =>
 some (z13, (x4.1 == 1)))
theorem zml : ∀ {a0} {a1} {r}, zb0 a0 a1 = some r → PCalls Tryz.prog 156 [(.sh, .int .i64 a0), (.sh, .int .i64 a1)] (Eo (.tup [.int .i64 r.1, .bool r.2]) [.junk, .junk]) := by
 intro a0 a1 r hr
 apply pF 41 [] [] [] [.tmp 4, .tmp 5] hr zAv Tryz.func156
 intro Φ hΦ hF g
 unfold zb0 at hF
 refine wW ?_
 refine wC hF [.sh, .sh] zfg (fun z1 hF => ?_)
 refine wW ?_
 refine wK [1, 6, 7, 8, 9] ?_
 refine wJ hF (fun x4 => [(1, .v (.int .i64 a1)), (6, .v (.int .i64 x4.1)), (8, .v (.int .i64 x4.2))]) (fun x4 hF => ?_) fun _ hj2 hF => ?_
 ·refine wC hF [.sh, .sh] zfg (fun z13 hF => ?_)
  exact wl hΦ hF
 refine wB ?_
 obtain ⟨b11, hb12, hψ9⟩ := hF
 refine pL hb12 (fun s5 => [(1, .v (.int .i64 a1)), (6, .v (.int .i64 s5.1)), (7, .v (.int .i64 s5.2.1)), (8, .v (.int .i64 s5.2.2.1)), (9, .v (.int .i64 s5.2.2.2))]) (fun s5 _ _ ho7 hg8 hF => ?_)
 refine wW ?_
 refine wI hF (fun h10 hF => ?_) (fun h10 hF => ?_)
 ·refine wW ?_
  refine wB ?_
  obtain ⟨g, hF⟩ := Rz g hF
  refine wW ?_
  refine wK [1, 7, 9, 11, 12] ?_
  iterate 3 refine wW ?_
  exact wT (hg8 _) (zaa hF)
 cases ho7 _ (zaa hF)
 exact wT (hj2 _) hψ9
def zd3 (a0 : Int) (a1 : List Int) (a2 : Int) : Option ((List Int)) :=
 ((zas (σ := (List Int)) (fun i5 s4 =>
 (ix a1 i5).bind fun x11 =>
 ((zas (σ := Int × Int) (fun i16 s15 =>
 (((ix a1 i16).bind fun x25 =>
 if (i16 != i5) = true then (
 (zbL (i64.wrap (a2 - x25)) a0).bind fun z27 =>
 gd (a0 ≠ 0) <|
 (zbL (i64.wrap (x11 - x25)) a0).bind fun z28 =>
 gd (a0 ≠ 0) <|
 some ((i64.wrap (s15.1 * z27)).tmod a0, (i64.wrap (s15.2 * z28)).tmod a0)) else (
 some (s15.1, s15.2)) : Option ((Int × Int))).bind fun x24 =>
 some (.go (x24.1, x24.2)))) (fun s15 => (s15.1, s15.2)) (a1.length) 0 (1, 1) : Option ((Int × Int))).bind fun x14 =>
 (zb0 x14.2 a0).bind fun z33 =>
 gd (a0 ≠ 0) <|
 gd ((s4.length + 1) * 8 ≤ 140737488355328 ∧ s4.length + 1 ≤ 4611686018427387904) <|
 some (.go (s4 ++ [(i64.wrap (x14.1 * z33.1)).tmod a0])))) (fun s4 => s4) (a1.length) 0 [] : Option ((List Int))).bind fun x3 =>
 some x3)
theorem zlY : ∀ {a0} {a1} {a2} {r}, zd3 a0 a1 a2 = some r → PCalls Tryz.prog 111 [(.sh, .int .i64 a0), (.sh, vC a1), (.sh, .int .i64 a2)] (Eo (vD r) [.junk, .junk, .junk]) := by
 intro a0 a1 a2 r hr
 apply pF 68 [] [] [] [.tmp 6] hr zAB Tryz.func111
 intro Φ hΦ hF g
 unfold zd3 at hF
 iterate 3 (try simp [go_sem, g]; try intros; refine zav ?_)
 refine wJ hF (fun x3 => [(7, .v (vD x3))]) (fun x3 hF => ?_) fun _ hj1 hF => ?_
 ·exact wl hΦ hF
 refine wB ?_
 obtain ⟨b34, hb35, hψ8⟩ := hF
 refine pR hb35 (fun i5 s4 => [(0, .v (.int .i64 a0)), (1, .v (vC a1)), (2, .v (.int .i64 a2)), (7, .v (vD s4)), (16, .v (vC a1)), (17, .v (.int .i64 (a1.length : Int))), (18, .v (.int .i64 i5))]) (fun s4 _ hN36 => ?_) (fun i5 s4 _ _ hi9 hi10 ho6 hg7 hF => ?_)
 ·exact wn hN36 (hj1 _) hψ8
 refine wW ?_
 refine wu hi9 hi10 ?_
 refine wW ?_
 refine wB ?_
 obtain ⟨x11, g, hF⟩ := Rx g hF
 refine wK [0, 1, 2, 7, 8, 9, 16, 17, 18] ?_
 iterate 2 (try simp [go_sem, g]; try intros; refine zav ?_)
 refine wJ hF (fun x14 => [(0, .v (.int .i64 a0)), (1, .v (vC a1)), (2, .v (.int .i64 a2)), (7, .v (vD s4)), (10, .v (.int .i64 x14.1)), (11, .v (.int .i64 x14.2)), (16, .v (vC a1)), (17, .v (.int .i64 (a1.length : Int))), (18, .v (.int .i64 i5))]) (fun x14 hF => ?_) fun _ hj12 hF => ?_
 ·refine wC hF [.sh, .sh] zml (fun z33 hF => ?_)
  refine wK [0, 1, 2, 7, 10, 14, 16, 17, 18] ?_
  obtain ⟨g, hF⟩ := Rz g hF
  obtain ⟨g, hF⟩ := Rg g hF
  refine wW ?_
  exact wi hi9 hi10 (hg7 _) (zaa hF)
 refine wB ?_
 obtain ⟨b29, hb30, hψ19⟩ := hF
 refine pR hb30 (fun i16 s15 => [(0, .v (.int .i64 a0)), (1, .v (vC a1)), (2, .v (.int .i64 a2)), (7, .v (vD s4)), (8, .v (.int .i64 i5)), (9, .v (.int .i64 x11)), (10, .v (.int .i64 s15.1)), (11, .v (.int .i64 s15.2)), (16, .v (vC a1)), (17, .v (.int .i64 (a1.length : Int))), (18, .v (.int .i64 i5)), (23, .v (vC a1)), (24, .v (.int .i64 (a1.length : Int))), (25, .v (.int .i64 i16))]) (fun s15 _ hN31 => ?_) (fun i16 s15 _ _ hi20 hi21 ho17 hg18 hF => ?_)
 ·exact wn hN31 (hj12 _) hψ19
 refine wW ?_
 refine wu hi20 hi21 ?_
 refine wW ?_
 refine wJ hF (fun x24 => [(0, .v (.int .i64 a0)), (1, .v (vC a1)), (2, .v (.int .i64 a2)), (7, .v (vD s4)), (8, .v (.int .i64 i5)), (9, .v (.int .i64 x11)), (10, .v (.int .i64 x24.1)), (11, .v (.int .i64 x24.2)), (16, .v (vC a1)), (17, .v (.int .i64 (a1.length : Int))), (18, .v (.int .i64 i5)), (23, .v (vC a1)), (24, .v (.int .i64 (a1.length : Int))), (25, .v (.int .i64 i16))]) (fun x24 hF => ?_) fun _ hj22 hF => ?_
 ·exact wi hi20 hi21 (hg18 _) (zaa hF)
 refine wB ?_
 obtain ⟨x25, g, hF⟩ := Rx g hF
 refine wK [0, 1, 2, 7, 8, 9, 10, 11, 12, 13, 16, 17, 18, 23, 24, 25] ?_
 refine wW ?_
 refine wI hF (fun h26 hF => ?_) (fun h26 hF => ?_)
 ·refine wC hF [.sh, .sh] zfg (fun z27 hF => ?_)
  obtain ⟨g, hF⟩ := Rz g hF
  refine wK [0, 1, 2, 7, 8, 9, 10, 11, 13, 16, 17, 18, 23, 24, 25] ?_
  refine wC hF [.sh, .sh] zfg (fun z28 hF => ?_)
  obtain ⟨g, hF⟩ := Rz g hF
  exact wT (hj22 _) (zaa hF)
 exact wT (hj22 _) (zaa hF)
def zfW (a0 : Group) (a1 : Int) : Option Int :=
 (zbt a1 (i64.wrap (a0.Q - 1)) a0.P).bind fun z1 =>
 some z1
theorem zqB : ∀ {a0} {a1} {r}, zfW a0 a1 = some r → PCalls Tryz.prog 109 [(.sh, vE a0), (.sh, .int .i64 a1)] (Eo (.int .i64 r) [.junk, .junk]) := by
 intro a0 a1 r hr
 apply pF 12 [] [] [] [.tmp 4] hr zAi Tryz.func109
 intro Φ hΦ hF g
 unfold zfW at hF
 refine wW ?_
 refine wC hF [.sh, .sh, .sh] zen (fun z1 hF => ?_)
 refine wK [4] ?_
 exact wm hΦ hF
@[go_sem] def zxW : List DE := [d2 0 [4] 4 4, d1 1 [6] 6, d2 2 [53] 6 53, d2 3 [4] 4 4, d2 4 [4] 4 4, d0 5 [13], d1 6 [4] 4, d2 7 [58] 4 58, d0 8 [12], d3 9 [59, 60], d3 10 [56, 57, 61], d3 11 [55, 62], d0 12 [54, 63], ⟨13, [52, 64], [], none, true, true, true⟩, d0 14 [65], d0 15 []]
def zex (a0 : Group) (a1 : List Int) (a2 : Cipher) (a3 : List Partial) : Option (Int × Bool) :=
 (zfs a0 a1 a2 a3).bind fun z1 =>
 if decide ((z1.length : Int) < (a1.length : Int)) = true then (
 some (0, false)) else (
 gd (0 ≤ (a1.length : Int)) <|
 gd (0 ≤ a1.length ∧ a1.length ≤ z1.length) <|
 ((zas (σ := (List Int) × List Int) (fun i7 s6 =>
 (ix ((z1.take a1.length).drop 0) i7).bind fun x14 =>
 (ix a3 x14).bind fun x15 =>
 gd ((s6.1.length + 1) * 8 ≤ 140737488355328 ∧ s6.1.length + 1 ≤ 4611686018427387904) <|
 gd ((s6.2.length + 1) * 8 ≤ 140737488355328 ∧ s6.2.length + 1 ≤ 4611686018427387904) <|
 some (.go (s6.1 ++ [x15.Index], s6.2 ++ [x15.Value]))) (fun s6 => (s6.1, s6.2)) (((z1.take a1.length).drop 0).length) 0 ([], []) : Option ((List Int × List Int))).bind fun x5 =>
 (zd3 a0.Q x5.1 0).bind fun z20 =>
 (zc3 a0 x5.2 z20).bind fun z21 =>
 (zfW a0 z21).bind fun z22 =>
 (zcY a0 [a2.B, z22]).bind fun z23 =>
 some (z23, true)))
theorem zmv : ∀ {a0} {a1} {a2} {a3} {r}, zex a0 a1 a2 a3 = some r → PCalls Tryz.prog 53 [(.sh, vE a0), (.sh, vC a1), (.sh, vQ a2), (.sh, vX a3)] (Eo (.tup [.int .i64 r.1, .bool r.2]) [.junk, .junk, .junk, .junk]) := by
 intro a0 a1 a2 a3 r hr
 apply pF 66 [] [10] [] [.tmp 8, .tmp 9] hr zCF Tryz.func53
 intro Φ hΦ hF g
 unfold zex at hF
 refine wW ?_
 refine wC hF [.sh, .sh, .sh, .sh] zov (fun z1 hF => ?_)
 refine wK [1, 3, 4, 6, 10] ?_
 iterate 2 (try simp [go_sem, g]; try intros; refine zav ?_)
 refine wI hF (fun h2 hF => ?_) (fun h2 hF => ?_)
 ·exact wl hΦ hF
 obtain ⟨g, hF⟩ := Rg g hF
 obtain ⟨g, hF⟩ := Rg g hF
 iterate 2 (try simp [go_sem, g]; try intros; refine zav ?_)
 try simp [go_sem, g]
 try intros
 refine wK [3, 4, 6, 12, 13, 29, 30, 31] ?_
 refine wJ hF (fun x5 => [(4, .bl [.int .i64 a0.P, .int .i64 a0.Q, .int .i64 a0.G]), (6, .bl [.int .i64 a2.A, .int .i64 a2.B]), (12, .v (vD x5.1)), (13, .v (vD x5.2))]) (fun x5 hF => ?_) fun _ hj3 hF => ?_
 ·refine wX zxW follows ?_
  refine wC hF [.sh, .sh, .sh] zlY (fun z20 hF => ?_)
  refine wC hF [.sh, .sh, .sh] zih (fun z21 hF => ?_)
  refine wC hF [.sh, .sh] zqB (fun z22 hF => ?_)
  refine wC hF [.sh, .sh] zfZ (fun z23 hF => ?_)
  refine wK [8, 9] ?_
  exact wm hΦ hF
 refine wB ?_
 obtain ⟨b16, hb17, hψ10⟩ := hF
 refine pR hb17 (fun i7 s6 => [(3, .v (vX a3)), (4, .bl [.int .i64 a0.P, .int .i64 a0.Q, .int .i64 a0.G]), (6, .bl [.int .i64 a2.A, .int .i64 a2.B]), (12, .v (vD s6.1)), (13, .v (vD s6.2)), (29, .v (vC ((z1.take a1.length).drop 0))), (30, .v (.int .i64 (((z1.take a1.length).drop 0).length : Int))), (31, .v (.int .i64 i7))]) (fun s6 _ hN18 => ?_) (fun i7 s6 _ _ hi11 hi12 ho8 hg9 hF => ?_)
 ·exact wn hN18 (hj3 _) hψ10
 have hi13 := hi12
 try simp at hi13
 refine wW ?_
 refine wt ?_ (hb := by simp [go_sem, g, hi11, hi12, hi13] <;> omega)
 refine wW ?_
 refine wB ?_
 obtain ⟨x14, g, hF⟩ := Rxq g hF
 obtain ⟨x15, g, hF⟩ := Rx g hF
 obtain ⟨g, hF⟩ := Rg g hF
 refine wW ?_
 refine wK [3, 4, 6, 12, 13, 15, 29, 30, 31] ?_
 obtain ⟨g, hF⟩ := Rg g hF
 refine wW ?_
 exact wT (hg9 (s6.1 ++ [x15.Index], s6.2 ++ [x15.Value])) (zaa hF) (a := by simp [go_sem, g, zoT hi11 hi12 (by first | assumption | (simp; assumption) | (simp; omega))])
def zby (a0 : Group) (a1 : List Int) (a2 : Cipher) (a3 : List Partial) : Option (Int × Bool) :=
 (zdb a0 a1 a2 a3).bind fun z1 =>
 if (!z1) = true then (
 some (0, false)) else (
 (zex a0 a1 a2 a3).bind fun z3 =>
 some (z3.1, z3.2))
theorem zi1 : ∀ {a0} {a1} {a2} {a3} {r}, zby a0 a1 a2 a3 = some r → PCalls Tryz.prog 16 [(.sh, vE a0), (.sh, vC a1), (.sh, vQ a2), (.sh, vX a3)] (Eo (.tup [.int .i64 r.1, .bool r.2]) [.junk, .junk, .junk, .junk]) := by
 intro a0 a1 a2 a3 r hr
 apply pF 23 [] [] [] [.tmp 8, .tmp 9] hr zD2 Tryz.func16
 intro Φ hΦ hF g
 unfold zby at hF
 refine wW ?_
 refine wC hF [.sh, .sh, .sh, .sh] zj3 (fun z1 hF => ?_)
 refine wK [1, 3, 4, 6, 15] ?_
 refine wI hF (fun h2 hF => ?_) (fun h2 hF => ?_)
 ·exact wl hΦ hF
 refine wW ?_
 refine wC hF [.sh, .sh, .sh, .sh] zmv (fun z3 hF => ?_)
 exact wl hΦ hF
def zbA (a0c0 : List Int) (a0c1 : Int) (a0c2 : Int) (a1 : Group) : Option (Int × (List Int × Int × Int)) :=
 (zaM a0c0 a0c1 a0c2 24).bind fun z1 =>
 if z1.1 = true then (
 (zan z1.2.1 z1.2.2.1 z1.2.2.2 [a1.Q, (-1), i64.wrap (a1.Q - 1)]).bind fun z3 =>
 some (z3.1, (z3.2.1, z3.2.2.1, z3.2.2.2))) else (
 (zaE z1.2.1 z1.2.2.1 z1.2.2.2 a1).bind fun z4 =>
 some (z4.1, (z4.2.1, z4.2.2.1, z4.2.2.2)))
theorem zfn : ∀ {a0c0} {a0c1} {a0c2} {a1} {r}, zbA a0c0 a0c1 a0c2 a1 = some r → PCalls Tryz.prog 32 [(.io, vB a0c0 a0c1 a0c2), (.sh, vE a1)] (Eo (.int .i64 r.1) [vB r.2.1 r.2.2.1 r.2.2.2, .junk]) := by
 intro a0c0 a0c1 a0c2 a1 r hr
 apply pF 18 [0] [] [] [.tmp 4] hr zC1 Tryz.func32
 intro Φ hΦ hF g
 unfold zbA at hF
 refine wW ?_
 refine wC hF [.io, .sh] zbm (fun z1 hF => ?_)
 refine wW ?_
 refine wI hF (fun h2 hF => ?_) (fun h2 hF => ?_)
 ·refine wC hF [.io, .mv] zal (fun z3 hF => ?_)
  refine wK [0, 4] ?_
  exact wm hΦ hF
 refine wW ?_
 refine wC hF [.io, .sh] zaB (fun z4 hF => ?_)
 exact wl hΦ hF
@[go_sem] def zAy : List DE := [d2 0 [8] 8 8, d0 1 [7], d2 2 [8] 8 8, d0 4 [7], d0 7 [7], d0 11 [7], d2 12 [8] 8 8, d0 14 [7], d2 15 [8] 8 8, d3 3 [15, 16], d3 5 [18], d0 6 [19], d3 8 [21], d0 9 [22], d0 10 [20, 23], d3 13 [25, 26], d3 16 [28, 29], d2 17 [2, 14] 2 2, d2 18 [3, 17] 3 3, d0 19 [24], d0 20 [27], d0 21 [30]]
def zb5 (a0 : List Int) : Option (Group × Cipher × Int × Int × Int) :=
 (zbE a0 0 0).bind fun z1 =>
 (zbn z1.2.1 z1.2.2.1 z1.2.2.2 z1.1).bind fun z2 =>
 (zah z2.2.1 z2.2.2.1 z2.2.2.2 8).bind fun z3 =>
 (zah z3.2.1 z3.2.2.1 z3.2.2.2 20).bind fun z4 =>
 (zbA z4.2.1 z4.2.2.1 z4.2.2.2 z1.1).bind fun z5 =>
 (zbA z5.2.1 z5.2.2.1 z5.2.2.2 z1.1).bind fun z6 =>
 some (z1.1, z2.1, i64.wrap ((i64.wrap (1 + z3.1)) - (i64.wrap (z4.1.tdiv 19))), z5.1, z6.1)
theorem zhJ : ∀ {a0} {r}, zb5 a0 = some r → PCalls Tryz.prog 17 [(.sh, vA a0)] (Eo (.tup [vE r.1, vQ r.2.1, .int .i64 r.2.2.1, .int .i64 r.2.2.2.1, .int .i64 r.2.2.2.2]) [.junk]) := by
 intro a0 r hr
 apply pF 31 [] [] [11] [.cell 2 24, .cell 3 36, .tmp 4, .tmp 5, .tmp 6] hr zF3 Tryz.func17
 intro Φ hΦ hF g
 unfold zb5 at hF
 iterate 2 refine wW ?_
 refine wC hF [.io] zfI (fun z1 hF => ?_)
 refine wK [2, 3, 7, 8] ?_
 refine wX zAy follows ?_
 refine wC hF [.io, .sh] zeW (fun z2 hF => ?_)
 refine wC hF [.io, .sh] zaj (fun z3 hF => ?_)
 refine wC hF [.io, .sh] zaj (fun z4 hF => ?_)
 have g := Ld g 19
 refine wC hF [.io, .sh] zfn (fun z5 hF => ?_)
 refine wC hF [.io, .sh] zfn (fun z6 hF => ?_)
 refine wK [2, 3, 4, 5, 6] ?_
 exact wm hΦ hF
@[go_sem] def zud : List DE := [d2 0 [5] 5 5, d0 1 [1], d0 2 [2], d2 4 [5] 5 5, d0 5 [2], d0 6 [3], d1 8 [12] 12, d2 9 [31] 12 31, d3 3 [25], d3 7 [27, 28, 29], d0 10 [26, 30, 32], ⟨11, [33], [], none, true, true, true⟩, d3 12 [23, 24, 34], d0 13 [35], d0 14 [22], d0 15 [22], d0 16 [36], d0 17 [37]]
@[go_sem] def zsP : List DE := [d1 0 [12] 12, d2 1 [51] 12 51, d2 2 [5] 5 5, d0 3 [16], d0 4 [13], d0 5 [3], d0 6 [15], d0 7 [56, 57], d0 8 [58], d0 9 [55, 59], d0 10 [54, 60], d3 11 [53, 61], d0 12 [62], ⟨13, [52, 63], [], none, true, false, false⟩, d1 14 [12] 12, d2 15 [65, 64] 12 65]
def zfE (a0 : Group) (a1 : ByteArray) (a2 : (List (List Int))) (a3 : List Int) (a4 : List Int) : Option (Proof × Bool) :=
 (za9 a0 a2 a4).bind fun z1 =>
 (zaQ a2).bind fun z2 =>
 (za9 a0 a2 a3).bind fun z3 =>
 (zaQ [z2, z3, z1]).bind fun z4 =>
 (zbf a0 a1 z4).bind fun z5 =>
 if (!z5.2) = true then (
 some ((Proof.mk [] [] []), false)) else (
 ((zas (σ := (List Int) × List Int × List Int) (fun i21 s20 =>
 (ix a4 i21).bind fun x27 =>
 (ix a3 i21).bind fun x28 =>
 (zce a0 (i64.wrap (x27 + (i64.wrap (z5.1 * x28))))).bind fun z29 =>
 gd ((s20.2.2.length + 1) * 8 ≤ 140737488355328 ∧ s20.2.2.length + 1 ≤ 4611686018427387904) <|
 some (.go (s20.1, s20.2.1, s20.2.2 ++ [z29]))) (fun s20 => (s20.1, s20.2.1, s20.2.2)) (a4.length) 0 (z1, [z5.1], []) : Option ((List Int × List Int × List Int))).bind fun x9 =>
 some ((Proof.mk x9.1 x9.2.1 x9.2.2), true)))
theorem zpB : ∀ {a0} {a1} {a2} {a3} {a4} {r}, zfE a0 a1 a2 a3 a4 = some r → PCalls Tryz.prog 115 [(.sh, vE a0), (.sh, .str a1), (.sh, vG a2), (.sh, vC a3), (.sh, vC a4)] (Eo (.tup [vU r.1, .bool r.2]) [.junk, .junk, .junk, .junk, .junk]) := by
 intro a0 a1 a2 a3 a4 r hr
 apply pFz 68 [] [26, 30, 32] [] [.cell 10 38, .tmp 11] hr zvI Tryz.func115
 intro Φ hΦ hF g
 unfold zfE at hF
 refine wW ?_
 refine wC hF [.sh, .sh, .sh] zdh (fun z1 hF => ?_)
 refine wK [1, 2, 3, 4, 5, 10, 12] ?_
 refine wX zud follows ?_
 refine wC hF [.sh] zbM (fun z2 hF => ?_)
 refine wC hF [.sh, .sh, .sh] zdh (fun z3 hF => ?_)
 refine wC hF [.sh] zbM (fun z4 hF => ?_)
 refine wC hF [.sh, .sh, .sh] zeA (fun z5 hF => ?_)
 refine wK [3, 4, 5, 10, 12, 13, 14] ?_
 refine wW ?_
 refine wI hF (fun h6 hF => ?_) (fun h6 hF => ?_)
 ·exact wl hΦ hF
 iterate 3 (try simp [go_sem, g]; try intros; refine zav ?_)
 refine wJ hF (fun x9 => [(10, .bl [.sl true 1 [], .sl true 1 [], .sl true 1 []]), (12, .bl [vC x9.1, vD x9.2.1, vD x9.2.2])]) (fun x9 hF => ?_) fun _ hj7 hF => ?_
 ·refine wK [10, 11] ?_
  exact wm hΦ hF
 refine wB ?_
 obtain ⟨b30, hb31, hψ24⟩ := hF
 refine pR hb31 (fun i21 s20 => [(3, .v (vC a3)), (5, .bl [.int .i64 a0.P, .int .i64 a0.Q, .int .i64 a0.G]), (10, .bl [.sl true 1 [], .sl true 1 [], .sl true 1 []]), (12, .bl [vC s20.1, vD s20.2.1, vD s20.2.2]), (13, .v (.int .i64 z5.1)), (44, .v (vC a4)), (45, .v (.int .i64 (a4.length : Int))), (46, .v (.int .i64 i21))]) (fun s20 _ hN32 => ?_) (fun i21 s20 _ _ hi25 hi26 ho22 hg23 hF => ?_)
 ·exact wn hN32 (hj7 _) hψ24
 refine wK [3, 5, 10, 12, 13, 44, 45, 46, 47] ?_
 refine wu hi25 hi26 ?_
 refine wW ?_
 refine wB ?_
 obtain ⟨x27, g, hF⟩ := Rx g hF
 refine wW ?_
 refine wX zsP follows ?_
 obtain ⟨x28, g, hF⟩ := Rx g hF
 refine wC hF [.sh, .sh] zgp (fun z29 hF => ?_)
 obtain ⟨g, hF⟩ := Rg g hF
 refine wK [3, 5, 10, 12, 13, 44, 45, 46] ?_
 exact wi hi25 hi26 (hg23 _) (zaa hF)
def zbK (a0 : Group) (a1 : ByteArray) (a2 : (List (List Int))) (a3 : List Int) (a4 : List Int) : Option (Proof × Bool) :=
 (za9 a0 a2 a4).bind fun z1 =>
 (zaQ a2).bind fun z2 =>
 (za9 a0 a2 a3).bind fun z3 =>
 (zaQ [z2, z3, z1]).bind fun z4 =>
 (zbf a0 a1 z4).bind fun z5 =>
 if (!z5.2) = true then (
 some ((Proof.mk [] [] []), false)) else (
 ((zas (σ := (List Int) × List Int × List Int) (fun i21 s20 =>
 (ix a4 i21).bind fun x27 =>
 (ix a3 i21).bind fun x28 =>
 (zce a0 (i64.wrap (x27 + (i64.wrap (z5.1 * x28))))).bind fun z29 =>
 gd ((s20.2.2.length + 1) * 8 ≤ 140737488355328 ∧ s20.2.2.length + 1 ≤ 4611686018427387904) <|
 some (.go (s20.1, s20.2.1, s20.2.2 ++ [z29]))) (fun s20 => (s20.1, s20.2.1, s20.2.2)) (a4.length) 0 (z1, [z5.1], []) : Option ((List Int × List Int × List Int))).bind fun x9 =>
 some ((Proof.mk x9.1 x9.2.1 x9.2.2), true)))
theorem zf2 : ∀ {a0} {a1} {a2} {a3} {a4} {r}, zbK a0 a1 a2 a3 a4 = some r → PCalls Tryz.prog 115 [(.sh, vE a0), (.sh, .str a1), (.sh, vG a2), (.mv, vD a3), (.mv, vD a4)] (Eo (.tup [vU r.1, .bool r.2]) [.junk, .junk, .junk, .junk, .junk]) := by
 intro a0 a1 a2 a3 a4 r hr
 apply pFz 68 [] [26, 30, 32] [] [.cell 10 38, .tmp 11] hr zvI Tryz.func115
 intro Φ hΦ hF g
 unfold zbK at hF
 refine wW ?_
 refine wC hF [.sh, .sh, .sh] zdh (fun z1 hF => ?_)
 refine wK [1, 2, 3, 4, 5, 10, 12] ?_
 refine wX zud follows ?_
 refine wC hF [.sh] zbM (fun z2 hF => ?_)
 refine wC hF [.sh, .sh, .sh] zdh (fun z3 hF => ?_)
 refine wC hF [.sh] zbM (fun z4 hF => ?_)
 refine wC hF [.sh, .sh, .sh] zeA (fun z5 hF => ?_)
 refine wK [3, 4, 5, 10, 12, 13, 14] ?_
 refine wW ?_
 refine wI hF (fun h6 hF => ?_) (fun h6 hF => ?_)
 ·exact wl hΦ hF
 iterate 3 (try simp [go_sem, g]; try intros; refine zav ?_)
 refine wJ hF (fun x9 => [(10, .bl [.sl true 1 [], .sl true 1 [], .sl true 1 []]), (12, .bl [vC x9.1, vD x9.2.1, vD x9.2.2])]) (fun x9 hF => ?_) fun _ hj7 hF => ?_
 ·refine wK [10, 11] ?_
  exact wm hΦ hF
 refine wB ?_
 obtain ⟨b30, hb31, hψ24⟩ := hF
 refine pR hb31 (fun i21 s20 => [(3, .v (vD a3)), (4, .v (vD a4)), (5, .bl [.int .i64 a0.P, .int .i64 a0.Q, .int .i64 a0.G]), (10, .bl [.sl true 1 [], .sl true 1 [], .sl true 1 []]), (12, .bl [vC s20.1, vD s20.2.1, vD s20.2.2]), (13, .v (.int .i64 z5.1)), (44, .rf 4 []), (45, .v (.int .i64 (a4.length : Int))), (46, .v (.int .i64 i21))]) (fun s20 _ hN32 => ?_) (fun i21 s20 _ _ hi25 hi26 ho22 hg23 hF => ?_)
 ·exact wn hN32 (hj7 _) hψ24
 refine wK [3, 4, 5, 10, 12, 13, 44, 45, 46, 47] ?_
 refine wu hi25 hi26 ?_
 refine wW ?_
 refine wB ?_
 obtain ⟨x27, g, hF⟩ := Rx g hF
 refine wW ?_
 refine wX zsP follows ?_
 obtain ⟨x28, g, hF⟩ := Rx g hF
 refine wC hF [.sh, .sh] zgp (fun z29 hF => ?_)
 obtain ⟨g, hF⟩ := Rg g hF
 refine wK [3, 4, 5, 10, 12, 13, 44, 45, 46] ?_
 exact wi hi25 hi26 (hg23 _) (zaa hF)
def zc1 (a0 : Group) (a1 : Cipher) (a2 : Int) (a3 : Int) (a4 : Int) : Option Partial :=
 (zba a0 a1.A a3).bind fun z1 =>
 (zbK a0 (⟨#[112, 97, 114, 116, 105, 97, 108]⟩ : ByteArray) [[a0.G], [a1.A]] [a3] [a4]).bind fun z2 =>
 some (Partial.mk a2 z1 z2.1)
theorem zjW : ∀ {a0} {a1} {a2} {a3} {a4} {r}, zc1 a0 a1 a2 a3 a4 = some r → PCalls Tryz.prog 60 [(.sh, vE a0), (.sh, vQ a1), (.sh, .int .i64 a2), (.sh, .int .i64 a3), (.sh, .int .i64 a4)] (Eo (vY r) [.junk, .junk, .junk, .junk, .junk]) := by
 intro a0 a1 a2 a3 a4 r hr
 apply pF 41 [] [29] [] [.cell 10 51] hr zEc Tryz.func60
 intro Φ hΦ hF g
 unfold zc1 at hF
 refine wW ?_
 refine wC hF [.sh, .sh, .sh] zcL (fun z1 hF => ?_)
 refine wW ?_
 refine wK [2, 3, 4, 5, 10, 11, 12] ?_
 refine wC hF [.sh, .sh, .sh, .mv, .mv] zf2 (fun z2 hF => ?_)
 refine wK [2, 10, 11, 13] ?_
 exact wl hΦ hF
def zcT (a0 : Group) (a1 : Cipher) (a2 : Int) (a3 : Int) (a4 : Int) : Option (Partial × Bool) :=
 (((zdm a0).bind fun z4 =>
 if (!z4) = true then (
 some true) else (
 (zbx a0 a1).bind fun z6 =>
 if (!z6) = true then (
 some true) else (
 (zcO a2).bind fun z8 =>
 if (!z8) = true then (
 some true) else (
 (zch a0 [a3, a4]).bind fun z10 =>
 some (!z10)))) : Option Bool).bind fun x3 =>
 if x3 = true then (
 some ((Partial.mk 0 0 (Proof.mk [] [] [])), false)) else (
 (zc1 a0 a1 a2 a3 a4).bind fun z12 =>
 some (z12, true)))
theorem zjm : ∀ {a0} {a1} {a2} {a3} {a4} {r}, zcT a0 a1 a2 a3 a4 = some r → PCalls Tryz.prog 18 [(.sh, vE a0), (.sh, vQ a1), (.sh, .int .i64 a2), (.sh, .int .i64 a3), (.sh, .int .i64 a4)] (Eo (.tup [vY r.1, .bool r.2]) [.junk, .junk, .junk, .junk, .junk]) := by
 intro a0 a1 a2 a3 a4 r hr
 apply pFz 41 [] [] [] [.cell 10 51, .tmp 11] hr zEq Tryz.func18
 intro Φ hΦ hF g
 unfold zcT at hF
 refine wW ?_
 refine wJ hF (fun x3 => [(2, .v (.int .i64 a2)), (3, .v (.int .i64 a3)), (4, .v (.int .i64 a4)), (5, .bl [.int .i64 a0.P, .int .i64 a0.Q, .int .i64 a0.G]), (6, .bl [.int .i64 a1.A, .int .i64 a1.B]), (10, .bl [.int .i64 0, .int .i64 0, .sl true 1 [], .sl true 1 [], .sl true 1 []]), (33, .v (.bool x3))]) (fun x3 hF => ?_) fun _ hj1 hF => ?_
 ·refine wI hF (fun h11 hF => ?_) (fun h11 hF => ?_)
  ·exact wl hΦ hF
  refine wW ?_
  refine wC hF [.sh, .sh, .sh, .sh, .sh] zjW (fun z12 hF => ?_)
  refine wK [10, 11] ?_
  exact wm hΦ hF
 refine wC hF [.sh] zic (fun z4 hF => ?_)
 refine wG hF (fun h5 hF => ?_) fun h5 hF => ?_
 ·exact wV h5 (hj1 _) (zaa hF)
 try simp [go_sem, g, h5]
 refine wC hF [.sh, .sh] zez (fun z6 hF => ?_)
 try simp [go_sem, g, h5]
 refine wG hF (fun h7 hF => ?_) fun h7 hF => ?_
 ·exact wV h7 (hj1 _) (zaa hF)
 try simp [go_sem, g, h7]
 refine wC hF [.sh] zgj (fun z8 hF => ?_)
 try simp [go_sem, g, h7]
 refine wG hF (fun h9 hF => ?_) fun h9 hF => ?_
 ·exact wV h9 (hj1 _) (zaa hF)
 try simp [go_sem, g, h9]
 refine wC hF [.sh, .sh] zgH (fun z10 hF => ?_)
 exact wV h9 (hj1 _) (zaa hF)
def zcQ (a0 : Group) (a1 : Cipher) (a2 : Int) (a3 : Int) (a4 : Int) : Option (Partial × Bool) :=
 (((zcJ a0).bind fun z4 =>
 if (!z4) = true then (
 some true) else (
 (zeS a0 [a1]).bind fun z6 =>
 if (!z6) = true then (
 some true) else (
 (za3 a2 1 7).bind fun z8 =>
 if (!z8) = true then (
 some true) else (
 (zdz a0 [a3, a4]).bind fun z10 =>
 some (!z10)))) : Option Bool).bind fun x3 =>
 if x3 = true then (
 some ((Partial.mk 0 0 (Proof.mk [] [] [])), false)) else (
 (zcw a0 a1 a2 a3 a4).bind fun z12 =>
 some (z12, true)))
theorem zjn : ∀ {a0} {a1} {a2} {a3} {a4} {r}, zcQ a0 a1 a2 a3 a4 = some r → PCalls Tryz.prog 19 [(.sh, vE a0), (.sh, vQ a1), (.sh, .int .i64 a2), (.sh, .int .i64 a3), (.sh, .int .i64 a4)] (Eo (.tup [vT r.1, .bool r.2]) [.junk, .junk, .junk, .junk, .junk]) := by
 intro a0 a1 a2 a3 a4 r hr
 apply pF 42 [] [] [] [.cell 10 51, .tmp 11] hr zF8 Tryz.func19
 intro Φ hΦ hF g
 unfold zcQ at hF
 refine wW ?_
 refine wJ hF (fun x3 => [(2, .v (.int .i64 a2)), (3, .v (.int .i64 a3)), (4, .v (.int .i64 a4)), (5, .bl [.int .i64 a0.P, .int .i64 a0.Q, .int .i64 a0.G]), (6, .bl [.int .i64 a1.A, .int .i64 a1.B]), (10, .bl [.int .i64 0, .int .i64 0, .sl true 1 [], .sl true 1 [], .sl true 1 []]), (34, .v (.bool x3))]) (fun x3 hF => ?_) fun _ hj1 hF => ?_
 ·refine wI hF (fun h11 hF => ?_) (fun h11 hF => ?_)
  ·exact wl hΦ hF
  refine wW ?_
  refine wC hF [.sh, .sh, .sh, .sh, .sh] ziD (fun z12 hF => ?_)
  refine wK [10, 11] ?_
  exact wm hΦ hF
 refine wC hF [.sh] zfb (fun z4 hF => ?_)
 refine wG hF (fun h5 hF => ?_) fun h5 hF => ?_
 ·exact wV h5 (hj1 _) (zaa hF)
 try simp [go_sem, g, h5]
 refine wC hF [.sh, .sh] zkK (fun z6 hF => ?_)
 try simp [go_sem, g, h5]
 refine wG hF (fun h7 hF => ?_) fun h7 hF => ?_
 ·exact wV h7 (hj1 _) (zaa hF)
 try simp [go_sem, g, h7]
 refine wC hF [.sh, .sh, .sh] zbI (fun z8 hF => ?_)
 try simp [go_sem, g, h7]
 refine wG hF (fun h9 hF => ?_) fun h9 hF => ?_
 ·exact wV h9 (hj1 _) (zaa hF)
 try simp [go_sem, g, h9]
 refine wC hF [.sh, .sh] zgR (fun z10 hF => ?_)
 exact wV h9 (hj1 _) (zaa hF)
@[go_sem] def zzO : List DE := [d0 0 [0], d0 1 [5], d0 2 [16, 17], d0 3 [18], d0 4 [1], d0 5 [5], d0 6 [20, 21], d0 7 [22], d0 8 [19, 23]]
def zdF (a0 : List Int) (a1 : List Int) : Option Bool :=
 if ((a0.length : Int) != (a1.length : Int)) = true then (
 some false) else (
 ((zas (σ := Unit) (fun i6 s5 =>
 (ix a0 i6).bind fun x12 =>
 (ix a1 i6).bind fun x13 =>
 if (x12 != x13) = true then (
 some (.out (.inr false))) else (
 some (.go ()))) (fun s5 => .inl ()) (a0.length) 0 () : Option (Unit ⊕ Bool)).bind (Sum.elim (fun x4 =>
 some true) some)))
theorem zgJ : ∀ {a0} {a1} {r}, zdF a0 a1 = some r → PCalls Tryz.prog 11 [(.sh, vC a0), (.sh, vC a1)] (Eo (.bool r) [.junk, .junk]) := by
 intro a0 a1 r hr
 apply pF 26 [] [] [] [.tmp 4] hr zCV Tryz.func11
 intro Φ hΦ hF g
 unfold zdF at hF
 iterate 2 (try simp [go_sem, g]; try intros; refine zav ?_)
 refine wI hF (fun h1 hF => ?_) (fun h1 hF => ?_)
 ·exact wl hΦ hF
 iterate 2 (try simp [go_sem, g]; try intros; refine zav ?_)
 refine wS hF (fun x4 => []) (fun x4 hF => ?_) fun _ hj2 hr3 hF => ?_
 ·refine wK [4] ?_
  exact wm hΦ hF
 refine wB ?_
 obtain ⟨b15, hb16, hψ9⟩ := hF
 refine pR hb16 (fun i6 s5 => [(0, .v (vC a0)), (1, .v (vC a1)), (12, .v (.int .i64 (a0.length : Int))), (13, .v (.int .i64 i6))]) (fun s5 _ hN17 => ?_) (fun i6 s5 _ _ hi10 hi11 ho7 hg8 hF => ?_)
 ·exact wn hN17 (hj2 _) hψ9
 refine wK [0, 1, 12, 13, 14] ?_
 refine wu hi10 hi11 ?_
 refine wW ?_
 refine wB ?_
 refine wW ?_
 refine wX zzO follows ?_
 obtain ⟨x12, g, hF⟩ := Rx g hF
 obtain ⟨x13, g, hF⟩ := Rx g hF
 refine wK [0, 1, 12, 13, 24] ?_
 refine wI hF (fun h14 hF => ?_) (fun h14 hF => ?_)
 ·cases ho7 _ (zaa hF)
  cases hΦ _ (hr3 _ hψ9)
  refine wW ?_
  try simp [go_sem, g]
 refine wW ?_
 exact wi hi10 hi11 (hg8 _) (zaa hF)
def ze7 (a0 : Proof) (a1 : Proof) : Option Bool :=
 (((zdF a0.Commits a1.Commits).bind fun z4 =>
 if z4 = true then (
 (zdF a0.Challenges a1.Challenges).bind fun z6 =>
 if z6 = true then (
 (zdF a0.Responses a1.Responses).bind fun z8 =>
 some z8) else (
 some false)) else (
 some false) : Option Bool).bind fun x3 =>
 some x3)
theorem zn7 : ∀ {a0} {a1} {r}, ze7 a0 a1 = some r → PCalls Tryz.prog 20 [(.sh, vU a0), (.sh, vU a1)] (Eo (.bool r) [.junk, .junk]) := by
 intro a0 a1 r hr
 apply pF 24 [] [] [] [.tmp 4] hr zFz Tryz.func20
 intro Φ hΦ hF g
 unfold ze7 at hF
 refine wW ?_
 refine wJ hF (fun x3 => [(4, .v (.bool x3))]) (fun x3 hF => ?_) fun _ hj1 hF => ?_
 ·exact wm hΦ hF
 refine wC hF [.sh, .sh] zgJ (fun z4 hF => ?_)
 refine wG hF (fun h5 hF => ?_) fun h5 hF => ?_
 ·try simp [go_sem, g, h5]
  refine wC hF [.sh, .sh] zgJ (fun z6 hF => ?_)
  try simp [go_sem, g, h5]
  refine wG hF (fun h7 hF => ?_) fun h7 hF => ?_
  ·try simp [go_sem, g, h7]
   refine wC hF [.sh, .sh] zgJ (fun z8 hF => ?_)
   exact wV h7 (hj1 _) (zaa hF)
  exact wV h7 (hj1 _) (zaa hF)
 exact wV h5 (hj1 _) (zaa hF)
def zfD (a0 : Group) (a1 : Int) (a2 : Int) : Option (Int × Bool) :=
 (((zbZ a0).bind fun z4 =>
 if (!z4) = true then (
 some true) else (
 (zbO a0 a1).bind fun z6 =>
 if (!z6) = true then (
 some true) else (
 (zcd a0 a2).bind fun z8 =>
 some (!z8))) : Option Bool).bind fun x3 =>
 if x3 = true then (
 some (0, false)) else (
 (zba a0 a1 a2).bind fun z10 =>
 some (z10, true)))
theorem zoQ : ∀ {a0} {a1} {a2} {r}, zfD a0 a1 a2 = some r → PCalls Tryz.prog 21 [(.sh, vE a0), (.sh, .int .i64 a1), (.sh, .int .i64 a2)] (Eo (.tup [.int .i64 r.1, .bool r.2]) [.junk, .junk, .junk]) := by
 intro a0 a1 a2 r hr
 apply pF 27 [] [] [] [.tmp 6, .tmp 7] hr zDB Tryz.func21
 intro Φ hΦ hF g
 unfold zfD at hF
 refine wW ?_
 refine wJ hF (fun x3 => [(1, .v (.int .i64 a1)), (2, .v (.int .i64 a2)), (3, .bl [.int .i64 a0.P, .int .i64 a0.Q, .int .i64 a0.G]), (22, .v (.bool x3))]) (fun x3 hF => ?_) fun _ hj1 hF => ?_
 ·refine wI hF (fun h9 hF => ?_) (fun h9 hF => ?_)
  ·exact wl hΦ hF
  refine wW ?_
  refine wC hF [.sh, .sh, .sh] zcL (fun z10 hF => ?_)
  exact wl hΦ hF
 refine wC hF [.sh] zfj (fun z4 hF => ?_)
 refine wG hF (fun h5 hF => ?_) fun h5 hF => ?_
 ·exact wV h5 (hj1 _) (zaa hF)
 try simp [go_sem, g, h5]
 refine wC hF [.sh, .sh] zd9 (fun z6 hF => ?_)
 try simp [go_sem, g, h5]
 refine wG hF (fun h7 hF => ?_) fun h7 hF => ?_
 ·exact wV h7 (hj1 _) (zaa hF)
 try simp [go_sem, g, h7]
 refine wC hF [.sh, .sh] zfH (fun z8 hF => ?_)
 exact wV h7 (hj1 _) (zaa hF)
def zc2 (a0 : Group) (a1 : List Int) (a2 : Cipher) (a3 : Partial) : Option (Bool × Bool) :=
 (zaF a0 a1 a2).bind fun z1 =>
 if (!z1) = true then (
 some (false, false)) else (
 (zbd a0 a1 a2 a3).bind fun z3 =>
 some (z3, true))
theorem zjJ : ∀ {a0} {a1} {a2} {a3} {r}, zc2 a0 a1 a2 a3 = some r → PCalls Tryz.prog 22 [(.sh, vE a0), (.sh, vC a1), (.sh, vQ a2), (.sh, vY a3)] (Eo (.tup [.bool r.1, .bool r.2]) [.junk, .junk, .junk, .junk]) := by
 intro a0 a1 a2 a3 r hr
 apply pF 20 [] [] [] [.tmp 8, .tmp 9] hr zEk Tryz.func22
 intro Φ hΦ hF g
 unfold zc2 at hF
 refine wW ?_
 refine wC hF [.sh, .sh, .sh] zfk (fun z1 hF => ?_)
 refine wK [1, 4, 6, 7, 14] ?_
 refine wI hF (fun h2 hF => ?_) (fun h2 hF => ?_)
 ·exact wl hΦ hF
 refine wW ?_
 refine wC hF [.sh, .sh, .sh, .sh] zeD (fun z3 hF => ?_)
 exact wl hΦ hF
@[go_sem] def zAc : List DE := [d2 0 [3] 3 3, d1 1 [5] 5, d2 2 [8] 5 8, d2 3 [3] 3 3, d2 4 [3] 3 3, d1 5 [5] 5, d2 6 [12] 5 12, d0 7 [1], d3 8 [11, 13, 14], d3 9 [10, 15], d0 10 [9, 16], ⟨11, [7, 17], [], none, true, true, true⟩, d0 12 [18]]
def zc0 (a0 : Group) (a1 : Int) (a2 : Cipher) : Option Int :=
 (zba a0 a2.A a1).bind fun z1 =>
 (zcP a0 z1).bind fun z2 =>
 (zbk a0 [a2.B, z2]).bind fun z3 =>
 some z3
theorem zjD : ∀ {a0} {a1} {a2} {r}, zc0 a0 a1 a2 = some r → PCalls Tryz.prog 45 [(.sh, vE a0), (.sh, .int .i64 a1), (.sh, vQ a2)] (Eo (.int .i64 r) [.junk, .junk, .junk]) := by
 intro a0 a1 a2 r hr
 apply pF 19 [] [] [] [.tmp 6] hr zD3 Tryz.func45
 intro Φ hΦ hF g
 unfold zc0 at hF
 refine wW ?_
 refine wX zAc follows ?_
 refine wC hF [.sh, .sh, .sh] zcL (fun z1 hF => ?_)
 refine wC hF [.sh, .sh] zio (fun z2 hF => ?_)
 refine wC hF [.sh, .sh] zeb (fun z3 hF => ?_)
 refine wK [6] ?_
 exact wm hΦ hF
def zcV (a0 : Group) (a1 : Int) (a2 : Cipher) : Option (Int × Bool) :=
 (((zbZ a0).bind fun z4 =>
 if (!z4) = true then (
 some true) else (
 (zcd a0 a1).bind fun z6 =>
 if (!z6) = true then (
 some true) else (
 (zbx a0 a2).bind fun z8 =>
 some (!z8))) : Option Bool).bind fun x3 =>
 if x3 = true then (
 some (0, false)) else (
 (zc0 a0 a1 a2).bind fun z10 =>
 some (z10, true)))
theorem zjv : ∀ {a0} {a1} {a2} {r}, zcV a0 a1 a2 = some r → PCalls Tryz.prog 23 [(.sh, vE a0), (.sh, .int .i64 a1), (.sh, vQ a2)] (Eo (.tup [.int .i64 r.1, .bool r.2]) [.junk, .junk, .junk]) := by
 intro a0 a1 a2 r hr
 apply pF 27 [] [] [] [.tmp 6, .tmp 7] hr zEX Tryz.func23
 intro Φ hΦ hF g
 unfold zcV at hF
 refine wW ?_
 refine wJ hF (fun x3 => [(1, .v (.int .i64 a1)), (3, .bl [.int .i64 a0.P, .int .i64 a0.Q, .int .i64 a0.G]), (5, .bl [.int .i64 a2.A, .int .i64 a2.B]), (22, .v (.bool x3))]) (fun x3 hF => ?_) fun _ hj1 hF => ?_
 ·refine wI hF (fun h9 hF => ?_) (fun h9 hF => ?_)
  ·exact wl hΦ hF
  refine wW ?_
  refine wC hF [.sh, .sh, .sh] zjD (fun z10 hF => ?_)
  refine wK [6, 7] ?_
  exact wm hΦ hF
 refine wC hF [.sh] zfj (fun z4 hF => ?_)
 refine wG hF (fun h5 hF => ?_) fun h5 hF => ?_
 ·exact wV h5 (hj1 _) (zaa hF)
 try simp [go_sem, g, h5]
 refine wC hF [.sh, .sh] zfH (fun z6 hF => ?_)
 try simp [go_sem, g, h5]
 refine wG hF (fun h7 hF => ?_) fun h7 hF => ?_
 ·exact wV h7 (hj1 _) (zaa hF)
 try simp [go_sem, g, h7]
 refine wC hF [.sh, .sh] zez (fun z8 hF => ?_)
 exact wV h7 (hj1 _) (zaa hF)
def zcH (a0 : List Int) : Option (List Int) :=
 gd (a0.length * 8 ≤ 140737488355328) <|
 some (srt a0)
theorem zhD : ∀ {a0} {r}, zcH a0 = some r → PCalls Tryz.prog 46 [(.io, .sl true 1 (a0.map zag))] (Eo .junk [.sl true 1 (r.map zag)]) := by
 intro a0 r hr
 have hF : Rn _ (fun x => x = r) := ⟨r, hr, rfl⟩
 unfold zcH at hF
 obtain ⟨g0, hF⟩ := zgQ hF
 have h1 := zaa hF
 subst h1
 exact Go.Pm.sort_calls zA8 zag (fun _ => rfl) g0
def zcc (a0 : List Int) : Option (List Int) :=
 gd (a0.length * 8 ≤ 140737488355328) <|
 some (zd4 a0)
theorem zgW : ∀ {a0} {r}, zcc a0 = some r → PCalls Tryz.prog 73 [(.mv, .sl true 1 (a0.map zag))] (Eo (.sl true 1 (r.map zag)) [.junk]) := by
 intro a0 r hr
 have hF : Rn _ (fun x => x = r) := ⟨r, hr, rfl⟩
 unfold zcc at hF
 obtain ⟨g0, hF⟩ := zgQ hF
 have h1 := zaa hF
 subst h1
 exact Go.Pm.comp_calls zz2 zag (fun _ => rfl) g0
def zbN (a0 : Group) (a1 : List Int) (a2 : Cipher) (a3 : List Partial) : Option (List Int × Bool) :=
 (((zaF a0 a1 a2).bind fun z4 =>
 if (!z4) = true then (
 some true) else (
 some (decide (14 < (a3.length : Int)))) : Option Bool).bind fun x3 =>
 if x3 = true then (
 some ([], false)) else (
 ((zas (σ := (List Int)) (fun i11 s10 =>
 (((ix a3 i11).bind fun x20 =>
 (((zcO x20.Index).bind fun z24 =>
 if z24 = true then (
 (zbd a0 a1 a2 x20).bind fun z26 =>
 some (!z26)) else (
 some false) : Option Bool).bind fun x23 =>
 if x23 = true then (
 gd ((s10.length + 1) * 8 ≤ 140737488355328 ∧ s10.length + 1 ≤ 4611686018427387904) <|
 some (s10 ++ [x20.Index])) else (
 some s10)) : Option ((List Int))).bind fun x19 =>
 some (.go x19))) (fun s10 => s10) (a3.length) 0 [] : Option ((List Int))).bind fun x9 =>
 (zcH x9).bind fun z32 =>
 (zcc z32).bind fun z33 =>
 some (z33, true))))
theorem zlE : ∀ {a0} {a1} {a2} {a3} {r}, zbN a0 a1 a2 a3 = some r → PCalls Tryz.prog 25 [(.sh, vE a0), (.sh, vC a1), (.sh, vQ a2), (.sh, vX a3)] (Eo (.tup [vD r.1, .bool r.2]) [.junk, .junk, .junk, .junk]) := by
 intro a0 a1 a2 a3 r hr
 apply pF 51 [] [] [] [.tmp 8, .tmp 9] hr zFq Tryz.func25
 intro Φ hΦ hF g
 unfold zbN at hF
 refine wW ?_
 refine wJ hF (fun x3 => [(1, .v (vC a1)), (3, .v (vX a3)), (4, .bl [.int .i64 a0.P, .int .i64 a0.Q, .int .i64 a0.G]), (6, .bl [.int .i64 a2.A, .int .i64 a2.B]), (22, .v (.bool x3))]) (fun x3 hF => ?_) fun _ hj1 hF => ?_
 ·refine wI hF (fun h6 hF => ?_) (fun h6 hF => ?_)
  ·exact wl hΦ hF
  iterate 3 (try simp [go_sem, g]; try intros; refine zav ?_)
  refine wJ hF (fun x9 => [(10, .v (vD x9))]) (fun x9 hF => ?_) fun _ hj7 hF => ?_
  ·refine wC hF [.io] zhD (fun z32 hF => ?_)
   refine wK [10] ?_
   refine wC hF [.mv] zgW (fun z33 hF => ?_)
   exact wl hΦ hF
  refine wB ?_
  obtain ⟨b28, hb29, hψ14⟩ := hF
  refine pR hb29 (fun i11 s10 => [(1, .v (vC a1)), (4, .bl [.int .i64 a0.P, .int .i64 a0.Q, .int .i64 a0.G]), (6, .bl [.int .i64 a2.A, .int .i64 a2.B]), (10, .v (vD s10)), (24, .v (vX a3)), (25, .v (.int .i64 (a3.length : Int))), (26, .v (.int .i64 i11))]) (fun s10 _ hN30 => ?_) (fun i11 s10 _ _ hi15 hi16 ho12 hg13 hF => ?_)
  ·exact wn hN30 (hj7 _) hψ14
  refine wK [1, 4, 6, 10, 24, 25, 26, 27] ?_
  refine wu hi15 hi16 ?_
  refine wW ?_
  refine wJ hF (fun x19 => [(1, .v (vC a1)), (4, .bl [.int .i64 a0.P, .int .i64 a0.Q, .int .i64 a0.G]), (6, .bl [.int .i64 a2.A, .int .i64 a2.B]), (10, .v (vD x19)), (24, .v (vX a3)), (25, .v (.int .i64 (a3.length : Int))), (26, .v (.int .i64 i11))]) (fun x19 hF => ?_) fun _ hj17 hF => ?_
  ·exact wi hi15 hi16 (hg13 _) (zaa hF)
  refine wB ?_
  obtain ⟨x20, g, hF⟩ := Rx g hF
  refine wW ?_
  refine wJ hF (fun x23 => [(1, .v (vC a1)), (4, .bl [.int .i64 a0.P, .int .i64 a0.Q, .int .i64 a0.G]), (6, .bl [.int .i64 a2.A, .int .i64 a2.B]), (10, .v (vD s10)), (12, .bl [.int .i64 x20.Index, .int .i64 x20.Value, vC x20.Pi.Commits, vC x20.Pi.Challenges, vC x20.Pi.Responses]), (24, .v (vX a3)), (25, .v (.int .i64 (a3.length : Int))), (26, .v (.int .i64 i11)), (40, .v (.bool x23))]) (fun x23 hF => ?_) fun _ hj21 hF => ?_
  ·refine wI hF (fun h27 hF => ?_) (fun h27 hF => ?_)
   ·obtain ⟨g, hF⟩ := Rg g hF
    exact wT (hj17 _) (zaa hF)
   exact wT (hj17 _) (zaa hF)
  refine wC hF [.sh] zgj (fun z24 hF => ?_)
  refine wG hF (fun h25 hF => ?_) fun h25 hF => ?_
  ·try simp [go_sem, g, h25]
   refine wC hF [.sh, .sh, .sh, .sh] zeD (fun z26 hF => ?_)
   exact wV h25 (hj21 _) (zaa hF)
  exact wV h25 (hj21 _) (zaa hF)
 refine wC hF [.sh, .sh, .sh] zfk (fun z4 hF => ?_)
 refine wG hF (fun h5 hF => ?_) fun h5 hF => ?_
 ·exact wV h5 (hj1 _) (zaa hF)
 try simp [go_sem, g, h5]
 try intros
 exact wT (hj1 _) (zaa hF)
def zfA (a0 : List Int) (a1 : Int) : Option ((List Int)) :=
 ((zbc (σ := Int) (fun s4 =>
 ((if decide (s4 < (a0.length : Int)) = true then (
 (ix a0 s4).bind fun x13 =>
 some (decide (x13 < a1))) else (
 some false) : Option Bool).bind fun x11 =>
 if x11 = true then (
 some (.go (i64.wrap (s4 + 1)))) else (
 some (.out s4)))) 0 : Option Int).bind fun x3 =>
 ((if decide (x3 < (a0.length : Int)) = true then (
 (ix a0 x3).bind fun x21 =>
 some (x21 == a1)) else (
 some false) : Option Bool).bind fun x19 =>
 if x19 = true then (
 some a0) else (
 gd (0 ≤ x3) <|
 gd (0 ≤ x3.toNat ∧ x3.toNat ≤ a0.length) <|
 gd ((((a0.take x3.toNat).drop 0).length) * 8 ≤ 140737488355328 ∧ ((a0.take x3.toNat).drop 0).length ≤ 4611686018427387904) <|
 gd ((((a0.take x3.toNat).drop 0).length + 1) * 8 ≤ 140737488355328 ∧ ((a0.take x3.toNat).drop 0).length + 1 ≤ 4611686018427387904) <|
 gd (0 ≤ x3) <|
 gd (x3.toNat ≤ a0.length ∧ a0.length ≤ a0.length) <|
 gd ((((a0.take x3.toNat).drop 0 ++ [a1]).length + ((a0.take a0.length).drop x3.toNat).length) * 8 ≤ 140737488355328 ∧ ((a0.take x3.toNat).drop 0 ++ [a1]).length + ((a0.take a0.length).drop x3.toNat).length ≤ 4611686018427387904) <|
 some ((a0.take x3.toNat).drop 0 ++ [a1] ++ (a0.take a0.length).drop x3.toNat))))
theorem zpc : ∀ {a0} {a1} {r}, zfA a0 a1 = some r → PCalls Tryz.prog 75 [(.sh, vC a0), (.sh, .int .i64 a1)] (Eo (vC r) [.junk, .junk]) := by
 intro a0 a1 r hr
 apply pF 48 [] [4] [] [.tmp 4] hr zD7 Tryz.func75
 intro Φ hΦ hF g
 unfold zfA at hF
 iterate 2 refine wW ?_
 refine wJ hF (fun x3 => [(0, .v (vC a0)), (1, .v (.int .i64 a1)), (5, .v (.int .i64 x3))]) (fun x3 hF => ?_) fun _ hj1 hF => ?_
 ·refine wJ hF (fun x19 => [(0, .v (vC a0)), (1, .v (.int .i64 a1)), (5, .v (.int .i64 x3)), (32, .v (.bool x19))]) (fun x19 hF => ?_) fun _ hj17 hF => ?_
  ·refine wI hF (fun h22 hF => ?_) (fun h22 hF => ?_)
   ·exact wl hΦ hF
   obtain ⟨g, hF⟩ := Rg g hF
   obtain ⟨g, hF⟩ := Rg g hF
   obtain ⟨g, hF⟩ := Rg g hF
   have w := g.1.2
   try simp [g.1.1] at w
   try have g := And.intro g w
   obtain ⟨g, hF⟩ := Rg g hF
   have w := g.1.2
   try simp [g.1.1] at w
   try have g := And.intro g w
   iterate 2 refine wW ?_
   refine wK [0, 5, 6] ?_
   obtain ⟨g, hF⟩ := Rg g hF
   obtain ⟨g, hF⟩ := Rg g hF
   obtain ⟨g, hF⟩ := Rg g hF
   have w := g.1.2
   try simp [g.1.1] at w
   try have g := And.intro g w
   exact wl hΦ hF
  try simp [go_sem, g]
  try intros
  refine wG hF (fun h20 hF => ?_) fun h20 hF => ?_
  ·obtain ⟨x21, g, hF⟩ := Rx g hF
   exact wV h20 (hj17 _) (zaa hF)
  exact wV h20 (hj17 _) (zaa hF)
 refine wB ?_
 obtain ⟨b15, hb16, hψ8⟩ := hF
 refine pL hb16 (fun s4 => [(0, .v (vC a0)), (1, .v (.int .i64 a1)), (5, .v (.int .i64 s4))]) (fun s4 _ _ ho6 hg7 hF => ?_)
 refine wJ hF (fun x11 => [(0, .v (vC a0)), (1, .v (.int .i64 a1)), (5, .v (.int .i64 s4)), (18, .v (.bool x11))]) (fun x11 hF => ?_) fun _ hj9 hF => ?_
 ·refine wI hF (fun h14 hF => ?_) (fun h14 hF => ?_)
  ·refine wW ?_
   refine wB ?_
   exact wT (hg7 _) (zaa hF)
  cases ho6 _ (zaa hF)
  exact wT (hj1 _) hψ8
 try simp [go_sem, g]
 try intros
 refine wG hF (fun h12 hF => ?_) fun h12 hF => ?_
 ·obtain ⟨x13, g, hF⟩ := Rx g hF
  exact wV h12 (hj9 _) (zaa hF)
 exact wV h12 (hj9 _) (zaa hF)
def zdr (a0 : Group) (a1 : List Int) (a2 : Cipher) (a3 : List Partial) : Option (List Int × Bool) :=
 (zdb a0 a1 a2 a3).bind fun z1 =>
 if (!z1) = true then (
 some ([], false)) else (
 ((zas (σ := (List Int)) (fun i7 s6 =>
 (((ix a3 i7).bind fun x16 =>
 (((za3 x16.Index 1 7).bind fun z20 =>
 if z20 = true then (
 (zdt a0 a1 a2 x16).bind fun z22 =>
 some (!z22)) else (
 some false) : Option Bool).bind fun x19 =>
 if x19 = true then (
 (zfA s6 x16.Index).bind fun z24 =>
 some z24) else (
 some s6)) : Option ((List Int))).bind fun x15 =>
 some (.go x15))) (fun s6 => s6) (a3.length) 0 [] : Option ((List Int))).bind fun x5 =>
 some (x5, true)))
theorem zlC : ∀ {a0} {a1} {a2} {a3} {r}, zdr a0 a1 a2 a3 = some r → PCalls Tryz.prog 26 [(.sh, vE a0), (.sh, vC a1), (.sh, vQ a2), (.sh, vX a3)] (Eo (.tup [vC r.1, .bool r.2]) [.junk, .junk, .junk, .junk]) := by
 intro a0 a1 a2 a3 r hr
 apply pF 42 [] [8, 10, 36] [] [.tmp 8, .tmp 9] hr zDU Tryz.func26
 intro Φ hΦ hF g
 unfold zdr at hF
 refine wW ?_
 refine wC hF [.sh, .sh, .sh, .sh] zj3 (fun z1 hF => ?_)
 refine wK [1, 3, 4, 6, 18] ?_
 refine wI hF (fun h2 hF => ?_) (fun h2 hF => ?_)
 ·exact wl hΦ hF
 iterate 3 (try simp [go_sem, g]; try intros; refine zav ?_)
 refine wJ hF (fun x5 => [(10, .v (vC x5))]) (fun x5 hF => ?_) fun _ hj3 hF => ?_
 ·exact wl hΦ hF
 refine wB ?_
 obtain ⟨b25, hb26, hψ10⟩ := hF
 refine pR hb26 (fun i7 s6 => [(1, .v (vC a1)), (4, .bl [.int .i64 a0.P, .int .i64 a0.Q, .int .i64 a0.G]), (6, .bl [.int .i64 a2.A, .int .i64 a2.B]), (10, .v (vC s6)), (19, .v (vX a3)), (20, .v (.int .i64 (a3.length : Int))), (21, .v (.int .i64 i7))]) (fun s6 _ hN27 => ?_) (fun i7 s6 _ _ hi11 hi12 ho8 hg9 hF => ?_)
 ·exact wn hN27 (hj3 _) hψ10
 refine wW ?_
 refine wu hi11 hi12 ?_
 refine wW ?_
 refine wJ hF (fun x15 => [(1, .v (vC a1)), (4, .bl [.int .i64 a0.P, .int .i64 a0.Q, .int .i64 a0.G]), (6, .bl [.int .i64 a2.A, .int .i64 a2.B]), (10, .v (vC x15)), (19, .v (vX a3)), (20, .v (.int .i64 (a3.length : Int))), (21, .v (.int .i64 i7))]) (fun x15 hF => ?_) fun _ hj13 hF => ?_
 ·exact wi hi11 hi12 (hg9 _) (zaa hF)
 refine wB ?_
 obtain ⟨x16, g, hF⟩ := Rx g hF
 refine wW ?_
 refine wJ hF (fun x19 => [(1, .v (vC a1)), (4, .bl [.int .i64 a0.P, .int .i64 a0.Q, .int .i64 a0.G]), (6, .bl [.int .i64 a2.A, .int .i64 a2.B]), (10, .v (vC s6)), (12, .bl [.int .i64 x16.Index, .int .i64 x16.Value, vC x16.Pi.Commits, vC x16.Pi.Challenges, vC x16.Pi.Responses]), (19, .v (vX a3)), (20, .v (.int .i64 (a3.length : Int))), (21, .v (.int .i64 i7)), (35, .v (.bool x19))]) (fun x19 hF => ?_) fun _ hj17 hF => ?_
 ·refine wI hF (fun h23 hF => ?_) (fun h23 hF => ?_)
  ·refine wC hF [.sh, .sh] zpc (fun z24 hF => ?_)
   exact wT (hj13 _) (zaa hF)
  exact wT (hj13 _) (zaa hF)
 refine wC hF [.sh, .sh, .sh] zbI (fun z20 hF => ?_)
 refine wG hF (fun h21 hF => ?_) fun h21 hF => ?_
 ·try simp [go_sem, g, h21]
  refine wC hF [.sh, .sh, .sh, .sh] zjs (fun z22 hF => ?_)
  exact wV h21 (hj17 _) (zaa hF)
 exact wV h21 (hj17 _) (zaa hF)
def zdR (a0 : List Int) (a1 : List Int) : Option Bool :=
 if decide (1048576 < (i64.wrap ((a0.length : Int) + (a1.length : Int)))) = true then (
 some true) else (
 (zbP a0).bind fun z2 =>
 (za4 z2.1 z2.2.1 z2.2.2.1 z2.2.2.2).bind fun z3 =>
 (zby z2.1 z2.2.1 z2.2.2.1 z2.2.2.2).bind fun z4 =>
 (zb5 a1).bind fun z5 =>
 (zcT z5.1 z5.2.1 z5.2.2.1 z5.2.2.2.1 z5.2.2.2.2).bind fun z6 =>
 (zcQ z5.1 z5.2.1 z5.2.2.1 z5.2.2.2.1 z5.2.2.2.2).bind fun z7 =>
 ((if (z3.2 != z4.2) = true then (
 some true) else (
 if (z3.1 != z4.1) = true then (
 some true) else (
 if (z6.2 != z7.2) = true then (
 some true) else (
 if (z6.1.Index != z7.1.Index) = true then (
 some true) else (
 if (z6.1.Value != z7.1.Value) = true then (
 some true) else (
 (ze7 z6.1.Pi z7.1.Pi).bind fun z16 =>
 some (!z16)))))) : Option Bool).bind fun x10 =>
 if x10 = true then (
 some false) else (
 ((if z6.2 = true then (
 (zfD z5.1 z5.1.G z5.2.2.2.1).bind fun z22 =>
 (zc2 z5.1 [z22.1] z5.2.1 z6.1).bind fun z23 =>
 (za4 z5.1 [z22.1] z5.2.1 [z6.1]).bind fun z24 =>
 (zcV z5.1 z5.2.2.2.1 z5.2.1).bind fun z25 =>
 ((if (!z22.2) = true then (
 some true) else (
 if (!z23.2) = true then (
 some true) else (
 if (!z24.2) = true then (
 some true) else (
 if (!z25.2) = true then (
 some true) else (
 if (!z23.1) = true then (
 some true) else (
 some (z24.1 != z25.1)))))) : Option Bool).bind fun x28 =>
 if x28 = true then (
 some (.inr false)) else (
 some (.inl ())))) else (
 some (.inl ())) : Option (Unit ⊕ Bool)).bind (Sum.elim (fun x20 =>
 (zaZ z2.1 z2.2.1 z2.2.2.1 z2.2.2.2).bind fun z35 =>
 (zbN z2.1 z2.2.1 z2.2.2.1 z2.2.2.2).bind fun z36 =>
 ((if (z35.2 != z36.2) = true then (
 some true) else (
 if z3.2 = true then (
 some (!z35.2)) else (
 some false)) : Option Bool).bind fun x39 =>
 if x39 = true then (
 some false) else (
 if (!z35.2) = true then (
 some true) else (
 (zdr z2.1 z2.2.1 z2.2.2.1 z2.2.2.2).bind fun z44 =>
 ((if z44.2 = true then (
 (zdF z36.1 z44.1).bind fun z49 =>
 if z49 = true then (
 some (z3.2 == (decide ((z2.2.1.length : Int) ≤ (z35.1.length : Int))))) else (
 some false)) else (
 some false) : Option Bool).bind fun x47 =>
 some x47))))) some)))))
theorem zk8 : ∀ {a0} {a1} {r}, zdR a0 a1 = some r → PCalls Tryz.prog 4 [(.sh, .sl false 1 (a0.map zeP)), (.sh, .sl false 1 (a1.map zeP))] (Eo (.bool r) [.junk, .junk]) := by
 intro a0 a1 r hr
 apply pF 235 [] [216] [] [.tmp 4] hr cl4 Tryz.func4
 intro Φ hΦ hF g
 unfold zdR at hF
 iterate 2 (try simp [go_sem, g]; try intros; refine zav ?_)
 refine wI hF (fun h1 hF => ?_) (fun h1 hF => ?_)
 ·exact wl hΦ hF
 refine wW ?_
 refine wC hF [.sh] zhB (fun z2 hF => ?_)
 refine wK [1, 5, 6, 7, 8] ?_
 refine wC hF [.sh, .sh, .sh, .sh] zf7 (fun z3 hF => ?_)
 refine wK [1, 5, 6, 7, 8, 9, 10] ?_
 refine wC hF [.sh, .sh, .sh, .sh] zi1 (fun z4 hF => ?_)
 refine wK [1, 5, 6, 7, 8, 9, 10, 11, 12] ?_
 refine wC hF [.sh] zhJ (fun z5 hF => ?_)
 refine wK [5, 6, 7, 8, 9, 10, 11, 12, 13, 14, 15, 16, 17] ?_
 refine wC hF [.sh, .sh, .sh, .sh, .sh] zjm (fun z6 hF => ?_)
 refine wK [5, 6, 7, 8, 9, 10, 11, 12, 13, 14, 15, 16, 17, 18, 19] ?_
 refine wC hF [.sh, .sh, .sh, .sh, .sh] zjn (fun z7 hF => ?_)
 refine wK [5, 6, 7, 8, 9, 10, 11, 12, 13, 14, 16, 18, 19, 20, 21] ?_
 refine wJ hF (fun x10 => [(5, .bl [.int .i64 z2.1.P, .int .i64 z2.1.Q, .int .i64 z2.1.G]), (6, .v (vC z2.2.1)), (7, .bl [.int .i64 z2.2.2.1.A, .int .i64 z2.2.2.1.B]), (8, .v (vW z2.2.2.2)), (10, .v (.bool z3.2)), (13, .bl [.int .i64 z5.1.P, .int .i64 z5.1.Q, .int .i64 z5.1.G]), (14, .bl [.int .i64 z5.2.1.A, .int .i64 z5.2.1.B]), (16, .v (.int .i64 z5.2.2.2.1)), (18, .bl [.int .i64 z6.1.Index, .int .i64 z6.1.Value, vC z6.1.Pi.Commits, vC z6.1.Pi.Challenges, vC z6.1.Pi.Responses]), (19, .v (.bool z6.2)), (125, .v (.bool x10))]) (fun x10 hF => ?_) fun _ hj8 hF => ?_
 ·refine wI hF (fun h17 hF => ?_) (fun h17 hF => ?_)
  ·exact wl hΦ hF
  iterate 2 refine wW ?_
  refine wS hF (fun x20 => [(5, .bl [.int .i64 z2.1.P, .int .i64 z2.1.Q, .int .i64 z2.1.G]), (6, .v (vC z2.2.1)), (7, .bl [.int .i64 z2.2.2.1.A, .int .i64 z2.2.2.1.B]), (8, .v (vW z2.2.2.2)), (10, .v (.bool z3.2))]) (fun x20 hF => ?_) fun _ hj18 hr19 hF => ?_
  ·refine wC hF [.sh, .sh, .sh, .sh] zgZ (fun z35 hF => ?_)
   refine wK [5, 6, 7, 8, 10, 30, 31] ?_
   refine wC hF [.sh, .sh, .sh, .sh] zlE (fun z36 hF => ?_)
   refine wK [5, 6, 7, 8, 10, 30, 31, 32, 33] ?_
   refine wJ hF (fun x39 => [(5, .bl [.int .i64 z2.1.P, .int .i64 z2.1.Q, .int .i64 z2.1.G]), (6, .v (vC z2.2.1)), (7, .bl [.int .i64 z2.2.2.1.A, .int .i64 z2.2.2.1.B]), (8, .v (vW z2.2.2.2)), (10, .v (.bool z3.2)), (30, .v (vD z35.1)), (31, .v (.bool z35.2)), (32, .v (vD z36.1)), (209, .v (.bool x39))]) (fun x39 hF => ?_) fun _ hj37 hF => ?_
   ·refine wI hF (fun h42 hF => ?_) (fun h42 hF => ?_)
    ·exact wl hΦ hF
    iterate 2 refine wW ?_
    refine wI hF (fun h43 hF => ?_) (fun h43 hF => ?_)
    ·exact wl hΦ hF
    refine wW ?_
    refine wC hF [.sh, .sh, .sh, .sh] zlC (fun z44 hF => ?_)
    refine wK [6, 10, 30, 32, 34, 35] ?_
    refine wJ hF (fun x47 => [(4, .v (.bool x47))]) (fun x47 hF => ?_) fun _ hj45 hF => ?_
    ·exact wm hΦ hF
    refine wG hF (fun h48 hF => ?_) fun h48 hF => ?_
    ·try simp [go_sem, g, h48]
     refine wC hF [.sh, .sh] zgJ (fun z49 hF => ?_)
     try simp [go_sem, g, h48]
     refine wG hF (fun h50 hF => ?_) fun h50 hF => ?_
     ·try simp [go_sem, g, h50]
      try intros
      exact wT (hj45 _) (zaa hF)
     exact wV h50 (hj45 _) (zaa hF)
    exact wV h48 (hj45 _) (zaa hF)
   refine wG hF (fun h40 hF => ?_) fun h40 hF => ?_
   ·exact wV h40 (hj37 _) (zaa hF)
   try simp [go_sem, g, h40]
   refine wG hF (fun h41 hF => ?_) fun h41 hF => ?_
   ·try simp [go_sem, g, h41, h40]
    exact wT (hj37 (!z35.2)) (zaa hF) (a := by first | (simp [go_sem, g]; done) | simp [go_sem, g, h41])
   try simp [go_sem, g, h41, h40]
   exact wT (hj37 false) (zaa hF) (a := by first | (simp [go_sem, g]; done) | simp [go_sem, g, h41])
  refine wI hF (fun h21 hF => ?_) (fun h21 hF => ?_)
  ·refine wC hF [.sh, .sh, .sh] zoQ (fun z22 hF => ?_)
   refine wK [5, 6, 7, 8, 10, 13, 14, 16, 18, 22, 23] ?_
   refine wC hF [.sh, .sh, .sh, .sh] zjJ (fun z23 hF => ?_)
   refine wK [5, 6, 7, 8, 10, 13, 14, 16, 18, 22, 23, 24, 25] ?_
   refine wC hF [.sh, .sh, .sh, .sh] zf7 (fun z24 hF => ?_)
   refine wK [5, 6, 7, 8, 10, 13, 14, 16, 23, 24, 25, 26, 27] ?_
   refine wC hF [.sh, .sh, .sh] zjv (fun z25 hF => ?_)
   refine wW ?_
   refine wJ hF (fun x28 => [(5, .bl [.int .i64 z2.1.P, .int .i64 z2.1.Q, .int .i64 z2.1.G]), (6, .v (vC z2.2.1)), (7, .bl [.int .i64 z2.2.2.1.A, .int .i64 z2.2.2.1.B]), (8, .v (vW z2.2.2.2)), (10, .v (.bool z3.2)), (183, .v (.bool x28))]) (fun x28 hF => ?_) fun _ hj26 hF => ?_
   ·refine wI hF (fun h34 hF => ?_) (fun h34 hF => ?_)
    ·refine wK [4] ?_
     cases hΦ _ (hr19 _ (zaa hF))
     try simp [go_sem, g]
    exact wT (hj18 _) (zaa hF)
   refine wG hF (fun h29 hF => ?_) fun h29 hF => ?_
   ·exact wV h29 (hj26 _) (zaa hF)
   try simp [go_sem, g, h29]
   refine wG hF (fun h30 hF => ?_) fun h30 hF => ?_
   ·exact wV h30 (hj26 _) (zaa hF)
   try simp [go_sem, g, h30]
   refine wG hF (fun h31 hF => ?_) fun h31 hF => ?_
   ·exact wV h31 (hj26 _) (zaa hF)
   try simp [go_sem, g, h31]
   refine wG hF (fun h32 hF => ?_) fun h32 hF => ?_
   ·exact wV h32 (hj26 _) (zaa hF)
   try simp [go_sem, g, h32]
   refine wG hF (fun h33 hF => ?_) fun h33 hF => ?_
   ·exact wV h33 (hj26 _) (zaa hF)
   exact wV h33 (hj26 _) (zaa hF)
  exact wT (hj18 _) (zaa hF)
 refine wG hF (fun h11 hF => ?_) fun h11 hF => ?_
 ·exact wV h11 (hj8 _) (zaa hF)
 try simp [go_sem, g, h11]
 refine wG hF (fun h12 hF => ?_) fun h12 hF => ?_
 ·exact wV h12 (hj8 _) (zaa hF)
 try simp [go_sem, g, h12]
 refine wG hF (fun h13 hF => ?_) fun h13 hF => ?_
 ·exact wV h13 (hj8 _) (zaa hF)
 try simp [go_sem, g, h13]
 refine wG hF (fun h14 hF => ?_) fun h14 hF => ?_
 ·exact wV h14 (hj8 _) (zaa hF)
 try simp [go_sem, g, h14]
 refine wG hF (fun h15 hF => ?_) fun h15 hF => ?_
 ·exact wV h15 (hj8 _) (zaa hF)
 try simp [go_sem, g, h15]
 refine wC hF [.sh, .sh] zn7 (fun z16 hF => ?_)
 exact wV h15 (hj8 _) (zaa hF)
end
end Go.Pm
