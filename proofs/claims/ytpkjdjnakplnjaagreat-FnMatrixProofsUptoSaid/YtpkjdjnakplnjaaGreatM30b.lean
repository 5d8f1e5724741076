/-
  Plain functions and their walks. Written by wip/tools/lift.py.
-/
import Derived.Test.YtpkjdjnakplnjaaGreatM30
namespace Go.Pm
open Go.Am IntKind
open Go.Proofs
set_option maxRecDepth 100000
attribute [local irreducible] pw pwx pw1 pwg qv qz qf
attribute [-simp] List.map_set
set_option linter.unusedSimpArgs false
set_option linter.unusedVariables false
noncomputable section
@[go_sem] def zyq : List DE := [d1 0 [25] 25, d1 1 [201] 25, d2 2 [202] 25 202, d2 3 [7] 7 7, d2 4 [7] 7 7, d1 5 [7] 7, d2 6 [206] 7 206, d0 7 [23], d0 8 [34], d0 9 [208, 209], d0 10 [210], d2 12 [7] 7 7, d0 13 [33], d0 14 [24], d0 15 [34], d0 16 [215, 216], d0 17 [217], ⟨11, [205, 207, 211], [], none, false, true, false⟩, d3 18 [213, 214, 218], d0 19 [212, 219], ⟨20, [204, 220], [], none, true, true, true⟩, d0 21 [221], ⟨22, [203, 222], [], none, true, false, false⟩, d1 23 [25] 25, d1 24 [224] 25, d2 25 [225, 223] 25 225]
@[go_sem] def zx0 : List DE := [d0 0 [19], d0 1 [35], d0 2 [17], d1 3 [7] 7, d2 4 [245] 7 245, d1 8 [7] 7, d2 9 [250] 7 250, d0 11 [20], d0 12 [35], d0 13 [17], d0 14 [26], d1 15 [7] 7, d2 16 [257] 7 257, d1 20 [7] 7, d2 21 [262] 7 262, d0 23 [21], d0 24 [35], d0 25 [28], d0 26 [266, 267], d0 27 [265, 268], d1 28 [7] 7, d2 29 [270] 7 270, d0 30 [269, 271], d0 31 [22], d0 32 [35], d0 33 [5], d0 34 [27], d1 35 [7] 7, d2 36 [277] 7 277, d1 40 [7] 7, d2 41 [282] 7 282, d3 5 [244, 246], d0 6 [243, 247], d0 7 [242, 248], d0 10 [249, 251], d3 17 [255, 256, 258], d0 18 [254, 259], d0 19 [253, 260], d0 22 [261, 263], d3 37 [275, 276, 278], d0 38 [274, 279], d0 39 [273, 280], d0 42 [281, 283], d0 43 [252, 264, 272, 284], d1 44 [25] 25, d1 45 [286] 25, ⟨46, [287, 285], [25], some 287, true, true, true⟩]
@[go_sem] def zAW : List DE := [d0 0 [6], d0 1 [15], d0 2 [46, 47], d0 3 [6], d0 4 [15], d0 5 [15], d0 6 [51], d0 7 [49, 50, 52], d0 8 [48], d0 9 [53]]
@[go_sem] def zwB : List DE := [d1 0 [25] 25, d1 1 [293] 25, d2 2 [294] 25 294, d0 3 [23], d0 4 [36], d0 5 [296, 297], d0 6 [298], d0 7 [35], d0 8 [18], d0 9 [36], d0 10 [301, 302], d0 11 [303], d0 12 [300, 304], d0 13 [299, 305], d1 14 [7] 7, d2 15 [307] 7 307, d0 16 [306, 308], d0 17 [309], ⟨18, [295, 310], [], none, true, false, false⟩, d1 19 [25] 25, d1 20 [312] 25, d2 21 [313, 311] 25 313]
@[go_sem] def zxk : List DE := [d1 0 [25] 25, d1 1 [320] 25, d2 2 [321] 25 321, d0 3 [24], d0 4 [37], d0 5 [323, 324], d0 6 [325], d0 7 [35], d0 8 [27], d0 9 [37], d0 10 [328, 329], d0 11 [330], d0 12 [327, 331], d0 13 [326, 332], d1 14 [7] 7, d2 15 [334] 7 334, d0 16 [333, 335], d0 17 [336], ⟨18, [322, 337], [], none, true, false, false⟩, d1 19 [25] 25, d1 20 [339] 25, d2 21 [340, 338] 25 340]
@[go_sem] def zAk : List DE := [d0 0 [6], d0 1 [15], d0 2 [55], d0 3 [54, 56], d0 4 [57], d0 5 [6], d0 6 [15], d0 7 [60], d0 8 [61], d0 9 [59, 62], d0 10 [63], d0 11 [6], d0 12 [15], d0 13 [66], d0 14 [67], d0 15 [65, 68], d0 16 [69], d0 17 [6], d0 18 [15], d0 19 [72], d0 20 [73], d0 21 [71, 74], d0 22 [75], d0 23 [58], d0 24 [64], d0 25 [70], d0 26 [76]]
@[go_sem] def zAA : List DE := [d0 0 [6], d0 1 [15], d0 2 [78], d0 3 [79], d0 4 [15], d0 5 [81], d0 6 [82], d0 7 [77, 80, 83], d0 8 [6], d0 9 [15], d0 10 [86], d0 11 [87], d0 12 [85, 88], d0 13 [84], d0 14 [89]]
def zeH (a0 : Group) (a1 : Int) (a2 : Bases) (a3 : List Cipher) (a4 : List Int) (a5 : List Int) (a6 : List Int) : Option MatrixProof :=
 (zfF a0 a1 a3 a4 a5).bind fun z1 =>
 gd (0 ≤ (a3.length : Int)) <|
 gd (0 ≤ a3.length ∧ a3.length ≤ a6.length) <|
 gd (0 ≤ (a3.length : Int)) <|
 gd (0 ≤ (i64.wrap (2 * (a3.length : Int)))) <|
 gd (a3.length ≤ (i64.wrap (2 * (a3.length : Int))).toNat ∧ (i64.wrap (2 * (a3.length : Int))).toNat ≤ a6.length) <|
 (ix a6 (i64.wrap (2 * (a3.length : Int)))).bind fun x2 =>
 (ix a6 (i64.wrap ((i64.wrap (2 * (a3.length : Int))) + 1))).bind fun x3 =>
 (ix a6 (i64.wrap ((i64.wrap (2 * (a3.length : Int))) + 2))).bind fun x4 =>
 (ix a6 (i64.wrap ((i64.wrap (2 * (a3.length : Int))) + 3))).bind fun x5 =>
 gd (0 ≤ (i64.wrap ((i64.wrap (2 * (a3.length : Int))) + 4))) <|
 gd (0 ≤ (i64.wrap ((i64.wrap (3 * (a3.length : Int))) + 4))) <|
 gd ((i64.wrap ((i64.wrap (2 * (a3.length : Int))) + 4)).toNat ≤ (i64.wrap ((i64.wrap (3 * (a3.length : Int))) + 4)).toNat ∧ (i64.wrap ((i64.wrap (3 * (a3.length : Int))) + 4)).toNat ≤ a6.length) <|
 gd (0 ≤ (i64.wrap ((i64.wrap (3 * (a3.length : Int))) + 4))) <|
 gd ((i64.wrap ((i64.wrap (3 * (a3.length : Int))) + 4)).toNat ≤ a6.length ∧ a6.length ≤ a6.length) <|
 (zeP a0 a2 a4 ((a6.take a3.length).drop 0)).bind fun z6 =>
 (zca a0 a1 a3 z1 z6).bind fun z7 =>
 ((zar (σ := (List Int) × Int) (fun i12 s11 =>
 (ix a4 i12).bind fun x18 =>
 (ix z7 x18).bind fun x19 =>
 gd ((s11.1.length + 1) * 8 ≤ 140737488355328 ∧ s11.1.length + 1 ≤ 4611686018427387904) <|
 (ix ((a6.take ((i64.wrap (2 * (a3.length : Int))).toNat)).drop a3.length) i12).bind fun x20 =>
 gd (a0.Q ≠ 0) <|
 some (.go (s11.1 ++ [x19], (i64.wrap (x20 + (i64.wrap (x19 * s11.2)))).tmod a0.Q))) (fun s11 => (s11.1, s11.2)) (a4.length) 0 ([], 0) : Option ((List Int × Int))).bind fun x10 =>
 (zfv a0 a2 x10.1 ((a6.take ((i64.wrap (2 * (a3.length : Int))).toNat)).drop a3.length)).bind fun z25 =>
 (zd8 z1).bind fun z26 =>
 (zaq a0 a0.G x2).bind fun z27 =>
 (zaq a0 a0.G x3).bind fun z28 =>
 (zbZ a0 a2.Hs ((a6.take a6.length).drop ((i64.wrap ((i64.wrap (3 * (a3.length : Int))) + 4)).toNat))).bind fun z29 =>
 (zaP a0 [z28, z29]).bind fun z30 =>
 (zaq a0 a0.G x4).bind fun z31 =>
 (zaq a0 a0.G (i64.wrap (0 - x5))).bind fun z32 =>
 (zbZ a0 z26.1 ((a6.take a6.length).drop ((i64.wrap ((i64.wrap (3 * (a3.length : Int))) + 4)).toNat))).bind fun z33 =>
 (zaP a0 [z32, z33]).bind fun z34 =>
 (zaq a0 a1 (i64.wrap (0 - x5))).bind fun z35 =>
 (zbZ a0 z26.2 ((a6.take a6.length).drop ((i64.wrap ((i64.wrap (3 * (a3.length : Int))) + 4)).toNat))).bind fun z36 =>
 (zaP a0 [z35, z36]).bind fun z37 =>
 ((zar (σ := (List Int) × List Int × List Int × List Int × List Int × Int) (fun i55 s54 =>
 (ix ((a6.take ((i64.wrap ((i64.wrap (3 * (a3.length : Int))) + 4)).toNat)).drop ((i64.wrap ((i64.wrap (2 * (a3.length : Int))) + 4)).toNat)) i55).bind fun x61 =>
 (ix ((a6.take a6.length).drop ((i64.wrap ((i64.wrap (3 * (a3.length : Int))) + 4)).toNat)) i55).bind fun x62 =>
 (zaq a0 a0.G x61).bind fun z63 =>
 (zaq a0 s54.2.2.2.2.2 x62).bind fun z64 =>
 (zaP a0 [z63, z64]).bind fun z65 =>
 gd ((s54.2.2.1.length + 1) * 8 ≤ 140737488355328 ∧ s54.2.2.1.length + 1 ≤ 4611686018427387904) <|
 (ix s54.2.1 i55).bind fun x66 =>
 some (.go (s54.1, s54.2.1, s54.2.2.1 ++ [z65], s54.2.2.2.1, s54.2.2.2.2.1, x66))) (fun s54 => (s54.1, s54.2.1, s54.2.2.1, s54.2.2.2.1, s54.2.2.2.2.1)) (a3.length) 0 (z6, z25, [z27, z30, z31, z34, z37], [], [], a2.H) : Option ((List Int × List Int × List Int × List Int × List Int))).bind fun x40 =>
 (zco a0 a1 a3 z1 (MatrixProof.mk x40.1 x40.2.1 (Proof.mk x40.2.2.1 x40.2.2.2.1 x40.2.2.2.2))).bind fun z71 =>
 gd (a0.Q ≠ 0) <|
 (zfE ((a6.take a3.length).drop 0) a0.Q).bind fun z72 =>
 gd (a0.Q ≠ 0) <|
 (zeo ((a6.take a3.length).drop 0) z7 a0.Q).bind fun z73 =>
 gd (a0.Q ≠ 0) <|
 (zeo a5 x10.1 a0.Q).bind fun z74 =>
 gd (a0.Q ≠ 0) <|
 ((zar (σ := (List Int) × List Int × List Int × List Int × List Int) (fun i88 s87 =>
 (ix ((a6.take ((i64.wrap ((i64.wrap (3 * (a3.length : Int))) + 4)).toNat)).drop ((i64.wrap ((i64.wrap (2 * (a3.length : Int))) + 4)).toNat)) i88).bind fun x94 =>
 (ix ((a6.take ((i64.wrap (2 * (a3.length : Int))).toNat)).drop a3.length) i88).bind fun x95 =>
 gd (a0.Q ≠ 0) <|
 gd ((s87.2.2.2.2.length + 1) * 8 ≤ 140737488355328 ∧ s87.2.2.2.2.length + 1 ≤ 4611686018427387904) <|
 some (.go (s87.1, s87.2.1, s87.2.2.1, s87.2.2.2.1, s87.2.2.2.2 ++ [(i64.wrap (x94 + (i64.wrap (z71 * x95)))).tmod a0.Q]))) (fun s87 => (s87.1, s87.2.1, s87.2.2.1, s87.2.2.2.1, s87.2.2.2.2)) (a3.length) 0 (x40.1, x40.2.1, x40.2.2.1, [z71], [(i64.wrap (x2 + (i64.wrap (z71 * z72)))).tmod a0.Q, (i64.wrap (x3 + (i64.wrap (z71 * z73)))).tmod a0.Q, (i64.wrap (x4 + (i64.wrap (z71 * x10.2)))).tmod a0.Q, (i64.wrap (x5 + (i64.wrap (z71 * z74)))).tmod a0.Q]) : Option ((List Int × List Int × List Int × List Int × List Int))).bind fun x77 =>
 ((zar (σ := (List Int) × List Int × List Int × List Int × List Int) (fun i113 s112 =>
 (ix ((a6.take a6.length).drop ((i64.wrap ((i64.wrap (3 * (a3.length : Int))) + 4)).toNat)) i113).bind fun x119 =>
 (ix x10.1 i113).bind fun x120 =>
 gd (a0.Q ≠ 0) <|
 gd ((s112.2.2.2.2.length + 1) * 8 ≤ 140737488355328 ∧ s112.2.2.2.2.length + 1 ≤ 4611686018427387904) <|
 some (.go (s112.1, s112.2.1, s112.2.2.1, s112.2.2.2.1, s112.2.2.2.2 ++ [(i64.wrap (x119 + (i64.wrap (z71 * x120)))).tmod a0.Q]))) (fun s112 => (s112.1, s112.2.1, s112.2.2.1, s112.2.2.2.1, s112.2.2.2.2)) (a3.length) 0 (x77.1, x77.2.1, x77.2.2.1, x77.2.2.2.1, x77.2.2.2.2) : Option ((List Int × List Int × List Int × List Int × List Int))).bind fun x102 =>
 some (MatrixProof.mk x102.1 x102.2.1 (Proof.mk x102.2.2.1 x102.2.2.2.1 x102.2.2.2.2))))))
set_option maxHeartbeats 1000000 in
theorem zn9 : ∀ {a0} {a1} {a2} {a3} {a4} {a5} {a6} {r}, zeH a0 a1 a2 a3 a4 a5 a6 = some r → PCalls Tryz.prog 72 [(.sh, vE a0), (.sh, .int .i64 a1), (.sh, vJ a2), (.sh, vH a3), (.sh, vC a4), (.sh, vC a5), (.sh, vC a6)] (Eo (vN r) [.junk, .junk, .junk, .junk, .junk, .junk, .junk]) := by
 intro a0 a1 a2 a3 a4 a5 a6 r hr
 apply pF 343 [] [] [] [.cell 14 59] hr zER Tryz.func72
 intro Φ hΦ hF g
 unfold zeH at hF
 iterate 2 (try simp [go_sem, g]; try intros; refine zay ?_)
 try simp [go_sem, g]
 try intros
 refine wC hF [.sh, .sh, .sh, .sh, .sh] zlO (fun z1 hF => ?_)
 refine wK [1, 3, 4, 5, 6, 7, 9, 14, 15, 16] ?_
 refine wX zAW follows ?_
 obtain ⟨g, hF⟩ := Rg g hF
 obtain ⟨g, hF⟩ := Rg g hF
 obtain ⟨g, hF⟩ := Rg g hF
 obtain ⟨g, hF⟩ := Rg g hF
 obtain ⟨g, hF⟩ := Rg g hF
 refine wK [1, 3, 4, 5, 6, 7, 9, 14, 15, 16, 17, 18] ?_
 refine wX zAk follows ?_
 obtain ⟨x2, g, hF⟩ := Rx g hF
 obtain ⟨x3, g, hF⟩ := Rx g hF
 obtain ⟨x4, g, hF⟩ := Rx g hF
 obtain ⟨x5, g, hF⟩ := Rx g hF
 refine wK [1, 3, 4, 5, 6, 7, 9, 14, 15, 16, 17, 18, 19, 20, 21, 22] ?_
 refine wX zAA follows ?_
 obtain ⟨g, hF⟩ := Rg g hF
 obtain ⟨g, hF⟩ := Rg g hF
 obtain ⟨g, hF⟩ := Rg g hF
 obtain ⟨g, hF⟩ := Rg g hF
 obtain ⟨g, hF⟩ := Rg g hF
 refine wK [1, 3, 4, 5, 7, 9, 14, 16, 17, 18, 19, 20, 21, 22, 23, 24] ?_
 refine wC hF [.sh, .sh, .sh, .sh] zmF (fun z6 hF => ?_)
 refine wW ?_
 refine wC hF [.sh, .sh, .sh, .sh, .sh] zhG (fun z7 hF => ?_)
 refine wK [1, 3, 4, 5, 7, 9, 14, 16, 17, 18, 19, 20, 21, 22, 23, 24, 25, 26] ?_
 iterate 3 (try simp [go_sem, g]; try intros; refine zay ?_)
 refine wJ hF (fun x10 => [(1, .v (.int .i64 a1)), (3, .v (vH a3)), (5, .v (vC a5)), (7, .bl [.int .i64 a0.P, .int .i64 a0.Q, .int .i64 a0.G]), (9, .bl [.int .i64 a2.H, vC a2.Hs]), (14, .bl [.sl true 1 [], .sl true 1 [], .sl true 1 [], .sl true 1 [], .sl true 1 []]), (16, .v (vG z1)), (17, .v (vC ((a6.take a3.length).drop 0))), (18, .v (vC ((a6.take ((i64.wrap (2 * (a3.length : Int))).toNat)).drop a3.length))), (19, .v (.int .i64 x2)), (20, .v (.int .i64 x3)), (21, .v (.int .i64 x4)), (22, .v (.int .i64 x5)), (23, .v (vC ((a6.take ((i64.wrap ((i64.wrap (3 * (a3.length : Int))) + 4)).toNat)).drop ((i64.wrap ((i64.wrap (2 * (a3.length : Int))) + 4)).toNat)))), (24, .v (vC ((a6.take a6.length).drop ((i64.wrap ((i64.wrap (3 * (a3.length : Int))) + 4)).toNat)))), (25, .bl [vD z6, .sl true 1 [], .sl true 1 [], .sl true 1 [], .sl true 1 []]), (26, .v (vD z7)), (27, .v (vD x10.1)), (28, .v (.int .i64 x10.2))]) (fun x10 hF => ?_) fun _ hj8 hF => ?_
 ·refine wC hF [.sh, .sh, .sh, .sh] zoe (fun z25 hF => ?_)
  refine wK [1, 3, 5, 7, 9, 14, 16, 17, 18, 19, 20, 21, 22, 23, 24, 25, 26, 27, 28] ?_
  refine wC hF [.sh] zhR (fun z26 hF => ?_)
  refine wW ?_
  refine wX zxR follows ?_
  refine wC hF [.sh, .sh, .sh] zaY (fun z27 hF => ?_)
  refine wC hF [.sh, .sh, .sh] zaY (fun z28 hF => ?_)
  refine wC hF [.sh, .sh, .sh] zdA (fun z29 hF => ?_)
  refine wC hF [.sh, .sh] zbu (fun z30 hF => ?_)
  refine wC hF [.sh, .sh, .sh] zaY (fun z31 hF => ?_)
  refine wC hF [.sh, .sh, .sh] zaY (fun z32 hF => ?_)
  refine wC hF [.sh, .sh, .sh] zdA (fun z33 hF => ?_)
  refine wC hF [.sh, .sh] zbu (fun z34 hF => ?_)
  refine wC hF [.sh, .sh, .sh] zaY (fun z35 hF => ?_)
  refine wC hF [.sh, .sh, .sh] zdA (fun z36 hF => ?_)
  refine wC hF [.sh, .sh] zbu (fun z37 hF => ?_)
  refine wK [1, 3, 5, 7, 9, 14, 16, 17, 18, 19, 20, 21, 22, 23, 24, 25, 26, 27, 28] ?_
  iterate 2 (try simp [go_sem, g]; try intros; refine zay ?_)
  refine wJ hF (fun x40 => [(1, .v (.int .i64 a1)), (3, .v (vH a3)), (5, .v (vC a5)), (7, .bl [.int .i64 a0.P, .int .i64 a0.Q, .int .i64 a0.G]), (14, .bl [.sl true 1 [], .sl true 1 [], .sl true 1 [], .sl true 1 [], .sl true 1 []]), (16, .v (vG z1)), (17, .v (vC ((a6.take a3.length).drop 0))), (18, .v (vC ((a6.take ((i64.wrap (2 * (a3.length : Int))).toNat)).drop a3.length))), (19, .v (.int .i64 x2)), (20, .v (.int .i64 x3)), (21, .v (.int .i64 x4)), (22, .v (.int .i64 x5)), (23, .v (vC ((a6.take ((i64.wrap ((i64.wrap (3 * (a3.length : Int))) + 4)).toNat)).drop ((i64.wrap ((i64.wrap (2 * (a3.length : Int))) + 4)).toNat)))), (24, .v (vC ((a6.take a6.length).drop ((i64.wrap ((i64.wrap (3 * (a3.length : Int))) + 4)).toNat)))), (25, .bl [vD x40.1, vD x40.2.1, vD x40.2.2.1, vD x40.2.2.2.1, vD x40.2.2.2.2]), (26, .v (vD z7)), (27, .v (vD x10.1)), (28, .v (.int .i64 x10.2))]) (fun x40 hF => ?_) fun _ hj38 hF => ?_
  ·refine wC hF [.sh, .sh, .sh, .sh, .sh] zhS (fun z71 hF => ?_)
   refine wK [3, 5, 7, 14, 17, 18, 19, 20, 21, 22, 23, 24, 25, 26, 27, 28, 35] ?_
   refine wW ?_
   refine wX zx0 follows ?_
   obtain ⟨g, hF⟩ := Rz g hF
   refine wC hF [.sh, .sh] zp4 (fun z72 hF => ?_)
   obtain ⟨g, hF⟩ := Rz g hF
   refine wC hF [.sh, .sh, .sh] zlK (fun z73 hF => ?_)
   obtain ⟨g, hF⟩ := Rz g hF
   refine wC hF [.sh, .sh, .sh] zlK (fun z74 hF => ?_)
   obtain ⟨g, hF⟩ := Rz g hF
   refine wK [3, 7, 14, 18, 23, 24, 25, 27, 35] ?_
   try simp [go_sem, g]
   try intros
   refine zay ?_
   refine wJ hF (fun x77 => [(3, .v (vH a3)), (7, .bl [.int .i64 a0.P, .int .i64 a0.Q, .int .i64 a0.G]), (14, .bl [.sl true 1 [], .sl true 1 [], .sl true 1 [], .sl true 1 [], .sl true 1 []]), (24, .v (vC ((a6.take a6.length).drop ((i64.wrap ((i64.wrap (3 * (a3.length : Int))) + 4)).toNat)))), (25, .bl [vD x77.1, vD x77.2.1, vD x77.2.2.1, vD x77.2.2.2.1, vD x77.2.2.2.2]), (27, .v (vD x10.1)), (35, .v (.int .i64 z71))]) (fun x77 hF => ?_) fun _ hj75 hF => ?_
   ·try simp [go_sem, g]
    try intros
    refine zay ?_
    refine wJ hF (fun x102 => [(14, .bl [.sl true 1 [], .sl true 1 [], .sl true 1 [], .sl true 1 [], .sl true 1 []]), (25, .bl [vD x102.1, vD x102.2.1, vD x102.2.2.1, vD x102.2.2.2.1, vD x102.2.2.2.2])]) (fun x102 hF => ?_) fun _ hj100 hF => ?_
    ·cases hΦ _ (zaa hF)
     refine wW ?_
     try simp [go_sem, g]
    refine wB ?_
    obtain ⟨b121, hb122, hψ116⟩ := hF
    refine pR hb122 (fun i113 s112 => [(7, .bl [.int .i64 a0.P, .int .i64 a0.Q, .int .i64 a0.G]), (14, .bl [.sl true 1 [], .sl true 1 [], .sl true 1 [], .sl true 1 [], .sl true 1 []]), (24, .v (vC ((a6.take a6.length).drop ((i64.wrap ((i64.wrap (3 * (a3.length : Int))) + 4)).toNat)))), (25, .bl [vD s112.1, vD s112.2.1, vD s112.2.2.1, vD s112.2.2.2.1, vD s112.2.2.2.2]), (27, .v (vD x10.1)), (35, .v (.int .i64 z71)), (316, .v (.int .i64 (a3.length : Int))), (317, .v (.int .i64 i113))]) (fun s112 _ hN123 => ?_) (fun i113 s112 _ _ hi117 hi118 ho114 hg115 hF => ?_)
    ·subst hN123
     refine wW ?_
     refine wf ?_
     exact wT (hj100 _) hψ116
    refine wW ?_
    refine wt ?_ (hb := by simp [go_sem, g, hi117, hi118])
    refine wW ?_
    refine wB ?_
    refine wW ?_
    refine wX zxk follows ?_
    obtain ⟨x119, g, hF⟩ := Rxq g hF
    obtain ⟨x120, g, hF⟩ := Rx g hF
    obtain ⟨g, hF⟩ := Rz g hF
    obtain ⟨g, hF⟩ := Rg g hF
    refine wK [7, 14, 24, 25, 27, 35, 316, 317] ?_
    exact wT (hg115 (s112.1, s112.2.1, s112.2.2.1, s112.2.2.2.1, s112.2.2.2.2 ++ [(i64.wrap (x119 + (i64.wrap (z71 * x120)))).tmod a0.Q])) (zaa hF) (a := by simp [go_sem, g, zbp hi117 hi118 (by assumption)])
   refine wB ?_
   obtain ⟨b96, hb97, hψ91⟩ := hF
   refine pR hb97 (fun i88 s87 => [(3, .v (vH a3)), (7, .bl [.int .i64 a0.P, .int .i64 a0.Q, .int .i64 a0.G]), (14, .bl [.sl true 1 [], .sl true 1 [], .sl true 1 [], .sl true 1 [], .sl true 1 []]), (18, .v (vC ((a6.take ((i64.wrap (2 * (a3.length : Int))).toNat)).drop a3.length))), (23, .v (vC ((a6.take ((i64.wrap ((i64.wrap (3 * (a3.length : Int))) + 4)).toNat)).drop ((i64.wrap ((i64.wrap (2 * (a3.length : Int))) + 4)).toNat)))), (24, .v (vC ((a6.take a6.length).drop ((i64.wrap ((i64.wrap (3 * (a3.length : Int))) + 4)).toNat)))), (25, .bl [vD s87.1, vD s87.2.1, vD s87.2.2.1, vD s87.2.2.2.1, vD s87.2.2.2.2]), (27, .v (vD x10.1)), (35, .v (.int .i64 z71)), (289, .v (.int .i64 (a3.length : Int))), (290, .v (.int .i64 i88))]) (fun s87 _ hN98 => ?_) (fun i88 s87 _ _ hi92 hi93 ho89 hg90 hF => ?_)
   ·subst hN98
    refine wW ?_
    refine wf ?_
    exact wT (hj75 _) hψ91
   refine wW ?_
   refine wt ?_ (hb := by simp [go_sem, g, hi92, hi93])
   refine wW ?_
   refine wB ?_
   refine wW ?_
   refine wX zwB follows ?_
   obtain ⟨x94, g, hF⟩ := Rxq g hF
   obtain ⟨x95, g, hF⟩ := Rxq g hF
   obtain ⟨g, hF⟩ := Rz g hF
   obtain ⟨g, hF⟩ := Rg g hF
   refine wK [3, 7, 14, 18, 23, 24, 25, 27, 35, 289, 290] ?_
   exact wT (hg90 (s87.1, s87.2.1, s87.2.2.1, s87.2.2.2.1, s87.2.2.2.2 ++ [(i64.wrap (x94 + (i64.wrap (z71 * x95)))).tmod a0.Q])) (zaa hF) (a := by simp [go_sem, g, zbp hi92 hi93 (by assumption)])
  refine wB ?_
  obtain ⟨b67, hb68, hψ58⟩ := hF
  refine pR hb68 (fun i55 s54 => [(1, .v (.int .i64 a1)), (3, .v (vH a3)), (5, .v (vC a5)), (7, .bl [.int .i64 a0.P, .int .i64 a0.Q, .int .i64 a0.G]), (14, .bl [.sl true 1 [], .sl true 1 [], .sl true 1 [], .sl true 1 [], .sl true 1 []]), (16, .v (vG z1)), (17, .v (vC ((a6.take a3.length).drop 0))), (18, .v (vC ((a6.take ((i64.wrap (2 * (a3.length : Int))).toNat)).drop a3.length))), (19, .v (.int .i64 x2)), (20, .v (.int .i64 x3)), (21, .v (.int .i64 x4)), (22, .v (.int .i64 x5)), (23, .v (vC ((a6.take ((i64.wrap ((i64.wrap (3 * (a3.length : Int))) + 4)).toNat)).drop ((i64.wrap ((i64.wrap (2 * (a3.length : Int))) + 4)).toNat)))), (24, .v (vC ((a6.take a6.length).drop ((i64.wrap ((i64.wrap (3 * (a3.length : Int))) + 4)).toNat)))), (25, .bl [vD s54.1, vD s54.2.1, vD s54.2.2.1, vD s54.2.2.2.1, vD s54.2.2.2.2.1]), (26, .v (vD z7)), (27, .v (vD x10.1)), (28, .v (.int .i64 x10.2)), (33, .v (.int .i64 s54.2.2.2.2.2)), (197, .v (.int .i64 (a3.length : Int))), (198, .v (.int .i64 i55))]) (fun s54 _ hN69 => ?_) (fun i55 s54 _ _ hi59 hi60 ho56 hg57 hF => ?_)
  ·subst hN69
   refine wW ?_
   refine wf ?_
   exact wT (hj38 _) hψ58
  refine wW ?_
  refine wt ?_ (hb := by simp [go_sem, g, hi59, hi60])
  refine wW ?_
  refine wB ?_
  refine wW ?_
  refine wX zyq follows ?_
  obtain ⟨x61, g, hF⟩ := Rxq g hF
  obtain ⟨x62, g, hF⟩ := Rxq g hF
  refine wD hF zaY (fun z63 hF => ?_)
  refine wC hF [.sh, .sh, .sh] zaY (fun z64 hF => ?_)
  refine wC hF [.sh, .sh] zbu (fun z65 hF => ?_)
  obtain ⟨g, hF⟩ := Rg g hF
  refine wK [1, 3, 5, 7, 14, 16, 17, 18, 19, 20, 21, 22, 23, 24, 25, 26, 27, 28, 34, 197, 198] ?_
  obtain ⟨x66, g, hF⟩ := Rx g hF
  refine wW ?_
  exact wT (hg57 (s54.1, s54.2.1, s54.2.2.1 ++ [z65], s54.2.2.2.1, s54.2.2.2.2.1, x66)) (zaa hF) (a := by simp [go_sem, g, zbp hi59 hi60 (by assumption)])
 refine wB ?_
 obtain ⟨b21, hb22, hψ15⟩ := hF
 refine pR hb22 (fun i12 s11 => [(1, .v (.int .i64 a1)), (3, .v (vH a3)), (5, .v (vC a5)), (7, .bl [.int .i64 a0.P, .int .i64 a0.Q, .int .i64 a0.G]), (9, .bl [.int .i64 a2.H, vC a2.Hs]), (14, .bl [.sl true 1 [], .sl true 1 [], .sl true 1 [], .sl true 1 [], .sl true 1 []]), (16, .v (vG z1)), (17, .v (vC ((a6.take a3.length).drop 0))), (18, .v (vC ((a6.take ((i64.wrap (2 * (a3.length : Int))).toNat)).drop a3.length))), (19, .v (.int .i64 x2)), (20, .v (.int .i64 x3)), (21, .v (.int .i64 x4)), (22, .v (.int .i64 x5)), (23, .v (vC ((a6.take ((i64.wrap ((i64.wrap (3 * (a3.length : Int))) + 4)).toNat)).drop ((i64.wrap ((i64.wrap (2 * (a3.length : Int))) + 4)).toNat)))), (24, .v (vC ((a6.take a6.length).drop ((i64.wrap ((i64.wrap (3 * (a3.length : Int))) + 4)).toNat)))), (25, .bl [vD z6, .sl true 1 [], .sl true 1 [], .sl true 1 [], .sl true 1 []]), (26, .v (vD z7)), (27, .v (vD s11.1)), (28, .v (.int .i64 s11.2)), (103, .v (vC a4)), (104, .v (.int .i64 (a4.length : Int))), (105, .v (.int .i64 i12))]) (fun s11 _ hN23 => ?_) (fun i12 s11 _ _ hi16 hi17 ho13 hg14 hF => ?_)
 ·subst hN23
  refine wW ?_
  refine wf ?_
  exact wT (hj8 _) hψ15
 refine wW ?_
 refine wt ?_ (hb := by simp [go_sem, g, hi16, hi17])
 refine wW ?_
 refine wB ?_
 obtain ⟨x18, g, hF⟩ := Rx g hF
 refine wK [1, 3, 5, 7, 9, 14, 16, 17, 18, 19, 20, 21, 22, 23, 24, 25, 26, 27, 28, 29, 30, 103, 104, 105] ?_
 obtain ⟨x19, g, hF⟩ := Rx g hF
 obtain ⟨g, hF⟩ := Rg g hF
 refine wW ?_
 refine wX zwU follows ?_
 obtain ⟨x20, g, hF⟩ := Rxq g hF
 obtain ⟨g, hF⟩ := Rz g hF
 refine wK [1, 3, 5, 7, 9, 14, 16, 17, 18, 19, 20, 21, 22, 23, 24, 25, 26, 27, 28, 103, 104, 105] ?_
 exact wT (hg14 (s11.1 ++ [x19], (i64.wrap (x20 + (i64.wrap (x19 * s11.2)))).tmod a0.Q)) (zaa hF) (a := by simp [go_sem, g, zbp hi16 hi17 (by assumption)])
def zbB (a0 : Group) (a1 : Int) (a2 : List Cipher) (a3 : List Int) (a4 : List Int) (a5 : List Int) : Option (MatrixProof × Bool) :=
 (((zc4 a0 a1 a2).bind fun z4 =>
 if (!z4) = true then (
 some true) else (
 (zfd a3 (a2.length : Int)).bind fun z6 =>
 if (!z6) = true then (
 some true) else (
 if ((a4.length : Int) != (a2.length : Int)) = true then (
 some true) else (
 (zdw a0 a4).bind fun z9 =>
 if (!z9) = true then (
 some true) else (
 if ((a5.length : Int) != (i64.wrap ((i64.wrap (4 * (a2.length : Int))) + 4))) = true then (
 some true) else (
 (zdw a0 a5).bind fun z12 =>
 some (!z12)))))) : Option Bool).bind fun x3 =>
 if x3 = true then (
 some ((MatrixProof.mk [] [] (Proof.mk [] [] [])), false)) else (
 (zdn a0 (a2.length : Int)).bind fun z14 =>
 if (!z14.2) = true then (
 some ((MatrixProof.mk [] [] (Proof.mk [] [] [])), false)) else (
 (zeH a0 a1 z14.1 a2 a3 a4 a5).bind fun z16 =>
 some (z16, true))))
theorem zhC : ∀ {a0} {a1} {a2} {a3} {a4} {a5} {r}, zbB a0 a1 a2 a3 a4 a5 = some r → PCalls Tryz.prog 20 [(.sh, vE a0), (.sh, .int .i64 a1), (.sh, vH a2), (.sh, vC a3), (.sh, vC a4), (.sh, vC a5)] (Eo (.tup [vN r.1, .bool r.2]) [.junk, .junk, .junk, .junk, .junk, .junk]) := by
 intro a0 a1 a2 a3 a4 a5 r hr
 apply pF 74 [] [] [] [.cell 12 59, .tmp 13] hr zEK Tryz.func20
 intro Φ hΦ hF g
 unfold zbB at hF
 iterate 2 (try simp [go_sem, g]; try intros; refine zay ?_)
 refine wJ hF (fun x3 => [(1, .v (.int .i64 a1)), (2, .v (vH a2)), (3, .v (vC a3)), (4, .v (vC a4)), (5, .v (vC a5)), (6, .bl [.int .i64 a0.P, .int .i64 a0.Q, .int .i64 a0.G]), (12, .bl [.sl true 1 [], .sl true 1 [], .sl true 1 [], .sl true 1 [], .sl true 1 []]), (14, .v (.int .i64 (a2.length : Int))), (55, .v (.bool x3))]) (fun x3 hF => ?_) fun _ hj1 hF => ?_
 ·refine wI hF (fun h13 hF => ?_) (fun h13 hF => ?_)
  ·cases hΦ _ (zaa hF)
   refine wW ?_
   try simp [go_sem, g]
  refine wW ?_
  refine wC hF [.sh, .sh] zjm (fun z14 hF => ?_)
  refine wK [1, 2, 3, 4, 5, 6, 12, 15, 16] ?_
  refine wW ?_
  refine wI hF (fun h15 hF => ?_) (fun h15 hF => ?_)
  ·cases hΦ _ (zaa hF)
   refine wW ?_
   try simp [go_sem, g]
  refine wW ?_
  refine wC hF [.sh, .sh, .sh, .sh, .sh, .sh, .sh] zn9 (fun z16 hF => ?_)
  refine wK [12, 13] ?_
  cases hΦ _ (zaa hF)
  try simp [go_sem, g]
 refine wC hF [.sh, .sh, .sh] zg4 (fun z4 hF => ?_)
 refine wG hF (fun h5 hF => ?_) fun h5 hF => ?_
 ·try simp [go_sem, g, h5]
  exact wT (hj1 _) (zaa hF)
 try simp [go_sem, g, h5]
 refine wC hF [.sh, .sh] zkr (fun z6 hF => ?_)
 try simp [go_sem, g, h5]
 refine wG hF (fun h7 hF => ?_) fun h7 hF => ?_
 ·try simp [go_sem, g, h7]
  exact wT (hj1 _) (zaa hF)
 try simp [go_sem, g, h7]
 try intros
 refine wG hF (fun h8 hF => ?_) fun h8 hF => ?_
 ·try simp [go_sem, g, h8]
  exact wT (hj1 _) (zaa hF)
 try simp [go_sem, g, h8]
 refine wC hF [.sh, .sh] zgZ (fun z9 hF => ?_)
 try simp [go_sem, g, h8]
 refine wG hF (fun h10 hF => ?_) fun h10 hF => ?_
 ·try simp [go_sem, g, h10]
  exact wT (hj1 _) (zaa hF)
 try simp [go_sem, g, h10]
 try intros
 refine wG hF (fun h11 hF => ?_) fun h11 hF => ?_
 ·try simp [go_sem, g, h11]
  exact wT (hj1 _) (zaa hF)
 try simp [go_sem, g, h11]
 refine wC hF [.sh, .sh] zgZ (fun z12 hF => ?_)
 try simp [go_sem, g, h11]
 exact wT (hj1 _) (zaa hF)
def zcO (a0 : Group) (a1 : Int) (a2 : List Cipher) (a3 : List Int) (a4 : List Int) : Option (List Cipher × Bool) :=
 (((zc4 a0 a1 a2).bind fun z4 =>
 if (!z4) = true then (
 some true) else (
 (zfd a3 (a2.length : Int)).bind fun z6 =>
 if (!z6) = true then (
 some true) else (
 if ((a4.length : Int) != (a2.length : Int)) = true then (
 some true) else (
 (zdw a0 a4).bind fun z9 =>
 some (!z9)))) : Option Bool).bind fun x3 =>
 if x3 = true then (
 some ([], false)) else (
 (zfF a0 a1 a2 a3 a4).bind fun z11 =>
 some (z11, true)))
theorem zlt : ∀ {a0} {a1} {a2} {a3} {a4} {r}, zcO a0 a1 a2 a3 a4 = some r → PCalls Tryz.prog 73 [(.sh, vE a0), (.sh, .int .i64 a1), (.sh, vH a2), (.sh, vC a3), (.sh, vC a4)] (Eo (.tup [vG r.1, .bool r.2]) [.junk, .junk, .junk, .junk, .junk]) := by
 intro a0 a1 a2 a3 a4 r hr
 apply pF 43 [] [] [] [.tmp 10, .tmp 11] hr zGg Tryz.func73
 intro Φ hΦ hF g
 unfold zcO at hF
 refine wW ?_
 refine wJ hF (fun x3 => [(1, .v (.int .i64 a1)), (2, .v (vH a2)), (3, .v (vC a3)), (4, .v (vC a4)), (5, .bl [.int .i64 a0.P, .int .i64 a0.Q, .int .i64 a0.G]), (36, .v (.bool x3))]) (fun x3 hF => ?_) fun _ hj1 hF => ?_
 ·refine wI hF (fun h10 hF => ?_) (fun h10 hF => ?_)
  ·cases hΦ _ (zaa hF)
   refine wW ?_
   try simp [go_sem, g]
  refine wW ?_
  refine wC hF [.sh, .sh, .sh, .sh, .sh] zlO (fun z11 hF => ?_)
  refine wK [10, 11] ?_
  cases hΦ _ (zaa hF)
  try simp [go_sem, g]
 refine wC hF [.sh, .sh, .sh] zg4 (fun z4 hF => ?_)
 refine wG hF (fun h5 hF => ?_) fun h5 hF => ?_
 ·try simp [go_sem, g, h5]
  exact wT (hj1 _) (zaa hF)
 try simp [go_sem, g, h5]
 try intros
 refine wC hF [.sh, .sh] zkr (fun z6 hF => ?_)
 try simp [go_sem, g, h5]
 refine wG hF (fun h7 hF => ?_) fun h7 hF => ?_
 ·try simp [go_sem, g, h7]
  exact wT (hj1 _) (zaa hF)
 try simp [go_sem, g, h7]
 try intros
 refine wG hF (fun h8 hF => ?_) fun h8 hF => ?_
 ·try simp [go_sem, g, h8]
  exact wT (hj1 _) (zaa hF)
 try simp [go_sem, g, h8]
 refine wC hF [.sh, .sh] zgZ (fun z9 hF => ?_)
 try simp [go_sem, g, h8]
 exact wT (hj1 _) (zaa hF)
@[go_sem] def zwK : List DE := [d1 0 [5] 5, d2 1 [9] 5 9, d1 3 [5] 5, d2 4 [12] 5 12, d1 6 [5] 5, d2 7 [15] 5 15, d3 2 [10], d3 5 [13], d3 8 [16], d0 9 [11, 14, 17], d2 10 [5, 18] 5 5]
@[go_sem] def zxK : List DE := [d1 0 [5] 5, d2 1 [23] 5 23, d1 2 [5] 5, d2 3 [25] 5 25, d1 4 [5] 5, d2 5 [27] 5 27, d0 6 [24, 26, 28], d0 7 [0], d3 8 [30], ⟨9, [29, 31], [], none, true, true, false⟩, d0 10 [32], d0 11 [33]]
@[go_sem] def zmc : List DE := [d0 0 [7], d0 1 [8], d0 2 [0], d0 3 [0], d2 4 [4] 4 4, d0 6 [0], d2 7 [4] 4 4, d1 9 [4] 4, d2 10 [50] 4 50, d0 11 [7], d0 12 [8], d0 13 [52, 53], d0 14 [54], d0 15 [55], d3 5 [44, 45], d3 8 [47, 48], d0 16 [46, 49, 51, 56], ⟨17, [43, 57], [], none, true, true, true⟩, d0 18 [41, 42], d0 19 [59, 58]]
@[go_sem] def zmp : List DE := [d0 0 [7], d0 1 [8], d0 2 [0], d0 3 [0], d2 4 [4] 4 4, d0 6 [0], d2 7 [4] 4 4, d1 9 [4] 4, d2 10 [50] 4 50, d0 11 [7], d0 12 [8], d0 13 [52, 53], d3 5 [44, 45], d0 14 [54], d0 15 [55], d3 8 [47, 48], d0 16 [46, 49, 51, 56], ⟨17, [43, 57], [], none, true, true, true⟩, d0 18 [41, 42], d0 19 [59, 58]]
@[go_sem] def zml : List DE := [d0 0 [7], d0 1 [8], d0 2 [0], d0 3 [0], d2 4 [4] 4 4, d0 6 [0], d2 7 [4] 4 4, d1 9 [4] 4, d2 10 [50] 4 50, d0 11 [7], d0 12 [8], d0 13 [52, 53], d3 5 [44, 45], d3 8 [47, 48], d0 14 [54], d0 15 [55], d0 16 [46, 49, 51, 56], ⟨17, [43, 57], [], none, true, true, true⟩, d0 18 [41, 42], d0 19 [59, 58]]
def zc6 (a0c0 : List Int) (a0c1 : Int) (a0c2 : Int) (a1 : Group) (a2 : Proof) : Option (Proof × (List Int × Int × Int)) :=
 (zdy a2.Commits).bind fun z1 =>
 (zdy a2.Challenges).bind fun z2 =>
 (zdy a2.Responses).bind fun z3 =>
 (zbK a0c0 a0c1 a0c2 3).bind fun z4 =>
 if (!z4.1) = true then (
 some ((Proof.mk z1 z2 z3), (z4.2.1, z4.2.2.1, z4.2.2.2))) else (
 (zag z4.2.1 z4.2.2.1 z4.2.2.2 3).bind fun z6 =>
 if (z6.1 == 0) = true then (
 ((if decide (0 < (z1.length : Int)) = true then (
 (zag z6.2.1 z6.2.2.1 z6.2.2.2 (z1.length : Int)).bind fun z11 =>
 (ix z1 z11.1).bind fun x12 =>
 (zbb z11.2.1 z11.2.2.1 z11.2.2.2 a1).bind fun z13 =>
 (zaR z13.2.1 z13.2.2.1 z13.2.2.2 a1).bind fun z14 =>
 (zao z14.2.1 z14.2.2.1 z14.2.2.2 [z13.1, z14.1, (-1), a1.Q, i64.wrap (x12 + 1)]).bind fun z15 =>
 some ((z15.2.1, z15.2.2.1, z15.2.2.2), z1.set z11.1.toNat z15.1, z2, z3)) else (
 some ((z6.2.1, z6.2.2.1, z6.2.2.2), z1, z2, z3)) : Option (((List Int × Int × Int) × List Int × List Int × List Int))).bind fun x9 =>
 (zag x9.1.1 x9.1.2.1 x9.1.2.2 10).bind fun z16 =>
 ((if (z16.1 == 0) = true then (
 gd ((x9.2.1.length + 1) * 8 ≤ 140737488355328 ∧ x9.2.1.length + 1 ≤ 4611686018427387904) <|
 some (x9.2.1 ++ [1], x9.2.2.1, x9.2.2.2)) else (
 if (z16.1 == 1) = true then (
 some (x9.2.1, x9.2.2.1, [])) else (
 if (z16.1 == 2) = true then (
 gd ((x9.2.2.1.length + 1) * 8 ≤ 140737488355328 ∧ x9.2.2.1.length + 1 ≤ 4611686018427387904) <|
 some (x9.2.1, x9.2.2.1 ++ [0], x9.2.2.2)) else (
 some (x9.2.1, x9.2.2.1, x9.2.2.2)))) : Option ((List Int × List Int × List Int))).bind fun x19 =>
 some ((Proof.mk x19.1 x19.2.1 x19.2.2), (z16.2.1, z16.2.2.1, z16.2.2.2))))) else (
 if (z6.1 == 1) = true then (
 ((if decide (0 < (z2.length : Int)) = true then (
 (zag z6.2.1 z6.2.2.1 z6.2.2.2 (z2.length : Int)).bind fun z27 =>
 (ix z2 z27.1).bind fun x28 =>
 (zbb z27.2.1 z27.2.2.1 z27.2.2.2 a1).bind fun z29 =>
 (zaR z29.2.1 z29.2.2.1 z29.2.2.2 a1).bind fun z30 =>
 (zao z30.2.1 z30.2.2.1 z30.2.2.2 [z29.1, z30.1, (-1), a1.Q, i64.wrap (x28 + 1)]).bind fun z31 =>
 some ((z31.2.1, z31.2.2.1, z31.2.2.2), z1, z2.set z27.1.toNat z31.1, z3)) else (
 some ((z6.2.1, z6.2.2.1, z6.2.2.2), z1, z2, z3)) : Option (((List Int × Int × Int) × List Int × List Int × List Int))).bind fun x25 =>
 (zag x25.1.1 x25.1.2.1 x25.1.2.2 10).bind fun z32 =>
 ((if (z32.1 == 0) = true then (
 gd ((x25.2.1.length + 1) * 8 ≤ 140737488355328 ∧ x25.2.1.length + 1 ≤ 4611686018427387904) <|
 some (x25.2.1 ++ [1], x25.2.2.1, x25.2.2.2)) else (
 if (z32.1 == 1) = true then (
 some (x25.2.1, x25.2.2.1, [])) else (
 if (z32.1 == 2) = true then (
 gd ((x25.2.2.1.length + 1) * 8 ≤ 140737488355328 ∧ x25.2.2.1.length + 1 ≤ 4611686018427387904) <|
 some (x25.2.1, x25.2.2.1 ++ [0], x25.2.2.2)) else (
 some (x25.2.1, x25.2.2.1, x25.2.2.2)))) : Option ((List Int × List Int × List Int))).bind fun x35 =>
 some ((Proof.mk x35.1 x35.2.1 x35.2.2), (z32.2.1, z32.2.2.1, z32.2.2.2))))) else (
 if (z6.1 == 2) = true then (
 ((if decide (0 < (z3.length : Int)) = true then (
 (zag z6.2.1 z6.2.2.1 z6.2.2.2 (z3.length : Int)).bind fun z43 =>
 (ix z3 z43.1).bind fun x44 =>
 (zbb z43.2.1 z43.2.2.1 z43.2.2.2 a1).bind fun z45 =>
 (zaR z45.2.1 z45.2.2.1 z45.2.2.2 a1).bind fun z46 =>
 (zao z46.2.1 z46.2.2.1 z46.2.2.2 [z45.1, z46.1, (-1), a1.Q, i64.wrap (x44 + 1)]).bind fun z47 =>
 some ((z47.2.1, z47.2.2.1, z47.2.2.2), z1, z2, z3.set z43.1.toNat z47.1)) else (
 some ((z6.2.1, z6.2.2.1, z6.2.2.2), z1, z2, z3)) : Option (((List Int × Int × Int) × List Int × List Int × List Int))).bind fun x41 =>
 (zag x41.1.1 x41.1.2.1 x41.1.2.2 10).bind fun z48 =>
 ((if (z48.1 == 0) = true then (
 gd ((x41.2.1.length + 1) * 8 ≤ 140737488355328 ∧ x41.2.1.length + 1 ≤ 4611686018427387904) <|
 some (x41.2.1 ++ [1], x41.2.2.1, x41.2.2.2)) else (
 if (z48.1 == 1) = true then (
 some (x41.2.1, x41.2.2.1, [])) else (
 if (z48.1 == 2) = true then (
 gd ((x41.2.2.1.length + 1) * 8 ≤ 140737488355328 ∧ x41.2.2.1.length + 1 ≤ 4611686018427387904) <|
 some (x41.2.1, x41.2.2.1 ++ [0], x41.2.2.2)) else (
 some (x41.2.1, x41.2.2.1, x41.2.2.2)))) : Option ((List Int × List Int × List Int))).bind fun x51 =>
 some ((Proof.mk x51.1 x51.2.1 x51.2.2), (z48.2.1, z48.2.2.1, z48.2.2.2))))) else (
 none))))
set_option maxHeartbeats 1000000 in
theorem zje : ∀ {a0c0} {a0c1} {a0c2} {a1} {a2} {r}, zc6 a0c0 a0c1 a0c2 a1 a2 = some r → PCalls Tryz.prog 142 [(.io, vB a0c0 a0c1 a0c2), (.sh, vE a1), (.sh, vO a2)] (Eo (vP r.1) [vB r.2.1 r.2.2.1 r.2.2.2, .junk, .junk]) := by
 intro a0c0 a0c1 a0c2 a1 a2 r hr
 apply pF 80 [0] [167, 189] [] [.cell 6 52] hr zBg Tryz.func142
 intro Φ hΦ hF g
 unfold zc6 at hF
 refine wW ?_
 refine wX zwK follows ?_
 refine wC hF [.sh] zfc (fun z1 hF => ?_)
 refine wC hF [.sh] zfc (fun z2 hF => ?_)
 refine wC hF [.sh] zfc (fun z3 hF => ?_)
 refine wK [0, 4, 5, 6] ?_
 refine wC hF [.io, .sh] zd6 (fun z4 hF => ?_)
 refine wW ?_
 refine wI hF (fun h5 hF => ?_) (fun h5 hF => ?_)
 ·cases hΦ _ (zaa hF)
  refine wW ?_
  try simp [go_sem, g]
 refine wW ?_
 refine wX zxK follows ?_
 refine wC hF [.io, .sh] zah (fun z6 hF => ?_)
 refine pX g hF (fun g hF => ?_) fun hF => ?_
 ·refine wK [0, 4, 5, 6, 7] ?_
  try simp [go_sem, g]
  try intros
  refine zay ?_
  refine wJ hF (fun x9 => [(0, .v (vB x9.1.1 x9.1.2.1 x9.1.2.2)), (5, .bl [vD x9.2.1, vD x9.2.2.1, vD x9.2.2.2]), (6, .bl [.sl true 1 [], .sl true 1 [], .sl true 1 []])]) (fun x9 hF => ?_) fun _ hj7 hF => ?_
  ·refine wC hF [.io, .sh] zah (fun z16 hF => ?_)
   refine wW ?_
   refine wJ hF (fun x19 => [(0, .v (vB z16.2.1 z16.2.2.1 z16.2.2.2)), (5, .bl [vD x19.1, vD x19.2.1, vD x19.2.2]), (6, .bl [.sl true 1 [], .sl true 1 [], .sl true 1 []])]) (fun x19 hF => ?_) fun _ hj17 hF => ?_
   ·cases hΦ _ (zaa hF)
    refine wW ?_
    try simp [go_sem, g]
   refine wB ?_
   refine wW ?_
   refine wI hF (fun h20 hF => ?_) (fun h20 hF => ?_)
   ·obtain ⟨g, hF⟩ := Rg g hF
    exact wT (hj17 _) (zaa hF)
   refine wW ?_
   refine wI hF (fun h21 hF => ?_) (fun h21 hF => ?_)
   ·exact wT (hj17 _) (zaa hF)
   refine wK [0, 5, 6, 72] ?_
   refine wI hF (fun h22 hF => ?_) (fun h22 hF => ?_)
   ·obtain ⟨g, hF⟩ := Rg g hF
    exact wT (hj17 _) (zaa hF)
   exact wT (hj17 _) (zaa hF)
  refine wI hF (fun h10 hF => ?_) (fun h10 hF => ?_)
  ·try simp [go_sem, g]
   try intros
   refine wC hF [.io, .sh] zah (fun z11 hF => ?_)
   refine wW ?_
   repeat rw [sq]
   refine zlW 14 5 14 8 0 1 zmc zmp zml follows (by decide) (by kernel_rfl) (by kernel_rfl) (by kernel_rfl) (by kernel_rfl) rfl rfl rfl ?_ ?_ ?_
   ·obtain ⟨x12, g, hF⟩ := Rx g hF
    refine wC hF [.io, .sh] za2 (fun z13 hF => ?_)
    refine wC hF [.io, .sh] zaL (fun z14 hF => ?_)
    refine wC hF [.io, .mv] zak (fun z15 hF => ?_)
    exact wT (hj7 _) (zaa hF)
   ·obtain ⟨x12, g, hF⟩ := Rx g hF
    refine wC hF [.io, .sh] za2 (fun z13 hF => ?_)
    refine wC hF [.io, .sh] zaL (fun z14 hF => ?_)
    refine wC hF [.io, .mv] zak (fun z15 hF => ?_)
    exact wT (hj7 _) (zaa hF)
   obtain ⟨x12, g, hF⟩ := Rx g hF
   refine wC hF [.io, .sh] za2 (fun z13 hF => ?_)
   refine wC hF [.io, .sh] zaL (fun z14 hF => ?_)
   refine wC hF [.io, .mv] zak (fun z15 hF => ?_)
   exact wT (hj7 _) (zaa hF)
  exact wT (hj7 _) (zaa hF)
 refine pX g hF (fun g hF => ?_) fun hF => ?_
 ·refine wK [0, 4, 5, 6, 7] ?_
  try simp [go_sem, g]
  try intros
  refine zay ?_
  refine wJ hF (fun x25 => [(0, .v (vB x25.1.1 x25.1.2.1 x25.1.2.2)), (5, .bl [vD x25.2.1, vD x25.2.2.1, vD x25.2.2.2]), (6, .bl [.sl true 1 [], .sl true 1 [], .sl true 1 []])]) (fun x25 hF => ?_) fun _ hj23 hF => ?_
  ·refine wC hF [.io, .sh] zah (fun z32 hF => ?_)
   refine wW ?_
   refine wJ hF (fun x35 => [(0, .v (vB z32.2.1 z32.2.2.1 z32.2.2.2)), (5, .bl [vD x35.1, vD x35.2.1, vD x35.2.2]), (6, .bl [.sl true 1 [], .sl true 1 [], .sl true 1 []])]) (fun x35 hF => ?_) fun _ hj33 hF => ?_
   ·cases hΦ _ (zaa hF)
    refine wW ?_
    try simp [go_sem, g]
   refine wB ?_
   refine wW ?_
   refine wI hF (fun h36 hF => ?_) (fun h36 hF => ?_)
   ·obtain ⟨g, hF⟩ := Rg g hF
    exact wT (hj33 _) (zaa hF)
   refine wW ?_
   refine wI hF (fun h37 hF => ?_) (fun h37 hF => ?_)
   ·exact wT (hj33 _) (zaa hF)
   refine wK [0, 5, 6, 72] ?_
   refine wI hF (fun h38 hF => ?_) (fun h38 hF => ?_)
   ·obtain ⟨g, hF⟩ := Rg g hF
    exact wT (hj33 _) (zaa hF)
   exact wT (hj33 _) (zaa hF)
  refine wI hF (fun h26 hF => ?_) (fun h26 hF => ?_)
  ·try simp [go_sem, g]
   try intros
   refine wC hF [.io, .sh] zah (fun z27 hF => ?_)
   refine wW ?_
   repeat rw [sq]
   refine zlW 14 5 14 8 0 1 zmc zmp zml follows (by decide) (by kernel_rfl) (by kernel_rfl) (by kernel_rfl) (by kernel_rfl) rfl rfl rfl ?_ ?_ ?_
   ·obtain ⟨x28, g, hF⟩ := Rx g hF
    refine wC hF [.io, .sh] za2 (fun z29 hF => ?_)
    refine wC hF [.io, .sh] zaL (fun z30 hF => ?_)
    refine wC hF [.io, .mv] zak (fun z31 hF => ?_)
    exact wT (hj23 _) (zaa hF)
   ·obtain ⟨x28, g, hF⟩ := Rx g hF
    refine wC hF [.io, .sh] za2 (fun z29 hF => ?_)
    refine wC hF [.io, .sh] zaL (fun z30 hF => ?_)
    refine wC hF [.io, .mv] zak (fun z31 hF => ?_)
    exact wT (hj23 _) (zaa hF)
   obtain ⟨x28, g, hF⟩ := Rx g hF
   refine wC hF [.io, .sh] za2 (fun z29 hF => ?_)
   refine wC hF [.io, .sh] zaL (fun z30 hF => ?_)
   refine wC hF [.io, .mv] zak (fun z31 hF => ?_)
   exact wT (hj23 _) (zaa hF)
  exact wT (hj23 _) (zaa hF)
 refine pX g hF (fun g hF => ?_) fun hF => ?_
 ·refine wK [0, 4, 5, 6, 7] ?_
  try simp [go_sem, g]
  try intros
  refine zay ?_
  refine wJ hF (fun x41 => [(0, .v (vB x41.1.1 x41.1.2.1 x41.1.2.2)), (5, .bl [vD x41.2.1, vD x41.2.2.1, vD x41.2.2.2]), (6, .bl [.sl true 1 [], .sl true 1 [], .sl true 1 []])]) (fun x41 hF => ?_) fun _ hj39 hF => ?_
  ·refine wC hF [.io, .sh] zah (fun z48 hF => ?_)
   refine wW ?_
   refine wJ hF (fun x51 => [(0, .v (vB z48.2.1 z48.2.2.1 z48.2.2.2)), (5, .bl [vD x51.1, vD x51.2.1, vD x51.2.2]), (6, .bl [.sl true 1 [], .sl true 1 [], .sl true 1 []])]) (fun x51 hF => ?_) fun _ hj49 hF => ?_
   ·cases hΦ _ (zaa hF)
    refine wW ?_
    try simp [go_sem, g]
   refine wB ?_
   refine wW ?_
   refine wI hF (fun h52 hF => ?_) (fun h52 hF => ?_)
   ·obtain ⟨g, hF⟩ := Rg g hF
    exact wT (hj49 _) (zaa hF)
   refine wW ?_
   refine wI hF (fun h53 hF => ?_) (fun h53 hF => ?_)
   ·exact wT (hj49 _) (zaa hF)
   refine wK [0, 5, 6, 72] ?_
   refine wI hF (fun h54 hF => ?_) (fun h54 hF => ?_)
   ·obtain ⟨g, hF⟩ := Rg g hF
    exact wT (hj49 _) (zaa hF)
   exact wT (hj49 _) (zaa hF)
  refine wI hF (fun h42 hF => ?_) (fun h42 hF => ?_)
  ·try simp [go_sem, g]
   try intros
   refine wC hF [.io, .sh] zah (fun z43 hF => ?_)
   refine wW ?_
   repeat rw [sq]
   refine zlW 14 5 14 8 0 1 zmc zmp zml follows (by decide) (by kernel_rfl) (by kernel_rfl) (by kernel_rfl) (by kernel_rfl) rfl rfl rfl ?_ ?_ ?_
   ·obtain ⟨x44, g, hF⟩ := Rx g hF
    refine wC hF [.io, .sh] za2 (fun z45 hF => ?_)
    refine wC hF [.io, .sh] zaL (fun z46 hF => ?_)
    refine wC hF [.io, .mv] zak (fun z47 hF => ?_)
    exact wT (hj39 _) (zaa hF)
   ·obtain ⟨x44, g, hF⟩ := Rx g hF
    refine wC hF [.io, .sh] za2 (fun z45 hF => ?_)
    refine wC hF [.io, .sh] zaL (fun z46 hF => ?_)
    refine wC hF [.io, .mv] zak (fun z47 hF => ?_)
    exact wT (hj39 _) (zaa hF)
   obtain ⟨x44, g, hF⟩ := Rx g hF
   refine wC hF [.io, .sh] za2 (fun z45 hF => ?_)
   refine wC hF [.io, .sh] zaL (fun z46 hF => ?_)
   refine wC hF [.io, .mv] zak (fun z47 hF => ?_)
   exact wT (hj39 _) (zaa hF)
  exact wT (hj39 _) (zaa hF)
 exact (znx hF).elim
@[go_sem] def zy1 : List DE := [d1 0 [5] 5, d2 1 [7] 5 7, d1 3 [5] 5, d2 4 [10] 5 10, d0 6 [0], d2 7 [4] 4 4, d1 8 [5] 5, d2 9 [15] 5 15, d3 2 [8], d3 5 [11], d3 10 [13, 14, 16], d0 11 [9, 12, 17], d2 12 [5, 18] 5 5]
@[go_sem] def zz2 : List DE := [d1 0 [5] 5, d2 1 [27] 5 27, d0 2 [0], d1 3 [5] 5, d2 4 [30] 5 30, d0 5 [31], d0 7 [0], d2 8 [4] 4 4, d3 6 [29, 32], d3 9 [34, 35], d0 10 [28, 33], d0 11 [37, 36]]
@[go_sem] def zA2 : List DE := [d1 0 [5] 5, d2 1 [44] 5 44, d0 2 [0], d1 3 [5] 5, d2 4 [47] 5 47, d0 5 [48], d0 7 [0], d2 8 [4] 4 4, d3 6 [46, 49], d3 9 [51, 52], d0 10 [45, 50], d0 11 [54, 53]]
def zb6 (a0c0 : List Int) (a0c1 : Int) (a0c2 : Int) (a1 : Group) (a2 : MatrixProof) : Option (MatrixProof × (List Int × Int × Int)) :=
 (zdy a2.Columns).bind fun z1 =>
 (zdy a2.Chain).bind fun z2 =>
 (zc6 a0c0 a0c1 a0c2 a1 a2.Pi).bind fun z3 =>
 (zag z3.2.1 z3.2.2.1 z3.2.2.2 12).bind fun z4 =>
 ((if (z4.1 == 0) = true then (
 if decide (0 < (z1.length : Int)) = true then (
 (zag z4.2.1 z4.2.2.1 z4.2.2.2 (z1.length : Int)).bind fun z10 =>
 (zaW z10.2.1 z10.2.2.1 z10.2.2.2 a1).bind fun z11 =>
 (ix z1 z10.1).bind fun x12 =>
 some ((z11.2.1, z11.2.2.1, z11.2.2.2), z1.set z10.1.toNat z11.1, z2, z3.1.Commits, z3.1.Challenges, z3.1.Responses)) else (
 some ((z4.2.1, z4.2.2.1, z4.2.2.2), z1, z2, z3.1.Commits, z3.1.Challenges, z3.1.Responses))) else (
 if (z4.1 == 1) = true then (
 if decide (0 < (z2.length : Int)) = true then (
 (zag z4.2.1 z4.2.2.1 z4.2.2.2 (z2.length : Int)).bind fun z15 =>
 (zaW z15.2.1 z15.2.2.1 z15.2.2.2 a1).bind fun z16 =>
 (ix z2 z15.1).bind fun x17 =>
 some ((z16.2.1, z16.2.2.1, z16.2.2.2), z1, z2.set z15.1.toNat z16.1, z3.1.Commits, z3.1.Challenges, z3.1.Responses)) else (
 some ((z4.2.1, z4.2.2.1, z4.2.2.2), z1, z2, z3.1.Commits, z3.1.Challenges, z3.1.Responses))) else (
 if (z4.1 == 2) = true then (
 gd ((z2.length + 1) * 8 ≤ 140737488355328 ∧ z2.length + 1 ≤ 4611686018427387904) <|
 some ((z4.2.1, z4.2.2.1, z4.2.2.2), z1, z2 ++ [1], z3.1.Commits, z3.1.Challenges, z3.1.Responses)) else (
 some ((z4.2.1, z4.2.2.1, z4.2.2.2), z1, z2, z3.1.Commits, z3.1.Challenges, z3.1.Responses)))) : Option (((List Int × Int × Int) × List Int × List Int × List Int × List Int × List Int))).bind fun x7 =>
 some ((MatrixProof.mk x7.2.1 x7.2.2.1 (Proof.mk x7.2.2.2.1 x7.2.2.2.2.1 x7.2.2.2.2.2)), (x7.1.1, x7.1.2.1, x7.1.2.2)))
theorem zhn : ∀ {a0c0} {a0c1} {a0c2} {a1} {a2} {r}, zb6 a0c0 a0c1 a0c2 a1 a2 = some r → PCalls Tryz.prog 76 [(.io, vB a0c0 a0c1 a0c2), (.sh, vE a1), (.sh, vL a2)] (Eo (vN r.1) [vB r.2.1 r.2.2.1 r.2.2.2, .junk, .junk]) := by
 intro a0c0 a0c1 a0c2 a1 a2 r hr
 apply pF 63 [0] [] [] [.cell 6 59] hr zGY Tryz.func76
 intro Φ hΦ hF g
 unfold zb6 at hF
 refine wW ?_
 refine wX zy1 follows ?_
 refine wC hF [.sh] zfc (fun z1 hF => ?_)
 refine wC hF [.sh] zfc (fun z2 hF => ?_)
 refine wC hF [.io, .sh, .sh] zje (fun z3 hF => ?_)
 refine wK [0, 4, 5, 6] ?_
 refine wC hF [.io, .sh] zah (fun z4 hF => ?_)
 refine wW ?_
 refine wJ hF (fun x7 => [(0, .v (vB x7.1.1 x7.1.2.1 x7.1.2.2)), (5, .bl [vD x7.2.1, vD x7.2.2.1, vD x7.2.2.2.1, vD x7.2.2.2.2.1, vD x7.2.2.2.2.2]), (6, .bl [.sl true 1 [], .sl true 1 [], .sl true 1 [], .sl true 1 [], .sl true 1 []])]) (fun x7 hF => ?_) fun _ hj5 hF => ?_
 ·cases hΦ _ (zaa hF)
  refine wW ?_
  try simp [go_sem, g]
 refine wB ?_
 refine wW ?_
 refine wI hF (fun h8 hF => ?_) (fun h8 hF => ?_)
 ·try simp [go_sem, g]
  try intros
  refine zay ?_
  refine wI hF (fun h9 hF => ?_) (fun h9 hF => ?_)
  ·refine wX zz2 follows ?_
   try simp [go_sem, g]
   try intros
   refine wC hF [.io, .sh] zah (fun z10 hF => ?_)
   refine wC hF [.io, .sh] zb0 (fun z11 hF => ?_)
   obtain ⟨x12, g, hF⟩ := Rx g hF
   exact wT (hj5 _) (zaa hF)
  exact wT (hj5 _) (zaa hF)
 refine wW ?_
 refine wI hF (fun h13 hF => ?_) (fun h13 hF => ?_)
 ·try simp [go_sem, g]
  try intros
  refine wK [0, 4, 5, 6, 43] ?_
  refine wI hF (fun h14 hF => ?_) (fun h14 hF => ?_)
  ·refine wX zA2 follows ?_
   try simp [go_sem, g]
   try intros
   refine wC hF [.io, .sh] zah (fun z15 hF => ?_)
   refine wC hF [.io, .sh] zb0 (fun z16 hF => ?_)
   obtain ⟨x17, g, hF⟩ := Rx g hF
   exact wT (hj5 _) (zaa hF)
  exact wT (hj5 _) (zaa hF)
 refine wW ?_
 refine wI hF (fun h18 hF => ?_) (fun h18 hF => ?_)
 ·obtain ⟨g, hF⟩ := Rg g hF
  exact wT (hj5 _) (zaa hF)
 exact wT (hj5 _) (zaa hF)
@[go_sem] def zAx : List DE := [d0 0 [14], d0 1 [7], d0 2 [14], d0 3 [56], d0 5 [7], d2 6 [8] 8 8, d3 4 [55, 57], d3 7 [59, 60], d0 8 [54, 58], d0 9 [62, 61]]
@[go_sem] def zBe : List DE := [d2 0 [8] 8 8, d0 1 [9], d0 2 [10], d0 3 [14], d0 4 [7], d2 5 [8] 8 8, d2 6 [16] 16 16, d3 7 [67, 68, 69], d2 8 [2, 63] 2 2, d0 9 [64], d0 10 [65], d0 11 [66], d2 12 [6, 70] 6 6]
def zcL (a0 : List Int) : Option (Group × Int × List Cipher × List Cipher × MatrixProof) :=
 (zcn a0).bind fun z1 =>
 (zcO z1.1 z1.2.1 z1.2.2.1 z1.2.2.2.1 z1.2.2.2.2.1).bind fun z2 =>
 (zbB z1.1 z1.2.1 z1.2.2.1 z1.2.2.2.1 z1.2.2.2.2.1 z1.2.2.2.2.2).bind fun z3 =>
 ((if z2.2 = true then (
 (zbK a0 0 0 6).bind fun z8 =>
 some ((z8.2.1, z8.2.2.1, z8.2.2.2), z8.1)) else (
 some ((a0, 0, 0), false)) : Option (((List Int × Int × Int) × Bool))).bind fun x6 =>
 ((if x6.2 = true then (
 (zag x6.1.1 x6.1.2.1 x6.1.2.2 (z2.1.length : Int)).bind fun z13 =>
 (zbI z13.2.1 z13.2.2.1 z13.2.2.2 z1.1).bind fun z14 =>
 (ix z2.1 z13.1).bind fun x15 =>
 some ((z14.2.1, z14.2.2.1, z14.2.2.2), z2.1.set z13.1.toNat z14.1)) else (
 some ((x6.1.1, x6.1.2.1, x6.1.2.2), z2.1)) : Option (((List Int × Int × Int) × List Cipher))).bind fun x11 =>
 (zb6 x11.1.1 x11.1.2.1 x11.1.2.2 z1.1 z3.1).bind fun z16 =>
 some (z1.1, z1.2.1, z1.2.2.1, x11.2, z16.1)))
theorem ziI : ∀ {a0} {r}, zcL a0 = some r → PCalls Tryz.prog 21 [(.sh, vA a0)] (Eo (.tup [vE r.1, .int .i64 r.2.1, vG r.2.2.1, vG r.2.2.2.1, vN r.2.2.2.2]) [.junk]) := by
 intro a0 r hr
 apply pF 71 [] [69] [20] [.cell 2 24, .tmp 3, .tmp 4, .tmp 5, .cell 6 59] hr zEG Tryz.func21
 intro Φ hΦ hF g
 unfold zcL at hF
 iterate 2 refine wW ?_
 refine wC hF [.sh] zgs (fun z1 hF => ?_)
 refine wK [2, 6, 7, 8, 9, 10, 11, 12, 13] ?_
 refine wC hF [.sh, .sh, .sh, .sh, .sh] zlt (fun z2 hF => ?_)
 refine wK [2, 6, 7, 8, 9, 10, 11, 12, 13, 14, 15] ?_
 refine wC hF [.sh, .sh, .sh, .sh, .sh, .sh] zhC (fun z3 hF => ?_)
 refine wK [2, 6, 7, 8, 9, 10, 14, 15, 16] ?_
 refine wJ hF (fun x6 => [(2, .bl [.int .i64 0, .int .i64 0, .int .i64 0]), (6, .bl [.sl true 1 [], .sl true 1 [], .sl true 1 [], .sl true 1 [], .sl true 1 []]), (7, .v (vB x6.1.1 x6.1.2.1 x6.1.2.2)), (8, .bl [.int .i64 z1.1.P, .int .i64 z1.1.Q, .int .i64 z1.1.G]), (9, .v (.int .i64 z1.2.1)), (10, .v (vG z1.2.2.1)), (14, .v (vG z2.1)), (16, .bl [vD z3.1.Columns, vD z3.1.Chain, vD z3.1.Pi.Commits, vD z3.1.Pi.Challenges, vD z3.1.Pi.Responses]), (53, .v (.bool x6.2))]) (fun x6 hF => ?_) fun _ hj4 hF => ?_
 ·refine wJ hF (fun x11 => [(2, .bl [.int .i64 0, .int .i64 0, .int .i64 0]), (6, .bl [.sl true 1 [], .sl true 1 [], .sl true 1 [], .sl true 1 [], .sl true 1 []]), (7, .v (vB x11.1.1 x11.1.2.1 x11.1.2.2)), (8, .bl [.int .i64 z1.1.P, .int .i64 z1.1.Q, .int .i64 z1.1.G]), (9, .v (.int .i64 z1.2.1)), (10, .v (vG z1.2.2.1)), (14, .v (vG x11.2)), (16, .bl [vD z3.1.Columns, vD z3.1.Chain, vD z3.1.Pi.Commits, vD z3.1.Pi.Challenges, vD z3.1.Pi.Responses])]) (fun x11 hF => ?_) fun _ hj9 hF => ?_
  ·refine wX zBe follows ?_
   refine wC hF [.io, .sh, .sh] zhn (fun z16 hF => ?_)
   refine wK [2, 3, 4, 5, 6] ?_
   cases hΦ _ (zaa hF)
   try simp [go_sem, g]
  refine wI hF (fun h12 hF => ?_) (fun h12 hF => ?_)
  ·refine wX zAx follows ?_
   try simp [go_sem, g]
   try intros
   refine wC hF [.io, .sh] zah (fun z13 hF => ?_)
   refine wC hF [.io, .sh] zfh (fun z14 hF => ?_)
   obtain ⟨x15, g, hF⟩ := Rx g hF
   exact wT (hj9 _) (zaa hF)
  exact wT (hj9 _) (zaa hF)
 refine wG hF (fun h7 hF => ?_) fun h7 hF => ?_
 ·try simp [go_sem, g, h7]
  refine wC hF [.io, .sh] zd6 (fun z8 hF => ?_)
  try simp [go_sem, g, h7]
  exact wT (hj4 _) (zaa hF)
 try simp [go_sem, g, h7]
 exact wT (hj4 _) (zaa hF)
def zbN (a0 : Int) (a1c0x0 : Group) : Option Bool :=
 (zcD a1c0x0 a0).bind fun z1 =>
 some (!z1)
theorem zgS : ∀ {a0} {a1c0x0} {r}, zbN a0 a1c0x0 = some r → PCalls Tryz.prog 155 [(.sh, .int .i64 a0), (.sh, .fp [.func (.func 60) [vE a1c0x0] []])] (Eo (.bool r) [.junk, .junk]) := by
 intro a0 a1c0x0 r hr
 apply pF 8 [] [] [] [.tmp 3] hr zot Tryz.func155
 intro Φ hΦ hF g
 unfold zbN at hF
 refine wW ?_
 refine wC hF [.sh] zfu (fun z1 hF => ?_)
 cases hΦ _ (zaa hF)
 refine wW ?_
 try simp [go_sem, g]
def zaU (a0 : List Int) (a1u0c0x0 : Group) : Option Int :=
 ((zar (σ := Unit) (fun i5 s4 =>
 (ix a0 i5).bind fun x11 =>
 (zbN x11 a1u0c0x0).bind fun z12 =>
 if z12 = true then (
 some (.out (.inr i5))) else (
 some (.go ()))) (fun s4 => .inl ()) (a0.length) 0 () : Option (Unit ⊕ Int)).bind (Sum.elim (fun x3 =>
 some (-1)) some))
theorem zdQ : ∀ {a0} {a1u0c0x0} {r}, zaU a0 a1u0c0x0 = some r → PCalls Tryz.prog 185 [(.sh, vC a0), (.sh, .func (.func 155) [] [.fp [.func (.func 60) [vE a1u0c0x0] []]])] (Eo (.int .i64 r) [.junk, .junk]) := by
 intro a0 a1u0c0x0 r hr
 apply pF 19 [] [] [] [.tmp 4] hr zoA Tryz.func185
 intro Φ hΦ hF g
 unfold zaU at hF
 iterate 2 (try simp [go_sem, g]; try intros; refine zay ?_)
 refine wS hF (fun x3 => []) (fun x3 hF => ?_) fun _ hj1 hr2 hF => ?_
 ·cases hΦ _ (zaa hF)
  refine wW ?_
  try simp [go_sem, g]
 refine wB ?_
 obtain ⟨b14, hb15, hψ8⟩ := hF
 refine pR hb15 (fun i5 s4 => [(0, .v (vC a0)), (1, .v (.func (.func 155) [] [.fp [.func (.func 60) [vE a1u0c0x0] []]])), (7, .v (.int .i64 (a0.length : Int))), (8, .v (.int .i64 i5))]) (fun s4 _ hN16 => ?_) (fun i5 s4 _ _ hi9 hi10 ho6 hg7 hF => ?_)
 ·subst hN16
  refine wW ?_
  refine wf ?_
  exact wT (hj1 _) hψ8
 refine wW ?_
 refine wt ?_ (hb := by simp [go_sem, g, hi9, hi10])
 refine wW ?_
 refine wB ?_
 obtain ⟨x11, g, hF⟩ := Rx g hF
 refine wW ?_
 refine wC hF [.sh] zgS (fun z12 hF => ?_)
 refine wK [0, 1, 5, 7, 8, 16] ?_
 refine wI hF (fun h13 hF => ?_) (fun h13 hF => ?_)
 ·cases ho6 _ (zaa hF)
  cases hΦ _ (hr2 _ hψ8)
  refine wW ?_
  try simp [go_sem, g]
 refine wW ?_
 exact wT (hg7 ()) (zaa hF) (a := by simp [go_sem, g, zbp hi9 hi10 (by assumption)])
def zaS (a0 : List Int) (a1u0c0x0 : Group) : Option Bool :=
 (zaU a0 a1u0c0x0).bind fun z1 =>
 some (decide (0 ≤ z1))
theorem zdE : ∀ {a0} {a1u0c0x0} {r}, zaS a0 a1u0c0x0 = some r → PCalls Tryz.prog 154 [(.sh, vC a0), (.sh, .func (.func 155) [] [.fp [.func (.func 60) [vE a1u0c0x0] []]])] (Eo (.bool r) [.junk, .junk]) := by
 intro a0 a1u0c0x0 r hr
 apply pF 9 [] [] [] [.tmp 4] hr zol Tryz.func154
 intro Φ hΦ hF g
 unfold zaS at hF
 refine wW ?_
 refine wC hF [.sh, .sh] zdQ (fun z1 hF => ?_)
 cases hΦ _ (zaa hF)
 refine wW ?_
 try simp [go_sem, g]
def zcx (a0 : List Int) (a1x0 : Group) : Option Bool :=
 (zaS a0 a1x0).bind fun z1 =>
 some (!z1)
theorem zhd : ∀ {a0} {a1x0} {r}, zcx a0 a1x0 = some r → PCalls Tryz.prog 91 [(.sh, vC a0), (.sh, .func (.func 60) [vE a1x0] [])] (Eo (.bool r) [.junk, .junk]) := by
 intro a0 a1x0 r hr
 apply pF 9 [] [] [1000000] [.tmp 4] hr zru Tryz.func91
 intro Φ hΦ hF g
 unfold zcx at hF
 refine wW ?_
 refine wC hF [.sh, .sh] zdE (fun z1 hF => ?_)
 cases hΦ _ (zaa hF)
 refine wW ?_
 try simp [go_sem, g]
def zbW (a0 : Group) (a1 : List Int) : Option Bool :=
 (zcx a1 a0).bind fun z1 =>
 some z1
theorem zeB : ∀ {a0} {a1} {r}, zbW a0 a1 = some r → PCalls Tryz.prog 49 [(.sh, vE a0), (.sh, vC a1)] (Eo (.bool r) [.junk, .junk]) := by
 intro a0 a1 r hr
 apply pF 9 [] [] [] [.tmp 4] hr zDn Tryz.func49
 intro Φ hΦ hF g
 unfold zbW at hF
 refine wW ?_
 refine wC hF [.sh, .sh] zhd (fun z1 hF => ?_)
 cases hΦ _ (zaa hF)
 refine wW ?_
 try simp [go_sem, g]
def zct (a0 : Group) (a1 : MatrixProof) (a2 : Int) : Option Bool :=
 ((if ((a1.Columns.length : Int) == a2) = true then (
 if ((a1.Chain.length : Int) == a2) = true then (
 if ((a1.Pi.Commits.length : Int) == (i64.wrap (a2 + 5))) = true then (
 if ((a1.Pi.Challenges.length : Int) == 1) = true then (
 if ((a1.Pi.Responses.length : Int) == (i64.wrap ((i64.wrap (2 * a2)) + 4))) = true then (
 (zbW a0 a1.Columns).bind fun z9 =>
 if z9 = true then (
 (zbW a0 a1.Chain).bind fun z11 =>
 if z11 = true then (
 (zbW a0 a1.Pi.Commits).bind fun z13 =>
 if z13 = true then (
 (zbm a0 a1.Pi.Responses).bind fun z15 =>
 some z15) else (
 some false)) else (
 some false)) else (
 some false)) else (
 some false)) else (
 some false)) else (
 some false)) else (
 some false)) else (
 some false) : Option Bool).bind fun x3 =>
 some x3)
theorem zh4 : ∀ {a0} {a1} {a2} {r}, zct a0 a1 a2 = some r → PCalls Tryz.prog 143 [(.sh, vE a0), (.sh, vL a1), (.sh, .int .i64 a2)] (Eo (.bool r) [.junk, .junk, .junk]) := by
 intro a0 a1 a2 r hr
 apply pF 71 [] [] [] [.tmp 6] hr zBn Tryz.func143
 intro Φ hΦ hF g
 unfold zct at hF
 refine wW ?_
 refine wJ hF (fun x3 => [(6, .v (.bool x3))]) (fun x3 hF => ?_) fun _ hj1 hF => ?_
 ·cases hΦ _ (zaa hF)
  try simp [go_sem, g]
 try simp [go_sem, g]
 try intros
 refine wG hF (fun h4 hF => ?_) fun h4 hF => ?_
 ·try simp [go_sem, g, h4]
  try intros
  refine wG hF (fun h5 hF => ?_) fun h5 hF => ?_
  ·try simp [go_sem, g, h5]
   try intros
   refine wG hF (fun h6 hF => ?_) fun h6 hF => ?_
   ·try simp [go_sem, g, h6]
    try intros
    refine wG hF (fun h7 hF => ?_) fun h7 hF => ?_
    ·try simp [go_sem, g, h7]
     try intros
     refine wG hF (fun h8 hF => ?_) fun h8 hF => ?_
     ·try simp [go_sem, g, h8]
      refine wC hF [.sh, .sh] zeB (fun z9 hF => ?_)
      try simp [go_sem, g, h8]
      refine wG hF (fun h10 hF => ?_) fun h10 hF => ?_
      ·try simp [go_sem, g, h10]
       refine wC hF [.sh, .sh] zeB (fun z11 hF => ?_)
       try simp [go_sem, g, h10]
       refine wG hF (fun h12 hF => ?_) fun h12 hF => ?_
       ·try simp [go_sem, g, h12]
        refine wC hF [.sh, .sh] zeB (fun z13 hF => ?_)
        try simp [go_sem, g, h12]
        refine wG hF (fun h14 hF => ?_) fun h14 hF => ?_
        ·try simp [go_sem, g, h14]
         refine wC hF [.sh, .sh] zdu (fun z15 hF => ?_)
         try simp [go_sem, g, h14]
         exact wT (hj1 _) (zaa hF)
        try simp [go_sem, g, h14]
        exact wT (hj1 _) (zaa hF)
       try simp [go_sem, g, h12]
       exact wT (hj1 _) (zaa hF)
      try simp [go_sem, g, h10]
      exact wT (hj1 _) (zaa hF)
     try simp [go_sem, g, h8]
     exact wT (hj1 _) (zaa hF)
    try simp [go_sem, g, h7]
    exact wT (hj1 _) (zaa hF)
   try simp [go_sem, g, h6]
   exact wT (hj1 _) (zaa hF)
  try simp [go_sem, g, h5]
  exact wT (hj1 _) (zaa hF)
 try simp [go_sem, g, h4]
 exact wT (hj1 _) (zaa hF)
def zfn (a0 : Group) (a1 : Int) : Option Int :=
 (zai a0 a1 (-1)).bind fun z1 =>
 some z1
theorem zma : ∀ {a0} {a1} {r}, zfn a0 a1 = some r → PCalls Tryz.prog 57 [(.sh, vE a0), (.sh, .int .i64 a1)] (Eo (.int .i64 r) [.junk, .junk]) := by
 intro a0 a1 r hr
 apply pF 8 [] [] [] [.tmp 4] hr zF4 Tryz.func57
 intro Φ hΦ hF g
 unfold zfn at hF
 refine wW ?_
 refine wC hF [.sh, .sh, .sh] zaA (fun z1 hF => ?_)
 cases hΦ _ (zaa hF)
 refine wW ?_
 try simp [go_sem, g]
@[go_sem] def zzU : List DE := [d2 0 [3] 3 3, d0 1 [1], d2 2 [3] 3 3, d0 3 [2], d3 4 [9, 10], d0 5 [8, 11], ⟨6, [7, 12], [], none, true, true, true⟩, d0 7 [13]]
def zdD (a0 : Group) (a1 : Int) (a2 : Int) : Option Int :=
 (zfn a0 a2).bind fun z1 =>
 (zan a0 [a1, z1]).bind fun z2 =>
 some z2
theorem zhT : ∀ {a0} {a1} {a2} {r}, zdD a0 a1 a2 = some r → PCalls Tryz.prog 64 [(.sh, vE a0), (.sh, .int .i64 a1), (.sh, .int .i64 a2)] (Eo (.int .i64 r) [.junk, .junk, .junk]) := by
 intro a0 a1 a2 r hr
 apply pF 14 [] [] [] [.tmp 6] hr zGW Tryz.func64
 intro Φ hΦ hF g
 unfold zdD at hF
 refine wW ?_
 refine wX zzU follows ?_
 refine wC hF [.sh, .sh] zma (fun z1 hF => ?_)
 refine wC hF [.sh, .sh] zaQ (fun z2 hF => ?_)
 refine wK [6] ?_
 cases hΦ _ (zaa hF)
 try simp [go_sem, g]
@[go_sem] def zwD : List DE := [d0 0 [3], d0 1 [0], d0 2 [3], d0 3 [1], d0 4 [4], d0 8 [2], ⟨5, [11, 12, 13], [], none, false, true, false⟩, d0 6 [10, 14], ⟨7, [9, 15], [], none, true, true, true⟩, d0 9 [16, 17], d0 10 [18]]
def zaI (a0 : Int) (a1 : Int) (a2 : Int) (a3c0 : Int) (a3c1 : Int) (a3c2 : Int) (a4c0 : Int) : Option Bool :=
 (zai (Group.mk a3c0 a3c1 a3c2) a1 a4c0).bind fun z1 =>
 (zan (Group.mk a3c0 a3c1 a3c2) [a0, z1]).bind fun z2 =>
 some (z2 == a2)
theorem zbD : ∀ {a0} {a1} {a2} {a3c0} {a3c1} {a3c2} {a4c0} {r}, zaI a0 a1 a2 a3c0 a3c1 a3c2 a4c0 = some r → PCalls Tryz.prog 144 [(.sh, .int .i64 a0), (.sh, .int .i64 a1), (.sh, .int .i64 a2), (.sh, .fp [.int .i64 a3c0, .int .i64 a3c1, .int .i64 a3c2]), (.sh, .fp [.int .i64 a4c0])] (Eo (.bool r) [.junk, .junk, .junk, .junk, .junk]) := by
 intro a0 a1 a2 a3c0 a3c1 a3c2 a4c0 r hr
 apply pF 19 [] [] [] [.tmp 8] hr zzu Tryz.func144
 intro Φ hΦ hF g
 unfold zaI at hF
 refine wW ?_
 refine wX zwD follows ?_
 refine wD hF zaA (fun z1 hF => ?_)
 refine wC hF [.sh, .sh] zaQ (fun z2 hF => ?_)
 refine wK [8] ?_
 cases hΦ _ (zaa hF)
 try simp [go_sem, g]
@[go_sem] def zwX : List DE := [d0 0 [29], d0 1 [19], d0 2 [121], d0 3 [122], d0 4 [6], d0 5 [6], d1 6 [11] 11, d2 7 [126] 11 126, d0 9 [6], d1 10 [7] 7, d2 11 [130] 7 130, d0 14 [6], d0 15 [6], d0 16 [135], d0 17 [20], d0 18 [137], d0 19 [138], ⟨8, [125, 127], [], none, false, true, false⟩, ⟨12, [129, 131], [], none, false, true, false⟩, ⟨13, [124, 128, 132], [], none, false, true, false⟩, ⟨20, [134, 136, 139], [], none, false, true, false⟩, d3 21 [120, 123, 133, 140], d0 22 [141], d0 23 [29, 142], d0 24 [19, 142], d0 25 [144, 142], d0 26 [145, 142], d0 27 [6, 142], d1 28 [11, 142] 11, d2 29 [148, 142] 11 148, d0 30 [15, 142], d0 32 [6, 142], d0 33 [6, 142], d0 34 [6, 142], d0 35 [154, 142], d0 36 [20, 142], d0 37 [156, 142], d0 38 [157, 142], d0 40 [6, 142], d1 41 [7, 142] 7, d2 42 [161, 142] 7 161, d0 43 [21, 142], ⟨31, [147, 149, 150, 142], [], none, false, true, false⟩, ⟨39, [153, 155, 158, 142], [], none, false, true, false⟩, ⟨44, [160, 162, 163, 142], [], none, false, true, false⟩, d0 45 [159, 164, 142], ⟨46, [152, 165, 142], [], none, true, true, false⟩, d3 47 [143, 146, 151, 166, 142], d0 48 [142, 167], d0 49 [168], d0 50 [29, 169], d0 51 [19, 169], d0 52 [171, 169], d0 53 [172, 169], d0 54 [6, 169], d1 55 [11, 169] 11, d2 56 [175, 169] 11 175, d0 57 [13, 169], d0 58 [177, 169], d0 59 [176, 178, 169], d0 60 [179, 169], d0 61 [6, 169], d1 62 [7, 169] 7, d2 63 [182, 169] 7 182, d0 64 [22, 169], d0 67 [6, 169], d0 68 [6, 169], d0 69 [188, 169], d0 70 [20, 169], d0 71 [190, 169], d0 72 [191, 169], ⟨65, [181, 183, 184, 169], [], none, false, true, false⟩, ⟨66, [174, 180, 185, 169], [], none, false, true, false⟩, ⟨73, [187, 189, 192, 169], [], none, false, true, false⟩, d3 74 [170, 173, 186, 193, 169], d0 75 [169, 194], d0 76 [195], d0 77 [29, 196], d0 78 [19, 196], d0 79 [198, 196], d0 80 [199, 196], d0 81 [6, 196], d0 82 [25, 196], d0 83 [15, 196], d0 85 [6, 196], d0 86 [6, 196], d0 87 [6, 196], d0 88 [207, 196], d0 89 [20, 196], d0 90 [209, 196], d0 91 [210, 196], d0 92 [211, 196], d0 94 [6, 196], d0 95 [27, 196], d0 96 [21, 196], ⟨84, [201, 202, 203, 196], [], none, false, true, false⟩, ⟨93, [206, 208, 212, 196], [], none, false, true, false⟩, ⟨97, [214, 215, 216, 196], [], none, false, true, false⟩, d0 98 [213, 217, 196], ⟨99, [205, 218, 196], [], none, true, true, false⟩, d3 100 [197, 200, 204, 219, 196], d0 101 [196, 220], d0 102 [221], d0 103 [29, 222], d0 104 [19, 222], d0 105 [224, 222], d0 106 [225, 222], d0 107 [6, 222], d0 108 [26, 222], d0 109 [15, 222], d0 111 [6, 222], d0 112 [6, 222], d0 113 [2, 222], d0 114 [20, 222], d0 115 [234, 222], d0 116 [235, 222], d0 117 [236, 222], d0 119 [6, 222], d0 120 [28, 222], d0 121 [21, 222], ⟨110, [227, 228, 229, 222], [], none, false, true, false⟩, ⟨118, [232, 233, 237, 222], [], none, false, true, false⟩, ⟨122, [239, 240, 241, 222], [], none, false, true, false⟩, d0 123 [238, 242, 222], ⟨124, [231, 243, 222], [], none, true, true, false⟩, d3 125 [223, 226, 230, 244, 222], d0 126 [222, 245], d0 127 [246]]
@[go_sem] def zxh : List DE := [d0 0 [30], d0 1 [257], d0 2 [29, 258], d0 3 [19, 258], d0 4 [32, 258], d0 5 [261, 258], d0 6 [260, 262, 258], d0 7 [263, 258], d1 8 [11, 258] 11, d2 9 [265, 258] 11 265, d0 10 [32, 258], d0 11 [266, 267, 258], d0 12 [268, 258], d0 13 [6, 258], d0 14 [6, 258], d0 15 [6, 258], d0 16 [272, 258], d0 17 [20, 258], d0 18 [32, 258], d0 19 [275, 258], d0 20 [274, 276, 258], d0 21 [277, 258], d0 23 [6, 258], d0 24 [31, 258], d0 25 [32, 258], d0 26 [281, 282, 258], d0 27 [283, 258], d0 28 [21, 258], d0 29 [32, 258], d0 30 [285, 286, 258], d0 31 [287, 258], ⟨22, [271, 273, 278, 258], [], none, false, true, false⟩, ⟨32, [280, 284, 288, 258], [], none, false, true, false⟩, d0 33 [279, 289, 258], ⟨34, [270, 290, 258], [], none, true, true, false⟩, d3 35 [259, 264, 269, 291, 258], d0 36 [258, 292], d0 37 [293]]
@[go_sem] def zz4 : List DE := [d2 0 [6] 6 6, d0 1 [14], d1 2 [11] 11, d2 3 [62] 11 62, d1 4 [11] 11, d1 5 [64] 11, d2 6 [65] 11 65, d0 7 [61, 63, 66], d0 13 [], ⟨8, [67], [], none, true, true, true⟩, d3 9 [60, 68], d0 10 [69], d0 11 [59], d0 12 [59], d2 14 [17, 70] 17 17, d0 15 [71]]
@[go_sem] def zz6 : List DE := [d0 0 [16], d0 1 [72], d0 2 [73], d0 3 [18, 74], d0 4 [75, 74], d0 5 [74, 76], d0 6 [77], d1 7 [11, 78] 11, d1 8 [79, 78] 11, d2 9 [80, 78] 11 80, d0 10 [81, 78], d0 11 [82, 78], d2 12 [17, 78] 17 17, d0 13 [83, 84, 78], d0 14 [78, 85]]
@[go_sem] def zze : List DE := [d1 0 [11] 11, d1 1 [87] 11, d2 2 [88] 11 88, d1 3 [11] 11, d1 4 [90] 11, d2 5 [91] 11 91, d0 6 [89], d0 7 [92]]
def zcu (a0 : Group) (a1 : Bases) (a2 : Int) (a3 : List Cipher) (a4 : List Cipher) (a5 : MatrixProof) : Option Bool :=
 ((if ((a4.length : Int) != (a3.length : Int)) = true then (
 some true) else (
 (zct a0 a5 (a3.length : Int)).bind fun z5 =>
 some (!z5)) : Option Bool).bind fun x3 =>
 if x3 = true then (
 some false) else (
 (zcG a2 a3 a4 a5.Columns).bind fun z7 =>
 (za5 a0 (⟨#[109, 105, 120, 32, 99, 111, 108, 117, 109, 110, 115]⟩ : ByteArray) z7 (a3.length : Int)).bind fun z8 =>
 (zbx [z7, a5.Chain, a5.Pi.Commits]).bind fun z9 =>
 (zbl a0 (⟨#[109, 105, 120, 32, 112, 114, 111, 111, 102]⟩ : ByteArray) z9).bind fun z10 =>
 ((if (!z8.2) = true then (
 some true) else (
 if (!z10.2) = true then (
 some true) else (
 (ix a5.Pi.Challenges 0).bind fun x16 =>
 some (x16 != z10.1))) : Option Bool).bind fun x13 =>
 if x13 = true then (
 some false) else (
 gd (0 ≤ (i64.wrap ((a3.length : Int) + 4))) <|
 gd ((i64.wrap ((a3.length : Int) + 4)).toNat ≤ a5.Pi.Responses.length ∧ a5.Pi.Responses.length ≤ a5.Pi.Responses.length) <|
 ((zar (σ := Int) (fun i22 s21 =>
 (ix z8.1 i22).bind fun x28 =>
 (za4 a0 (i64.wrap (s21 * x28))).bind fun z29 =>
 some (.go z29)) (fun s21 => s21) (z8.1.length) 0 1 : Option Int).bind fun x20 =>
 (zey a3).bind fun z34 =>
 (zey a4).bind fun z35 =>
 (((ix a5.Pi.Commits 0).bind fun x39 =>
 (ix a5.Pi.Responses 0).bind fun x40 =>
 (zan a0 a5.Columns).bind fun z41 =>
 (zan a0 a1.Hs).bind fun z42 =>
 (zdD a0 z41 z42).bind fun z43 =>
 (zai a0 a0.G x40).bind fun z44 =>
 (zaI x39 z43 z44 a0.P a0.Q a0.G z10.1).bind fun z45 =>
 if z45 = true then (
 (ix a5.Pi.Commits 1).bind fun x47 =>
 (ix a5.Pi.Responses 1).bind fun x48 =>
 (zaZ a0 a5.Columns z8.1).bind fun z49 =>
 (zai a0 a0.G x48).bind fun z50 =>
 (zaZ a0 a1.Hs ((a5.Pi.Responses.take a5.Pi.Responses.length).drop ((i64.wrap ((a3.length : Int) + 4)).toNat))).bind fun z51 =>
 (zan a0 [z50, z51]).bind fun z52 =>
 (zaI x47 z49 z52 a0.P a0.Q a0.G z10.1).bind fun z53 =>
 if z53 = true then (
 (ix a5.Pi.Commits 2).bind fun x55 =>
 (ix a5.Chain (i64.wrap ((a3.length : Int) - 1))).bind fun x56 =>
 (ix a5.Pi.Responses 2).bind fun x57 =>
 (zai a0 a1.H x20).bind fun z58 =>
 (zdD a0 x56 z58).bind fun z59 =>
 (zai a0 a0.G x57).bind fun z60 =>
 (zaI x55 z59 z60 a0.P a0.Q a0.G z10.1).bind fun z61 =>
 if z61 = true then (
 (ix a5.Pi.Commits 3).bind fun x63 =>
 (ix a5.Pi.Responses 3).bind fun x64 =>
 (zaZ a0 z34.1 z8.1).bind fun z65 =>
 (zai a0 a0.G (i64.wrap (0 - x64))).bind fun z66 =>
 (zaZ a0 z35.1 ((a5.Pi.Responses.take a5.Pi.Responses.length).drop ((i64.wrap ((a3.length : Int) + 4)).toNat))).bind fun z67 =>
 (zan a0 [z66, z67]).bind fun z68 =>
 (zaI x63 z65 z68 a0.P a0.Q a0.G z10.1).bind fun z69 =>
 if z69 = true then (
 (ix a5.Pi.Commits 4).bind fun x71 =>
 (zaZ a0 z34.2 z8.1).bind fun z72 =>
 (zai a0 a2 (i64.wrap (0 - x64))).bind fun z73 =>
 (zaZ a0 z35.2 ((a5.Pi.Responses.take a5.Pi.Responses.length).drop ((i64.wrap ((a3.length : Int) + 4)).toNat))).bind fun z74 =>
 (zan a0 [z73, z74]).bind fun z75 =>
 (zaI x71 z72 z75 a0.P a0.Q a0.G z10.1).bind fun z76 =>
 some z76) else (
 some false)) else (
 some false)) else (
 some false)) else (
 some false) : Option Bool).bind fun x38 =>
 gd (([a1.H].length + a5.Chain.length) * 8 ≤ 140737488355328 ∧ [a1.H].length + a5.Chain.length ≤ 4611686018427387904) <|
 (some ([a1.H] ++ a5.Chain)).bind fun x77 =>
 ((zar (σ := Bool) (fun i83 s82 =>
 ((if s82 = true then (
 (ix a5.Pi.Commits (i64.wrap (5 + i83))).bind fun x93 =>
 (ix a5.Chain i83).bind fun x94 =>
 (ix a5.Pi.Responses (i64.wrap (4 + i83))).bind fun x95 =>
 (ix x77 i83).bind fun x96 =>
 (ix ((a5.Pi.Responses.take a5.Pi.Responses.length).drop ((i64.wrap ((a3.length : Int) + 4)).toNat)) i83).bind fun x97 =>
 (zai a0 a0.G x95).bind fun z98 =>
 (zai a0 x96 x97).bind fun z99 =>
 (zan a0 [z98, z99]).bind fun z100 =>
 (zaI x93 x94 z100 a0.P a0.Q a0.G z10.1).bind fun z101 =>
 some z101) else (
 some false) : Option Bool).bind fun x91 =>
 some (.go x91))) (fun s82 => s82) (a3.length) 0 x38 : Option Bool).bind fun x81 =>
 some x81)))))))
set_option maxHeartbeats 1000000 in
theorem zh0 : ∀ {a0} {a1} {a2} {a3} {a4} {a5} {r}, zcu a0 a1 a2 a3 a4 a5 = some r → PCalls Tryz.prog 78 [(.sh, vE a0), (.sh, vJ a1), (.sh, .int .i64 a2), (.sh, vH a3), (.sh, vH a4), (.sh, vL a5)] (Eo (.bool r) [.junk, .junk, .junk, .junk, .junk, .junk]) := by
 intro a0 a1 a2 a3 a4 a5 r hr
 apply pF 296 [] [955] [1000000] [.tmp 12] hr zGw Tryz.func78
 intro Φ hΦ hF g
 unfold zcu at hF
 iterate 2 (try simp [go_sem, g]; try intros; refine zay ?_)
 refine wJ hF (fun x3 => [(2, .v (.int .i64 a2)), (3, .v (vH a3)), (4, .v (vH a4)), (6, .bl [.int .i64 a0.P, .int .i64 a0.Q, .int .i64 a0.G]), (7, .bl [.int .i64 a1.H, vC a1.Hs]), (11, .bl [vC a5.Columns, vC a5.Chain, vC a5.Pi.Commits, vC a5.Pi.Challenges, vC a5.Pi.Responses]), (13, .v (.int .i64 (a3.length : Int))), (45, .v (.bool x3))]) (fun x3 hF => ?_) fun _ hj1 hF => ?_
 ·refine wI hF (fun h6 hF => ?_) (fun h6 hF => ?_)
  ·cases hΦ _ (zaa hF)
   refine wW ?_
   try simp [go_sem, g]
  refine wW ?_
  refine wC hF [.sh, .sh, .sh, .sh] zhg (fun z7 hF => ?_)
  refine wK [2, 3, 4, 6, 7, 11, 13, 14] ?_
  refine wC hF [.sh, .sh, .sh, .sh] zeG (fun z8 hF => ?_)
  refine wW ?_
  refine wX zz4 follows ?_
  refine wC hF [.sh] zgg (fun z9 hF => ?_)
  refine wC hF [.sh, .sh, .sh] zeZ (fun z10 hF => ?_)
  refine wK [2, 3, 4, 6, 7, 11, 13, 15, 16, 17, 18] ?_
  refine wJ hF (fun x13 => [(2, .v (.int .i64 a2)), (3, .v (vH a3)), (4, .v (vH a4)), (6, .bl [.int .i64 a0.P, .int .i64 a0.Q, .int .i64 a0.G]), (7, .bl [.int .i64 a1.H, vC a1.Hs]), (11, .bl [vC a5.Columns, vC a5.Chain, vC a5.Pi.Commits, vC a5.Pi.Challenges, vC a5.Pi.Responses]), (13, .v (.int .i64 (a3.length : Int))), (15, .v (vD z8.1)), (17, .bl [.int .i64 z10.1]), (86, .v (.bool x13))]) (fun x13 hF => ?_) fun _ hj11 hF => ?_
  ·refine wI hF (fun h17 hF => ?_) (fun h17 hF => ?_)
   ·cases hΦ _ (zaa hF)
    refine wW ?_
    try simp [go_sem, g]
   refine wW ?_
   refine wX zze follows ?_
   obtain ⟨g, hF⟩ := Rg g hF
   obtain ⟨g, hF⟩ := Rg g hF
   refine wW ?_
   refine wK [2, 3, 4, 6, 7, 11, 13, 15, 17, 19, 20, 21, 22] ?_
   try simp [go_sem, g]
   try intros
   refine zay ?_
   refine wJ hF (fun x20 => [(2, .v (.int .i64 a2)), (3, .v (vH a3)), (4, .v (vH a4)), (6, .bl [.int .i64 a0.P, .int .i64 a0.Q, .int .i64 a0.G]), (7, .bl [.int .i64 a1.H, vC a1.Hs]), (11, .bl [vC a5.Columns, vC a5.Chain, vC a5.Pi.Commits, vC a5.Pi.Challenges, vC a5.Pi.Responses]), (13, .v (.int .i64 (a3.length : Int))), (15, .v (vD z8.1)), (17, .bl [.int .i64 z10.1]), (19, .v (vC a5.Pi.Commits)), (20, .v (vC a5.Pi.Responses)), (21, .v (vC ((a5.Pi.Responses.take a5.Pi.Responses.length).drop ((i64.wrap ((a3.length : Int) + 4)).toNat)))), (22, .v (.int .i64 x20))]) (fun x20 hF => ?_) fun _ hj18 hF => ?_
   ·refine wC hF [.sh] zim (fun z34 hF => ?_)
    refine wK [2, 4, 6, 7, 11, 13, 15, 17, 19, 20, 21, 22, 25, 26] ?_
    refine wC hF [.sh] zim (fun z35 hF => ?_)
    iterate 2 refine wW ?_
    refine wJ hF (fun x38 => [(6, .v (.fp [.int .i64 a0.P, .int .i64 a0.Q, .int .i64 a0.G])), (7, .bl [.int .i64 a1.H, vC a1.Hs]), (11, .bl [vC a5.Columns, vC a5.Chain, vC a5.Pi.Commits, vC a5.Pi.Challenges, vC a5.Pi.Responses]), (13, .v (.int .i64 (a3.length : Int))), (19, .v (vC a5.Pi.Commits)), (20, .v (vC a5.Pi.Responses)), (21, .v (vC ((a5.Pi.Responses.take a5.Pi.Responses.length).drop ((i64.wrap ((a3.length : Int) + 4)).toNat)))), (29, .v (.func (.func 144) [] [.fp [.int .i64 a0.P, .int .i64 a0.Q, .int .i64 a0.G], .fp [.int .i64 z10.1]])), (30, .v (.bool x38))]) (fun x38 hF => ?_) fun _ hj36 hF => ?_
    ·obtain ⟨g, hF⟩ := Rg g hF
     obtain ⟨x77, e78, hF⟩ := zep hF
     have g := And.intro g (show [.int .i64 a1.H] :: (List.map zat a5.Chain) = x77.map zat by injection e78 with e78; rw [← e78]; simp [go_sem])
     refine wK [6, 11, 13, 19, 20, 21, 29, 30, 31] ?_
     refine wW ?_
     refine wJ hF (fun x81 => [(30, .v (.bool x81))]) (fun x81 hF => ?_) fun _ hj79 hF => ?_
     ·cases hΦ _ (zaa hF)
      refine wW ?_
      try simp [go_sem, g]
     refine wB ?_
     obtain ⟨b102, hb103, hψ86⟩ := hF
     refine pR hb103 (fun i83 s82 => [(6, .v (.fp [.int .i64 a0.P, .int .i64 a0.Q, .int .i64 a0.G])), (11, .bl [vC a5.Columns, vC a5.Chain, vC a5.Pi.Commits, vC a5.Pi.Challenges, vC a5.Pi.Responses]), (19, .v (vC a5.Pi.Commits)), (20, .v (vC a5.Pi.Responses)), (21, .v (vC ((a5.Pi.Responses.take a5.Pi.Responses.length).drop ((i64.wrap ((a3.length : Int) + 4)).toNat)))), (29, .v (.func (.func 144) [] [.fp [.int .i64 a0.P, .int .i64 a0.Q, .int .i64 a0.G], .fp [.int .i64 z10.1]])), (30, .v (.bool s82)), (31, .v (vD x77)), (253, .v (.int .i64 (a3.length : Int))), (254, .v (.int .i64 i83))]) (fun s82 _ hN104 => ?_) (fun i83 s82 _ _ hi87 hi88 ho84 hg85 hF => ?_)
     ·subst hN104
      refine wW ?_
      refine wf ?_
      exact wT (hj79 _) hψ86
     refine wW ?_
     refine wt ?_ (hb := by simp [go_sem, g, hi87, hi88])
     refine wW ?_
     refine wJ hF (fun x91 => [(6, .v (.fp [.int .i64 a0.P, .int .i64 a0.Q, .int .i64 a0.G])), (11, .bl [vC a5.Columns, vC a5.Chain, vC a5.Pi.Commits, vC a5.Pi.Challenges, vC a5.Pi.Responses]), (19, .v (vC a5.Pi.Commits)), (20, .v (vC a5.Pi.Responses)), (21, .v (vC ((a5.Pi.Responses.take a5.Pi.Responses.length).drop ((i64.wrap ((a3.length : Int) + 4)).toNat)))), (29, .v (.func (.func 144) [] [.fp [.int .i64 a0.P, .int .i64 a0.Q, .int .i64 a0.G], .fp [.int .i64 z10.1]])), (30, .v (.bool x91)), (31, .v (vD x77)), (253, .v (.int .i64 (a3.length : Int))), (254, .v (.int .i64 i83))]) (fun x91 hF => ?_) fun _ hj89 hF => ?_
     ·exact wT (hg85 x91) (zaa hF) (a := by simp [go_sem, g, zbp hi87 hi88 (by assumption)])
     refine wB ?_
     refine wW ?_
     refine wX zxh follows ?_
     refine wH hF (fun h92 hF => ?_) fun h92 hF => ?_
     ·obtain ⟨x93, g, hF⟩ := Rx g hF
      obtain ⟨x94, g, hF⟩ := Rx g hF
      obtain ⟨x95, g, hF⟩ := Rx g hF
      obtain ⟨x96, g, hF⟩ := Rx g hF
      obtain ⟨x97, g, hF⟩ := Rxq g hF
      try simp [go_sem, g, h92]
      refine wD hF zaA (fun z98 hF => ?_)
      try simp [go_sem, g, h92]
      refine wD hF zaA (fun z99 hF => ?_)
      try simp [go_sem, g, h92]
      refine wD hF zaQ (fun z100 hF => ?_)
      try simp [go_sem, g, h92]
      refine wC hF [.sh, .sh, .sh] zbD (fun z101 hF => ?_)
      try simp [go_sem, g, h92]
      exact wT (hj89 _) (zaa hF)
     try simp [go_sem, g, h92]
     exact wT (hj89 _) (zaa hF)
    refine wX zwX follows ?_
    obtain ⟨x39, g, hF⟩ := Rxn g 0 hF
    obtain ⟨x40, g, hF⟩ := Rxn g 0 hF
    refine wD hF zaQ (fun z41 hF => ?_)
    refine wD hF zaQ (fun z42 hF => ?_)
    refine wD hF zhT (fun z43 hF => ?_)
    refine wD hF zaA (fun z44 hF => ?_)
    refine wC hF [.sh, .sh, .sh] zbD (fun z45 hF => ?_)
    refine wH hF (fun h46 hF => ?_) fun h46 hF => ?_
    ·obtain ⟨x47, g, hF⟩ := Rxn g 1 hF
     obtain ⟨x48, g, hF⟩ := Rxn g 1 hF
     try simp [go_sem, g, h46]
     refine wD hF zbF (fun z49 hF => ?_)
     try simp [go_sem, g, h46]
     refine wD hF zaA (fun z50 hF => ?_)
     try simp [go_sem, g, h46]
     refine wD hF zbF (fun z51 hF => ?_)
     try simp [go_sem, g, h46]
     refine wD hF zaQ (fun z52 hF => ?_)
     try simp [go_sem, g, h46]
     refine wC hF [.sh, .sh, .sh] zbD (fun z53 hF => ?_)
     try simp [go_sem, g, h46]
     refine wH hF (fun h54 hF => ?_) fun h54 hF => ?_
     ·obtain ⟨x55, g, hF⟩ := Rxn g 2 hF
      obtain ⟨x56, g, hF⟩ := Rx g hF
      obtain ⟨x57, g, hF⟩ := Rxn g 2 hF
      try simp [go_sem, g, h54]
      refine wD hF zaA (fun z58 hF => ?_)
      try simp [go_sem, g, h54]
      refine wD hF zhT (fun z59 hF => ?_)
      try simp [go_sem, g, h54]
      refine wD hF zaA (fun z60 hF => ?_)
      try simp [go_sem, g, h54]
      refine wC hF [.sh, .sh, .sh] zbD (fun z61 hF => ?_)
      try simp [go_sem, g, h54]
      refine wH hF (fun h62 hF => ?_) fun h62 hF => ?_
      ·obtain ⟨x63, g, hF⟩ := Rxn g 3 hF
       obtain ⟨x64, g, hF⟩ := Rxn g 3 hF
       try simp [go_sem, g, h62]
       refine wD hF zbF (fun z65 hF => ?_)
       try simp [go_sem, g, h62]
       refine wD hF zaA (fun z66 hF => ?_)
       try simp [go_sem, g, h62]
       refine wD hF zbF (fun z67 hF => ?_)
       try simp [go_sem, g, h62]
       refine wD hF zaQ (fun z68 hF => ?_)
       try simp [go_sem, g, h62]
       refine wC hF [.sh, .sh, .sh] zbD (fun z69 hF => ?_)
       try simp [go_sem, g, h62]
       refine wH hF (fun h70 hF => ?_) fun h70 hF => ?_
       ·obtain ⟨x71, g, hF⟩ := Rxn g 4 hF
        try simp [go_sem, g, h70]
        refine wD hF zbF (fun z72 hF => ?_)
        try simp [go_sem, g, h70]
        refine wD hF zaA (fun z73 hF => ?_)
        try simp [go_sem, g, h70]
        refine wD hF zbF (fun z74 hF => ?_)
        try simp [go_sem, g, h70]
        refine wD hF zaQ (fun z75 hF => ?_)
        try simp [go_sem, g, h70]
        refine wC hF [.sh, .sh, .sh] zbD (fun z76 hF => ?_)
        try simp [go_sem, g, h70]
        exact wT (hj36 _) (zaa hF)
       try simp [go_sem, g, h70]
       exact wT (hj36 _) (zaa hF)
      try simp [go_sem, g, h62]
      exact wT (hj36 _) (zaa hF)
     try simp [go_sem, g, h54]
     exact wT (hj36 _) (zaa hF)
    try simp [go_sem, g, h46]
    exact wT (hj36 _) (zaa hF)
   refine wB ?_
   obtain ⟨b30, hb31, hψ25⟩ := hF
   refine pR hb31 (fun i22 s21 => [(2, .v (.int .i64 a2)), (3, .v (vH a3)), (4, .v (vH a4)), (6, .bl [.int .i64 a0.P, .int .i64 a0.Q, .int .i64 a0.G]), (7, .bl [.int .i64 a1.H, vC a1.Hs]), (11, .bl [vC a5.Columns, vC a5.Chain, vC a5.Pi.Commits, vC a5.Pi.Challenges, vC a5.Pi.Responses]), (13, .v (.int .i64 (a3.length : Int))), (15, .v (vD z8.1)), (17, .bl [.int .i64 z10.1]), (19, .v (vC a5.Pi.Commits)), (20, .v (vC a5.Pi.Responses)), (21, .v (vC ((a5.Pi.Responses.take a5.Pi.Responses.length).drop ((i64.wrap ((a3.length : Int) + 4)).toNat)))), (22, .v (.int .i64 s21)), (97, .rf 15 []), (98, .v (.int .i64 (z8.1.length : Int))), (99, .v (.int .i64 i22))]) (fun s21 _ hN32 => ?_) (fun i22 s21 _ _ hi26 hi27 ho23 hg24 hF => ?_)
   ·subst hN32
    refine wW ?_
    refine wf ?_
    exact wT (hj18 _) hψ25
   refine wW ?_
   refine wt ?_ (hb := by simp [go_sem, g, hi26, hi27])
   refine wW ?_
   refine wB ?_
   obtain ⟨x28, g, hF⟩ := Rx g hF
   refine wW ?_
   refine wC hF [.sh, .sh] zcy (fun z29 hF => ?_)
   refine wK [2, 3, 4, 6, 7, 11, 13, 15, 17, 19, 20, 21, 22, 97, 98, 99] ?_
   exact wT (hg24 z29) (zaa hF) (a := by simp [go_sem, g, zbp hi26 hi27 (by assumption)])
  refine wX zz6 follows ?_
  refine wH hF (fun h14 hF => ?_) fun h14 hF => ?_
  ·try simp [go_sem, g, h14]
   exact wT (hj11 _) (zaa hF)
  try simp [go_sem, g, h14]
  refine wH hF (fun h15 hF => ?_) fun h15 hF => ?_
  ·try simp [go_sem, g, h15]
   exact wT (hj11 _) (zaa hF)
  obtain ⟨x16, g, hF⟩ := Rxn g 0 hF
  try simp [go_sem, g, h15]
  exact wT (hj11 _) (zaa hF)
 try simp [go_sem, g]
 try intros
 refine wG hF (fun h4 hF => ?_) fun h4 hF => ?_
 ·try simp [go_sem, g, h4]
  exact wT (hj1 _) (zaa hF)
 try simp [go_sem, g, h4]
 refine wC hF [.sh, .sh, .sh] zh4 (fun z5 hF => ?_)
 try simp [go_sem, g, h4]
 exact wT (hj1 _) (zaa hF)
def zcX (a0 : Group) (a1 : Int) (a2 : List Cipher) (a3 : List Cipher) (a4 : MatrixProof) : Option (Bool × Bool) :=
 (zb9 a0 a1 a2).bind fun z1 =>
 ((if (!z1.2) = true then (
 some true) else (
 (zb2 a0 a3).bind fun z6 =>
 some (!z6)) : Option Bool).bind fun x4 =>
 if x4 = true then (
 some (false, false)) else (
 (zcu a0 z1.1 a1 a2 a3 a4).bind fun z8 =>
 some (z8, true)))
theorem zkl : ∀ {a0} {a1} {a2} {a3} {a4} {r}, zcX a0 a1 a2 a3 a4 = some r → PCalls Tryz.prog 22 [(.sh, vE a0), (.sh, .int .i64 a1), (.sh, vH a2), (.sh, vH a3), (.sh, vL a4)] (Eo (.tup [.bool r.1, .bool r.2]) [.junk, .junk, .junk, .junk, .junk]) := by
 intro a0 a1 a2 a3 a4 r hr
 apply pF 36 [] [] [] [.tmp 10, .tmp 11] hr zGo Tryz.func22
 intro Φ hΦ hF g
 unfold zcX at hF
 refine wW ?_
 refine wC hF [.sh, .sh, .sh] zfN (fun z1 hF => ?_)
 refine wK [1, 2, 3, 5, 9, 12, 13] ?_
 refine wJ hF (fun x4 => [(1, .v (.int .i64 a1)), (2, .v (vH a2)), (3, .v (vH a3)), (5, .bl [.int .i64 a0.P, .int .i64 a0.Q, .int .i64 a0.G]), (9, .bl [vC a4.Columns, vC a4.Chain, vC a4.Pi.Commits, vC a4.Pi.Challenges, vC a4.Pi.Responses]), (12, .bl [.int .i64 z1.1.H, vD z1.1.Hs]), (28, .v (.bool x4))]) (fun x4 hF => ?_) fun _ hj2 hF => ?_
 ·refine wI hF (fun h7 hF => ?_) (fun h7 hF => ?_)
  ·cases hΦ _ (zaa hF)
   refine wW ?_
   try simp [go_sem, g]
  refine wW ?_
  refine wC hF [.sh, .sh, .sh, .sh, .sh, .sh] zh0 (fun z8 hF => ?_)
  cases hΦ _ (zaa hF)
  refine wW ?_
  try simp [go_sem, g]
 refine wG hF (fun h5 hF => ?_) fun h5 hF => ?_
 ·try simp [go_sem, g, h5]
  exact wT (hj2 _) (zaa hF)
 try simp [go_sem, g, h5]
 refine wC hF [.sh, .sh] ze4 (fun z6 hF => ?_)
 try simp [go_sem, g, h5]
 exact wT (hj2 _) (zaa hF)
def zfw (a0 : Group) (a1 : Int) (a2 : MatrixProof) : Option Bool :=
 ((if ((a2.Columns.length : Int) == a1) = true then (
 if ((a2.Chain.length : Int) == a1) = true then (
 if ((a2.Pi.Commits.length : Int) == (i64.wrap (a1 + 5))) = true then (
 if ((a2.Pi.Challenges.length : Int) == 1) = true then (
 if ((a2.Pi.Responses.length : Int) == (i64.wrap ((i64.wrap (2 * a1)) + 4))) = true then (
 (zdZ a0 a2.Columns).bind fun z9 =>
 if z9 = true then (
 (zdZ a0 a2.Chain).bind fun z11 =>
 if z11 = true then (
 (zdZ a0 a2.Pi.Commits).bind fun z13 =>
 if z13 = true then (
 (zdw a0 a2.Pi.Responses).bind fun z15 =>
 some z15) else (
 some false)) else (
 some false)) else (
 some false)) else (
 some false)) else (
 some false)) else (
 some false)) else (
 some false)) else (
 some false) : Option Bool).bind fun x3 =>
 some x3)
theorem zoc : ∀ {a0} {a1} {a2} {r}, zfw a0 a1 a2 = some r → PCalls Tryz.prog 145 [(.sh, vE a0), (.sh, .int .i64 a1), (.sh, vL a2)] (Eo (.bool r) [.junk, .junk, .junk]) := by
 intro a0 a1 a2 r hr
 apply pF 71 [] [] [] [.tmp 6] hr zzW Tryz.func145
 intro Φ hΦ hF g
 unfold zfw at hF
 refine wW ?_
 refine wJ hF (fun x3 => [(6, .v (.bool x3))]) (fun x3 hF => ?_) fun _ hj1 hF => ?_
 ·cases hΦ _ (zaa hF)
  try simp [go_sem, g]
 try simp [go_sem, g]
 try intros
 refine wG hF (fun h4 hF => ?_) fun h4 hF => ?_
 ·try simp [go_sem, g, h4]
  try intros
  refine wG hF (fun h5 hF => ?_) fun h5 hF => ?_
  ·try simp [go_sem, g, h5]
   try intros
   refine wG hF (fun h6 hF => ?_) fun h6 hF => ?_
   ·try simp [go_sem, g, h6]
    try intros
    refine wG hF (fun h7 hF => ?_) fun h7 hF => ?_
    ·try simp [go_sem, g, h7]
     try intros
     refine wG hF (fun h8 hF => ?_) fun h8 hF => ?_
     ·try simp [go_sem, g, h8]
      refine wC hF [.sh, .sh] zgT (fun z9 hF => ?_)
      try simp [go_sem, g, h8]
      refine wG hF (fun h10 hF => ?_) fun h10 hF => ?_
      ·try simp [go_sem, g, h10]
       refine wC hF [.sh, .sh] zgT (fun z11 hF => ?_)
       try simp [go_sem, g, h10]
       refine wG hF (fun h12 hF => ?_) fun h12 hF => ?_
       ·try simp [go_sem, g, h12]
        refine wC hF [.sh, .sh] zgT (fun z13 hF => ?_)
        try simp [go_sem, g, h12]
        refine wG hF (fun h14 hF => ?_) fun h14 hF => ?_
        ·try simp [go_sem, g, h14]
         refine wC hF [.sh, .sh] zgZ (fun z15 hF => ?_)
         try simp [go_sem, g, h14]
         exact wT (hj1 _) (zaa hF)
        try simp [go_sem, g, h14]
        exact wT (hj1 _) (zaa hF)
       try simp [go_sem, g, h12]
       exact wT (hj1 _) (zaa hF)
      try simp [go_sem, g, h10]
      exact wT (hj1 _) (zaa hF)
     try simp [go_sem, g, h8]
     exact wT (hj1 _) (zaa hF)
    try simp [go_sem, g, h7]
    exact wT (hj1 _) (zaa hF)
   try simp [go_sem, g, h6]
   exact wT (hj1 _) (zaa hF)
  try simp [go_sem, g, h5]
  exact wT (hj1 _) (zaa hF)
 try simp [go_sem, g, h4]
 exact wT (hj1 _) (zaa hF)
def zgv (a0 : Group) (a1 : Int) : Option Int :=
 (zbw a1 (i64.wrap (a0.Q - 1)) a0.P).bind fun z1 =>
 some z1
theorem zqk : ∀ {a0} {a1} {r}, zgv a0 a1 = some r → PCalls Tryz.prog 146 [(.sh, vE a0), (.sh, .int .i64 a1)] (Eo (.int .i64 r) [.junk, .junk]) := by
 intro a0 a1 r hr
 apply pF 12 [] [] [] [.tmp 4] hr zzV Tryz.func146
 intro Φ hΦ hF g
 unfold zgv at hF
 refine wW ?_
 refine wC hF [.sh, .sh, .sh] zea (fun z1 hF => ?_)
 refine wK [4] ?_
 cases hΦ _ (zaa hF)
 try simp [go_sem, g]
@[go_sem] def zxG : List DE := [d2 0 [6] 6 6, d2 1 [6] 6 6, d1 2 [11] 11, d2 3 [107] 11 107, d2 5 [6] 6 6, d2 6 [6] 6 6, d1 7 [8] 8, d2 8 [112] 8 112, d2 13 [6] 6 6, d1 14 [11] 11, d2 15 [119] 11 119, d0 16 [18], d2 18 [6] 6 6, d1 19 [11] 11, d2 20 [124] 11 124, d0 21 [13], d0 22 [126], d0 23 [125, 127], d0 24 [128], d2 25 [6] 6 6, d1 26 [8] 8, d2 27 [131] 8 131, d0 28 [19], d0 29 [133], d2 33 [6] 6 6, d0 34 [22], d0 35 [18], d2 37 [6] 6 6, d0 38 [23], d0 39 [18], ⟨4, [106, 108], [], none, false, true, false⟩, ⟨9, [111, 113], [], none, false, true, false⟩, ⟨10, [110, 114], [], none, false, true, false⟩, d0 11 [109, 115], ⟨12, [105, 116], [], none, true, true, false⟩, ⟨17, [118, 120, 121], [], none, false, true, false⟩, ⟨30, [130, 132, 134], [], none, false, true, false⟩, d0 31 [129, 135], ⟨32, [123, 136], [], none, true, true, true⟩, d3 36 [138, 139, 140], d3 40 [142, 143, 144], d0 41 [117, 122, 137, 141, 145], ⟨42, [146], [], none, true, true, false⟩]
@[go_sem] def zxv : List DE := [d2 0 [6] 6 6, d1 1 [6] 6, d2 2 [148] 6 148, d0 3 [16], d0 4 [150], d0 5 [151], d2 7 [6] 6 6, d2 8 [6] 6 6, d1 9 [6] 6, d2 10 [156] 6 156, d0 11 [16], d0 12 [158], d0 13 [159], d2 15 [6] 6 6, d1 16 [8] 8, d2 17 [163] 8 163, d0 18 [17], d2 22 [6] 6 6, d1 23 [6] 6, d2 24 [170] 6 170, d0 25 [16], d0 26 [172], d0 27 [173], d2 29 [6] 6 6, d2 30 [6] 6 6, d1 31 [6] 6, d2 32 [178] 6 178, d0 33 [16], d0 34 [180], d0 35 [181], d0 36 [182], d2 38 [6] 6 6, d0 39 [24], d0 40 [17], d2 44 [6] 6 6, d2 45 [6] 6 6, d0 46 [1], d0 47 [16], d0 48 [194], d0 49 [195], d0 50 [196], d2 52 [6] 6 6, d0 53 [25], d0 54 [17], ⟨6, [147, 149, 152], [], none, false, true, false⟩, ⟨14, [155, 157, 160], [], none, false, true, false⟩, ⟨19, [162, 164, 165], [], none, false, true, false⟩, d0 20 [161, 166], ⟨21, [154, 167], [], none, true, true, false⟩, ⟨28, [169, 171, 174], [], none, false, true, false⟩, ⟨37, [177, 179, 183], [], none, false, true, false⟩, ⟨41, [185, 186, 187], [], none, false, true, false⟩, d0 42 [184, 188], ⟨43, [176, 189], [], none, true, true, false⟩, d3 51 [192, 193, 197], d3 55 [199, 200, 201], d0 56 [198, 202], ⟨57, [191, 203], [], none, true, true, true⟩, d0 58 [153, 168, 175, 190, 204], ⟨59, [205], [], none, true, true, false⟩]
@[go_sem] def zy3 : List DE := [d0 0 [4], d0 1 [35], d0 2 [13], d0 3 [36, 37], d0 4 [38], d2 5 [6, 39] 6 6, d0 6 [13, 39], d2 7 [11, 39] 11 11, d3 8 [40, 41, 42, 39], d0 9 [43, 39], d0 10 [39, 44], d0 11 [45], d1 12 [11, 46] 11, d1 13 [47, 46] 11, d2 14 [48, 46] 11 48, d0 15 [49, 46], d0 16 [50, 46], d2 17 [6, 46] 6 6, d0 18 [1, 46], d0 19 [3, 46], d0 20 [4, 46], d2 21 [11, 46] 11 11, ⟨22, [52, 53, 54, 55, 56, 46], [], none, false, true, false⟩, d0 23 [51, 57, 46], d0 24 [46, 58]]
@[go_sem] def zw4 : List DE := [d0 0 [27], d2 1 [6] 6 6, d2 2 [6] 6 6, d1 3 [6] 6, d2 4 [223] 6 223, d0 5 [16], d0 6 [29], d0 7 [226], d0 8 [225, 227], d0 9 [228], d2 11 [6] 6 6, d0 12 [28], d0 13 [17], d0 14 [29], d0 15 [233, 234], d0 16 [235], ⟨10, [222, 224, 229], [], none, false, true, false⟩, d3 17 [231, 232, 236], d0 18 [230, 237], ⟨19, [221, 238], [], none, true, true, true⟩, d0 20 [239], ⟨21, [220, 240], [], none, true, false, false⟩, d0 22 [241]]
@[go_sem] def zx3 : List DE := [d2 0 [6] 6 6, d0 1 [15], d0 2 [31], d0 3 [252, 253], d0 4 [254], d2 5 [6] 6 6, d0 6 [32], d0 7 [14], d0 11 [27], d0 12 [31], d0 13 [262, 263], d0 14 [264], ⟨8, [256, 257, 258], [], none, false, true, false⟩, d0 9 [255, 259], ⟨10, [251, 260], [], none, true, true, false⟩, d0 15 [261, 265]]
@[go_sem] def zAr : List DE := [d1 0 [11] 11, d1 1 [65] 11, d2 2 [66] 11 66, d1 3 [11] 11, d1 4 [68] 11, d2 5 [69] 11 69, d0 6 [67], d0 7 [70]]
def zfb (a0 : Group) (a1 : Int) (a2 : Bases) (a3 : List Cipher) (a4 : List Cipher) (a5 : MatrixProof) : Option Bool :=
 ((if ((a4.length : Int) != (a3.length : Int)) = true then (
 some true) else (
 (zfw a0 (a3.length : Int) a5).bind fun z5 =>
 if (!z5) = true then (
 some true) else (
 (ix a5.Pi.Challenges 0).bind fun x7 =>
 (zco a0 a1 a3 a4 a5).bind fun z8 =>
 some (x7 != z8))) : Option Bool).bind fun x3 =>
 if x3 = true then (
 some false) else (
 (ix a5.Pi.Challenges 0).bind fun x10 =>
 gd (0 ≤ (i64.wrap ((a3.length : Int) + 4))) <|
 gd ((i64.wrap ((a3.length : Int) + 4)).toNat ≤ a5.Pi.Responses.length ∧ a5.Pi.Responses.length ≤ a5.Pi.Responses.length) <|
 (zca a0 a1 a3 a4 a5.Columns).bind fun z11 =>
 ((zar (σ := Int) (fun i16 s15 =>
 (ix z11 i16).bind fun x22 =>
 gd (a0.Q ≠ 0) <|
 some (.go ((i64.wrap (s15 * x22)).tmod a0.Q))) (fun s15 => s15) (z11.length) 0 1 : Option Int).bind fun x14 =>
 (zd8 a3).bind fun z27 =>
 (zd8 a4).bind fun z28 =>
 (ix a5.Chain (i64.wrap ((a3.length : Int) - 1))).bind fun x29 =>
 (zaP a0 a5.Columns).bind fun z30 =>
 (zaP a0 a2.Hs).bind fun z31 =>
 (zgv a0 z31).bind fun z32 =>
 (zaP a0 [z30, z32]).bind fun z33 =>
 (zbZ a0 a5.Columns z11).bind fun z34 =>
 (zaq a0 a2.H (i64.wrap (0 - x14))).bind fun z35 =>
 (zaP a0 [x29, z35]).bind fun z36 =>
 (zbZ a0 z27.1 z11).bind fun z37 =>
 (zbZ a0 z27.2 z11).bind fun z38 =>
 (ix a5.Pi.Responses 0).bind fun x39 =>
 (ix a5.Pi.Responses 1).bind fun x40 =>
 (ix a5.Pi.Responses 2).bind fun x41 =>
 (ix a5.Pi.Responses 3).bind fun x42 =>
 (zaq a0 a0.G x39).bind fun z43 =>
 (zaq a0 a0.G x40).bind fun z44 =>
 (zbZ a0 a2.Hs ((a5.Pi.Responses.take a5.Pi.Responses.length).drop ((i64.wrap ((a3.length : Int) + 4)).toNat))).bind fun z45 =>
 (zaP a0 [z44, z45]).bind fun z46 =>
 (zaq a0 a0.G x41).bind fun z47 =>
 (zaq a0 a0.G (i64.wrap (0 - x42))).bind fun z48 =>
 (zbZ a0 z28.1 ((a5.Pi.Responses.take a5.Pi.Responses.length).drop ((i64.wrap ((a3.length : Int) + 4)).toNat))).bind fun z49 =>
 (zaP a0 [z48, z49]).bind fun z50 =>
 (zaq a0 a1 (i64.wrap (0 - x42))).bind fun z51 =>
 (zbZ a0 z28.2 ((a5.Pi.Responses.take a5.Pi.Responses.length).drop ((i64.wrap ((a3.length : Int) + 4)).toNat))).bind fun z52 =>
 (zaP a0 [z51, z52]).bind fun z53 =>
 ((zar (σ := (List Int) × List Int × Int) (fun i58 s57 =>
 (ix a5.Chain i58).bind fun x64 =>
 gd ((s57.1.length + 1) * 8 ≤ 140737488355328 ∧ s57.1.length + 1 ≤ 4611686018427387904) <|
 (ix a5.Pi.Responses (i64.wrap (4 + i58))).bind fun x65 =>
 (ix ((a5.Pi.Responses.take a5.Pi.Responses.length).drop ((i64.wrap ((a3.length : Int) + 4)).toNat)) i58).bind fun x66 =>
 (zaq a0 a0.G x65).bind fun z67 =>
 (zaq a0 s57.2.2 x66).bind fun z68 =>
 (zaP a0 [z67, z68]).bind fun z69 =>
 gd ((s57.2.1.length + 1) * 8 ≤ 140737488355328 ∧ s57.2.1.length + 1 ≤ 4611686018427387904) <|
 some (.go (s57.1 ++ [x64], s57.2.1 ++ [z69], x64))) (fun s57 => (s57.1, s57.2.1)) (a5.Chain.length) 0 ([z33, z34, z36, z37, z38], [z43, z46, z47, z50, z53], a2.H) : Option ((List Int × List Int))).bind fun x56 =>
 ((zar (σ := Unit) (fun i78 s77 =>
 (ix x56.1 i78).bind fun x84 =>
 (ix a5.Pi.Commits i78).bind fun x85 =>
 (ix x56.2 i78).bind fun x86 =>
 (zaq a0 x84 x10).bind fun z87 =>
 (zaP a0 [x85, z87]).bind fun z88 =>
 if (z88 != x86) = true then (
 some (.out (.inr false))) else (
 some (.go ()))) (fun s77 => .inl ()) (x56.1.length) 0 () : Option (Unit ⊕ Bool)).bind (Sum.elim (fun x76 =>
 some true) some))))))
set_option maxHeartbeats 1000000 in
theorem znH : ∀ {a0} {a1} {a2} {a3} {a4} {a5} {r}, zfb a0 a1 a2 a3 a4 a5 = some r → PCalls Tryz.prog 79 [(.sh, vE a0), (.sh, .int .i64 a1), (.sh, vJ a2), (.sh, vH a3), (.sh, vH a4), (.sh, vL a5)] (Eo (.bool r) [.junk, .junk, .junk, .junk, .junk, .junk]) := by
 intro a0 a1 a2 a3 a4 a5 r hr
 apply pF 268 [] [] [] [.tmp 12] hr zF3 Tryz.func79
 intro Φ hΦ hF g
 unfold zfb at hF
 iterate 2 (try simp [go_sem, g]; try intros; refine zay ?_)
 refine wJ hF (fun x3 => [(1, .v (.int .i64 a1)), (3, .v (vH a3)), (4, .v (vH a4)), (6, .bl [.int .i64 a0.P, .int .i64 a0.Q, .int .i64 a0.G]), (8, .bl [.int .i64 a2.H, vC a2.Hs]), (11, .bl [vC a5.Columns, vC a5.Chain, vC a5.Pi.Commits, vC a5.Pi.Challenges, vC a5.Pi.Responses]), (13, .v (.int .i64 (a3.length : Int))), (59, .v (.bool x3))]) (fun x3 hF => ?_) fun _ hj1 hF => ?_
 ·refine wI hF (fun h9 hF => ?_) (fun h9 hF => ?_)
  ·cases hΦ _ (zaa hF)
   refine wW ?_
   try simp [go_sem, g]
  obtain ⟨x10, g, hF⟩ := Rxn g 0 hF
  refine wW ?_
  refine wK [1, 3, 4, 6, 8, 11, 13, 14] ?_
  refine wX zAr follows ?_
  obtain ⟨g, hF⟩ := Rg g hF
  obtain ⟨g, hF⟩ := Rg g hF
  refine wW ?_
  refine wK [1, 3, 4, 6, 8, 11, 13, 14, 15, 16, 17] ?_
  refine wC hF [.sh, .sh, .sh, .sh, .sh] zhG (fun z11 hF => ?_)
  iterate 2 (try simp [go_sem, g]; try intros; refine zay ?_)
  try simp [go_sem, g]
  try intros
  refine wK [1, 3, 4, 6, 8, 11, 13, 14, 15, 16, 17, 18, 19, 82, 83, 84] ?_
  refine wJ hF (fun x14 => [(1, .v (.int .i64 a1)), (3, .v (vH a3)), (4, .v (vH a4)), (6, .bl [.int .i64 a0.P, .int .i64 a0.Q, .int .i64 a0.G]), (8, .bl [.int .i64 a2.H, vC a2.Hs]), (11, .bl [vC a5.Columns, vC a5.Chain, vC a5.Pi.Commits, vC a5.Pi.Challenges, vC a5.Pi.Responses]), (13, .v (.int .i64 (a3.length : Int))), (14, .v (.int .i64 x10)), (15, .v (vC a5.Pi.Commits)), (16, .v (vC a5.Pi.Responses)), (17, .v (vC ((a5.Pi.Responses.take a5.Pi.Responses.length).drop ((i64.wrap ((a3.length : Int) + 4)).toNat)))), (18, .v (vD z11)), (19, .v (.int .i64 x14))]) (fun x14 hF => ?_) fun _ hj12 hF => ?_
  ·refine wC hF [.sh] zhR (fun z27 hF => ?_)
   refine wW ?_
   refine wC hF [.sh] zhR (fun z28 hF => ?_)
   refine wK [1, 6, 8, 11, 13, 14, 15, 16, 17, 18, 19, 22, 23, 24, 25] ?_
   refine wX zxG follows ?_
   obtain ⟨x29, g, hF⟩ := Rx g hF
   refine wD hF zbu (fun z30 hF => ?_)
   refine wD hF zbu (fun z31 hF => ?_)
   refine wD hF zqk (fun z32 hF => ?_)
   refine wD hF zbu (fun z33 hF => ?_)
   refine wD hF zdA (fun z34 hF => ?_)
   refine wD hF zaY (fun z35 hF => ?_)
   refine wC hF [.sh, .sh] zbu (fun z36 hF => ?_)
   refine wC hF [.sh, .sh, .sh] zdA (fun z37 hF => ?_)
   refine wC hF [.sh, .sh, .sh] zdA (fun z38 hF => ?_)
   refine wK [1, 6, 8, 11, 14, 15, 16, 17, 24, 25, 26] ?_
   refine wX zxv follows ?_
   obtain ⟨x39, g, hF⟩ := Rxn g 0 hF
   obtain ⟨x40, g, hF⟩ := Rxn g 1 hF
   obtain ⟨x41, g, hF⟩ := Rxn g 2 hF
   obtain ⟨x42, g, hF⟩ := Rxn g 3 hF
   refine wD hF zaY (fun z43 hF => ?_)
   refine wD hF zaY (fun z44 hF => ?_)
   refine wD hF zdA (fun z45 hF => ?_)
   refine wD hF zbu (fun z46 hF => ?_)
   refine wD hF zaY (fun z47 hF => ?_)
   refine wD hF zaY (fun z48 hF => ?_)
   refine wD hF zdA (fun z49 hF => ?_)
   refine wD hF zbu (fun z50 hF => ?_)
   refine wC hF [.sh, .sh, .sh] zaY (fun z51 hF => ?_)
   refine wC hF [.sh, .sh, .sh] zdA (fun z52 hF => ?_)
   refine wC hF [.sh, .sh] zbu (fun z53 hF => ?_)
   refine wK [6, 8, 11, 14, 15, 16, 17, 26, 27] ?_
   iterate 2 (try simp [go_sem, g]; try intros; refine zay ?_)
   refine wJ hF (fun x56 => [(6, .bl [.int .i64 a0.P, .int .i64 a0.Q, .int .i64 a0.G]), (14, .v (.int .i64 x10)), (15, .v (vC a5.Pi.Commits)), (26, .v (vD x56.1)), (27, .v (vD x56.2))]) (fun x56 hF => ?_) fun _ hj54 hF => ?_
   ·try simp [go_sem, g]
    try intros
    refine wK [6, 14, 15, 26, 27, 244, 245, 246] ?_
    refine wS hF (fun x76 => []) (fun x76 hF => ?_) fun _ hj74 hr75 hF => ?_
    ·cases hΦ _ (zaa hF)
     refine wW ?_
     try simp [go_sem, g]
    refine wB ?_
    obtain ⟨b90, hb91, hψ81⟩ := hF
    refine pR hb91 (fun i78 s77 => [(6, .bl [.int .i64 a0.P, .int .i64 a0.Q, .int .i64 a0.G]), (14, .v (.int .i64 x10)), (15, .v (vC a5.Pi.Commits)), (26, .v (vD x56.1)), (27, .v (vD x56.2)), (244, .rf 26 []), (245, .v (.int .i64 (x56.1.length : Int))), (246, .v (.int .i64 i78))]) (fun s77 _ hN92 => ?_) (fun i78 s77 _ _ hi82 hi83 ho79 hg80 hF => ?_)
    ·subst hN92
     refine wW ?_
     refine wf ?_
     exact wT (hj74 _) hψ81
    refine wW ?_
    refine wt ?_ (hb := by simp [go_sem, g, hi82, hi83])
    refine wW ?_
    refine wB ?_
    obtain ⟨x84, g, hF⟩ := Rx g hF
    refine wW ?_
    refine wX zx3 follows ?_
    obtain ⟨x85, g, hF⟩ := Rx g hF
    obtain ⟨x86, g, hF⟩ := Rx g hF
    refine wD hF zaY (fun z87 hF => ?_)
    refine wD hF zbu (fun z88 hF => ?_)
    refine wK [6, 14, 15, 26, 27, 244, 245, 246, 266] ?_
    refine wI hF (fun h89 hF => ?_) (fun h89 hF => ?_)
    ·cases ho79 _ (zaa hF)
     cases hΦ _ (hr75 _ hψ81)
     refine wW ?_
     try simp [go_sem, g]
    refine wW ?_
    exact wT (hg80 ()) (zaa hF) (a := by simp [go_sem, g, zbp hi82 hi83 (by assumption)])
   refine wB ?_
   obtain ⟨b70, hb71, hψ61⟩ := hF
   refine pR hb71 (fun i58 s57 => [(6, .bl [.int .i64 a0.P, .int .i64 a0.Q, .int .i64 a0.G]), (14, .v (.int .i64 x10)), (15, .v (vC a5.Pi.Commits)), (16, .v (vC a5.Pi.Responses)), (17, .v (vC ((a5.Pi.Responses.take a5.Pi.Responses.length).drop ((i64.wrap ((a3.length : Int) + 4)).toNat)))), (26, .v (vD s57.1)), (27, .v (vD s57.2.1)), (28, .v (.int .i64 s57.2.2)), (209, .v (vC a5.Chain)), (210, .v (.int .i64 (a5.Chain.length : Int))), (211, .v (.int .i64 i58))]) (fun s57 _ hN72 => ?_) (fun i58 s57 _ _ hi62 hi63 ho59 hg60 hF => ?_)
   ·subst hN72
    refine wW ?_
    refine wf ?_
    exact wT (hj54 _) hψ61
   refine wW ?_
   refine wt ?_ (hb := by simp [go_sem, g, hi62, hi63])
   refine wW ?_
   refine wB ?_
   obtain ⟨x64, g, hF⟩ := Rx g hF
   refine wK [6, 14, 15, 16, 17, 26, 27, 28, 29, 30, 209, 210, 211] ?_
   obtain ⟨g, hF⟩ := Rg g hF
   refine wW ?_
   refine wX zw4 follows ?_
   obtain ⟨x65, g, hF⟩ := Rx g hF
   obtain ⟨x66, g, hF⟩ := Rxq g hF
   refine wD hF zaY (fun z67 hF => ?_)
   refine wC hF [.sh, .sh, .sh] zaY (fun z68 hF => ?_)
   refine wC hF [.sh, .sh] zbu (fun z69 hF => ?_)
   obtain ⟨g, hF⟩ := Rg g hF
   refine wK [6, 14, 15, 16, 17, 26, 27, 30, 209, 210, 211] ?_
   refine wW ?_
   exact wT (hg60 (s57.1 ++ [x64], s57.2.1 ++ [z69], x64)) (zaa hF) (a := by simp [go_sem, g, zbp hi62 hi63 (by assumption)])
  refine wB ?_
  obtain ⟨b23, hb24, hψ19⟩ := hF
  refine pR hb24 (fun i16 s15 => [(1, .v (.int .i64 a1)), (3, .v (vH a3)), (4, .v (vH a4)), (6, .bl [.int .i64 a0.P, .int .i64 a0.Q, .int .i64 a0.G]), (8, .bl [.int .i64 a2.H, vC a2.Hs]), (11, .bl [vC a5.Columns, vC a5.Chain, vC a5.Pi.Commits, vC a5.Pi.Challenges, vC a5.Pi.Responses]), (13, .v (.int .i64 (a3.length : Int))), (14, .v (.int .i64 x10)), (15, .v (vC a5.Pi.Commits)), (16, .v (vC a5.Pi.Responses)), (17, .v (vC ((a5.Pi.Responses.take a5.Pi.Responses.length).drop ((i64.wrap ((a3.length : Int) + 4)).toNat)))), (18, .v (vD z11)), (19, .v (.int .i64 s15)), (82, .rf 18 []), (83, .v (.int .i64 (z11.length : Int))), (84, .v (.int .i64 i16))]) (fun s15 _ hN25 => ?_) (fun i16 s15 _ _ hi20 hi21 ho17 hg18 hF => ?_)
  ·subst hN25
   refine wW ?_
   refine wf ?_
   exact wT (hj12 _) hψ19
  refine wW ?_
  refine wt ?_ (hb := by simp [go_sem, g, hi20, hi21])
  refine wW ?_
  refine wB ?_
  obtain ⟨x22, g, hF⟩ := Rx g hF
  obtain ⟨g, hF⟩ := Rz g hF
  refine wW ?_
  refine wK [1, 3, 4, 6, 8, 11, 13, 14, 15, 16, 17, 18, 19, 82, 83, 84] ?_
  exact wT (hg18 ((i64.wrap (s15 * x22)).tmod a0.Q)) (zaa hF) (a := by simp [go_sem, g, zbp hi20 hi21 (by assumption)])
 refine wX zy3 follows ?_
 try simp [go_sem, g]
 try intros
 refine wH hF (fun h4 hF => ?_) fun h4 hF => ?_
 ·try simp [go_sem, g, h4]
  exact wT (hj1 _) (zaa hF)
 try simp [go_sem, g, h4]
 refine wC hF [.sh, .sh, .sh] zoc (fun z5 hF => ?_)
 try simp [go_sem, g, h4]
 refine wH hF (fun h6 hF => ?_) fun h6 hF => ?_
 ·try simp [go_sem, g, h6]
  exact wT (hj1 _) (zaa hF)
 obtain ⟨x7, g, hF⟩ := Rxn g 0 hF
 try simp [go_sem, g, h6]
 refine wD hF zhS (fun z8 hF => ?_)
 try simp [go_sem, g, h6]
 exact wT (hj1 _) (zaa hF)
def zcW (a0 : Group) (a1 : Int) (a2 : List Cipher) (a3 : List Cipher) (a4 : MatrixProof) : Option (Bool × Bool) :=
 (((zc4 a0 a1 a2).bind fun z4 =>
 if (!z4) = true then (
 some true) else (
 (zc4 a0 a1 a3).bind fun z6 =>
 some (!z6)) : Option Bool).bind fun x3 =>
 if x3 = true then (
 some (false, false)) else (
 (zdn a0 (a2.length : Int)).bind fun z8 =>
 if (!z8.2) = true then (
 some (false, false)) else (
 (zfb a0 a1 z8.1 a2 a3 a4).bind fun z10 =>
 some (z10, true))))
theorem zkm : ∀ {a0} {a1} {a2} {a3} {a4} {r}, zcW a0 a1 a2 a3 a4 = some r → PCalls Tryz.prog 23 [(.sh, vE a0), (.sh, .int .i64 a1), (.sh, vH a2), (.sh, vH a3), (.sh, vL a4)] (Eo (.tup [.bool r.1, .bool r.2]) [.junk, .junk, .junk, .junk, .junk]) := by
 intro a0 a1 a2 a3 a4 r hr
 apply pF 42 [] [] [] [.tmp 10, .tmp 11] hr zGe Tryz.func23
 intro Φ hΦ hF g
 unfold zcW at hF
 refine wW ?_
 refine wJ hF (fun x3 => [(1, .v (.int .i64 a1)), (2, .v (vH a2)), (3, .v (vH a3)), (5, .bl [.int .i64 a0.P, .int .i64 a0.Q, .int .i64 a0.G]), (9, .bl [vC a4.Columns, vC a4.Chain, vC a4.Pi.Commits, vC a4.Pi.Challenges, vC a4.Pi.Responses]), (25, .v (.bool x3))]) (fun x3 hF => ?_) fun _ hj1 hF => ?_
 ·refine wI hF (fun h7 hF => ?_) (fun h7 hF => ?_)
  ·cases hΦ _ (zaa hF)
   refine wW ?_
   try simp [go_sem, g]
  try simp [go_sem, g]
  try intros
  refine zay ?_
  try simp [go_sem, g]
  try intros
  refine wC hF [.sh, .sh] zjm (fun z8 hF => ?_)
  refine wK [1, 2, 3, 5, 9, 12, 13] ?_
  refine wW ?_
  refine wI hF (fun h9 hF => ?_) (fun h9 hF => ?_)
  ·cases hΦ _ (zaa hF)
   refine wW ?_
   try simp [go_sem, g]
  refine wW ?_
  refine wC hF [.sh, .sh, .sh, .sh, .sh, .sh] znH (fun z10 hF => ?_)
  refine wK [10, 11] ?_
  cases hΦ _ (zaa hF)
  try simp [go_sem, g]
 refine wC hF [.sh, .sh, .sh] zg4 (fun z4 hF => ?_)
 refine wG hF (fun h5 hF => ?_) fun h5 hF => ?_
 ·try simp [go_sem, g, h5]
  exact wT (hj1 _) (zaa hF)
 try simp [go_sem, g, h5]
 refine wC hF [.sh, .sh, .sh] zg4 (fun z6 hF => ?_)
 try simp [go_sem, g, h5]
 exact wT (hj1 _) (zaa hF)
@[go_sem] def zzE : List DE := [d0 0 [0], d0 1 [5], d0 2 [16, 17], d0 3 [18], d0 4 [1], d0 5 [5], d0 6 [20, 21], d0 7 [22], d0 8 [19, 23]]
def zcz (a0 : List Int) (a1 : List Int) : Option Bool :=
 if ((a0.length : Int) != (a1.length : Int)) = true then (
 some false) else (
 ((zar (σ := Unit) (fun i6 s5 =>
 (ix a0 i6).bind fun x12 =>
 (ix a1 i6).bind fun x13 =>
 if (x12 != x13) = true then (
 some (.out (.inr false))) else (
 some (.go ()))) (fun s5 => .inl ()) (a0.length) 0 () : Option (Unit ⊕ Bool)).bind (Sum.elim (fun x4 =>
 some true) some)))
theorem zes : ∀ {a0} {a1} {r}, zcz a0 a1 = some r → PCalls Tryz.prog 12 [(.sh, vC a0), (.sh, vC a1)] (Eo (.bool r) [.junk, .junk]) := by
 intro a0 a1 r hr
 apply pF 26 [] [] [] [.tmp 4] hr zFb Tryz.func12
 intro Φ hΦ hF g
 unfold zcz at hF
 iterate 2 (try simp [go_sem, g]; try intros; refine zay ?_)
 refine wI hF (fun h1 hF => ?_) (fun h1 hF => ?_)
 ·cases hΦ _ (zaa hF)
  refine wW ?_
  try simp [go_sem, g]
 iterate 2 (try simp [go_sem, g]; try intros; refine zay ?_)
 refine wS hF (fun x4 => []) (fun x4 hF => ?_) fun _ hj2 hr3 hF => ?_
 ·refine wK [4] ?_
  cases hΦ _ (zaa hF)
  try simp [go_sem, g]
 refine wB ?_
 obtain ⟨b15, hb16, hψ9⟩ := hF
 refine pR hb16 (fun i6 s5 => [(0, .v (vC a0)), (1, .v (vC a1)), (12, .v (.int .i64 (a0.length : Int))), (13, .v (.int .i64 i6))]) (fun s5 _ hN17 => ?_) (fun i6 s5 _ _ hi10 hi11 ho7 hg8 hF => ?_)
 ·subst hN17
  refine wW ?_
  refine wf ?_
  exact wT (hj2 _) hψ9
 refine wK [0, 1, 12, 13, 14] ?_
 refine wt ?_ (hb := by simp [go_sem, g, hi10, hi11])
 refine wW ?_
 refine wB ?_
 refine wW ?_
 refine wX zzE follows ?_
 obtain ⟨x12, g, hF⟩ := Rx g hF
 obtain ⟨x13, g, hF⟩ := Rx g hF
 refine wK [0, 1, 12, 13, 24] ?_
 refine wI hF (fun h14 hF => ?_) (fun h14 hF => ?_)
 ·cases ho7 _ (zaa hF)
  cases hΦ _ (hr3 _ hψ9)
  refine wW ?_
  try simp [go_sem, g]
 refine wW ?_
 exact wT (hg8 ()) (zaa hF) (a := by simp [go_sem, g, zbp hi10 hi11 (by assumption)])
def zfy (a0 : Proof) (a1 : Proof) : Option Bool :=
 (((zcz a0.Commits a1.Commits).bind fun z4 =>
 if z4 = true then (
 (zcz a0.Challenges a1.Challenges).bind fun z6 =>
 if z6 = true then (
 (zcz a0.Responses a1.Responses).bind fun z8 =>
 some z8) else (
 some false)) else (
 some false) : Option Bool).bind fun x3 =>
 some x3)
theorem zob : ∀ {a0} {a1} {r}, zfy a0 a1 = some r → PCalls Tryz.prog 24 [(.sh, vO a0), (.sh, vO a1)] (Eo (.bool r) [.junk, .junk]) := by
 intro a0 a1 r hr
 apply pF 24 [] [] [] [.tmp 4] hr zD4 Tryz.func24
 intro Φ hΦ hF g
 unfold zfy at hF
 refine wW ?_
 refine wJ hF (fun x3 => [(4, .v (.bool x3))]) (fun x3 hF => ?_) fun _ hj1 hF => ?_
 ·cases hΦ _ (zaa hF)
  try simp [go_sem, g]
 refine wC hF [.sh, .sh] zes (fun z4 hF => ?_)
 refine wG hF (fun h5 hF => ?_) fun h5 hF => ?_
 ·try simp [go_sem, g, h5]
  refine wC hF [.sh, .sh] zes (fun z6 hF => ?_)
  try simp [go_sem, g, h5]
  refine wG hF (fun h7 hF => ?_) fun h7 hF => ?_
  ·try simp [go_sem, g, h7]
   refine wC hF [.sh, .sh] zes (fun z8 hF => ?_)
   try simp [go_sem, g, h7]
   exact wT (hj1 _) (zaa hF)
  try simp [go_sem, g, h7]
  exact wT (hj1 _) (zaa hF)
 try simp [go_sem, g, h5]
 exact wT (hj1 _) (zaa hF)
def zdz (a0 : Group) (a1 : List Int) (a2 : List Int) : Option (List Int × Bool) :=
 (((zcp a0).bind fun z4 =>
 if (!z4) = true then (
 some true) else (
 (zbv (a1.length : Int) 1 12).bind fun z6 =>
 if (!z6) = true then (
 some true) else (
 (zb5 a0 a1 a2 (a1.length : Int)).bind fun z8 =>
 some (!z8))) : Option Bool).bind fun x3 =>
 if x3 = true then (
 some ([], false)) else (
 (zaM a0 (a1.length : Int)).bind fun z10 =>
 if (!z10.2) = true then (
 some ([], false)) else (
 (zbQ a0 z10.1 a1 a2).bind fun z12 =>
 some (z12, true))))
theorem zjW : ∀ {a0} {a1} {a2} {r}, zdz a0 a1 a2 = some r → PCalls Tryz.prog 25 [(.sh, vE a0), (.sh, vC a1), (.sh, vC a2)] (Eo (.tup [vD r.1, .bool r.2]) [.junk, .junk, .junk]) := by
 intro a0 a1 a2 r hr
 apply pF 42 [] [] [] [.tmp 6, .tmp 7] hr zFO Tryz.func25
 intro Φ hΦ hF g
 unfold zdz at hF
 iterate 2 (try simp [go_sem, g]; try intros; refine zay ?_)
 refine wJ hF (fun x3 => [(1, .v (vC a1)), (2, .v (vC a2)), (3, .bl [.int .i64 a0.P, .int .i64 a0.Q, .int .i64 a0.G]), (8, .v (.int .i64 (a1.length : Int))), (28, .v (.bool x3))]) (fun x3 hF => ?_) fun _ hj1 hF => ?_
 ·refine wI hF (fun h9 hF => ?_) (fun h9 hF => ?_)
  ·cases hΦ _ (zaa hF)
   refine wW ?_
   try simp [go_sem, g]
  refine wW ?_
  refine wC hF [.sh, .sh] zfo (fun z10 hF => ?_)
  refine wK [1, 2, 3, 9, 10] ?_
  refine wW ?_
  refine wI hF (fun h11 hF => ?_) (fun h11 hF => ?_)
  ·cases hΦ _ (zaa hF)
   refine wW ?_
   try simp [go_sem, g]
  refine wW ?_
  refine wC hF [.sh, .sh, .sh, .sh] zfB (fun z12 hF => ?_)
  cases hΦ _ (zaa hF)
  refine wW ?_
  try simp [go_sem, g]
 refine wC hF [.sh] zfH (fun z4 hF => ?_)
 refine wG hF (fun h5 hF => ?_) fun h5 hF => ?_
 ·try simp [go_sem, g, h5]
  exact wT (hj1 _) (zaa hF)
 try simp [go_sem, g, h5]
 refine wC hF [.sh, .sh, .sh] zcf (fun z6 hF => ?_)
 try simp [go_sem, g, h5]
 refine wG hF (fun h7 hF => ?_) fun h7 hF => ?_
 ·try simp [go_sem, g, h7]
  exact wT (hj1 _) (zaa hF)
 try simp [go_sem, g, h7]
 refine wC hF [.sh, .sh, .sh, .sh] ze9 (fun z8 hF => ?_)
 try simp [go_sem, g, h7]
 exact wT (hj1 _) (zaa hF)
def zeb (a0 : Group) (a1 : Int) (a2 : List Cipher) (a3 : List Int) (a4 : List Int) : Option (List Cipher × Bool) :=
 (zb9 a0 a1 a2).bind fun z1 =>
 ((if (!z1.2) = true then (
 some true) else (
 (zb5 a0 a3 a4 (a2.length : Int)).bind fun z6 =>
 some (!z6)) : Option Bool).bind fun x4 =>
 if x4 = true then (
 some ([], false)) else (
 (zdR a0 a1 a2 a3 a4).bind fun z8 =>
 some (z8, true)))
theorem zlu : ∀ {a0} {a1} {a2} {a3} {a4} {r}, zeb a0 a1 a2 a3 a4 = some r → PCalls Tryz.prog 26 [(.sh, vE a0), (.sh, .int .i64 a1), (.sh, vH a2), (.sh, vC a3), (.sh, vC a4)] (Eo (.tup [vG r.1, .bool r.2]) [.junk, .junk, .junk, .junk, .junk]) := by
 intro a0 a1 a2 a3 a4 r hr
 apply pF 38 [] [] [] [.tmp 10, .tmp 11] hr zF0 Tryz.func26
 intro Φ hΦ hF g
 unfold zeb at hF
 refine wW ?_
 refine wC hF [.sh, .sh, .sh] zfN (fun z1 hF => ?_)
 refine wK [1, 2, 3, 4, 5, 13] ?_
 refine wJ hF (fun x4 => [(1, .v (.int .i64 a1)), (2, .v (vH a2)), (3, .v (vC a3)), (4, .v (vC a4)), (5, .bl [.int .i64 a0.P, .int .i64 a0.Q, .int .i64 a0.G]), (31, .v (.bool x4))]) (fun x4 hF => ?_) fun _ hj2 hF => ?_
 ·refine wI hF (fun h7 hF => ?_) (fun h7 hF => ?_)
  ·cases hΦ _ (zaa hF)
   refine wW ?_
   try simp [go_sem, g]
  refine wW ?_
  refine wC hF [.sh, .sh, .sh, .sh, .sh] ziF (fun z8 hF => ?_)
  cases hΦ _ (zaa hF)
  refine wW ?_
  try simp [go_sem, g]
 refine wG hF (fun h5 hF => ?_) fun h5 hF => ?_
 ·try simp [go_sem, g, h5]
  exact wT (hj2 _) (zaa hF)
 try simp [go_sem, g, h5]
 try intros
 refine wC hF [.sh, .sh, .sh, .sh] ze9 (fun z6 hF => ?_)
 try simp [go_sem, g, h5]
 exact wT (hj2 _) (zaa hF)
def ze0 (a0 : Group) (a1 : Int) (a2 : List Cipher) (a3 : List Cipher) (a4 : List Int) : Option Bool :=
 (zb9 a0 a1 a2).bind fun z1 =>
 ((if z1.2 = true then (
 if ((a3.length : Int) == (a2.length : Int)) = true then (
 (zb2 a0 a3).bind fun z7 =>
 if z7 = true then (
 if ((a4.length : Int) == (a2.length : Int)) = true then (
 (zbW a0 a4).bind fun z10 =>
 some z10) else (
 some false)) else (
 some false)) else (
 some false)) else (
 some false) : Option Bool).bind fun x4 =>
 some x4)
theorem zlv : ∀ {a0} {a1} {a2} {a3} {a4} {r}, ze0 a0 a1 a2 a3 a4 = some r → PCalls Tryz.prog 83 [(.sh, vE a0), (.sh, .int .i64 a1), (.sh, vH a2), (.sh, vH a3), (.sh, vC a4)] (Eo (.bool r) [.junk, .junk, .junk, .junk, .junk]) := by
 intro a0 a1 a2 a3 a4 r hr
 apply pF 45 [] [] [] [.tmp 10] hr zDQ Tryz.func83
 intro Φ hΦ hF g
 unfold ze0 at hF
 refine wW ?_
 refine wC hF [.sh, .sh, .sh] zfN (fun z1 hF => ?_)
 refine wK [2, 3, 4, 5, 12] ?_
 refine wJ hF (fun x4 => [(10, .v (.bool x4))]) (fun x4 hF => ?_) fun _ hj2 hF => ?_
 ·cases hΦ _ (zaa hF)
  try simp [go_sem, g]
 refine wG hF (fun h5 hF => ?_) fun h5 hF => ?_
 ·try simp [go_sem, g, h5]
  try intros
  refine wG hF (fun h6 hF => ?_) fun h6 hF => ?_
  ·try simp [go_sem, g, h6]
   refine wC hF [.sh, .sh] ze4 (fun z7 hF => ?_)
   try simp [go_sem, g, h6]
   refine wG hF (fun h8 hF => ?_) fun h8 hF => ?_
   ·try simp [go_sem, g, h8]
    try intros
    refine wG hF (fun h9 hF => ?_) fun h9 hF => ?_
    ·try simp [go_sem, g, h9]
     refine wC hF [.sh, .sh] zeB (fun z10 hF => ?_)
     try simp [go_sem, g, h9]
     exact wT (hj2 _) (zaa hF)
    try simp [go_sem, g, h9]
    exact wT (hj2 _) (zaa hF)
   try simp [go_sem, g, h8]
   exact wT (hj2 _) (zaa hF)
  try simp [go_sem, g, h6]
  exact wT (hj2 _) (zaa hF)
 try simp [go_sem, g, h5]
 exact wT (hj2 _) (zaa hF)
@[go_sem] def zzc : List DE := [d2 0 [5] 5 5, d0 1 [1], d0 2 [2], d0 3 [3], d0 4 [4], d0 6 [2], d0 7 [25], d3 5 [20, 21, 22, 23], d3 8 [19, 24, 26], d0 9 [27], d0 10 [27], d0 11 [28], d0 12 [29]]
def zcJ (a0 : Group) (a1 : Int) (a2 : List Cipher) (a3 : List Cipher) (a4 : List Int) : Option (List Int × Bool) :=
 (ze0 a0 a1 a2 a3 a4).bind fun z1 =>
 if (!z1) = true then (
 some ([], false)) else (
 (zcG a1 a2 a3 a4).bind fun z3 =>
 (za5 a0 (⟨#[109, 105, 120, 32, 99, 111, 108, 117, 109, 110, 115]⟩ : ByteArray) z3 (a2.length : Int)).bind fun z4 =>
 some (z4.1, z4.2))
theorem ziM : ∀ {a0} {a1} {a2} {a3} {a4} {r}, zcJ a0 a1 a2 a3 a4 = some r → PCalls Tryz.prog 27 [(.sh, vE a0), (.sh, .int .i64 a1), (.sh, vH a2), (.sh, vH a3), (.sh, vC a4)] (Eo (.tup [vD r.1, .bool r.2]) [.junk, .junk, .junk, .junk, .junk]) := by
 intro a0 a1 a2 a3 a4 r hr
 apply pF 30 [] [] [] [.tmp 10, .tmp 11] hr zE5 Tryz.func27
 intro Φ hΦ hF g
 unfold zcJ at hF
 refine wW ?_
 refine wC hF [.sh, .sh, .sh, .sh, .sh] zlv (fun z1 hF => ?_)
 refine wK [1, 2, 3, 4, 5, 18] ?_
 refine wI hF (fun h2 hF => ?_) (fun h2 hF => ?_)
 ·cases hΦ _ (zaa hF)
  refine wW ?_
  try simp [go_sem, g]
 refine wW ?_
 refine wX zzc follows ?_
 try simp [go_sem, g]
 try intros
 refine wC hF [.sh, .sh, .sh, .sh] zhg (fun z3 hF => ?_)
 refine wC hF [.sh, .sh, .sh, .sh] zeG (fun z4 hF => ?_)
 refine wK [10, 11] ?_
 cases hΦ _ (zaa hF)
 try simp [go_sem, g]
def zdO (a0 : Group) (a1 : List Int) (a2 : List Int) : Option (List Int × Bool) :=
 (((zcp a0).bind fun z4 =>
 if (!z4) = true then (
 some true) else (
 (zbv (a1.length : Int) 1 12).bind fun z6 =>
 if (!z6) = true then (
 some true) else (
 if ((a2.length : Int) != (a1.length : Int)) = true then (
 some true) else (
 (zbm a0 a1).bind fun z9 =>
 if (!z9) = true then (
 some true) else (
 (zbm a0 a2).bind fun z11 =>
 some (!z11))))) : Option Bool).bind fun x3 =>
 if x3 = true then (
 some ([], false)) else (
 (zaM a0 (a1.length : Int)).bind fun z13 =>
 if (!z13.2) = true then (
 some ([], false)) else (
 (zde a0 z13.1.H a1 a2).bind fun z15 =>
 some (z15, true))))
theorem zkn : ∀ {a0} {a1} {a2} {r}, zdO a0 a1 a2 = some r → PCalls Tryz.prog 28 [(.sh, vE a0), (.sh, vC a1), (.sh, vC a2)] (Eo (.tup [vD r.1, .bool r.2]) [.junk, .junk, .junk]) := by
 intro a0 a1 a2 r hr
 apply pF 53 [] [] [] [.tmp 6, .tmp 7] hr zEb Tryz.func28
 intro Φ hΦ hF g
 unfold zdO at hF
 iterate 2 (try simp [go_sem, g]; try intros; refine zay ?_)
 refine wJ hF (fun x3 => [(1, .v (vC a1)), (2, .v (vC a2)), (3, .bl [.int .i64 a0.P, .int .i64 a0.Q, .int .i64 a0.G]), (8, .v (.int .i64 (a1.length : Int))), (38, .v (.bool x3))]) (fun x3 hF => ?_) fun _ hj1 hF => ?_
 ·refine wI hF (fun h12 hF => ?_) (fun h12 hF => ?_)
  ·cases hΦ _ (zaa hF)
   refine wW ?_
   try simp [go_sem, g]
  refine wW ?_
  refine wC hF [.sh, .sh] zfo (fun z13 hF => ?_)
  refine wK [1, 2, 3, 9, 10] ?_
  refine wW ?_
  refine wI hF (fun h14 hF => ?_) (fun h14 hF => ?_)
  ·cases hΦ _ (zaa hF)
   refine wW ?_
   try simp [go_sem, g]
  refine wW ?_
  refine wC hF [.sh, .sh, .sh, .sh] zhH (fun z15 hF => ?_)
  refine wK [6, 7] ?_
  cases hΦ _ (zaa hF)
  try simp [go_sem, g]
 refine wC hF [.sh] zfH (fun z4 hF => ?_)
 refine wG hF (fun h5 hF => ?_) fun h5 hF => ?_
 ·try simp [go_sem, g, h5]
  exact wT (hj1 _) (zaa hF)
 try simp [go_sem, g, h5]
 refine wC hF [.sh, .sh, .sh] zcf (fun z6 hF => ?_)
 try simp [go_sem, g, h5]
 refine wG hF (fun h7 hF => ?_) fun h7 hF => ?_
 ·try simp [go_sem, g, h7]
  exact wT (hj1 _) (zaa hF)
 try simp [go_sem, g, h7]
 try intros
 refine wG hF (fun h8 hF => ?_) fun h8 hF => ?_
 ·try simp [go_sem, g, h8]
  exact wT (hj1 _) (zaa hF)
 try simp [go_sem, g, h8]
 refine wC hF [.sh, .sh] zdu (fun z9 hF => ?_)
 try simp [go_sem, g, h8]
 refine wG hF (fun h10 hF => ?_) fun h10 hF => ?_
 ·try simp [go_sem, g, h10]
  exact wT (hj1 _) (zaa hF)
 try simp [go_sem, g, h10]
 refine wC hF [.sh, .sh] zdu (fun z11 hF => ?_)
 try simp [go_sem, g, h10]
 exact wT (hj1 _) (zaa hF)
@[go_sem] def zBl : List DE := [d2 0 [5] 5 5, d0 1 [8], d0 2 [10], d0 3 [24], d0 4 [141, 142], d3 5 [139, 140, 143], d0 6 [144], d0 7 [138], d0 8 [138], d0 9 [145], d0 10 [146]]
@[go_sem] def zAc : List DE := [d2 0 [5] 5 5, d0 1 [31], d0 2 [10], d0 3 [24], d0 4 [24], d0 5 [207], d0 6 [205, 206, 208], d3 7 [203, 204, 209], d0 8 [210], d0 9 [202], d0 10 [202], d0 11 [211], d0 12 [212]]
def zdl (a0 : List Int) (a1 : List Int) : Option Bool :=
 if decide (1048576 < (i64.wrap ((a0.length : Int) + (a1.length : Int)))) = true then (
 some true) else (
 (zcn a0).bind fun z2 =>
 (zbS z2.1 z2.2.1 z2.2.2.1 z2.2.2.2.1 z2.2.2.2.2.1 z2.2.2.2.2.2).bind fun z3 =>
 (zbB z2.1 z2.2.1 z2.2.2.1 z2.2.2.2.1 z2.2.2.2.2.1 z2.2.2.2.2.2).bind fun z4 =>
 (zcL a1).bind fun z5 =>
 (zcX z5.1 z5.2.1 z5.2.2.1 z5.2.2.2.1 z5.2.2.2.2).bind fun z6 =>
 (zcW z5.1 z5.2.1 z5.2.2.1 z5.2.2.2.1 z5.2.2.2.2).bind fun z7 =>
 ((if (z3.2 != z4.2) = true then (
 some true) else (
 (zcz z3.1.Columns z4.1.Columns).bind fun z12 =>
 if (!z12) = true then (
 some true) else (
 (zcz z3.1.Chain z4.1.Chain).bind fun z14 =>
 if (!z14) = true then (
 some true) else (
 (zfy z3.1.Pi z4.1.Pi).bind fun z16 =>
 if (!z16) = true then (
 some true) else (
 if (z6.2 != z7.2) = true then (
 some true) else (
 some (z6.1 != z7.1)))))) : Option Bool).bind fun x10 =>
 if x10 = true then (
 some false) else (
 if (!z3.2) = true then (
 some true) else (
 gd (0 ≤ (z2.2.2.1.length : Int)) <|
 gd (0 ≤ z2.2.2.1.length ∧ z2.2.2.1.length ≤ z2.2.2.2.2.2.length) <|
 (zdz z2.1 z2.2.2.2.1 ((z2.2.2.2.2.2.take z2.2.2.1.length).drop 0)).bind fun z21 =>
 (zeb z2.1 z2.2.1 z2.2.2.1 z2.2.2.2.1 z2.2.2.2.2.1).bind fun z22 =>
 (zcJ z2.1 z2.2.1 z2.2.2.1 z22.1 z21.1).bind fun z23 =>
 ((if (!z21.2) = true then (
 some true) else (
 if (!z22.2) = true then (
 some true) else (
 if (!z23.2) = true then (
 some true) else (
 (zcz z21.1 z3.1.Columns).bind fun z30 =>
 if (!z30) = true then (
 some true) else (
 some ((z23.1.length : Int) != (z2.2.2.1.length : Int)))))) : Option Bool).bind fun x26 =>
 if x26 = true then (
 some false) else (
 ((zar (σ := (List Int)) (fun i37 s36 =>
 (ix z2.2.2.2.1 i37).bind fun x43 =>
 (ix z23.1 x43).bind fun x44 =>
 gd ((s36.length + 1) * 8 ≤ 140737488355328 ∧ s36.length + 1 ≤ 4611686018427387904) <|
 some (.go (s36 ++ [x44]))) (fun s36 => s36) (z2.2.2.2.1.length) 0 [] : Option ((List Int))).bind fun x35 =>
 gd (0 ≤ (z2.2.2.1.length : Int)) <|
 gd (0 ≤ (i64.wrap (2 * (z2.2.2.1.length : Int)))) <|
 gd (z2.2.2.1.length ≤ (i64.wrap (2 * (z2.2.2.1.length : Int))).toNat ∧ (i64.wrap (2 * (z2.2.2.1.length : Int))).toNat ≤ z2.2.2.2.2.2.length) <|
 (zdO z2.1 x35 ((z2.2.2.2.2.2.take ((i64.wrap (2 * (z2.2.2.1.length : Int))).toNat)).drop z2.2.2.1.length)).bind fun z49 =>
 ((if z49.2 = true then (
 (zcz z49.1 z3.1.Chain).bind fun z54 =>
 some z54) else (
 some false) : Option Bool).bind fun x52 =>
 some x52))))))))
set_option maxHeartbeats 1000000 in
theorem zjt : ∀ {a0} {a1} {r}, zdl a0 a1 = some r → PCalls Tryz.prog 4 [(.sh, .sl false 1 (a0.map ze5)), (.sh, .sl false 1 (a1.map ze5))] (Eo (.bool r) [.junk, .junk]) := by
 intro a0 a1 r hr
 apply pF 220 [] [54, 55] [] [.tmp 4] hr cl4 Tryz.func4
 intro Φ hΦ hF g
 unfold zdl at hF
 iterate 2 (try simp [go_sem, g]; try intros; refine zay ?_)
 refine wI hF (fun h1 hF => ?_) (fun h1 hF => ?_)
 ·cases hΦ _ (zaa hF)
  refine wW ?_
  try simp [go_sem, g]
 refine wW ?_
 refine wC hF [.sh] zgs (fun z2 hF => ?_)
 refine wK [1, 5, 6, 7, 8, 9, 10] ?_
 refine wC hF [.sh, .sh, .sh, .sh, .sh, .sh] zkX (fun z3 hF => ?_)
 refine wK [1, 5, 6, 7, 8, 9, 10, 11, 12] ?_
 refine wC hF [.sh, .sh, .sh, .sh, .sh, .sh] zhC (fun z4 hF => ?_)
 refine wK [1, 5, 6, 7, 8, 9, 10, 11, 12, 13, 14] ?_
 refine wC hF [.sh] ziI (fun z5 hF => ?_)
 refine wK [5, 6, 7, 8, 9, 10, 11, 12, 13, 14, 15, 16, 17, 18, 19] ?_
 refine wC hF [.sh, .sh, .sh, .sh, .sh] zkl (fun z6 hF => ?_)
 refine wK [5, 6, 7, 8, 9, 10, 11, 12, 13, 14, 15, 16, 17, 18, 19, 20, 21] ?_
 refine wC hF [.sh, .sh, .sh, .sh, .sh] zkm (fun z7 hF => ?_)
 refine wK [5, 6, 7, 8, 9, 10, 11, 12, 13, 14, 20, 21, 22, 23] ?_
 refine wJ hF (fun x10 => [(5, .bl [.int .i64 z2.1.P, .int .i64 z2.1.Q, .int .i64 z2.1.G]), (6, .v (.int .i64 z2.2.1)), (7, .v (vH z2.2.2.1)), (8, .v (vC z2.2.2.2.1)), (9, .v (vC z2.2.2.2.2.1)), (10, .v (vC z2.2.2.2.2.2)), (11, .bl [vC z3.1.Columns, vC z3.1.Chain, vC z3.1.Pi.Commits, vC z3.1.Pi.Challenges, vC z3.1.Pi.Responses]), (12, .v (.bool z3.2)), (133, .v (.bool x10))]) (fun x10 hF => ?_) fun _ hj8 hF => ?_
 ·refine wI hF (fun h19 hF => ?_) (fun h19 hF => ?_)
  ·cases hΦ _ (zaa hF)
   refine wW ?_
   try simp [go_sem, g]
  iterate 2 refine wW ?_
  refine wI hF (fun h20 hF => ?_) (fun h20 hF => ?_)
  ·cases hΦ _ (zaa hF)
   refine wW ?_
   try simp [go_sem, g]
  iterate 2 (try simp [go_sem, g]; try intros; refine zay ?_)
  refine wX zBl follows ?_
  obtain ⟨g, hF⟩ := Rg g hF
  obtain ⟨g, hF⟩ := Rg g hF
  refine wC hF [.sh, .sh, .sh] zjW (fun z21 hF => ?_)
  refine wK [5, 6, 7, 8, 9, 10, 11, 24, 25, 26] ?_
  refine wC hF [.sh, .sh, .sh, .sh, .sh] zlu (fun z22 hF => ?_)
  refine wK [5, 6, 7, 8, 10, 11, 24, 25, 26, 27, 28] ?_
  refine wC hF [.sh, .sh, .sh, .sh, .sh] ziM (fun z23 hF => ?_)
  refine wK [5, 8, 10, 11, 24, 25, 26, 28, 29, 30] ?_
  refine wJ hF (fun x26 => [(5, .bl [.int .i64 z2.1.P, .int .i64 z2.1.Q, .int .i64 z2.1.G]), (8, .v (vC z2.2.2.2.1)), (10, .v (vC z2.2.2.2.2.2)), (11, .bl [vC z3.1.Columns, vC z3.1.Chain, vC z3.1.Pi.Commits, vC z3.1.Pi.Challenges, vC z3.1.Pi.Responses]), (24, .v (.int .i64 (z2.2.2.1.length : Int))), (29, .v (vD z23.1)), (187, .v (.bool x26))]) (fun x26 hF => ?_) fun _ hj24 hF => ?_
  ·refine wI hF (fun h32 hF => ?_) (fun h32 hF => ?_)
   ·cases hΦ _ (zaa hF)
    refine wW ?_
    try simp [go_sem, g]
   iterate 3 (try simp [go_sem, g]; try intros; refine zay ?_)
   refine wJ hF (fun x35 => [(5, .bl [.int .i64 z2.1.P, .int .i64 z2.1.Q, .int .i64 z2.1.G]), (10, .v (vC z2.2.2.2.2.2)), (11, .bl [vC z3.1.Columns, vC z3.1.Chain, vC z3.1.Pi.Commits, vC z3.1.Pi.Challenges, vC z3.1.Pi.Responses]), (24, .v (.int .i64 (z2.2.2.1.length : Int))), (31, .v (vD x35))]) (fun x35 hF => ?_) fun _ hj33 hF => ?_
   ·refine wX zAc follows ?_
    obtain ⟨g, hF⟩ := Rg g hF
    obtain ⟨g, hF⟩ := Rg g hF
    obtain ⟨g, hF⟩ := Rg g hF
    refine wC hF [.sh, .sh, .sh] zkn (fun z49 hF => ?_)
    refine wK [11, 34, 35] ?_
    refine wJ hF (fun x52 => [(4, .v (.bool x52))]) (fun x52 hF => ?_) fun _ hj50 hF => ?_
    ·cases hΦ _ (zaa hF)
     try simp [go_sem, g]
    refine wG hF (fun h53 hF => ?_) fun h53 hF => ?_
    ·try simp [go_sem, g, h53]
     refine wC hF [.sh, .sh] zes (fun z54 hF => ?_)
     try simp [go_sem, g, h53]
     exact wT (hj50 _) (zaa hF)
    try simp [go_sem, g, h53]
    exact wT (hj50 _) (zaa hF)
   refine wB ?_
   obtain ⟨b45, hb46, hψ40⟩ := hF
   refine pR hb46 (fun i37 s36 => [(5, .bl [.int .i64 z2.1.P, .int .i64 z2.1.Q, .int .i64 z2.1.G]), (10, .v (vC z2.2.2.2.2.2)), (11, .bl [vC z3.1.Columns, vC z3.1.Chain, vC z3.1.Pi.Commits, vC z3.1.Pi.Challenges, vC z3.1.Pi.Responses]), (24, .v (.int .i64 (z2.2.2.1.length : Int))), (29, .v (vD z23.1)), (31, .v (vD s36)), (188, .v (vC z2.2.2.2.1)), (189, .v (.int .i64 (z2.2.2.2.1.length : Int))), (190, .v (.int .i64 i37))]) (fun s36 _ hN47 => ?_) (fun i37 s36 _ _ hi41 hi42 ho38 hg39 hF => ?_)
   ·subst hN47
    refine wW ?_
    refine wf ?_
    exact wT (hj33 _) hψ40
   refine wW ?_
   refine wt ?_ (hb := by simp [go_sem, g, hi41, hi42])
   refine wW ?_
   refine wB ?_
   obtain ⟨x43, g, hF⟩ := Rx g hF
   obtain ⟨x44, g, hF⟩ := Rx g hF
   obtain ⟨g, hF⟩ := Rg g hF
   refine wW ?_
   refine wK [5, 10, 11, 24, 29, 31, 188, 189, 190] ?_
   exact wT (hg39 (s36 ++ [x44])) (zaa hF) (a := by simp [go_sem, g, zbp hi41 hi42 (by assumption)])
  refine wG hF (fun h27 hF => ?_) fun h27 hF => ?_
  ·try simp [go_sem, g, h27]
   exact wT (hj24 _) (zaa hF)
  try simp [go_sem, g, h27]
  refine wG hF (fun h28 hF => ?_) fun h28 hF => ?_
  ·try simp [go_sem, g, h28]
   exact wT (hj24 _) (zaa hF)
  try simp [go_sem, g, h28]
  refine wG hF (fun h29 hF => ?_) fun h29 hF => ?_
  ·try simp [go_sem, g, h29]
   exact wT (hj24 _) (zaa hF)
  try simp [go_sem, g, h29]
  refine wC hF [.sh, .sh] zes (fun z30 hF => ?_)
  try simp [go_sem, g, h29]
  refine wG hF (fun h31 hF => ?_) fun h31 hF => ?_
  ·try simp [go_sem, g, h31]
   exact wT (hj24 _) (zaa hF)
  try simp [go_sem, g, h31]
  try intros
  exact wT (hj24 _) (zaa hF)
 refine wG hF (fun h11 hF => ?_) fun h11 hF => ?_
 ·try simp [go_sem, g, h11]
  exact wT (hj8 _) (zaa hF)
 try simp [go_sem, g, h11]
 refine wC hF [.sh, .sh] zes (fun z12 hF => ?_)
 try simp [go_sem, g, h11]
 refine wG hF (fun h13 hF => ?_) fun h13 hF => ?_
 ·try simp [go_sem, g, h13]
  exact wT (hj8 _) (zaa hF)
 try simp [go_sem, g, h13]
 refine wC hF [.sh, .sh] zes (fun z14 hF => ?_)
 try simp [go_sem, g, h13]
 refine wG hF (fun h15 hF => ?_) fun h15 hF => ?_
 ·try simp [go_sem, g, h15]
  exact wT (hj8 _) (zaa hF)
 try simp [go_sem, g, h15]
 refine wC hF [.sh, .sh] zob (fun z16 hF => ?_)
 try simp [go_sem, g, h15]
 refine wG hF (fun h17 hF => ?_) fun h17 hF => ?_
 ·try simp [go_sem, g, h17]
  exact wT (hj8 _) (zaa hF)
 try simp [go_sem, g, h17]
 refine wG hF (fun h18 hF => ?_) fun h18 hF => ?_
 ·try simp [go_sem, g, h18]
  exact wT (hj8 _) (zaa hF)
 try simp [go_sem, g, h18]
 exact wT (hj8 _) (zaa hF)
end
end Go.Pm
