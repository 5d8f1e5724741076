/-
  Plain functions and their walks. Written by wip/tools/lift.py.
-/
import Derived.Test.YtmddekhnkcnefaaGreatM32
namespace Go.Pm
open Go.Am IntKind
open Go.Proofs
set_option maxRecDepth 100000
attribute [local irreducible] pw pwx pw1 pwg qv qz qf
attribute [-simp] List.map_set
set_option linter.unusedSimpArgs false
set_option linter.unusedVariables false
noncomputable section
theorem zeq : ∀ {a0} {a1} {a2} {a3} {a4} {r}, zbG a0 a1 a2 a3 a4 = some r → PCalls Tryz.prog 130 [(.sh, vE a0), (.sh, .str a1), (.sh, vG a2), (.sh, vC a3), (.sh, vV a4)] (Eo (.bool r) [.junk, .junk, .junk, .junk, .junk]) := by
 intro a0 a1 a2 a3 a4 r hr
 apply pF 103 [] [368] [] [.tmp 10] hr zBj Tryz.func130
 intro Φ hΦ hF g
 unfold zbG at hF
 refine wW ?_
 refine wJ hF (fun x3 => [(1, .v (.str a1)), (2, .v (vG a2)), (3, .v (vC a3)), (5, .bl [.int .i64 a0.P, .int .i64 a0.Q, .int .i64 a0.G]), (9, .bl [vC a4.Commits, vC a4.Challenges, vC a4.Responses]), (50, .v (.bool x3))]) (fun x3 hF => ?_) fun _ hj1 hF => ?_
 ·refine wI hF (fun h11 hF => ?_) (fun h11 hF => ?_)
  ·exact wl hΦ hF
  refine wW ?_
  refine wX zyW follows ?_
  refine wC hF [.sh] zdA (fun z12 hF => ?_)
  refine wC hF [.sh] zdA (fun z13 hF => ?_)
  refine wC hF [.sh, .sh, .sh] zgA (fun z14 hF => ?_)
  refine wK [2, 3, 5, 9, 11, 12] ?_
  refine wJ hF (fun x17 => [(2, .v (vG a2)), (3, .v (vC a3)), (5, .bl [.int .i64 a0.P, .int .i64 a0.Q, .int .i64 a0.G]), (9, .bl [vC a4.Commits, vC a4.Challenges, vC a4.Responses]), (11, .v (.int .i64 z14.1)), (73, .v (.bool x17))]) (fun x17 hF => ?_) fun _ hj15 hF => ?_
  ·refine wI hF (fun h20 hF => ?_) (fun h20 hF => ?_)
   ·exact wl hΦ hF
   refine wW ?_
   refine wC hF [.sh, .sh, .sh] zfU (fun z21 hF => ?_)
   try simp [go_sem, g]
   try intros
   refine zas ?_
   refine wS hF (fun x24 => []) (fun x24 hF => ?_) fun _ hj22 hr23 hF => ?_
   ·exact wl hΦ hF
   refine wB ?_
   obtain ⟨b38, hb39, hψ29⟩ := hF
   refine pR hb39 (fun i26 s25 => [(3, .v (vC a3)), (5, .bl [.int .i64 a0.P, .int .i64 a0.Q, .int .i64 a0.G]), (9, .bl [vC a4.Commits, vC a4.Challenges, vC a4.Responses]), (11, .v (.int .i64 z14.1)), (78, .v (vD z21)), (79, .v (.int .i64 (z21.length : Int))), (80, .v (.int .i64 i26))]) (fun s25 _ hN40 => ?_) (fun i26 s25 _ _ hi30 hi31 ho27 hg28 hF => ?_)
   ·exact wn hN40 (hj22 _) hψ29
   refine wW ?_
   refine wu hi30 hi31 ?_
   refine wW ?_
   refine wB ?_
   obtain ⟨x32, g, hF⟩ := Rx g hF
   refine wK [3, 5, 9, 11, 13, 14, 78, 79, 80] ?_
   refine wX zyA follows ?_
   obtain ⟨x33, g, hF⟩ := Rx g hF
   obtain ⟨x34, g, hF⟩ := Rx g hF
   refine wD hF zch (fun z35 hF => ?_)
   refine wC hF [.sh, .sh] zck (fun z36 hF => ?_)
   refine wK [3, 5, 9, 11, 78, 79, 80, 101] ?_
   refine wI hF (fun h37 hF => ?_) (fun h37 hF => ?_)
   ·cases ho27 _ (zaa hF)
    cases hΦ _ (hr23 _ hψ29)
    refine wW ?_
    try simp [go_sem, g]
   refine wW ?_
   exact wi hi30 hi31 (hg28 _) (zaa hF)
  refine wG hF (fun h18 hF => ?_) fun h18 hF => ?_
  ·exact wV h18 (hj15 _) (zaa hF)
  obtain ⟨x19, g, hF⟩ := Rxn g 0 hF
  exact wV h18 (hj15 _) (zaa hF)
 refine wX zyf follows ?_
 try simp [go_sem, g]
 try intros
 refine wH hF (fun h4 hF => ?_) fun h4 hF => ?_
 ·exact wV h4 (hj1 _) (zaa hF)
 try simp [go_sem, g, h4]
 try intros
 refine wH hF (fun h5 hF => ?_) fun h5 hF => ?_
 ·exact wV h5 (hj1 _) (zaa hF)
 obtain ⟨x6, g, hF⟩ := Rxn g 0 hF
 try simp [go_sem, g, h5]
 try intros
 refine wH hF (fun h7 hF => ?_) fun h7 hF => ?_
 ·exact wV h7 (hj1 _) (zaa hF)
 try simp [go_sem, g, h7]
 refine wC hF [.sh, .sh] zcN (fun z8 hF => ?_)
 try simp [go_sem, g, h7]
 refine wH hF (fun h9 hF => ?_) fun h9 hF => ?_
 ·exact wV h9 (hj1 _) (zaa hF)
 try simp [go_sem, g, h9]
 refine wC hF [.sh, .sh] zdl (fun z10 hF => ?_)
 exact wV h9 (hj1 _) (zaa hF)
def zeR (a0 : Group) (a1 : ByteArray) (a2 : (List (List Int))) (a3 : List Int) (a4 : Proof) : Option (Bool × Bool) :=
 (((zaL a0).bind fun z4 =>
 if (!z4) = true then (
 some true) else (
 (zdO a1).bind fun z6 =>
 if (!z6) = true then (
 some true) else (
 (zbS a0 a2).bind fun z8 =>
 if (!z8) = true then (
 some true) else (
 if ((a3.length : Int) != (a2.length : Int)) = true then (
 some true) else (
 (za2 a0 a3).bind fun z11 =>
 some (!z11))))) : Option Bool).bind fun x3 =>
 if x3 = true then (
 some (false, false)) else (
 (zbG a0 a1 a2 a3 a4).bind fun z13 =>
 some (z13, true)))
theorem zkS : ∀ {a0} {a1} {a2} {a3} {a4} {r}, zeR a0 a1 a2 a3 a4 = some r → PCalls Tryz.prog 94 [(.sh, vE a0), (.sh, .str a1), (.sh, vG a2), (.sh, vC a3), (.sh, vV a4)] (Eo (.tup [.bool r.1, .bool r.2]) [.junk, .junk, .junk, .junk, .junk]) := by
 intro a0 a1 a2 a3 a4 r hr
 apply pF 45 [] [] [] [.tmp 10, .tmp 11] hr zDD Tryz.func94
 intro Φ hΦ hF g
 unfold zeR at hF
 refine wW ?_
 refine wJ hF (fun x3 => [(1, .v (.str a1)), (2, .v (vG a2)), (3, .v (vC a3)), (5, .bl [.int .i64 a0.P, .int .i64 a0.Q, .int .i64 a0.G]), (9, .bl [vC a4.Commits, vC a4.Challenges, vC a4.Responses]), (38, .v (.bool x3))]) (fun x3 hF => ?_) fun _ hj1 hF => ?_
 ·refine wI hF (fun h12 hF => ?_) (fun h12 hF => ?_)
  ·exact wl hΦ hF
  refine wW ?_
  refine wC hF [.sh, .sh, .sh, .sh, .sh] zeq (fun z13 hF => ?_)
  refine wK [10, 11] ?_
  exact wm hΦ hF
 refine wC hF [.sh] zbe (fun z4 hF => ?_)
 refine wG hF (fun h5 hF => ?_) fun h5 hF => ?_
 ·exact wV h5 (hj1 _) (zaa hF)
 try simp [go_sem, g, h5]
 refine wC hF [.sh] zhE (fun z6 hF => ?_)
 try simp [go_sem, g, h5]
 refine wG hF (fun h7 hF => ?_) fun h7 hF => ?_
 ·exact wV h7 (hj1 _) (zaa hF)
 try simp [go_sem, g, h7]
 refine wC hF [.sh, .sh] zfv (fun z8 hF => ?_)
 try simp [go_sem, g, h7]
 refine wG hF (fun h9 hF => ?_) fun h9 hF => ?_
 ·exact wV h9 (hj1 _) (zaa hF)
 try simp [go_sem, g, h9]
 try intros
 refine wG hF (fun h10 hF => ?_) fun h10 hF => ?_
 ·exact wV h10 (hj1 _) (zaa hF)
 try simp [go_sem, g, h10]
 refine wC hF [.sh, .sh] zcN (fun z11 hF => ?_)
 exact wV h10 (hj1 _) (zaa hF)
@[go_sem] def zAe : List DE := [d2 0 [4] 4 4, d0 1 [1], d2 2 [6] 6 6, d1 4 [6] 6, d2 5 [14] 6 14, d1 6 [6] 6, d2 7 [16] 6 16, d0 8 [15, 17], d2 9 [7] 7 7, d3 3 [12], ⟨10, [10, 11, 13, 18, 19], [], none, true, true, true⟩, d0 11 [20], d0 12 [20], d0 13 [21], d0 14 [22]]
def zc9 (a0 : Group) (a1 : ByteArray) (a2 : EqualLog) (a3 : Proof) : Option (Bool × Bool) :=
 (zdG a2).bind fun z1 =>
 (zeR a0 a1 z1 [a2.Y1, a2.Y2] a3).bind fun z2 =>
 some (z2.1, z2.2)
theorem zh5 : ∀ {a0} {a1} {a2} {a3} {r}, zc9 a0 a1 a2 a3 = some r → PCalls Tryz.prog 47 [(.sh, vE a0), (.sh, .str a1), (.sh, vY a2), (.sh, vV a3)] (Eo (.tup [.bool r.1, .bool r.2]) [.junk, .junk, .junk, .junk]) := by
 intro a0 a1 a2 a3 r hr
 apply pF 23 [] [] [] [.tmp 8, .tmp 9] hr zDT Tryz.func47
 intro Φ hΦ hF g
 unfold zc9 at hF
 refine wW ?_
 refine wX zAe follows ?_
 refine wC hF [.sh] ziC (fun z1 hF => ?_)
 refine wC hF [.sh, .sh, .sh, .sh, .sh] zkS (fun z2 hF => ?_)
 refine wK [8, 9] ?_
 exact wm hΦ hF
@[go_sem] def zA4 : List DE := [d2 0 [3] 3 3, d2 1 [4] 4 4, d1 2 [5] 5, d2 3 [36] 5 36, d1 5 [5] 5, d2 6 [39] 5 39, d3 4 [35, 37], d3 7 [34, 38, 40], d0 8 [41], d0 9 [33], d0 10 [33], d0 11 [42], d0 12 [43]]
def zcv (a0 : Group) (a1 : Cipher) (a2 : Blind) : Option Bool :=
 (((zdQ a2.Index).bind fun z4 =>
 if (!z4) = true then (
 some true) else (
 (zaK a0 a2.Value).bind fun z6 =>
 if (!z6) = true then (
 some true) else (
 if (a2.Value.A == 1 && a2.Value.B == 1) = true then (
 some (!(a1.A == 1 && a1.B == 1))) else (
 some false))) : Option Bool).bind fun x3 =>
 if x3 = true then (
 some false) else (
 (zed a1 a2.Value).bind fun z10 =>
 (zc9 a0 (⟨#[98, 108, 105, 110, 100]⟩ : ByteArray) z10 a2.Pi).bind fun z11 =>
 ((if z11.1 = true then (
 some z11.2) else (
 some false) : Option Bool).bind fun x14 =>
 some x14)))
theorem zkE : ∀ {a0} {a1} {a2} {r}, zcv a0 a1 a2 = some r → PCalls Tryz.prog 70 [(.sh, vE a0), (.sh, vQ a1), (.sh, vZ a2)] (Eo (.bool r) [.junk, .junk, .junk]) := by
 intro a0 a1 a2 r hr
 apply pF 48 [] [] [] [.tmp 6] hr zFo Tryz.func70
 intro Φ hΦ hF g
 unfold zcv at hF
 iterate 2 refine wW ?_
 refine wJ hF (fun x3 => [(3, .bl [.int .i64 a0.P, .int .i64 a0.Q, .int .i64 a0.G]), (4, .bl [.int .i64 a1.A, .int .i64 a1.B]), (5, .bl [.int .i64 a2.Index, .int .i64 a2.Value.A, .int .i64 a2.Value.B, vC a2.Pi.Commits, vC a2.Pi.Challenges, vC a2.Pi.Responses]), (32, .v (.bool x3))]) (fun x3 hF => ?_) fun _ hj1 hF => ?_
 ·refine wI hF (fun h9 hF => ?_) (fun h9 hF => ?_)
  ·exact wl hΦ hF
  refine wW ?_
  refine wX zA4 follows ?_
  refine wC hF [.sh, .sh] zjP (fun z10 hF => ?_)
  refine wC hF [.sh, .sh, .sh, .sh] zh5 (fun z11 hF => ?_)
  refine wK [8, 9] ?_
  refine wJ hF (fun x14 => [(6, .v (.bool x14))]) (fun x14 hF => ?_) fun _ hj12 hF => ?_
  ·exact wm hΦ hF
  refine wG hF (fun h15 hF => ?_) fun h15 hF => ?_
  ·exact wV h15 (hj12 _) (zaa hF)
  exact wV h15 (hj12 _) (zaa hF)
 refine wC hF [.sh] ziW (fun z4 hF => ?_)
 refine wG hF (fun h5 hF => ?_) fun h5 hF => ?_
 ·exact wV h5 (hj1 _) (zaa hF)
 try simp [go_sem, g, h5]
 refine wC hF [.sh, .sh] zbn (fun z6 hF => ?_)
 try simp [go_sem, g, h5]
 refine wG hF (fun h7 hF => ?_) fun h7 hF => ?_
 ·exact wV h7 (hj1 _) (zaa hF)
 try simp [go_sem, g, h7]
 refine wG hF (fun h8 hF => ?_) fun h8 hF => ?_
 ·try simp [go_sem, g, h8, h7]
  exact wT (hj1 _) (zaa hF)
 try simp [go_sem, g, h8, h7]
 exact wT (hj1 _) (zaa hF)
@[go_sem] def zAK : List DE := [d2 0 [3] 3 3, d1 1 [4] 4, d2 2 [8] 4 8, d1 3 [5] 5, d2 4 [10] 5 10, d0 5 [9, 11], d2 7 [3] 3 3, d1 8 [4] 4, d2 9 [15] 4 15, d1 10 [5] 5, d2 11 [17] 5 17, d0 12 [16, 18], ⟨6, [7, 12], [], none, true, true, true⟩, ⟨13, [14, 19], [], none, true, true, true⟩, d0 14 [13, 20], d2 15 [6, 21] 6 6]
def zbJ (a0 : Group) (a1 : Cipher) (a2 : Cipher) : Option Cipher :=
 (zaV a0 [a1.A, a2.A]).bind fun z1 =>
 (zaV a0 [a1.B, a2.B]).bind fun z2 =>
 some (Cipher.mk z1 z2)
theorem zhA : ∀ {a0} {a1} {a2} {r}, zbJ a0 a1 a2 = some r → PCalls Tryz.prog 71 [(.sh, vE a0), (.sh, vQ a1), (.sh, vQ a2)] (Eo (vQ r) [.junk, .junk, .junk]) := by
 intro a0 a1 a2 r hr
 apply pF 22 [] [] [] [.cell 6 27] hr zFi Tryz.func71
 intro Φ hΦ hF g
 unfold zbJ at hF
 refine wW ?_
 refine wX zAK follows ?_
 refine wC hF [.sh, .sh] zck (fun z1 hF => ?_)
 refine wC hF [.sh, .sh] zck (fun z2 hF => ?_)
 refine wK [6] ?_
 exact wm hΦ hF
@[go_sem] def zBL : List DE := [d2 0 [3] 3 3, d2 1 [9] 9 9, d1 2 [12] 12, d2 3 [49] 12 49, d0 5 [10], d1 6 [12] 12, d2 7 [53] 12 53, d0 8 [54], d3 4 [47, 48, 50], ⟨9, [52, 55], [], none, true, false, false⟩, d2 10 [9, 51] 9 9, d0 11 [56]]
def zdh (a0 : Group) (a1 : Cipher) (a2 : List Blind) : Option (Cipher × List Int × Bool) :=
 (((zaL a0).bind fun z4 =>
 if (!z4) = true then (
 some true) else (
 (zaK a0 a1).bind fun z6 =>
 if (!z6) = true then (
 some true) else (
 some (decide (14 < (a2.length : Int))))) : Option Bool).bind fun x3 =>
 if x3 = true then (
 some ((Cipher.mk 0 0), [], false)) else (
 ((zap (σ := Int × Int × List Int) (fun i32 s31 =>
 (((ix a2 i32).bind fun x41 =>
 (((za3 s31.2.2 x41.Index).bind fun z45 =>
 if (!z45) = true then (
 (zcv a0 a1 x41).bind fun z47 =>
 some z47) else (
 some false) : Option Bool).bind fun x44 =>
 if x44 = true then (
 (zbJ a0 (Cipher.mk s31.1 s31.2.1) x41.Value).bind fun z49 =>
 gd ((s31.2.2.length + 1) * 8 ≤ 140737488355328 ∧ s31.2.2.length + 1 ≤ 4611686018427387904) <|
 some (z49.A, z49.B, s31.2.2 ++ [x41.Index])) else (
 some (s31.1, s31.2.1, s31.2.2))) : Option ((Int × Int × List Int))).bind fun x40 =>
 some (.go (x40.1, x40.2.1, x40.2.2)))) (fun s31 => (s31.1, s31.2.1, s31.2.2)) (a2.length) 0 (1, 1, []) : Option ((Int × Int × List Int))).bind fun x11 =>
 if ((x11.2.2.length : Int) == 0) = true then (
 some ((Cipher.mk 0 0), [], false)) else (
 some ((Cipher.mk x11.1 x11.2.1), x11.2.2, true)))))
theorem zkb : ∀ {a0} {a1} {a2} {r}, zdh a0 a1 a2 = some r → PCalls Tryz.prog 27 [(.sh, vE a0), (.sh, vQ a1), (.sh, vAA a2)] (Eo (.tup [vQ r.1, vD r.2.1, .bool r.2.2]) [.junk, .junk, .junk]) := by
 intro a0 a1 a2 r hr
 apply pF 64 [] [] [] [.cell 6 27, .tmp 7, .tmp 8] hr zGU Tryz.func27
 intro Φ hΦ hF g
 unfold zdh at hF
 refine wW ?_
 refine wJ hF (fun x3 => [(2, .v (vAA a2)), (3, .bl [.int .i64 a0.P, .int .i64 a0.Q, .int .i64 a0.G]), (4, .bl [.int .i64 a1.A, .int .i64 a1.B]), (6, .bl [.int .i64 0, .int .i64 0]), (26, .v (.bool x3))]) (fun x3 hF => ?_) fun _ hj1 hF => ?_
 ·refine wI hF (fun h8 hF => ?_) (fun h8 hF => ?_)
  ·exact wl hΦ hF
  refine wW ?_
  refine wK [2, 3, 4, 6, 9, 10] ?_
  try simp [go_sem, g]
  try intros
  refine zas ?_
  refine wJ hF (fun x11 => [(6, .bl [.int .i64 0, .int .i64 0]), (9, .bl [.int .i64 x11.1, .int .i64 x11.2.1]), (10, .v (vD x11.2.2))]) (fun x11 hF => ?_) fun _ hj9 hF => ?_
  ·try simp [go_sem, g]
   try intros
   refine zas ?_
   refine wI hF (fun h54 hF => ?_) (fun h54 hF => ?_)
   ·refine wK [6, 7, 8] ?_
    exact wm hΦ hF
   refine wW ?_
   refine wK [6, 7, 8] ?_
   exact wm hΦ hF
  refine wB ?_
  obtain ⟨b50, hb51, hψ35⟩ := hF
  refine pR hb51 (fun i32 s31 => [(3, .bl [.int .i64 a0.P, .int .i64 a0.Q, .int .i64 a0.G]), (4, .bl [.int .i64 a1.A, .int .i64 a1.B]), (6, .bl [.int .i64 0, .int .i64 0]), (9, .bl [.int .i64 s31.1, .int .i64 s31.2.1]), (10, .v (vD s31.2.2)), (30, .v (vAA a2)), (31, .v (.int .i64 (a2.length : Int))), (32, .v (.int .i64 i32))]) (fun s31 _ hN52 => ?_) (fun i32 s31 _ _ hi36 hi37 ho33 hg34 hF => ?_)
  ·exact wn hN52 (hj9 _) hψ35
  refine wW ?_
  refine wu hi36 hi37 ?_
  refine wW ?_
  refine wJ hF (fun x40 => [(3, .bl [.int .i64 a0.P, .int .i64 a0.Q, .int .i64 a0.G]), (4, .bl [.int .i64 a1.A, .int .i64 a1.B]), (6, .bl [.int .i64 0, .int .i64 0]), (9, .bl [.int .i64 x40.1, .int .i64 x40.2.1]), (10, .v (vD x40.2.2)), (30, .v (vAA a2)), (31, .v (.int .i64 (a2.length : Int))), (32, .v (.int .i64 i32))]) (fun x40 hF => ?_) fun _ hj38 hF => ?_
  ·exact wi hi36 hi37 (hg34 _) (zaa hF)
  refine wB ?_
  obtain ⟨x41, g, hF⟩ := Rx g hF
  refine wW ?_
  refine wJ hF (fun x44 => [(3, .bl [.int .i64 a0.P, .int .i64 a0.Q, .int .i64 a0.G]), (4, .bl [.int .i64 a1.A, .int .i64 a1.B]), (6, .bl [.int .i64 0, .int .i64 0]), (9, .bl [.int .i64 s31.1, .int .i64 s31.2.1]), (10, .v (vD s31.2.2)), (12, .bl [.int .i64 x41.Index, .int .i64 x41.Value.A, .int .i64 x41.Value.B, vC x41.Pi.Commits, vC x41.Pi.Challenges, vC x41.Pi.Responses]), (30, .v (vAA a2)), (31, .v (.int .i64 (a2.length : Int))), (32, .v (.int .i64 i32)), (46, .v (.bool x44))]) (fun x44 hF => ?_) fun _ hj42 hF => ?_
  ·refine wI hF (fun h48 hF => ?_) (fun h48 hF => ?_)
   ·refine wX zBL follows ?_
    refine wC hF [.sh, .sh, .sh] zhA (fun z49 hF => ?_)
    obtain ⟨g, hF⟩ := Rg g hF
    exact wT (hj38 _) (zaa hF)
   exact wT (hj38 _) (zaa hF)
  refine wC hF [.sh, .sh] zfY (fun z45 hF => ?_)
  refine wG hF (fun h46 hF => ?_) fun h46 hF => ?_
  ·try simp [go_sem, g, h46]
   refine wC hF [.sh, .sh, .sh] zkE (fun z47 hF => ?_)
   exact wV h46 (hj42 _) (zaa hF)
  exact wV h46 (hj42 _) (zaa hF)
 refine wC hF [.sh] zbe (fun z4 hF => ?_)
 refine wG hF (fun h5 hF => ?_) fun h5 hF => ?_
 ·exact wV h5 (hj1 _) (zaa hF)
 try simp [go_sem, g, h5]
 refine wC hF [.sh, .sh] zbn (fun z6 hF => ?_)
 try simp [go_sem, g, h5]
 refine wG hF (fun h7 hF => ?_) fun h7 hF => ?_
 ·exact wV h7 (hj1 _) (zaa hF)
 try simp [go_sem, g, h7]
 try intros
 exact wT (hj1 _) (zaa hF)
def zcB (a0 : Group) (a1 : List Int) : Option Bool :=
 (((za8 (a1.length : Int) 1 7).bind fun z4 =>
 if z4 = true then (
 (za2 a0 a1).bind fun z6 =>
 some z6) else (
 some false) : Option Bool).bind fun x3 =>
 some x3)
theorem zi6 : ∀ {a0} {a1} {r}, zcB a0 a1 = some r → PCalls Tryz.prog 137 [(.sh, vE a0), (.sh, vC a1)] (Eo (.bool r) [.junk, .junk]) := by
 intro a0 a1 r hr
 apply pF 13 [] [] [] [.tmp 4] hr zBO Tryz.func137
 intro Φ hΦ hF g
 unfold zcB at hF
 refine wW ?_
 refine wJ hF (fun x3 => [(4, .v (.bool x3))]) (fun x3 hF => ?_) fun _ hj1 hF => ?_
 ·exact wm hΦ hF
 try simp [go_sem, g]
 try intros
 refine wC hF [.sh, .sh, .sh] zbU (fun z4 hF => ?_)
 refine wG hF (fun h5 hF => ?_) fun h5 hF => ?_
 ·try simp [go_sem, g, h5]
  refine wC hF [.sh, .sh] zcN (fun z6 hF => ?_)
  exact wV h5 (hj1 _) (zaa hF)
 exact wV h5 (hj1 _) (zaa hF)
def zdE (a0 : Group) (a1 : List Int) (a2 : Cipher) : Option Bool :=
 (((zdL a0).bind fun z4 =>
 if z4 = true then (
 (zcB a0 a1).bind fun z6 =>
 if z6 = true then (
 (zaK a0 a2).bind fun z8 =>
 some z8) else (
 some false)) else (
 some false) : Option Bool).bind fun x3 =>
 some x3)
theorem zkR : ∀ {a0} {a1} {a2} {r}, zdE a0 a1 a2 = some r → PCalls Tryz.prog 115 [(.sh, vE a0), (.sh, vC a1), (.sh, vQ a2)] (Eo (.bool r) [.junk, .junk, .junk]) := by
 intro a0 a1 a2 r hr
 apply pF 19 [] [] [] [.tmp 6] hr zBC Tryz.func115
 intro Φ hΦ hF g
 unfold zdE at hF
 refine wW ?_
 refine wJ hF (fun x3 => [(6, .v (.bool x3))]) (fun x3 hF => ?_) fun _ hj1 hF => ?_
 ·exact wm hΦ hF
 refine wC hF [.sh] zi2 (fun z4 hF => ?_)
 refine wG hF (fun h5 hF => ?_) fun h5 hF => ?_
 ·try simp [go_sem, g, h5]
  refine wC hF [.sh, .sh] zi6 (fun z6 hF => ?_)
  try simp [go_sem, g, h5]
  refine wG hF (fun h7 hF => ?_) fun h7 hF => ?_
  ·try simp [go_sem, g, h7]
   refine wC hF [.sh, .sh] zbn (fun z8 hF => ?_)
   exact wV h7 (hj1 _) (zaa hF)
  exact wV h7 (hj1 _) (zaa hF)
 exact wV h5 (hj1 _) (zaa hF)
def zc2 (a0 : Group) (a1 : Int) : Option Int :=
 (zdS a1 a0.Q).bind fun z1 =>
 some z1
theorem ziS : ∀ {a0} {a1} {r}, zc2 a0 a1 = some r → PCalls Tryz.prog 150 [(.sh, vE a0), (.sh, .int .i64 a1)] (Eo (.int .i64 r) [.junk, .junk]) := by
 intro a0 a1 r hr
 apply pF 9 [] [] [] [.tmp 4] hr zA7 Tryz.func150
 intro Φ hΦ hF g
 unfold zc2 at hF
 refine wW ?_
 refine wC hF [.sh, .sh] zin (fun z1 hF => ?_)
 exact wl hΦ hF
@[go_sem] def zyS : List DE := [d2 0 [3] 3 3, d0 1 [7], d2 2 [3] 3 3, d0 3 [10], d0 4 [8], d2 8 [3] 3 3, d0 9 [8], d0 10 [2], d0 11 [26, 27], d3 5 [19, 20, 21], d0 6 [18, 22], ⟨7, [17, 23], [], none, true, true, true⟩, d3 12 [25, 28], d0 13 [24], d0 14 [29]]
def zca (a0 : Group) (a1 : List Int) (a2 : Int) : Option Int :=
 ((zap (σ := Int × Int) (fun i5 s4 =>
 (ix a1 i5).bind fun x11 =>
 (za6 a0 x11 s4.2).bind fun z12 =>
 (zaV a0 [s4.1, z12]).bind fun z13 =>
 (zc2 a0 (i64.wrap (s4.2 * a2))).bind fun z14 =>
 some (.go (z13, z14))) (fun s4 => s4.1) (a1.length) 0 (1, 1) : Option Int).bind fun x3 =>
 some x3)
theorem zg0 : ∀ {a0} {a1} {a2} {r}, zca a0 a1 a2 = some r → PCalls Tryz.prog 154 [(.sh, vE a0), (.sh, vC a1), (.sh, .int .i64 a2)] (Eo (.int .i64 r) [.junk, .junk, .junk]) := by
 intro a0 a1 a2 r hr
 apply pF 32 [] [] [] [.tmp 6] hr zAO Tryz.func154
 intro Φ hΦ hF g
 unfold zca at hF
 iterate 3 (try simp [go_sem, g]; try intros; refine zas ?_)
 refine wJ hF (fun x3 => [(7, .v (.int .i64 x3))]) (fun x3 hF => ?_) fun _ hj1 hF => ?_
 ·exact wl hΦ hF
 refine wB ?_
 obtain ⟨b15, hb16, hψ8⟩ := hF
 refine pR hb16 (fun i5 s4 => [(2, .v (.int .i64 a2)), (3, .bl [.int .i64 a0.P, .int .i64 a0.Q, .int .i64 a0.G]), (7, .v (.int .i64 s4.1)), (8, .v (.int .i64 s4.2)), (11, .v (vC a1)), (12, .v (.int .i64 (a1.length : Int))), (13, .v (.int .i64 i5))]) (fun s4 _ hN17 => ?_) (fun i5 s4 _ _ hi9 hi10 ho6 hg7 hF => ?_)
 ·exact wn hN17 (hj1 _) hψ8
 refine wW ?_
 refine wu hi9 hi10 ?_
 refine wW ?_
 refine wB ?_
 obtain ⟨x11, g, hF⟩ := Rx g hF
 refine wK [2, 3, 7, 8, 10, 11, 12, 13] ?_
 refine wX zyS follows ?_
 refine wC hF [.sh, .sh, .sh] zch (fun z12 hF => ?_)
 refine wC hF [.sh, .sh] zck (fun z13 hF => ?_)
 refine wC hF [.sh, .sh] ziS (fun z14 hF => ?_)
 refine wK [2, 3, 7, 8, 11, 12, 13] ?_
 exact wi hi9 hi10 (hg7 _) (zaa hF)
@[go_sem] def zzd : List DE := [d2 0 [4] 4 4, d1 1 [4] 4, d2 2 [21] 4 21, d0 3 [22], d1 4 [6] 6, d2 5 [24] 6 24, d0 6 [25], d2 8 [4] 4 4, d0 9 [1], d1 10 [7] 7, d2 11 [30] 7 30, d1 13 [7] 7, d2 14 [33] 7 33, d1 16 [7] 7, d2 17 [36] 7 36, ⟨7, [23, 26], [], none, true, true, false⟩, d3 12 [28, 29, 31], d0 15 [32, 34], ⟨18, [20, 27, 35, 37], [], none, true, true, true⟩, d0 19 [38]]
@[go_sem] def zv1 : List DE := [d2 0 [4] 4 4, d1 1 [4] 4, d2 2 [21] 4 21, d0 3 [22], d1 4 [6] 6, d2 5 [24] 6 24, d0 6 [25], d2 8 [4] 4 4, d0 9 [1], d1 10 [7] 7, d2 11 [30] 7 30, d1 13 [7] 7, d2 14 [33] 7 33, d1 16 [7] 7, d2 17 [36] 7 36, d3 12 [28, 29, 31], d0 15 [32, 34], ⟨7, [23, 26], [], none, true, true, false⟩, ⟨18, [20, 27, 35, 37], [], none, true, true, true⟩, d0 19 [38]]
def zb2 (a0 : Group) (a1 : List Int) (a2 : Cipher) (a3 : Partial) : Option Bool :=
 (((zdQ a3.Index).bind fun z4 =>
 if (!z4) = true then (
 some true) else (
 (zbC a0 a3.Value).bind fun z6 =>
 some (!z6)) : Option Bool).bind fun x3 =>
 if x3 = true then (
 some false) else (
 (zca a0 a1 a3.Index).bind fun z8 =>
 (zbG a0 (⟨#[112, 97, 114, 116, 105, 97, 108]⟩ : ByteArray) [[a0.G], [a2.A]] [z8, a3.Value] a3.Pi).bind fun z9 =>
 some z9))
theorem zjv : ∀ {a0} {a1} {a2} {a3} {r}, zb2 a0 a1 a2 a3 = some r → PCalls Tryz.prog 138 [(.sh, vE a0), (.sh, vC a1), (.sh, vQ a2), (.sh, vAE a3)] (Eo (.bool r) [.junk, .junk, .junk, .junk]) := by
 intro a0 a1 a2 a3 r hr
 apply pF 39 [] [] [] [.tmp 8] hr zBY Tryz.func138
 intro Φ hΦ hF g
 unfold zb2 at hF
 refine wW ?_
 refine wJ hF (fun x3 => [(1, .v (vC a1)), (4, .bl [.int .i64 a0.P, .int .i64 a0.Q, .int .i64 a0.G]), (6, .bl [.int .i64 a2.A, .int .i64 a2.B]), (7, .bl [.int .i64 a3.Index, .int .i64 a3.Value, vC a3.Pi.Commits, vC a3.Pi.Challenges, vC a3.Pi.Responses]), (19, .v (.bool x3))]) (fun x3 hF => ?_) fun _ hj1 hF => ?_
 ·refine wI hF (fun h7 hF => ?_) (fun h7 hF => ?_)
  ·exact wl hΦ hF
  refine wW ?_
  repeat rw [sq]
  refine zkg 7 12 zzd zv1 follows (by decide) (by kernel_rfl) (by kernel_rfl) rfl rfl ?_ ?_
  ·refine wC hF [.sh, .sh, .sh] zg0 (fun z8 hF => ?_)
   refine wC hF [.sh, .sh, .sh, .sh, .sh] zeq (fun z9 hF => ?_)
   refine wK [8] ?_
   exact wm hΦ hF
  refine wC hF [.sh, .sh, .sh] zg0 (fun z8 hF => ?_)
  refine wC hF [.sh, .sh, .sh, .sh, .sh] zeq (fun z9 hF => ?_)
  refine wK [8] ?_
  exact wm hΦ hF
 refine wC hF [.sh] ziW (fun z4 hF => ?_)
 refine wG hF (fun h5 hF => ?_) fun h5 hF => ?_
 ·exact wV h5 (hj1 _) (zaa hF)
 try simp [go_sem, g, h5]
 refine wC hF [.sh, .sh] zdI (fun z6 hF => ?_)
 exact wV h5 (hj1 _) (zaa hF)
@[go_sem] def zzm : List DE := [d0 0 [9], d0 1 [11], d0 2 [35], d0 4 [10], d1 5 [12] 12, d2 6 [39] 12 39, d0 7 [40], ⟨3, [34, 36], [], none, true, false, false⟩, ⟨8, [38, 41], [], none, true, false, false⟩, d0 9 [37], d0 10 [42]]
def zdr (a0 : Group) (a1 : List Int) (a2 : Cipher) (a3 : List Partial) : Option ((List Int)) :=
 ((zap (σ := (List Int) × List Int) (fun i5 s4 =>
 (((ix a3 i5).bind fun x14 =>
 (((za3 s4.2 x14.Index).bind fun z18 =>
 if (!z18) = true then (
 (zb2 a0 a1 a2 x14).bind fun z20 =>
 some z20) else (
 some false) : Option Bool).bind fun x17 =>
 if x17 = true then (
 gd ((s4.1.length + 1) * 8 ≤ 140737488355328 ∧ s4.1.length + 1 ≤ 4611686018427387904) <|
 gd ((s4.2.length + 1) * 8 ≤ 140737488355328 ∧ s4.2.length + 1 ≤ 4611686018427387904) <|
 some (s4.1 ++ [i5], s4.2 ++ [x14.Index])) else (
 some (s4.1, s4.2))) : Option ((List Int × List Int))).bind fun x13 =>
 some (.go (x13.1, x13.2)))) (fun s4 => s4.1) (a3.length) 0 ([], []) : Option ((List Int))).bind fun x3 =>
 some x3)
theorem zlY : ∀ {a0} {a1} {a2} {a3} {r}, zdr a0 a1 a2 a3 = some r → PCalls Tryz.prog 116 [(.sh, vE a0), (.sh, vC a1), (.sh, vQ a2), (.sh, vAD a3)] (Eo (vD r) [.junk, .junk, .junk, .junk]) := by
 intro a0 a1 a2 a3 r hr
 apply pF 45 [] [] [] [.tmp 8] hr zAr Tryz.func116
 intro Φ hΦ hF g
 unfold zdr at hF
 iterate 2 (try simp [go_sem, g]; try intros; refine zas ?_)
 try simp [go_sem, g]
 try intros
 refine wK [1, 4, 6, 9, 10, 15, 16, 17] ?_
 refine wJ hF (fun x3 => [(9, .v (vD x3))]) (fun x3 hF => ?_) fun _ hj1 hF => ?_
 ·exact wl hΦ hF
 refine wB ?_
 obtain ⟨b22, hb23, hψ8⟩ := hF
 refine pR hb23 (fun i5 s4 => [(1, .v (vC a1)), (4, .bl [.int .i64 a0.P, .int .i64 a0.Q, .int .i64 a0.G]), (6, .bl [.int .i64 a2.A, .int .i64 a2.B]), (9, .v (vD s4.1)), (10, .v (vD s4.2)), (15, .v (vAD a3)), (16, .v (.int .i64 (a3.length : Int))), (17, .v (.int .i64 i5))]) (fun s4 _ hN24 => ?_) (fun i5 s4 _ _ hi9 hi10 ho6 hg7 hF => ?_)
 ·exact wn hN24 (hj1 _) hψ8
 refine wW ?_
 refine wu hi9 hi10 ?_
 refine wW ?_
 refine wJ hF (fun x13 => [(1, .v (vC a1)), (4, .bl [.int .i64 a0.P, .int .i64 a0.Q, .int .i64 a0.G]), (6, .bl [.int .i64 a2.A, .int .i64 a2.B]), (9, .v (vD x13.1)), (10, .v (vD x13.2)), (15, .v (vAD a3)), (16, .v (.int .i64 (a3.length : Int))), (17, .v (.int .i64 i5))]) (fun x13 hF => ?_) fun _ hj11 hF => ?_
 ·exact wi hi9 hi10 (hg7 _) (zaa hF)
 refine wB ?_
 obtain ⟨x14, g, hF⟩ := Rx g hF
 refine wW ?_
 refine wJ hF (fun x17 => [(1, .v (vC a1)), (4, .bl [.int .i64 a0.P, .int .i64 a0.Q, .int .i64 a0.G]), (6, .bl [.int .i64 a2.A, .int .i64 a2.B]), (9, .v (vD s4.1)), (10, .v (vD s4.2)), (11, .v (.int .i64 i5)), (12, .bl [.int .i64 x14.Index, .int .i64 x14.Value, vC x14.Pi.Commits, vC x14.Pi.Challenges, vC x14.Pi.Responses]), (15, .v (vAD a3)), (16, .v (.int .i64 (a3.length : Int))), (17, .v (.int .i64 i5)), (33, .v (.bool x17))]) (fun x17 hF => ?_) fun _ hj15 hF => ?_
 ·refine wI hF (fun h21 hF => ?_) (fun h21 hF => ?_)
  ·refine wX zzm follows ?_
   obtain ⟨g, hF⟩ := Rg g hF
   obtain ⟨g, hF⟩ := Rg g hF
   exact wT (hj11 _) (zaa hF)
  exact wT (hj11 _) (zaa hF)
 refine wC hF [.sh, .sh] zfY (fun z18 hF => ?_)
 refine wG hF (fun h19 hF => ?_) fun h19 hF => ?_
 ·try simp [go_sem, g, h19]
  refine wC hF [.sh, .sh, .sh, .sh] zjv (fun z20 hF => ?_)
  exact wV h19 (hj15 _) (zaa hF)
 exact wV h19 (hj15 _) (zaa hF)
def zdC (a0 : Group) (a1 : List Int) (a2 : Cipher) (a3 : List Partial) : Option (List Int × Bool) :=
 (((zdE a0 a1 a2).bind fun z4 =>
 if (!z4) = true then (
 some true) else (
 some (decide (14 < (a3.length : Int)))) : Option Bool).bind fun x3 =>
 if x3 = true then (
 some ([], false)) else (
 (zdr a0 a1 a2 a3).bind fun z7 =>
 some (z7, true)))
theorem zkN : ∀ {a0} {a1} {a2} {a3} {r}, zdC a0 a1 a2 a3 = some r → PCalls Tryz.prog 72 [(.sh, vE a0), (.sh, vC a1), (.sh, vQ a2), (.sh, vAD a3)] (Eo (.tup [vD r.1, .bool r.2]) [.junk, .junk, .junk, .junk]) := by
 intro a0 a1 a2 a3 r hr
 apply pF 25 [] [] [] [.tmp 8, .tmp 9] hr zFe Tryz.func72
 intro Φ hΦ hF g
 unfold zdC at hF
 refine wW ?_
 refine wJ hF (fun x3 => [(1, .v (vC a1)), (3, .v (vAD a3)), (4, .bl [.int .i64 a0.P, .int .i64 a0.Q, .int .i64 a0.G]), (6, .bl [.int .i64 a2.A, .int .i64 a2.B]), (19, .v (.bool x3))]) (fun x3 hF => ?_) fun _ hj1 hF => ?_
 ·refine wI hF (fun h6 hF => ?_) (fun h6 hF => ?_)
  ·exact wl hΦ hF
  refine wW ?_
  refine wC hF [.sh, .sh, .sh, .sh] zlY (fun z7 hF => ?_)
  refine wK [8, 9] ?_
  exact wm hΦ hF
 refine wC hF [.sh, .sh, .sh] zkR (fun z4 hF => ?_)
 refine wG hF (fun h5 hF => ?_) fun h5 hF => ?_
 ·exact wV h5 (hj1 _) (zaa hF)
 try simp [go_sem, g, h5]
 try intros
 exact wT (hj1 _) (zaa hF)
def zdU (a0 : List Int) : Option (List Int) :=
 gd (a0.length * 8 ≤ 140737488355328 ∧ a0.length ≤ 4611686018427387904) <|
 some a0
theorem zjH {a0 : (List Int)} {r : (List Int)} (hr : zdU a0 = some r) : PCalls Tryz.prog 140 [(.sh, .sl false 1 (a0.map zag))] (Eo (.sl true 1 (r.map zag)) [.junk]) := by
 apply zoC 8 [] [] [1000000] [.tmp 2] hr zBD Tryz.func140 rfl rfl rfl
 ·exact ⟨by simp, rfl⟩
 intro Φ hΦ hF
 unfold zdU at hF
 obtain ⟨g, hF⟩ := zie hF
 have h1 := hΦ _ (zaa hF)
 subst h1
 try simp [go_sem]
 refine znI [(0, .v (.sl false 1 (a0.map zag)))] (by simp [go_sem]) ?_
 try simp [go_sem]
 refine zxx rfl rfl (by simp [go_sem]) rfl (by rfl) fun b hb => ?_
 try simp [go_sem]
 refine zas ?_
 repeat rw [zuJ]
 cases b
 ·refine zo0 (by simp [go_sem]) ?_
  try simp [go_sem]
  refine zas ?_
  try simp [go_sem, g]
  refine zas ?_
  try simp [go_sem, g]
 have hb0 : a0 = [] := by
  cases a0 with
  | nil => rfl
  | cons x l => exact absurd (hb (by simp)) (by simp)
 subst hb0
 refine zk0 (by simp [go_sem]) ?_
 try simp [go_sem]
 refine zas ?_
 try simp [go_sem]
@[go_sem] def zp0 : List DE := [⟨0, [0], [], none, false, false, false⟩, ⟨1, [1], [], none, false, false, false⟩, ⟨2, [20, 21], [], none, false, false, false⟩, ⟨3, [0], [], none, false, false, false⟩, ⟨4, [2], [], none, false, false, false⟩, ⟨5, [23, 24], [], none, false, false, false⟩, ⟨6, [22, 25], [], none, false, false, false⟩, ⟨7, [26], [], none, false, false, false⟩]
theorem zyj : zyl Tryz.prog 139 := by
 intro id n c i j cells H hb hij hjn hnc hcl hn hi
 have e1 : zaw Tryz.prog 25 = some 3 := by kernel_rfl
 have e2 : tsz Tryz.prog 3 = some (false, 1, 8, [.int .i64 0]) := by kernel_rfl
 refine ziY zwe Tryz.func139 rfl rfl (by simp [Tryz.f139]) fun hw => ?_
 have hne : ((i : Int) == (j : Int)) = false := by simp; omega
 have w0 : ¬ (i = j) := by omega
 have w1 : ¬ (n - i = 0) := by omega
 have w2 : i ≤ j := by omega
 have w3 : i ≤ c := by omega
 have w4 : j ≤ n := hjn
 have a1 : (0 : Int) ≤ (i : Int) := by omega
 have a2 : (0 : Int) ≤ (j : Int) := by omega
 have a3 : (0 : Int) ≤ (n : Int) := by omega
 simp [Tryz.f139, awp, zgj, aop, ahp, zaP, za7, zaW, mat, za1, zau, zku, FR.put, FR.init, rdv, rda, zbB, zcO, zan, e1, e2, Am.lenV, zd4, zb4, bnd, zjM, hne, w0, w1, w2, w3, w4, hnc, a1, a2, a3, Int.toNat_natCast]
 refine ⟨follows, 0, zp0, by kernel_rfl, ?_⟩
 have w5 : i ≤ i + (n - j) := by omega
 have w6 : i + (n - j) ≤ n := by omega
 have w7 : i + (n - j) ≤ c := by omega
 by_cases hz : n - j = 0
 ·have w8 : ¬ n = i := by omega
  have hz2 : n = j := by omega
  subst hz2
  have w9 : ¬ n - i = 0 := by omega
  simp [zp0, dops, dop, gop, zdb, okL, okS, okR, DE.ex, awp, zku, zgj, aop, ahp, zaP, za7, zaW, mat, za1, zau, FR.put, FR.init, rdv, rda, zbB, zcO, zan, e1, e2, Am.lenV, zd4, zb4, bnd, zjM, zdz, zd9, hne, w0, w1, w2, w3, w4, w5, w6, w7, w8, w9, hnc, a1, a2, a3, Int.toNat_natCast, zdf, hb]
  have hne0 : List.replicate (n - i) (Value.int i64 0) ≠ [] := fun e => by
   have := congrArg List.length e
   simp at this; omega
  obtain ⟨cs, hp⟩ := zgc (cs := cells) hne0 (n := i) (by simp; omega)
  obtain ⟨q1, q2, q3, q4⟩ := zfs hne0 hp
  refine ⟨cs, hp, ?_⟩
  simp [zox, zhw, zh9, zkz, FR.put]
  refine ⟨cs, rfl, q1, fun q hq => ?_⟩
  rw [if_pos hq]
  exact q3 q (by omega)
 have w8 : ¬ (i + (n - j) = i) := by omega
 have w9 : ¬ (n - (i + (n - j)) = 0) := by omega
 have hl1 : ((cells.drop j).take (n - j)).length = n - j := by simp; omega
 have hne1 : (cells.drop j).take (n - j) ≠ [] := fun e => by
  have := congrArg List.length e
  rw [hl1] at this; simp at this; omega
 obtain ⟨cs1, hp1⟩ := zgc (cs := cells) hne1 (n := i) (by rw [hl1]; omega)
 obtain ⟨q1, q2, q3, q4⟩ := zfs hne1 hp1
 have hT : zgK (n - j) (cells.drop j) = some ((cells.drop j).take (n - j)) := zgN (by simp; omega)
 have hsol : ((cells.drop j).take (n - j)).all zdf = true := by
  rw [List.all_eq_true]
  intro x hx
  obtain ⟨t, ht⟩ := List.getElem?_of_mem hx
  have htl : t < n - j := by
   have := (List.getElem?_eq_some_iff.1 ht).1
   rw [hl1] at this; exact this
  rw [List.getElem?_take_of_lt htl, List.getElem?_drop] at ht
  obtain ⟨m, hm⟩ := hi (j + t) (by omega)
  rw [hm] at ht
  cases ht; rfl
 have hsol2 : ∀ x, x ∈ List.take (n - j) (List.drop j cells) → zdf x = true := List.all_eq_true.1 hsol
 have hfit1 : i ≤ cells.length := by omega
 have hfit2 : (i + (n - j)) * 8 ≤ 140737488355328 := by omega
 have hfit3 : i + (n - j) ≤ 4611686018427387904 := by omega
 have hld : H.load id j = some (cells.drop j) := by simp [AH.load, hb]
 have hne2 : List.replicate (n - (i + (n - j))) (Value.int i64 0) ≠ [] := fun e => by
  have := congrArg List.length e
  simp at this; omega
 obtain ⟨cs2, hp2⟩ := zgc (cs := cs1) hne2 (n := i + (n - j)) (by simp; omega)
 obtain ⟨r1, r2, r3, r4⟩ := zfs hne2 hp2
 have hset : ∀ k k', (H.set id k).set id k' = H.set id k' := fun k k' => by
  simp only [AH.set, AH.mk.injEq, true_and]
  funext x
  split <;> rfl
 have hsb : ∀ k, (H.set id k).b id = k := fun k => by simp [AH.set]
 have a4 : (0 : Int) ≤ (i : Int) + ((n - j : Nat) : Int) := by omega
 have a5 : ((i : Int) + ((n - j : Nat) : Int)).toNat = i + (n - j) := by omega
 have hs1 : ∀ k (m : Int), zdf (Value.int k m) = true := fun _ _ => rfl
 have hns : ¬ ∃ x, x ∈ List.take (n - j) (List.drop j cells) ∧ zdf x = false := fun ⟨x, h1, h2⟩ => by rw [hsol2 x h1] at h2; cases h2
 simp [zp0, dops, dop, gop, zdb, okL, okS, okR, DE.ex, awp, zku, zgj, aop, ahp, zaP, za7, zaW, mat, za1, zau, FR.put, FR.init, rdv, rda, zbB, zcO, zan, e1, e2, Am.lenV, zd4, zb4, bnd, zjM, zdz, zd9, hne, w0, w1, w2, w3, w4, w5, w6, w7, w8, w9, hnc, a1, a2, a3, Int.toNat_natCast, hs1, hns, a4, a5, hb, hz, hT, hp1, hld, hsol2, hfit1, hfit2, hfit3, hset, hsb]
 refine ⟨cs2, hp2, ?_⟩
 simp [zox, zhw, zh9, zkz, FR.put]
 refine ⟨cs2, rfl, r1.trans q1, fun q hq => ?_⟩
 rw [hl1] at q3 q4
 rw [r3 q (by omega)]
 by_cases hqi : q < i
 ·rw [if_pos hqi]
  exact q3 q (by omega)
 rw [if_neg hqi]
 have := q4 (q - i) (by omega)
 rw [show i + (q - i) = q by omega, List.getElem?_take_of_lt (by omega), List.getElem?_drop] at this
 rw [this]
 congr 1; omega
def zcp (a0 : List Int) (a1 : Int) (a2 : Int) : Option (List Int) :=
 gd (0 ≤ a1 ∧ a1 < a2 ∧ a2 ≤ a0.length ∧ a0.length * 8 ≤ 140737488355328) <|
 some (a0.take a1.toNat ++ a0.drop a2.toNat)
theorem zhF {a0 : List Int} {a1 a2 : Int} {r : List Int} (hr : zcp a0 a1 a2 = some r) : PCalls Tryz.prog 139 [(.mv, .sl true 1 (a0.map zag)), (.sh, .int .i64 a1), (.sh, .int .i64 a2)] (Eo (.sl true 1 (r.map zag)) [.junk, .junk, .junk]) := by
 have hF : Rn _ (fun x => x = r) := ⟨r, hr, rfl⟩
 unfold zcp at hF
 obtain ⟨⟨g0, g1, g2, g3⟩, hF⟩ := zie hF
 have h1 := zaa hF
 subst h1
 obtain ⟨i, rfl⟩ := Int.eq_ofNat_of_zero_le g0
 obtain ⟨j, rfl⟩ := Int.eq_ofNat_of_zero_le (Int.le_trans g0 (Int.le_of_lt g1))
 exact zuO zyj zwe zag (fun _ => rfl) (by omega) (by omega) (by omega)
@[go_sem] def zwC : List DE := [d0 0 [7], d0 1 [8], d0 2 [10], d0 3 [42, 43], d0 4 [7], d0 5 [8], d0 6 [10], d0 7 [46, 47], d0 8 [45, 48], d0 9 [49], d0 10 [9], d0 11 [11], d0 12 [51, 52], d0 13 [0], d0 14 [53, 54], d0 15 [50, 55], d0 16 [0], d0 17 [56, 57], d0 18 [41, 44], d0 19 [59, 58]]
def zd7 (a0 : Int) (a1 : List Int) (a2 : List Int) : Option ((List Int)) :=
 ((if ((a1.length : Int) == 0) = true then (
 some true) else (
 some ((a2.length : Int) == 0)) : Option Bool).bind fun x3 =>
 if x3 = true then (
 some []) else (
 gd (0 ≤ (i64.wrap ((i64.wrap ((a1.length : Int) + (a2.length : Int))) - 1)) ∧ (i64.wrap ((i64.wrap ((a1.length : Int) + (a2.length : Int))) - 1)) ≤ (i64.wrap ((i64.wrap ((a1.length : Int) + (a2.length : Int))) - 1)) ∧ 8 * (i64.wrap ((i64.wrap ((a1.length : Int) + (a2.length : Int))) - 1)) ≤ 140737488355328 ∧ (i64.wrap ((i64.wrap ((a1.length : Int) + (a2.length : Int))) - 1)) ≤ 4611686018427387904) <|
 (some (List.replicate ((i64.wrap ((i64.wrap ((a1.length : Int) + (a2.length : Int))) - 1)).toNat) 0)).bind fun x6 =>
 ((zap (σ := (List Int)) (fun i46 s45 =>
 (((ix a1 i46).bind fun x55 =>
 zap (σ := (List Int)) (fun i66 s65 =>
 (ix a2 i66).bind fun x72 =>
 (ix s65 (i64.wrap (i46 + i66))).bind fun x73 =>
 gd (a0 ≠ 0) <|
 gd (a0 ≠ 0) <|
 some (.go (s65.set ((i64.wrap (i46 + i66)).toNat) ((i64.wrap (x73 + ((i64.wrap (x55 * x72)).tmod a0))).tmod a0)))) (fun s65 => s65) (a2.length) 0 s45 : Option ((List Int))).bind fun x54 =>
 some (.go x54))) (fun s45 => s45) (a1.length) 0 x6 : Option ((List Int))).bind fun x11 =>
 some x11)))
theorem zjq : ∀ {a0} {a1} {a2} {r}, zd7 a0 a1 a2 = some r → PCalls Tryz.prog 142 [(.sh, .int .i64 a0), (.sh, vC a1), (.sh, vC a2)] (Eo (vD r) [.junk, .junk, .junk]) := by
 intro a0 a1 a2 r hr
 apply pF 63 [] [] [] [.tmp 6] hr zBN Tryz.func142
 intro Φ hΦ hF g
 unfold zd7 at hF
 refine wW ?_
 refine wJ hF (fun x3 => [(0, .v (.int .i64 a0)), (1, .v (vC a1)), (2, .v (vC a2)), (19, .v (.bool x3))]) (fun x3 hF => ?_) fun _ hj1 hF => ?_
 ·refine wI hF (fun h5 hF => ?_) (fun h5 hF => ?_)
  ·exact wl hΦ hF
  obtain ⟨g, hF⟩ := Rg g hF
  obtain ⟨x6, e7, hF⟩ := zfR hF
  have g8 : List.replicate ((i64.wrap ((i64.wrap ((a1.length : Int) + (a2.length : Int))) - 1)).toNat) ([.int .i64 0] : List PV) = x6.map zag := by injection e7 with e7; rw [← e7]; simp [go_sem]
  iterate 2 (try simp [go_sem, g, g8]; try intros; refine zas ?_)
  try simp [go_sem, g, g8]
  try intros
  refine wK [0, 2, 7, 27, 28, 29] ?_
  refine wJ hF (fun x11 => [(7, .v (vD x11))]) (fun x11 hF => ?_) fun _ hj9 hF => ?_
  ·exact wl hΦ hF
  refine wB ?_
  obtain ⟨b78, hb79, hψ49⟩ := hF
  refine pR hb79 (fun i46 s45 => [(0, .v (.int .i64 a0)), (2, .v (vC a2)), (7, .v (vD s45)), (27, .v (vC a1)), (28, .v (.int .i64 (a1.length : Int))), (29, .v (.int .i64 i46))]) (fun s45 _ hN80 => ?_) (fun i46 s45 _ _ hi50 hi51 ho47 hg48 hF => ?_)
  ·exact wn hN80 (hj9 _) hψ49
  refine wW ?_
  refine wu hi50 hi51 ?_
  refine wW ?_
  refine wJ hF (fun x54 => [(0, .v (.int .i64 a0)), (2, .v (vC a2)), (7, .v (vD x54)), (27, .v (vC a1)), (28, .v (.int .i64 (a1.length : Int))), (29, .v (.int .i64 i46))]) (fun x54 hF => ?_) fun _ hj52 hF => ?_
  ·exact wi hi50 hi51 (hg48 _) (zaa hF)
  refine wB ?_
  obtain ⟨x55, g, hF⟩ := Rx g hF
  iterate 2 (try simp [go_sem, g]; try intros; refine zas ?_)
  refine wB ?_
  obtain ⟨b74, hb75, hψ69⟩ := hF
  refine pR hb75 (fun i66 s65 => [(0, .v (.int .i64 a0)), (2, .v (vC a2)), (7, .v (vD s65)), (8, .v (.int .i64 i46)), (9, .v (.int .i64 x55)), (27, .v (vC a1)), (28, .v (.int .i64 (a1.length : Int))), (29, .v (.int .i64 i46)), (34, .v (vC a2)), (35, .v (.int .i64 (a2.length : Int))), (36, .v (.int .i64 i66))]) (fun s65 _ hN76 => ?_) (fun i66 s65 _ _ hi70 hi71 ho67 hg68 hF => ?_)
  ·exact wn hN76 (hj52 _) hψ69
  refine wK [0, 2, 7, 8, 9, 27, 28, 29, 34, 35, 36, 37] ?_
  refine wu hi70 hi71 ?_
  refine wW ?_
  refine wB ?_
  obtain ⟨x72, g, hF⟩ := Rx g hF
  refine wW ?_
  refine wX zwC follows ?_
  obtain ⟨x73, g, hF⟩ := Rx g hF
  obtain ⟨g, hF⟩ := Rz g hF
  obtain ⟨g, hF⟩ := Rz g hF
  refine wK [0, 2, 7, 8, 9, 27, 28, 29, 34, 35, 36] ?_
  exact wi hi70 hi71 (hg68 _) (zaa hF)
 try simp [go_sem, g]
 try intros
 refine wG hF (fun h4 hF => ?_) fun h4 hF => ?_
 ·exact wV h4 (hj1 _) (zaa hF)
 try simp [go_sem, g, h4]
 try intros
 exact wT (hj1 _) (zaa hF)
def zeL (a0 : Int) (a1 : List Int) : Option ((List Int)) :=
 ((zap (σ := (List Int)) (fun i5 s4 =>
 (ix a1 i5).bind fun x11 =>
 (zdS (i64.wrap (0 - x11)) a0).bind fun z12 =>
 (zd7 a0 s4 [z12, 1]).bind fun z13 =>
 some (.go z13)) (fun s4 => s4) (a1.length) 0 [1] : Option ((List Int))).bind fun x3 =>
 some x3)
theorem zmn : ∀ {a0} {a1} {r}, zeL a0 a1 = some r → PCalls Tryz.prog 141 [(.sh, .int .i64 a0), (.sh, vC a1)] (Eo (vD r) [.junk, .junk]) := by
 intro a0 a1 r hr
 apply pF 25 [] [] [] [.tmp 4] hr zBB Tryz.func141
 intro Φ hΦ hF g
 unfold zeL at hF
 iterate 3 (try simp [go_sem, g]; try intros; refine zas ?_)
 refine wJ hF (fun x3 => [(5, .v (vD x3))]) (fun x3 hF => ?_) fun _ hj1 hF => ?_
 ·exact wl hΦ hF
 refine wB ?_
 obtain ⟨b14, hb15, hψ8⟩ := hF
 refine pR hb15 (fun i5 s4 => [(0, .v (.int .i64 a0)), (5, .v (vD s4)), (9, .v (vC a1)), (10, .v (.int .i64 (a1.length : Int))), (11, .v (.int .i64 i5))]) (fun s4 _ hN16 => ?_) (fun i5 s4 _ _ hi9 hi10 ho6 hg7 hF => ?_)
 ·exact wn hN16 (hj1 _) hψ8
 refine wW ?_
 refine wu hi9 hi10 ?_
 refine wW ?_
 refine wB ?_
 obtain ⟨x11, g, hF⟩ := Rx g hF
 refine wK [0, 5, 7, 9, 10, 11] ?_
 refine wC hF [.sh, .sh] zin (fun z12 hF => ?_)
 refine wC hF [.sh, .sh, .sh] zjq (fun z13 hF => ?_)
 refine wW ?_
 exact wi hi9 hi10 (hg7 _) (zaa hF)
@[go_sem] def zyN : List DE := [d0 0 [7], d0 1 [2], d0 2 [16, 17], d0 3 [0], d0 4 [18, 19], d0 5 [1], d0 6 [8], d0 7 [21, 22], d0 8 [23], d0 9 [20, 24], d0 10 [0], d0 11 [25, 26], d0 12 [27]]
def zeb (a0 : Int) (a1 : List Int) (a2 : Int) : Option Int :=
 ((zbO (σ := Int × Int) (fun s4 =>
 if decide (0 ≤ s4.2) = true then (
 gd (a0 ≠ 0) <|
 (ix a1 s4.2).bind fun x10 =>
 gd (a0 ≠ 0) <|
 some (.go ((i64.wrap (((i64.wrap (s4.1 * a2)).tmod a0) + x10)).tmod a0, i64.wrap (s4.2 - 1)))) else (
 some (.out s4.1))) (0, i64.wrap ((a1.length : Int) - 1)) : Option Int).bind fun x3 =>
 some x3)
theorem zjr : ∀ {a0} {a1} {a2} {r}, zeb a0 a1 a2 = some r → PCalls Tryz.prog 117 [(.sh, .int .i64 a0), (.sh, vC a1), (.sh, .int .i64 a2)] (Eo (.int .i64 r) [.junk, .junk, .junk]) := by
 intro a0 a1 a2 r hr
 apply pF 29 [] [] [] [.tmp 6] hr zz0 Tryz.func117
 intro Φ hΦ hF g
 unfold zeb at hF
 iterate 3 (try simp [go_sem, g]; try intros; refine zas ?_)
 refine wJ hF (fun x3 => [(7, .v (.int .i64 x3))]) (fun x3 hF => ?_) fun _ hj1 hF => ?_
 ·exact wl hΦ hF
 refine wB ?_
 obtain ⟨b11, hb12, hψ8⟩ := hF
 refine pL hb12 (fun s4 => [(0, .v (.int .i64 a0)), (1, .v (vC a1)), (2, .v (.int .i64 a2)), (7, .v (.int .i64 s4.1)), (8, .v (.int .i64 s4.2))]) (fun s4 _ _ ho6 hg7 hF => ?_)
 refine wW ?_
 refine wI hF (fun h9 hF => ?_) (fun h9 hF => ?_)
 ·refine wW ?_
  refine wB ?_
  refine wX zyN follows ?_
  obtain ⟨g, hF⟩ := Rz g hF
  obtain ⟨x10, g, hF⟩ := Rx g hF
  obtain ⟨g, hF⟩ := Rz g hF
  refine wK [0, 1, 2, 7, 8] ?_
  exact wT (hg7 _) (zaa hF)
 cases ho6 _ (zaa hF)
 exact wT (hj1 _) hψ8
def zev (a0 : Int) (a1 : Int) : Option Int :=
 ((zbO (σ := Int × Int × Int × Int) (fun s4 =>
 if (s4.2.1 != 0) = true then (
 gd (s4.2.1 ≠ 0) <|
 some (.go (s4.2.1, i64.wrap (s4.1 - (i64.wrap ((i64.wrap (s4.1.tdiv s4.2.1)) * s4.2.1))), s4.2.2.2, i64.wrap (s4.2.2.1 - (i64.wrap ((i64.wrap (s4.1.tdiv s4.2.1)) * s4.2.2.2)))))) else (
 some (.out (s4.1, s4.2.2.1)))) (a1, a0, 0, 1) : Option ((Int × Int))).bind fun x3 =>
 if (x3.1 != 1) = true then (
 some 0) else (
 (zdS x3.2 a1).bind fun z13 =>
 some z13))
theorem zob : ∀ {a0} {a1} {r}, zev a0 a1 = some r → PCalls Tryz.prog 143 [(.sh, .int .i64 a0), (.sh, .int .i64 a1)] (Eo (.int .i64 r) [.junk, .junk]) := by
 intro a0 a1 r hr
 apply pF 34 [] [] [] [.tmp 4] hr zAN Tryz.func143
 intro Φ hΦ hF g
 unfold zev at hF
 iterate 2 refine wW ?_
 refine wJ hF (fun x3 => [(1, .v (.int .i64 a1)), (5, .v (.int .i64 x3.1)), (7, .v (.int .i64 x3.2))]) (fun x3 hF => ?_) fun _ hj1 hF => ?_
 ·refine wW ?_
  refine wI hF (fun h12 hF => ?_) (fun h12 hF => ?_)
  ·refine wK [4] ?_
   exact wm hΦ hF
  refine wW ?_
  refine wC hF [.sh, .sh] zin (fun z13 hF => ?_)
  refine wK [4] ?_
  exact wm hΦ hF
 refine wB ?_
 obtain ⟨b10, hb11, hψ8⟩ := hF
 refine pL hb11 (fun s4 => [(1, .v (.int .i64 a1)), (5, .v (.int .i64 s4.1)), (6, .v (.int .i64 s4.2.1)), (7, .v (.int .i64 s4.2.2.1)), (8, .v (.int .i64 s4.2.2.2))]) (fun s4 _ _ ho6 hg7 hF => ?_)
 refine wW ?_
 refine wI hF (fun h9 hF => ?_) (fun h9 hF => ?_)
 ·refine wW ?_
  refine wB ?_
  obtain ⟨g, hF⟩ := Rz g hF
  refine wK [1, 5, 6, 7, 8, 9] ?_
  refine wW ?_
  exact wT (hg7 _) (zaa hF)
 cases ho6 _ (zaa hF)
 exact wT (hj1 _) hψ8
def zgm (a0 : Int) (a1 : List Int) (a2 : Int) : Option ((List Int)) :=
 (zdU a1).bind fun z1 =>
 (zcp z1 a2 (i64.wrap (a2 + 1))).bind fun z2 =>
 (zeL a0 z2).bind fun z3 =>
 (ix a1 a2).bind fun x4 =>
 (zeb a0 z3 x4).bind fun z5 =>
 (zev z5 a0).bind fun z6 =>
 (zd7 a0 z3 [z6]).bind fun z7 =>
 some z7
theorem zn5 : ∀ {a0} {a1} {a2} {r}, zgm a0 a1 a2 = some r → PCalls Tryz.prog 118 [(.sh, .int .i64 a0), (.sh, vC a1), (.sh, .int .i64 a2)] (Eo (vD r) [.junk, .junk, .junk]) := by
 intro a0 a1 a2 r hr
 apply pF 31 [] [] [] [.tmp 6] hr zzV Tryz.func118
 intro Φ hΦ hF g
 unfold zgm at hF
 refine wW ?_
 refine wC hF [.sh] zjH (fun z1 hF => ?_)
 refine wC hF [.mv, .sh, .sh] zhF (fun z2 hF => ?_)
 refine wW ?_
 refine wC hF [.sh, .sh] zmn (fun z3 hF => ?_)
 refine wK [0, 1, 2, 8] ?_
 obtain ⟨x4, g, hF⟩ := Rx g hF
 refine wC hF [.sh, .sh, .sh] zjr (fun z5 hF => ?_)
 refine wC hF [.sh, .sh] zob (fun z6 hF => ?_)
 refine wC hF [.sh, .sh, .sh] zjq (fun z7 hF => ?_)
 refine wK [6] ?_
 exact wm hΦ hF
def ze5 (a0 : Int) (a1 : List Int) (a2 : Int) : Option ((List Int)) :=
 ((zap (σ := (List Int)) (fun i5 s4 =>
 (zgm a0 a1 i5).bind fun z11 =>
 (zeb a0 z11 a2).bind fun z12 =>
 gd ((s4.length + 1) * 8 ≤ 140737488355328 ∧ s4.length + 1 ≤ 4611686018427387904) <|
 some (.go (s4 ++ [z12]))) (fun s4 => s4) (a1.length) 0 [] : Option ((List Int))).bind fun x3 =>
 some x3)
theorem zns : ∀ {a0} {a1} {a2} {r}, ze5 a0 a1 a2 = some r → PCalls Tryz.prog 76 [(.sh, .int .i64 a0), (.sh, vC a1), (.sh, .int .i64 a2)] (Eo (vD r) [.junk, .junk, .junk]) := by
 intro a0 a1 a2 r hr
 apply pF 27 [] [] [] [.tmp 6] hr zHk Tryz.func76
 intro Φ hΦ hF g
 unfold ze5 at hF
 iterate 3 (try simp [go_sem, g]; try intros; refine zas ?_)
 refine wJ hF (fun x3 => [(7, .v (vD x3))]) (fun x3 hF => ?_) fun _ hj1 hF => ?_
 ·exact wl hΦ hF
 refine wB ?_
 obtain ⟨b13, hb14, hψ8⟩ := hF
 refine pR hb14 (fun i5 s4 => [(0, .v (.int .i64 a0)), (1, .v (vC a1)), (2, .v (.int .i64 a2)), (7, .v (vD s4)), (11, .v (.int .i64 (a1.length : Int))), (12, .v (.int .i64 i5))]) (fun s4 _ hN15 => ?_) (fun i5 s4 _ _ hi9 hi10 ho6 hg7 hF => ?_)
 ·exact wn hN15 (hj1 _) hψ8
 refine wW ?_
 refine wu hi9 hi10 ?_
 refine wW ?_
 refine wB ?_
 refine wW ?_
 refine wC hF [.sh, .sh, .sh] zn5 (fun z11 hF => ?_)
 refine wC hF [.sh, .sh, .sh] zjr (fun z12 hF => ?_)
 obtain ⟨g, hF⟩ := Rg g hF
 refine wK [0, 1, 2, 7, 11, 12] ?_
 exact wi hi9 hi10 (hg7 _) (zaa hF)
@[go_sem] def zxV : List DE := [d2 0 [4] 4 4, d1 1 [6] 6, d2 2 [62] 6 62, d2 3 [4] 4 4, d2 4 [4] 4 4, d0 5 [13], d1 6 [4] 4, d2 7 [67] 4 67, d0 8 [12], d3 9 [68, 69], d3 10 [65, 66, 70], d3 11 [64, 71], d0 12 [63, 72], ⟨13, [61, 73], [], none, true, true, true⟩, d0 14 [74], d0 15 []]
@[go_sem] def zAF : List DE := [d0 0 [12], d0 1 [3], d0 2 [15], d0 3 [45, 46], d0 4 [47], d0 5 [48], d0 6 [49], d0 8 [13], d0 9 [3], d0 10 [15], d0 11 [53, 54], d0 12 [55], d0 13 [56], d0 14 [57], ⟨7, [44, 50], [], none, true, false, false⟩, ⟨15, [52, 58], [], none, true, false, false⟩, d0 16 [51], d0 17 [59]]
@[go_sem] def zwV : List DE := [d0 0 [12], d0 1 [3], d0 2 [15], d0 3 [45, 46], d0 4 [47], d0 5 [48], d0 6 [49], d0 8 [13], d0 9 [3], d0 10 [15], d0 11 [53, 54], d0 12 [55], ⟨7, [44, 50], [], none, true, false, false⟩, d0 13 [56], d0 14 [57], ⟨15, [52, 58], [], none, true, false, false⟩, d0 16 [51], d0 17 [59]]
def zcZ (a0 : Group) (a1 : List Int) (a2 : Cipher) (a3 : List Partial) : Option (Int × Bool) :=
 (zdC a0 a1 a2 a3).bind fun z1 =>
 ((if (!z1.2) = true then (
 some true) else (
 some (decide ((z1.1.length : Int) < (a1.length : Int)))) : Option Bool).bind fun x4 =>
 if x4 = true then (
 some (0, false)) else (
 gd (0 ≤ (a1.length : Int)) <|
 gd (0 ≤ a1.length ∧ a1.length ≤ z1.1.length) <|
 ((zap (σ := (List Int) × List Int) (fun i11 s10 =>
 (ix ((z1.1.take a1.length).drop 0) i11).bind fun x18 =>
 (ix a3 x18).bind fun x19 =>
 gd ((s10.1.length + 1) * 8 ≤ 140737488355328 ∧ s10.1.length + 1 ≤ 4611686018427387904) <|
 gd ((s10.2.length + 1) * 8 ≤ 140737488355328 ∧ s10.2.length + 1 ≤ 4611686018427387904) <|
 some (.go (s10.1 ++ [x19.Index], s10.2 ++ [x19.Value]))) (fun s10 => (s10.1, s10.2)) (((z1.1.take a1.length).drop 0).length) 0 ([], []) : Option ((List Int × List Int))).bind fun x9 =>
 (ze5 a0.Q x9.1 0).bind fun z24 =>
 (zcK a0 x9.2 z24).bind fun z25 =>
 (zc5 a0 z25).bind fun z26 =>
 (zaV a0 [a2.B, z26]).bind fun z27 =>
 some (z27, true))))
theorem zjL : ∀ {a0} {a1} {a2} {a3} {r}, zcZ a0 a1 a2 a3 = some r → PCalls Tryz.prog 28 [(.sh, vE a0), (.sh, vC a1), (.sh, vQ a2), (.sh, vAD a3)] (Eo (.tup [.int .i64 r.1, .bool r.2]) [.junk, .junk, .junk, .junk]) := by
 intro a0 a1 a2 a3 r hr
 apply pF 75 [] [10] [] [.tmp 8, .tmp 9] hr zFu Tryz.func28
 intro Φ hΦ hF g
 unfold zcZ at hF
 refine wW ?_
 refine wC hF [.sh, .sh, .sh, .sh] zkN (fun z1 hF => ?_)
 refine wK [1, 3, 4, 6, 10, 11] ?_
 refine wJ hF (fun x4 => [(1, .v (vC a1)), (3, .v (vAD a3)), (4, .bl [.int .i64 a0.P, .int .i64 a0.Q, .int .i64 a0.G]), (6, .bl [.int .i64 a2.A, .int .i64 a2.B]), (10, .v (vC z1.1)), (32, .v (.bool x4))]) (fun x4 hF => ?_) fun _ hj2 hF => ?_
 ·refine wI hF (fun h6 hF => ?_) (fun h6 hF => ?_)
  ·exact wl hΦ hF
  obtain ⟨g, hF⟩ := Rg g hF
  obtain ⟨g, hF⟩ := Rg g hF
  iterate 2 (try simp [go_sem, g]; try intros; refine zas ?_)
  try simp [go_sem, g]
  try intros
  refine wK [3, 4, 6, 12, 13, 38, 39, 40] ?_
  refine wJ hF (fun x9 => [(4, .bl [.int .i64 a0.P, .int .i64 a0.Q, .int .i64 a0.G]), (6, .bl [.int .i64 a2.A, .int .i64 a2.B]), (12, .v (vD x9.1)), (13, .v (vD x9.2))]) (fun x9 hF => ?_) fun _ hj7 hF => ?_
  ·refine wX zxV follows ?_
   refine wC hF [.sh, .sh, .sh] zns (fun z24 hF => ?_)
   refine wC hF [.sh, .sh, .sh] zhz (fun z25 hF => ?_)
   refine wC hF [.sh, .sh] ziH (fun z26 hF => ?_)
   refine wC hF [.sh, .sh] zck (fun z27 hF => ?_)
   refine wK [8, 9] ?_
   exact wm hΦ hF
  refine wB ?_
  obtain ⟨b20, hb21, hψ14⟩ := hF
  refine pR hb21 (fun i11 s10 => [(3, .v (vAD a3)), (4, .bl [.int .i64 a0.P, .int .i64 a0.Q, .int .i64 a0.G]), (6, .bl [.int .i64 a2.A, .int .i64 a2.B]), (12, .v (vD s10.1)), (13, .v (vD s10.2)), (38, .v (vC ((z1.1.take a1.length).drop 0))), (39, .v (.int .i64 (((z1.1.take a1.length).drop 0).length : Int))), (40, .v (.int .i64 i11))]) (fun s10 _ hN22 => ?_) (fun i11 s10 _ _ hi15 hi16 ho12 hg13 hF => ?_)
  ·exact wn hN22 (hj7 _) hψ14
  have hi17 := hi16
  try simp at hi17
  refine wW ?_
  refine wt ?_ (hb := by simp [go_sem, g, hi15, hi16, hi17] <;> omega)
  refine wW ?_
  refine wB ?_
  obtain ⟨x18, g, hF⟩ := Rxq g hF
  refine wW ?_
  repeat rw [sq]
  refine zkg 13 7 zAF zwV follows (by decide) (by kernel_rfl) (by kernel_rfl) rfl rfl ?_ ?_
  ·obtain ⟨x19, g, hF⟩ := Rx g hF
   obtain ⟨g, hF⟩ := Rg g hF
   obtain ⟨g, hF⟩ := Rg g hF
   refine wK [3, 4, 6, 12, 13, 38, 39, 40] ?_
   exact wT (hg13 (s10.1 ++ [x19.Index], s10.2 ++ [x19.Value])) (zaa hF) (a := by simp [go_sem, g, zqz hi15 hi16 (by first | assumption | (simp; assumption) | (simp; omega))])
  obtain ⟨x19, g, hF⟩ := Rx g hF
  obtain ⟨g, hF⟩ := Rg g hF
  obtain ⟨g, hF⟩ := Rg g hF
  refine wK [3, 4, 6, 12, 13, 38, 39, 40] ?_
  exact wT (hg13 (s10.1 ++ [x19.Index], s10.2 ++ [x19.Value])) (zaa hF) (a := by simp [go_sem, g, zqz hi15 hi16 (by first | assumption | (simp; assumption) | (simp; omega))])
 refine wG hF (fun h5 hF => ?_) fun h5 hF => ?_
 ·exact wV h5 (hj2 _) (zaa hF)
 try simp [go_sem, g, h5]
 try intros
 exact wT (hj2 _) (zaa hF)
def zeN (a0 : Group) (a1 : List Int) (a2 : Cipher) (a3 : Cipher) (a4 : List Blind) (a5 : List Partial) : Option (Bool × Bool) :=
 (zb3 a0 a2 a3).bind fun z1 =>
 ((if (!z1.2) = true then (
 some true) else (
 (zdL a0).bind fun z6 =>
 some (!z6)) : Option Bool).bind fun x4 =>
 if x4 = true then (
 some (false, false)) else (
 (zdh a0 z1.1 a4).bind fun z8 =>
 if (!z8.2.2) = true then (
 some (false, false)) else (
 (zcZ a0 a1 z8.1 a5).bind fun z10 =>
 if (!z10.2) = true then (
 some (false, false)) else (
 some ((z10.1 == 1), true)))))
theorem zmB : ∀ {a0} {a1} {a2} {a3} {a4} {a5} {r}, zeN a0 a1 a2 a3 a4 a5 = some r → PCalls Tryz.prog 5 [(.sh, vE a0), (.sh, vC a1), (.sh, vQ a2), (.sh, vQ a3), (.sh, vAA a4), (.sh, vAD a5)] (Eo (.tup [.bool r.1, .bool r.2]) [.junk, .junk, .junk, .junk, .junk, .junk]) := by
 intro a0 a1 a2 a3 a4 a5 r hr
 apply pF 55 [] [] [] [.tmp 12, .tmp 13] hr cl5 Tryz.func5
 intro Φ hΦ hF g
 unfold zeN at hF
 refine wW ?_
 refine wC hF [.sh, .sh, .sh] zia (fun z1 hF => ?_)
 refine wK [1, 4, 5, 6, 14, 15] ?_
 refine wJ hF (fun x4 => [(1, .v (vC a1)), (4, .v (vAA a4)), (5, .v (vAD a5)), (6, .bl [.int .i64 a0.P, .int .i64 a0.Q, .int .i64 a0.G]), (14, .bl [.int .i64 z1.1.A, .int .i64 z1.1.B]), (32, .v (.bool x4))]) (fun x4 hF => ?_) fun _ hj2 hF => ?_
 ·refine wI hF (fun h7 hF => ?_) (fun h7 hF => ?_)
  ·exact wl hΦ hF
  refine wW ?_
  refine wC hF [.sh, .sh, .sh] zkb (fun z8 hF => ?_)
  refine wK [1, 5, 6, 15, 16] ?_
  refine wW ?_
  refine wI hF (fun h9 hF => ?_) (fun h9 hF => ?_)
  ·exact wl hΦ hF
  refine wW ?_
  refine wC hF [.sh, .sh, .sh, .sh] zjL (fun z10 hF => ?_)
  refine wK [15, 18] ?_
  refine wW ?_
  refine wI hF (fun h11 hF => ?_) (fun h11 hF => ?_)
  ·exact wl hΦ hF
  cases hΦ _ (zaa hF)
  iterate 2 refine wW ?_
  try simp [go_sem, g]
 refine wG hF (fun h5 hF => ?_) fun h5 hF => ?_
 ·exact wV h5 (hj2 _) (zaa hF)
 try simp [go_sem, g, h5]
 refine wC hF [.sh] zi2 (fun z6 hF => ?_)
 exact wV h5 (hj2 _) (zaa hF)
def zeZ (a0 : Group) (a1 : List Int) : Option Bool :=
 (((zbf (a1.length : Int) 1 7).bind fun z4 =>
 if z4 = true then (
 (zdo a0 a1).bind fun z6 =>
 some z6) else (
 some false) : Option Bool).bind fun x3 =>
 some x3)
theorem zm6 : ∀ {a0} {a1} {r}, zeZ a0 a1 = some r → PCalls Tryz.prog 77 [(.sh, vE a0), (.sh, vC a1)] (Eo (.bool r) [.junk, .junk]) := by
 intro a0 a1 r hr
 apply pF 13 [] [] [] [.tmp 4] hr zEY Tryz.func77
 intro Φ hΦ hF g
 unfold zeZ at hF
 refine wW ?_
 refine wJ hF (fun x3 => [(4, .v (.bool x3))]) (fun x3 hF => ?_) fun _ hj1 hF => ?_
 ·exact wm hΦ hF
 try simp [go_sem, g]
 try intros
 refine wC hF [.sh, .sh, .sh] zb1 (fun z4 hF => ?_)
 refine wG hF (fun h5 hF => ?_) fun h5 hF => ?_
 ·try simp [go_sem, g, h5]
  refine wC hF [.sh, .sh] zhs (fun z6 hF => ?_)
  exact wV h5 (hj1 _) (zaa hF)
 exact wV h5 (hj1 _) (zaa hF)
def zco (a0 : Group) (a1 : List Int) (a2 : Cipher) (a3 : List Partial) : Option Bool :=
 (((zdv a0).bind fun z4 =>
 if z4 = true then (
 (zeZ a0 a1).bind fun z6 =>
 if z6 = true then (
 (zcR a0 [a2]).bind fun z8 =>
 if z8 = true then (
 some (decide ((a3.length : Int) ≤ 14))) else (
 some false)) else (
 some false)) else (
 some false) : Option Bool).bind fun x3 =>
 some x3)
theorem zo3 : ∀ {a0} {a1} {a2} {a3} {r}, zco a0 a1 a2 a3 = some r → PCalls Tryz.prog 29 [(.sh, vE a0), (.sh, vC a1), (.sh, vQ a2), (.sh, vAD a3)] (Eo (.bool r) [.junk, .junk, .junk, .junk]) := by
 intro a0 a1 a2 a3 r hr
 apply pF 27 [] [] [] [.tmp 8] hr zEG Tryz.func29
 intro Φ hΦ hF g
 unfold zco at hF
 refine wW ?_
 refine wJ hF (fun x3 => [(8, .v (.bool x3))]) (fun x3 hF => ?_) fun _ hj1 hF => ?_
 ·exact wm hΦ hF
 refine wC hF [.sh] zgF (fun z4 hF => ?_)
 refine wG hF (fun h5 hF => ?_) fun h5 hF => ?_
 ·try simp [go_sem, g, h5]
  refine wC hF [.sh, .sh] zm6 (fun z6 hF => ?_)
  try simp [go_sem, g, h5]
  refine wG hF (fun h7 hF => ?_) fun h7 hF => ?_
  ·try simp [go_sem, g, h7]
   refine wC hF [.sh, .sh] zfo (fun z8 hF => ?_)
   try simp [go_sem, g, h7]
   refine wG hF (fun h9 hF => ?_) fun h9 hF => ?_
   ·try simp [go_sem, g, h9]
    try intros
    exact wT (hj1 _) (zaa hF)
   exact wV h9 (hj1 _) (zaa hF)
  exact wV h7 (hj1 _) (zaa hF)
 exact wV h5 (hj1 _) (zaa hF)
def zdg (a0 : Group) (a1 : Cipher) (a2 : List Blind) : Option (Cipher × List Int × Bool) :=
 (((zdw a0).bind fun z4 =>
 if (!z4) = true then (
 some true) else (
 (zcR a0 [a1]).bind fun z6 =>
 if (!z6) = true then (
 some true) else (
 some (decide (14 < (a2.length : Int))))) : Option Bool).bind fun x3 =>
 if x3 = true then (
 some ((Cipher.mk 0 0), [], false)) else (
 (zdn a0 a1 a2).bind fun z9 =>
 if ((z9.2.length : Int) == 0) = true then (
 some ((Cipher.mk 0 0), [], false)) else (
 some (z9.1, z9.2, true))))
theorem zkx : ∀ {a0} {a1} {a2} {r}, zdg a0 a1 a2 = some r → PCalls Tryz.prog 31 [(.sh, vE a0), (.sh, vQ a1), (.sh, vAA a2)] (Eo (.tup [vQ r.1, vD r.2.1, .bool r.2.2]) [.junk, .junk, .junk]) := by
 intro a0 a1 a2 r hr
 apply pF 40 [] [] [] [.cell 6 27, .tmp 7, .tmp 8] hr zFU Tryz.func31
 intro Φ hΦ hF g
 unfold zdg at hF
 refine wW ?_
 refine wJ hF (fun x3 => [(2, .v (vAA a2)), (3, .bl [.int .i64 a0.P, .int .i64 a0.Q, .int .i64 a0.G]), (4, .bl [.int .i64 a1.A, .int .i64 a1.B]), (6, .bl [.int .i64 0, .int .i64 0]), (25, .v (.bool x3))]) (fun x3 hF => ?_) fun _ hj1 hF => ?_
 ·refine wI hF (fun h8 hF => ?_) (fun h8 hF => ?_)
  ·exact wl hΦ hF
  refine wW ?_
  refine wC hF [.sh, .sh, .sh] zja (fun z9 hF => ?_)
  refine wK [6, 9, 10] ?_
  try simp [go_sem, g]
  try intros
  refine zas ?_
  refine wI hF (fun h10 hF => ?_) (fun h10 hF => ?_)
  ·exact wl hΦ hF
  cases hΦ _ (zaa hF)
  iterate 2 refine wW ?_
  try simp [go_sem, g]
 refine wC hF [.sh] zgM (fun z4 hF => ?_)
 refine wG hF (fun h5 hF => ?_) fun h5 hF => ?_
 ·exact wV h5 (hj1 _) (zaa hF)
 try simp [go_sem, g, h5]
 refine wC hF [.sh, .sh] zfo (fun z6 hF => ?_)
 try simp [go_sem, g, h5]
 refine wG hF (fun h7 hF => ?_) fun h7 hF => ?_
 ·exact wV h7 (hj1 _) (zaa hF)
 try simp [go_sem, g, h7]
 try intros
 exact wT (hj1 _) (zaa hF)
@[go_sem] def zy3 : List DE := [d2 0 [4] 4 4, d1 1 [4] 4, d2 2 [22] 4 22, d2 3 [4] 4 4, d0 4 [1], d1 5 [7] 7, d2 6 [26] 7 26, d1 8 [6] 6, d2 9 [29] 6 29, d1 10 [7] 7, d2 11 [31] 7 31, d1 13 [7] 7, d2 14 [34] 7 34, d3 7 [24, 25, 27], d0 12 [23, 28, 30, 32], d3 15 [21, 33, 35], d0 16 [36]]
def zew (a0 : Group) (a1 : List Int) (a2 : Cipher) (a3 : Partial) : Option Bool :=
 (((zbf a3.Index 1 7).bind fun z4 =>
 if (!z4) = true then (
 some true) else (
 (zdo a0 [a3.Value]).bind fun z6 =>
 some (!z6)) : Option Bool).bind fun x3 =>
 if x3 = true then (
 some false) else (
 (zfD a0 a1 a3.Index).bind fun z8 =>
 (zcg a0 (⟨#[112, 97, 114, 116, 105, 97, 108]⟩ : ByteArray) (EqualLog.mk a0.G z8 a2.A a3.Value) a3.Pi).bind fun z9 =>
 some z9))
theorem znU : ∀ {a0} {a1} {a2} {a3} {r}, zew a0 a1 a2 a3 = some r → PCalls Tryz.prog 119 [(.sh, vE a0), (.sh, vC a1), (.sh, vQ a2), (.sh, vAE a3)] (Eo (.bool r) [.junk, .junk, .junk, .junk]) := by
 intro a0 a1 a2 a3 r hr
 apply pF 37 [] [] [] [.tmp 8] hr zCr Tryz.func119
 intro Φ hΦ hF g
 unfold zew at hF
 refine wW ?_
 refine wJ hF (fun x3 => [(1, .v (vC a1)), (4, .bl [.int .i64 a0.P, .int .i64 a0.Q, .int .i64 a0.G]), (6, .bl [.int .i64 a2.A, .int .i64 a2.B]), (7, .bl [.int .i64 a3.Index, .int .i64 a3.Value, vC a3.Pi.Commits, vC a3.Pi.Challenges, vC a3.Pi.Responses]), (20, .v (.bool x3))]) (fun x3 hF => ?_) fun _ hj1 hF => ?_
 ·refine wI hF (fun h7 hF => ?_) (fun h7 hF => ?_)
  ·exact wl hΦ hF
  refine wW ?_
  refine wX zy3 follows ?_
  refine wC hF [.sh, .sh, .sh] zng (fun z8 hF => ?_)
  refine wC hF [.sh, .sh, .sh, .sh] ziX (fun z9 hF => ?_)
  refine wK [8] ?_
  exact wm hΦ hF
 refine wC hF [.sh, .sh, .sh] zb1 (fun z4 hF => ?_)
 refine wG hF (fun h5 hF => ?_) fun h5 hF => ?_
 ·exact wV h5 (hj1 _) (zaa hF)
 try simp [go_sem, g, h5]
 refine wC hF [.sh, .sh] zhs (fun z6 hF => ?_)
 exact wV h5 (hj1 _) (zaa hF)
def zf5 (a0 : Group) (a1 : List Int) (a2 : Cipher) (a3 : List Partial) : Option ((List Int)) :=
 ((zap (σ := (List Int) × List Int) (fun i5 s4 =>
 (((ix a3 i5).bind fun x14 =>
 (((zd5 s4.2 x14.Index).bind fun z18 =>
 if (!z18) = true then (
 (zew a0 a1 a2 x14).bind fun z20 =>
 some z20) else (
 some false) : Option Bool).bind fun x17 =>
 if x17 = true then (
 gd ((s4.1.length + 1) * 8 ≤ 140737488355328 ∧ s4.1.length + 1 ≤ 4611686018427387904) <|
 gd ((s4.2.length + 1) * 8 ≤ 140737488355328 ∧ s4.2.length + 1 ≤ 4611686018427387904) <|
 some (s4.1 ++ [i5], s4.2 ++ [x14.Index])) else (
 some (s4.1, s4.2))) : Option ((List Int × List Int))).bind fun x13 =>
 some (.go (x13.1, x13.2)))) (fun s4 => s4.1) (a3.length) 0 ([], []) : Option ((List Int))).bind fun x3 =>
 some x3)
theorem zpx : ∀ {a0} {a1} {a2} {a3} {r}, zf5 a0 a1 a2 a3 = some r → PCalls Tryz.prog 79 [(.sh, vE a0), (.sh, vC a1), (.sh, vQ a2), (.sh, vAD a3)] (Eo (vD r) [.junk, .junk, .junk, .junk]) := by
 intro a0 a1 a2 a3 r hr
 apply pF 43 [] [] [] [.tmp 8] hr zDX Tryz.func79
 intro Φ hΦ hF g
 unfold zf5 at hF
 iterate 3 (try simp [go_sem, g]; try intros; refine zas ?_)
 refine wJ hF (fun x3 => [(9, .v (vD x3))]) (fun x3 hF => ?_) fun _ hj1 hF => ?_
 ·refine wK [8] ?_
  exact wm hΦ hF
 refine wB ?_
 obtain ⟨b22, hb23, hψ8⟩ := hF
 refine pR hb23 (fun i5 s4 => [(1, .v (vC a1)), (4, .bl [.int .i64 a0.P, .int .i64 a0.Q, .int .i64 a0.G]), (6, .bl [.int .i64 a2.A, .int .i64 a2.B]), (9, .v (vD s4.1)), (10, .v (vD s4.2)), (13, .v (vAD a3)), (14, .v (.int .i64 (a3.length : Int))), (15, .v (.int .i64 i5))]) (fun s4 _ hN24 => ?_) (fun i5 s4 _ _ hi9 hi10 ho6 hg7 hF => ?_)
 ·exact wn hN24 (hj1 _) hψ8
 refine wW ?_
 refine wu hi9 hi10 ?_
 refine wW ?_
 refine wJ hF (fun x13 => [(1, .v (vC a1)), (4, .bl [.int .i64 a0.P, .int .i64 a0.Q, .int .i64 a0.G]), (6, .bl [.int .i64 a2.A, .int .i64 a2.B]), (9, .v (vD x13.1)), (10, .v (vD x13.2)), (13, .v (vAD a3)), (14, .v (.int .i64 (a3.length : Int))), (15, .v (.int .i64 i5))]) (fun x13 hF => ?_) fun _ hj11 hF => ?_
 ·exact wi hi9 hi10 (hg7 _) (zaa hF)
 refine wB ?_
 obtain ⟨x14, g, hF⟩ := Rx g hF
 refine wK [1, 4, 6, 9, 10, 11, 12, 13, 14, 15] ?_
 refine wJ hF (fun x17 => [(1, .v (vC a1)), (4, .bl [.int .i64 a0.P, .int .i64 a0.Q, .int .i64 a0.G]), (6, .bl [.int .i64 a2.A, .int .i64 a2.B]), (9, .v (vD s4.1)), (10, .v (vD s4.2)), (11, .v (.int .i64 i5)), (12, .bl [.int .i64 x14.Index, .int .i64 x14.Value, vC x14.Pi.Commits, vC x14.Pi.Challenges, vC x14.Pi.Responses]), (13, .v (vAD a3)), (14, .v (.int .i64 (a3.length : Int))), (15, .v (.int .i64 i5)), (31, .v (.bool x17))]) (fun x17 hF => ?_) fun _ hj15 hF => ?_
 ·refine wI hF (fun h21 hF => ?_) (fun h21 hF => ?_)
  ·obtain ⟨g, hF⟩ := Rg g hF
   obtain ⟨g, hF⟩ := Rg g hF
   refine wW ?_
   exact wT (hj11 _) (zaa hF)
  exact wT (hj11 _) (zaa hF)
 refine wC hF [.sh, .sh] zkX (fun z18 hF => ?_)
 refine wG hF (fun h19 hF => ?_) fun h19 hF => ?_
 ·try simp [go_sem, g, h19]
  refine wC hF [.sh, .sh, .sh, .sh] znU (fun z20 hF => ?_)
  exact wV h19 (hj15 _) (zaa hF)
 exact wV h19 (hj15 _) (zaa hF)
def zcF (a0 : Int) (a1 : Int) : Option (Int × Bool) :=
 (zbQ a0 a1).bind fun z1 =>
 ((zbO (σ := Int × Int × Int × Int) (fun s5 =>
 if (s5.2.1 != 0) = true then (
 gd (s5.2.1 ≠ 0) <|
 some (.go (s5.2.1, i64.wrap (s5.1 - (i64.wrap ((i64.wrap (s5.1.tdiv s5.2.1)) * s5.2.1))), s5.2.2.2, i64.wrap (s5.2.2.1 - (i64.wrap ((i64.wrap (s5.1.tdiv s5.2.1)) * s5.2.2.2)))))) else (
 some (.out (s5.1, s5.2.2.1)))) (z1, a1, 1, 0) : Option ((Int × Int))).bind fun x4 =>
 (zbQ x4.2 a1).bind fun z13 =>
 some (z13, (x4.1 == 1)))
theorem znc : ∀ {a0} {a1} {r}, zcF a0 a1 = some r → PCalls Tryz.prog 120 [(.sh, .int .i64 a0), (.sh, .int .i64 a1)] (Eo (.tup [.int .i64 r.1, .bool r.2]) [.junk, .junk]) := by
 intro a0 a1 r hr
 apply pF 41 [] [] [] [.tmp 4, .tmp 5] hr zAZ Tryz.func120
 intro Φ hΦ hF g
 unfold zcF at hF
 refine wW ?_
 refine wC hF [.sh, .sh] zfM (fun z1 hF => ?_)
 refine wW ?_
 refine wK [1, 6, 7, 8, 9] ?_
 refine wJ hF (fun x4 => [(1, .v (.int .i64 a1)), (6, .v (.int .i64 x4.1)), (8, .v (.int .i64 x4.2))]) (fun x4 hF => ?_) fun _ hj2 hF => ?_
 ·refine wC hF [.sh, .sh] zfM (fun z13 hF => ?_)
  exact wl hΦ hF
 refine wB ?_
 obtain ⟨b11, hb12, hψ9⟩ := hF
 refine pL hb12 (fun s5 => [(1, .v (.int .i64 a1)), (6, .v (.int .i64 s5.1)), (7, .v (.int .i64 s5.2.1)), (8, .v (.int .i64 s5.2.2.1)), (9, .v (.int .i64 s5.2.2.2))]) (fun s5 _ _ ho7 hg8 hF => ?_)
 refine wW ?_
 refine wI hF (fun h10 hF => ?_) (fun h10 hF => ?_)
 ·refine wW ?_
  refine wB ?_
  obtain ⟨g, hF⟩ := Rz g hF
  refine wW ?_
  refine wK [1, 7, 9, 11, 12] ?_
  iterate 3 refine wW ?_
  exact wT (hg8 _) (zaa hF)
 cases ho7 _ (zaa hF)
 exact wT (hj2 _) hψ9
def zeB (a0 : Int) (a1 : List Int) (a2 : Int) : Option ((List Int)) :=
 ((zap (σ := (List Int)) (fun i5 s4 =>
 (ix a1 i5).bind fun x11 =>
 ((zap (σ := Int × Int) (fun i16 s15 =>
 (((ix a1 i16).bind fun x25 =>
 if (i16 != i5) = true then (
 (zbQ (i64.wrap (a2 - x25)) a0).bind fun z27 =>
 gd (a0 ≠ 0) <|
 (zbQ (i64.wrap (x11 - x25)) a0).bind fun z28 =>
 gd (a0 ≠ 0) <|
 some ((i64.wrap (s15.1 * z27)).tmod a0, (i64.wrap (s15.2 * z28)).tmod a0)) else (
 some (s15.1, s15.2)) : Option ((Int × Int))).bind fun x24 =>
 some (.go (x24.1, x24.2)))) (fun s15 => (s15.1, s15.2)) (a1.length) 0 (1, 1) : Option ((Int × Int))).bind fun x14 =>
 (zcF x14.2 a0).bind fun z33 =>
 gd (a0 ≠ 0) <|
 gd ((s4.length + 1) * 8 ≤ 140737488355328 ∧ s4.length + 1 ≤ 4611686018427387904) <|
 some (.go (s4 ++ [(i64.wrap (x14.1 * z33.1)).tmod a0])))) (fun s4 => s4) (a1.length) 0 [] : Option ((List Int))).bind fun x3 =>
 some x3)
theorem zmk : ∀ {a0} {a1} {a2} {r}, zeB a0 a1 a2 = some r → PCalls Tryz.prog 81 [(.sh, .int .i64 a0), (.sh, vC a1), (.sh, .int .i64 a2)] (Eo (vD r) [.junk, .junk, .junk]) := by
 intro a0 a1 a2 r hr
 apply pF 68 [] [] [] [.tmp 6] hr zGW Tryz.func81
 intro Φ hΦ hF g
 unfold zeB at hF
 iterate 3 (try simp [go_sem, g]; try intros; refine zas ?_)
 refine wJ hF (fun x3 => [(7, .v (vD x3))]) (fun x3 hF => ?_) fun _ hj1 hF => ?_
 ·exact wl hΦ hF
 refine wB ?_
 obtain ⟨b34, hb35, hψ8⟩ := hF
 refine pR hb35 (fun i5 s4 => [(0, .v (.int .i64 a0)), (1, .v (vC a1)), (2, .v (.int .i64 a2)), (7, .v (vD s4)), (16, .v (vC a1)), (17, .v (.int .i64 (a1.length : Int))), (18, .v (.int .i64 i5))]) (fun s4 _ hN36 => ?_) (fun i5 s4 _ _ hi9 hi10 ho6 hg7 hF => ?_)
 ·exact wn hN36 (hj1 _) hψ8
 refine wW ?_
 refine wu hi9 hi10 ?_
 refine wW ?_
 refine wB ?_
 obtain ⟨x11, g, hF⟩ := Rx g hF
 refine wK [0, 1, 2, 7, 8, 9, 16, 17, 18] ?_
 iterate 2 (try simp [go_sem, g]; try intros; refine zas ?_)
 refine wJ hF (fun x14 => [(0, .v (.int .i64 a0)), (1, .v (vC a1)), (2, .v (.int .i64 a2)), (7, .v (vD s4)), (10, .v (.int .i64 x14.1)), (11, .v (.int .i64 x14.2)), (16, .v (vC a1)), (17, .v (.int .i64 (a1.length : Int))), (18, .v (.int .i64 i5))]) (fun x14 hF => ?_) fun _ hj12 hF => ?_
 ·refine wC hF [.sh, .sh] znc (fun z33 hF => ?_)
  refine wK [0, 1, 2, 7, 10, 14, 16, 17, 18] ?_
  obtain ⟨g, hF⟩ := Rz g hF
  obtain ⟨g, hF⟩ := Rg g hF
  refine wW ?_
  exact wi hi9 hi10 (hg7 _) (zaa hF)
 refine wB ?_
 obtain ⟨b29, hb30, hψ19⟩ := hF
 refine pR hb30 (fun i16 s15 => [(0, .v (.int .i64 a0)), (1, .v (vC a1)), (2, .v (.int .i64 a2)), (7, .v (vD s4)), (8, .v (.int .i64 i5)), (9, .v (.int .i64 x11)), (10, .v (.int .i64 s15.1)), (11, .v (.int .i64 s15.2)), (16, .v (vC a1)), (17, .v (.int .i64 (a1.length : Int))), (18, .v (.int .i64 i5)), (23, .v (vC a1)), (24, .v (.int .i64 (a1.length : Int))), (25, .v (.int .i64 i16))]) (fun s15 _ hN31 => ?_) (fun i16 s15 _ _ hi20 hi21 ho17 hg18 hF => ?_)
 ·exact wn hN31 (hj12 _) hψ19
 refine wW ?_
 refine wu hi20 hi21 ?_
 refine wW ?_
 refine wJ hF (fun x24 => [(0, .v (.int .i64 a0)), (1, .v (vC a1)), (2, .v (.int .i64 a2)), (7, .v (vD s4)), (8, .v (.int .i64 i5)), (9, .v (.int .i64 x11)), (10, .v (.int .i64 x24.1)), (11, .v (.int .i64 x24.2)), (16, .v (vC a1)), (17, .v (.int .i64 (a1.length : Int))), (18, .v (.int .i64 i5)), (23, .v (vC a1)), (24, .v (.int .i64 (a1.length : Int))), (25, .v (.int .i64 i16))]) (fun x24 hF => ?_) fun _ hj22 hF => ?_
 ·exact wi hi20 hi21 (hg18 _) (zaa hF)
 refine wB ?_
 obtain ⟨x25, g, hF⟩ := Rx g hF
 refine wK [0, 1, 2, 7, 8, 9, 10, 11, 12, 13, 16, 17, 18, 23, 24, 25] ?_
 refine wW ?_
 refine wI hF (fun h26 hF => ?_) (fun h26 hF => ?_)
 ·refine wC hF [.sh, .sh] zfM (fun z27 hF => ?_)
  obtain ⟨g, hF⟩ := Rz g hF
  refine wK [0, 1, 2, 7, 8, 9, 10, 11, 13, 16, 17, 18, 23, 24, 25] ?_
  refine wC hF [.sh, .sh] zfM (fun z28 hF => ?_)
  obtain ⟨g, hF⟩ := Rz g hF
  exact wT (hj22 _) (zaa hF)
 exact wT (hj22 _) (zaa hF)
@[go_sem] def zyL : List DE := [d2 0 [4] 4 4, d1 1 [6] 6, d2 2 [53] 6 53, d2 3 [4] 4 4, d2 4 [4] 4 4, d0 5 [13], d1 6 [4] 4, d2 7 [58] 4 58, d0 8 [12], d3 9 [59, 60], d3 10 [56, 57, 61], d3 11 [55, 62], d0 12 [54, 63], ⟨13, [52, 64], [], none, true, true, true⟩, d0 14 [65], d0 15 []]
def ze0 (a0 : Group) (a1 : List Int) (a2 : Cipher) (a3 : List Partial) : Option (Int × Bool) :=
 (zf5 a0 a1 a2 a3).bind fun z1 =>
 if decide ((z1.length : Int) < (a1.length : Int)) = true then (
 some (0, false)) else (
 gd (0 ≤ (a1.length : Int)) <|
 gd (0 ≤ a1.length ∧ a1.length ≤ z1.length) <|
 ((zap (σ := (List Int) × List Int) (fun i7 s6 =>
 (ix ((z1.take a1.length).drop 0) i7).bind fun x14 =>
 (ix a3 x14).bind fun x15 =>
 gd ((s6.1.length + 1) * 8 ≤ 140737488355328 ∧ s6.1.length + 1 ≤ 4611686018427387904) <|
 gd ((s6.2.length + 1) * 8 ≤ 140737488355328 ∧ s6.2.length + 1 ≤ 4611686018427387904) <|
 some (.go (s6.1 ++ [x15.Index], s6.2 ++ [x15.Value]))) (fun s6 => (s6.1, s6.2)) (((z1.take a1.length).drop 0).length) 0 ([], []) : Option ((List Int × List Int))).bind fun x5 =>
 (zeB a0.Q x5.1 0).bind fun z20 =>
 (zcV a0 x5.2 z20).bind fun z21 =>
 (zfi a0 z21).bind fun z22 =>
 (zbs a0 [a2.B, z22]).bind fun z23 =>
 some (z23, true)))
theorem zm0 : ∀ {a0} {a1} {a2} {a3} {r}, ze0 a0 a1 a2 a3 = some r → PCalls Tryz.prog 32 [(.sh, vE a0), (.sh, vC a1), (.sh, vQ a2), (.sh, vAD a3)] (Eo (.tup [.int .i64 r.1, .bool r.2]) [.junk, .junk, .junk, .junk]) := by
 intro a0 a1 a2 a3 r hr
 apply pF 66 [] [10] [] [.tmp 8, .tmp 9] hr zFB Tryz.func32
 intro Φ hΦ hF g
 unfold ze0 at hF
 refine wW ?_
 refine wC hF [.sh, .sh, .sh, .sh] zpx (fun z1 hF => ?_)
 refine wK [1, 3, 4, 6, 10] ?_
 iterate 2 (try simp [go_sem, g]; try intros; refine zas ?_)
 refine wI hF (fun h2 hF => ?_) (fun h2 hF => ?_)
 ·exact wl hΦ hF
 obtain ⟨g, hF⟩ := Rg g hF
 obtain ⟨g, hF⟩ := Rg g hF
 iterate 2 (try simp [go_sem, g]; try intros; refine zas ?_)
 try simp [go_sem, g]
 try intros
 refine wK [3, 4, 6, 12, 13, 29, 30, 31] ?_
 refine wJ hF (fun x5 => [(4, .bl [.int .i64 a0.P, .int .i64 a0.Q, .int .i64 a0.G]), (6, .bl [.int .i64 a2.A, .int .i64 a2.B]), (12, .v (vD x5.1)), (13, .v (vD x5.2))]) (fun x5 hF => ?_) fun _ hj3 hF => ?_
 ·refine wX zyL follows ?_
  refine wC hF [.sh, .sh, .sh] zmk (fun z20 hF => ?_)
  refine wC hF [.sh, .sh, .sh] zi0 (fun z21 hF => ?_)
  refine wC hF [.sh, .sh] zjx (fun z22 hF => ?_)
  refine wC hF [.sh, .sh] zdY (fun z23 hF => ?_)
  refine wK [8, 9] ?_
  exact wm hΦ hF
 refine wB ?_
 obtain ⟨b16, hb17, hψ10⟩ := hF
 refine pR hb17 (fun i7 s6 => [(3, .v (vAD a3)), (4, .bl [.int .i64 a0.P, .int .i64 a0.Q, .int .i64 a0.G]), (6, .bl [.int .i64 a2.A, .int .i64 a2.B]), (12, .v (vD s6.1)), (13, .v (vD s6.2)), (29, .v (vC ((z1.take a1.length).drop 0))), (30, .v (.int .i64 (((z1.take a1.length).drop 0).length : Int))), (31, .v (.int .i64 i7))]) (fun s6 _ hN18 => ?_) (fun i7 s6 _ _ hi11 hi12 ho8 hg9 hF => ?_)
 ·exact wn hN18 (hj3 _) hψ10
 have hi13 := hi12
 try simp at hi13
 refine wW ?_
 refine wt ?_ (hb := by simp [go_sem, g, hi11, hi12, hi13] <;> omega)
 refine wW ?_
 refine wB ?_
 obtain ⟨x14, g, hF⟩ := Rxq g hF
 obtain ⟨x15, g, hF⟩ := Rx g hF
 obtain ⟨g, hF⟩ := Rg g hF
 refine wW ?_
 refine wK [3, 4, 6, 12, 13, 15, 29, 30, 31] ?_
 obtain ⟨g, hF⟩ := Rg g hF
 refine wW ?_
 exact wT (hg9 (s6.1 ++ [x15.Index], s6.2 ++ [x15.Value])) (zaa hF) (a := by simp [go_sem, g, zqz hi11 hi12 (by first | assumption | (simp; assumption) | (simp; omega))])
@[go_sem] def zDM : List DE := [d2 0 [6] 6 6, d2 1 [6] 6 6, d2 2 [8] 8 8, d2 3 [9] 9 9, d0 5 [4], d0 11 [], d3 4 [34, 35, 36], d3 6 [33, 37, 38], d0 7 [39], d0 8 [32], d0 9 [32], d0 10 [32], d2 12 [14, 40] 14 14, d0 13 [41], d0 14 [42]]
def zeO (a0 : Group) (a1 : List Int) (a2 : Cipher) (a3 : Cipher) (a4 : List Blind) (a5 : List Partial) : Option (Bool × Bool) :=
 (((zco a0 a1 a2 a5).bind fun z4 =>
 if (!z4) = true then (
 some true) else (
 (zcR a0 [a3]).bind fun z6 =>
 some (!z6)) : Option Bool).bind fun x3 =>
 if x3 = true then (
 some (false, false)) else (
 (zdX a0 a2 a3).bind fun z8 =>
 (zdg a0 z8 a4).bind fun z9 =>
 if (!z9.2.2) = true then (
 some (false, false)) else (
 (ze0 a0 a1 z9.1 a5).bind fun z11 =>
 ((if z11.2 = true then (
 some (z11.1 == 1)) else (
 some false) : Option Bool).bind fun x14 =>
 some (x14, z11.2)))))
theorem zmr : ∀ {a0} {a1} {a2} {a3} {a4} {a5} {r}, zeO a0 a1 a2 a3 a4 a5 = some r → PCalls Tryz.prog 6 [(.sh, vE a0), (.sh, vC a1), (.sh, vQ a2), (.sh, vQ a3), (.sh, vAA a4), (.sh, vAD a5)] (Eo (.tup [.bool r.1, .bool r.2]) [.junk, .junk, .junk, .junk, .junk, .junk]) := by
 intro a0 a1 a2 a3 a4 a5 r hr
 apply pF 59 [] [] [] [.tmp 12, .tmp 13] hr cl6 Tryz.func6
 intro Φ hΦ hF g
 unfold zeO at hF
 refine wW ?_
 refine wJ hF (fun x3 => [(1, .v (vC a1)), (4, .v (vAA a4)), (5, .v (vAD a5)), (6, .bl [.int .i64 a0.P, .int .i64 a0.Q, .int .i64 a0.G]), (8, .bl [.int .i64 a2.A, .int .i64 a2.B]), (9, .bl [.int .i64 a3.A, .int .i64 a3.B]), (31, .v (.bool x3))]) (fun x3 hF => ?_) fun _ hj1 hF => ?_
 ·refine wI hF (fun h7 hF => ?_) (fun h7 hF => ?_)
  ·exact wl hΦ hF
  refine wW ?_
  refine wX zDM follows ?_
  refine wC hF [.sh, .sh, .sh] zjy (fun z8 hF => ?_)
  refine wC hF [.sh, .sh, .sh] zkx (fun z9 hF => ?_)
  refine wK [1, 5, 6, 14, 16] ?_
  refine wW ?_
  refine wI hF (fun h10 hF => ?_) (fun h10 hF => ?_)
  ·exact wl hΦ hF
  refine wW ?_
  refine wC hF [.sh, .sh, .sh, .sh] zm0 (fun z11 hF => ?_)
  refine wK [17, 18] ?_
  refine wJ hF (fun x14 => [(12, .v (.bool x14)), (13, .v (.bool z11.2))]) (fun x14 hF => ?_) fun _ hj12 hF => ?_
  ·exact wm hΦ hF
  refine wG hF (fun h15 hF => ?_) fun h15 hF => ?_
  ·try simp [go_sem, g, h15]
   exact wT (hj12 (z11.1 == 1)) (zaa hF) (a := by first | (simp [go_sem, g]; done) | simp [go_sem, g, h15])
  try simp [go_sem, g, h15]
  exact wT (hj12 false) (zaa hF) (a := by first | (simp [go_sem, g]; done) | simp [go_sem, g, h15])
 refine wC hF [.sh, .sh, .sh, .sh] zo3 (fun z4 hF => ?_)
 refine wG hF (fun h5 hF => ?_) fun h5 hF => ?_
 ·exact wV h5 (hj1 _) (zaa hF)
 try simp [go_sem, g, h5]
 refine wC hF [.sh, .sh] zfo (fun z6 hF => ?_)
 exact wV h5 (hj1 _) (zaa hF)
@[go_sem] def zBt : List DE := [d0 0 [0], d2 1 [3] 3 3, d0 3 [0], d2 4 [3] 3 3, d3 2 [5, 6], d3 5 [8, 9], d0 6 [7, 10], d2 7 [4, 11] 4 4]
def zbR (a0c0 : List Int) (a0c1 : Int) (a0c2 : Int) (a1 : Group) : Option (Cipher × (List Int × Int × Int)) :=
 (zaS a0c0 a0c1 a0c2 a1).bind fun z1 =>
 (zaS z1.2.1 z1.2.2.1 z1.2.2.2 a1).bind fun z2 =>
 some ((Cipher.mk z1.1 z2.1), (z2.2.1, z2.2.2.1, z2.2.2.2))
theorem zh2 : ∀ {a0c0} {a0c1} {a0c2} {a1} {r}, zbR a0c0 a0c1 a0c2 a1 = some r → PCalls Tryz.prog 35 [(.io, vB a0c0 a0c1 a0c2), (.sh, vE a1)] (Eo (vQ r.1) [vB r.2.1 r.2.2.1 r.2.2.2, .junk]) := by
 intro a0c0 a0c1 a0c2 a1 r hr
 apply pF 12 [0] [] [] [.cell 4 27] hr zE7 Tryz.func35
 intro Φ hΦ hF g
 unfold zbR at hF
 refine wW ?_
 refine wX zBt follows ?_
 refine wC hF [.io, .sh] zcq (fun z1 hF => ?_)
 refine wC hF [.io, .sh] zcq (fun z2 hF => ?_)
 refine wK [0, 4] ?_
 exact wm hΦ hF
def zbF (a0c0 : List Int) (a0c1 : Int) (a0c2 : Int) (a1 : Group) : Option (Int × (List Int × Int × Int)) :=
 (za0 a0c0 a0c1 a0c2 24).bind fun z1 =>
 if z1.1 = true then (
 (zam z1.2.1 z1.2.2.1 z1.2.2.2 [a1.Q, (-1), i64.wrap (a1.Q - 1)]).bind fun z3 =>
 some (z3.1, (z3.2.1, z3.2.2.1, z3.2.2.2))) else (
 (zaB z1.2.1 z1.2.2.1 z1.2.2.2 a1).bind fun z4 =>
 some (z4.1, (z4.2.1, z4.2.2.1, z4.2.2.2)))
theorem zf0 : ∀ {a0c0} {a0c1} {a0c2} {a1} {r}, zbF a0c0 a0c1 a0c2 a1 = some r → PCalls Tryz.prog 36 [(.io, vB a0c0 a0c1 a0c2), (.sh, vE a1)] (Eo (.int .i64 r.1) [vB r.2.1 r.2.2.1 r.2.2.2, .junk]) := by
 intro a0c0 a0c1 a0c2 a1 r hr
 apply pF 18 [0] [] [] [.tmp 4] hr zFw Tryz.func36
 intro Φ hΦ hF g
 unfold zbF at hF
 refine wW ?_
 refine wC hF [.io, .sh] zcb (fun z1 hF => ?_)
 refine wW ?_
 refine wI hF (fun h2 hF => ?_) (fun h2 hF => ?_)
 ·refine wC hF [.io, .mv] zak (fun z3 hF => ?_)
  refine wK [0, 4] ?_
  exact wm hΦ hF
 refine wW ?_
 refine wC hF [.io, .sh] zax (fun z4 hF => ?_)
 exact wl hΦ hF
@[go_sem] def zGd : List DE := [d2 0 [8] 8 8, d0 1 [7], d2 2 [8] 8 8, d0 4 [7], d2 5 [8] 8 8, d0 7 [7], d2 8 [8] 8 8, d0 10 [7], d2 11 [8] 8 8, d3 3 [15, 16], d3 6 [18, 19], d3 9 [21, 22], d3 12 [24, 25], d2 13 [2, 14] 2 2, d0 14 [17], d2 15 [4, 20] 4 4, d0 16 [23], d0 17 [26]]
def zdj (a0 : List Int) : Option (Group × Int × Cipher × Int × Int) :=
 (zbv a0 0 0).bind fun z1 =>
 (zaS z1.2.1 z1.2.2.1 z1.2.2.2 z1.1).bind fun z2 =>
 (zbR z2.2.1 z2.2.2.1 z2.2.2.2 z1.1).bind fun z3 =>
 (zbF z3.2.1 z3.2.2.1 z3.2.2.2 z1.1).bind fun z4 =>
 (zbF z4.2.1 z4.2.2.1 z4.2.2.2 z1.1).bind fun z5 =>
 some (z1.1, z2.1, z3.1, z4.1, z5.1)
theorem zj8 : ∀ {a0} {r}, zdj a0 = some r → PCalls Tryz.prog 7 [(.sh, vA a0)] (Eo (.tup [vE r.1, .int .i64 r.2.1, vQ r.2.2.1, .int .i64 r.2.2.2.1, .int .i64 r.2.2.2.2]) [.junk]) := by
 intro a0 r hr
 apply pF 27 [] [] [11] [.cell 2 24, .tmp 3, .cell 4 27, .tmp 5, .tmp 6] hr cl7 Tryz.func7
 intro Φ hΦ hF g
 unfold zdj at hF
 iterate 2 refine wW ?_
 refine wC hF [.io] zfE (fun z1 hF => ?_)
 refine wK [2, 4, 7, 8] ?_
 refine wX zGd follows ?_
 refine wC hF [.io, .sh] zcq (fun z2 hF => ?_)
 refine wC hF [.io, .sh] zh2 (fun z3 hF => ?_)
 refine wC hF [.io, .sh] zf0 (fun z4 hF => ?_)
 refine wC hF [.io, .sh] zf0 (fun z5 hF => ?_)
 refine wK [2, 3, 4, 5, 6] ?_
 exact wm hΦ hF
@[go_sem] def zCl : List DE := [d2 0 [4] 4 4, d1 1 [4] 4, d2 2 [10] 4 10, d0 3 [3], d2 5 [4] 4 4, d0 6 [2], d2 7 [4] 4 4, d0 8 [1], d0 9 [3], d3 4 [9, 11, 12], d3 10 [16, 17, 18], d0 11 [15, 19], ⟨12, [14, 20], [], none, true, true, true⟩, d0 13 [13, 21], d2 14 [8, 22] 8 8]
def zcu (a0 : Group) (a1 : Int) (a2 : Int) (a3 : Int) : Option Cipher :=
 (za6 a0 a0.G a3).bind fun z1 =>
 (za6 a0 a1 a3).bind fun z2 =>
 (zaV a0 [a2, z2]).bind fun z3 =>
 some (Cipher.mk z1 z3)
theorem zhm : ∀ {a0} {a1} {a2} {a3} {r}, zcu a0 a1 a2 a3 = some r → PCalls Tryz.prog 51 [(.sh, vE a0), (.sh, .int .i64 a1), (.sh, .int .i64 a2), (.sh, .int .i64 a3)] (Eo (vQ r) [.junk, .junk, .junk, .junk]) := by
 intro a0 a1 a2 a3 r hr
 apply pF 23 [] [] [] [.cell 8 27] hr zFH Tryz.func51
 intro Φ hΦ hF g
 unfold zcu at hF
 refine wW ?_
 refine wX zCl follows ?_
 refine wC hF [.sh, .sh, .sh] zch (fun z1 hF => ?_)
 refine wC hF [.sh, .sh, .sh] zch (fun z2 hF => ?_)
 refine wC hF [.sh, .sh] zck (fun z3 hF => ?_)
 refine wK [8] ?_
 exact wm hΦ hF
@[go_sem] def zCf : List DE := [d2 0 [4] 4 4, d2 1 [6] 6 6, d2 2 [4] 4 4, d0 3 [1], d0 4 [3], d3 5 [11, 12, 13], d3 6 [9, 10, 14], d2 7 [8, 15] 8 8]
def zcS (a0 : Group) (a1 : Int) (a2 : Cipher) (a3 : Int) : Option Cipher :=
 (zcu a0 a1 1 a3).bind fun z1 =>
 (zbJ a0 a2 z1).bind fun z2 =>
 some z2
theorem zjE : ∀ {a0} {a1} {a2} {a3} {r}, zcS a0 a1 a2 a3 = some r → PCalls Tryz.prog 83 [(.sh, vE a0), (.sh, .int .i64 a1), (.sh, vQ a2), (.sh, .int .i64 a3)] (Eo (vQ r) [.junk, .junk, .junk, .junk]) := by
 intro a0 a1 a2 a3 r hr
 apply pF 16 [] [] [] [.cell 8 27] hr zFZ Tryz.func83
 intro Φ hΦ hF g
 unfold zcS at hF
 refine wW ?_
 refine wX zCf follows ?_
 refine wC hF [.sh, .sh, .sh, .sh] zhm (fun z1 hF => ?_)
 refine wC hF [.sh, .sh, .sh] zhA (fun z2 hF => ?_)
 refine wK [8] ?_
 exact wm hΦ hF
def zeE (a0 : Group) (a1 : Int) (a2 : Cipher) (a3 : Int) : Option (Cipher × Bool) :=
 (((zaL a0).bind fun z4 =>
 if (!z4) = true then (
 some true) else (
 (zbC a0 a1).bind fun z6 =>
 if (!z6) = true then (
 some true) else (
 (zaK a0 a2).bind fun z8 =>
 if (!z8) = true then (
 some true) else (
 (zby a0 a3).bind fun z10 =>
 some (!z10)))) : Option Bool).bind fun x3 =>
 if x3 = true then (
 some ((Cipher.mk 0 0), false)) else (
 (zcS a0 a1 a2 a3).bind fun z12 =>
 some (z12, true)))
theorem zmv : ∀ {a0} {a1} {a2} {a3} {r}, zeE a0 a1 a2 a3 = some r → PCalls Tryz.prog 37 [(.sh, vE a0), (.sh, .int .i64 a1), (.sh, vQ a2), (.sh, .int .i64 a3)] (Eo (.tup [vQ r.1, .bool r.2]) [.junk, .junk, .junk, .junk]) := by
 intro a0 a1 a2 a3 r hr
 apply pF 37 [] [] [] [.cell 8 27, .tmp 9] hr zD1 Tryz.func37
 intro Φ hΦ hF g
 unfold zeE at hF
 refine wW ?_
 refine wJ hF (fun x3 => [(1, .v (.int .i64 a1)), (3, .v (.int .i64 a3)), (4, .bl [.int .i64 a0.P, .int .i64 a0.Q, .int .i64 a0.G]), (6, .bl [.int .i64 a2.A, .int .i64 a2.B]), (8, .bl [.int .i64 0, .int .i64 0]), (30, .v (.bool x3))]) (fun x3 hF => ?_) fun _ hj1 hF => ?_
 ·refine wI hF (fun h11 hF => ?_) (fun h11 hF => ?_)
  ·exact wl hΦ hF
  refine wW ?_
  refine wC hF [.sh, .sh, .sh, .sh] zjE (fun z12 hF => ?_)
  refine wK [8, 9] ?_
  exact wm hΦ hF
 refine wC hF [.sh] zbe (fun z4 hF => ?_)
 refine wG hF (fun h5 hF => ?_) fun h5 hF => ?_
 ·exact wV h5 (hj1 _) (zaa hF)
 try simp [go_sem, g, h5]
 refine wC hF [.sh, .sh] zdI (fun z6 hF => ?_)
 try simp [go_sem, g, h5]
 refine wG hF (fun h7 hF => ?_) fun h7 hF => ?_
 ·exact wV h7 (hj1 _) (zaa hF)
 try simp [go_sem, g, h7]
 refine wC hF [.sh, .sh] zbn (fun z8 hF => ?_)
 try simp [go_sem, g, h7]
 refine wG hF (fun h9 hF => ?_) fun h9 hF => ?_
 ·exact wV h9 (hj1 _) (zaa hF)
 try simp [go_sem, g, h9]
 refine wC hF [.sh, .sh] zeY (fun z10 hF => ?_)
 exact wV h9 (hj1 _) (zaa hF)
def zbg (a0 : Group) (a1 : Int) (a2 : Cipher) (a3 : Cipher) : Option EqualLog :=
 (zcc a0 a3 a2).bind fun z1 =>
 some (EqualLog.mk a0.G z1.A a1 z1.B)
theorem zfG : ∀ {a0} {a1} {a2} {a3} {r}, zbg a0 a1 a2 a3 = some r → PCalls Tryz.prog 39 [(.sh, vE a0), (.sh, .int .i64 a1), (.sh, vQ a2), (.sh, vQ a3)] (Eo (vY r) [.junk, .junk, .junk, .junk]) := by
 intro a0 a1 a2 a3 r hr
 apply pF 22 [] [] [] [.cell 8 77] hr zDL Tryz.func39
 intro Φ hΦ hF g
 unfold zbg at hF
 refine wW ?_
 refine wC hF [.sh, .sh, .sh] zg9 (fun z1 hF => ?_)
 refine wK [1, 4, 8, 9] ?_
 exact wl hΦ hF
def zd8 (a0 : Group) (a1 : EqualLog) : Option Bool :=
 (za2 a0 [a1.G1, a1.Y1, a1.G2, a1.Y2]).bind fun z1 =>
 some z1
theorem zj1 : ∀ {a0} {a1} {r}, zd8 a0 a1 = some r → PCalls Tryz.prog 122 [(.sh, vE a0), (.sh, vY a1)] (Eo (.bool r) [.junk, .junk]) := by
 intro a0 a1 r hr
 apply pF 16 [] [] [] [.tmp 4] hr zBp Tryz.func122
 intro Φ hΦ hF g
 unfold zd8 at hF
 refine wW ?_
 refine wC hF [.sh, .sh] zcN (fun z1 hF => ?_)
 refine wK [4] ?_
 exact wm hΦ hF
@[go_sem] def zzp : List DE := [d2 0 [3] 3 3, d1 1 [4] 4, d2 2 [8] 4 8, d0 3 [2], d1 5 [4] 4, d2 6 [12] 4 12, d3 4 [7, 9, 10], d0 7 [11, 13], d0 8 [14], d2 9 [3, 15] 3 3, d1 10 [4, 15] 4, d2 11 [17, 15] 4 17, d0 12 [2, 15], d1 14 [4, 15] 4, d2 15 [21, 15] 4 21, d3 13 [16, 18, 19, 15], d0 16 [20, 22, 15], d0 17 [15, 23], d0 18 [24]]
def zeQ (a0 : Group) (a1 : EqualLog) (a2 : Int) : Option Bool :=
 (((za6 a0 a1.G1 a2).bind fun z4 =>
 if (z4 == a1.Y1) = true then (
 (za6 a0 a1.G2 a2).bind fun z6 =>
 some (z6 == a1.Y2)) else (
 some false) : Option Bool).bind fun x3 =>
 some x3)
theorem zkQ : ∀ {a0} {a1} {a2} {r}, zeQ a0 a1 a2 = some r → PCalls Tryz.prog 123 [(.sh, vE a0), (.sh, vY a1), (.sh, .int .i64 a2)] (Eo (.bool r) [.junk, .junk, .junk]) := by
 intro a0 a1 a2 r hr
 apply pF 25 [] [] [] [.tmp 6] hr zAJ Tryz.func123
 intro Φ hΦ hF g
 unfold zeQ at hF
 refine wW ?_
 refine wJ hF (fun x3 => [(6, .v (.bool x3))]) (fun x3 hF => ?_) fun _ hj1 hF => ?_
 ·exact wm hΦ hF
 refine wX zzp follows ?_
 refine wC hF [.sh, .sh, .sh] zch (fun z4 hF => ?_)
 refine wH hF (fun h5 hF => ?_) fun h5 hF => ?_
 ·try simp [go_sem, g, h5]
  refine wC hF [.sh, .sh, .sh] zch (fun z6 hF => ?_)
  exact wV h5 (hj1 _) (zaa hF)
 exact wV h5 (hj1 _) (zaa hF)
def zd2 (a0 : Group) (a1 : EqualLog) (a2 : Int) : Option (Bool × Bool) :=
 (((zaL a0).bind fun z4 =>
 if (!z4) = true then (
 some true) else (
 (zd8 a0 a1).bind fun z6 =>
 if (!z6) = true then (
 some true) else (
 (zby a0 a2).bind fun z8 =>
 some (!z8))) : Option Bool).bind fun x3 =>
 if x3 = true then (
 some (false, false)) else (
 (zeQ a0 a1 a2).bind fun z10 =>
 some (z10, true)))
theorem zlf : ∀ {a0} {a1} {a2} {r}, zd2 a0 a1 a2 = some r → PCalls Tryz.prog 84 [(.sh, vE a0), (.sh, vY a1), (.sh, .int .i64 a2)] (Eo (.tup [.bool r.1, .bool r.2]) [.junk, .junk, .junk]) := by
 intro a0 a1 a2 r hr
 apply pF 27 [] [] [] [.tmp 6, .tmp 7] hr zHm Tryz.func84
 intro Φ hΦ hF g
 unfold zd2 at hF
 refine wW ?_
 refine wJ hF (fun x3 => [(2, .v (.int .i64 a2)), (3, .bl [.int .i64 a0.P, .int .i64 a0.Q, .int .i64 a0.G]), (4, .bl [.int .i64 a1.G1, .int .i64 a1.Y1, .int .i64 a1.G2, .int .i64 a1.Y2]), (22, .v (.bool x3))]) (fun x3 hF => ?_) fun _ hj1 hF => ?_
 ·refine wI hF (fun h9 hF => ?_) (fun h9 hF => ?_)
  ·exact wl hΦ hF
  refine wW ?_
  refine wC hF [.sh, .sh, .sh] zkQ (fun z10 hF => ?_)
  refine wK [6, 7] ?_
  exact wm hΦ hF
 refine wC hF [.sh] zbe (fun z4 hF => ?_)
 refine wG hF (fun h5 hF => ?_) fun h5 hF => ?_
 ·exact wV h5 (hj1 _) (zaa hF)
 try simp [go_sem, g, h5]
 refine wC hF [.sh, .sh] zj1 (fun z6 hF => ?_)
 try simp [go_sem, g, h5]
 refine wG hF (fun h7 hF => ?_) fun h7 hF => ?_
 ·exact wV h7 (hj1 _) (zaa hF)
 try simp [go_sem, g, h7]
 refine wC hF [.sh, .sh] zeY (fun z8 hF => ?_)
 exact wV h7 (hj1 _) (zaa hF)
@[go_sem] def zzc : List DE := [d2 0 [5] 5 5, d0 1 [1], d0 2 [2], d2 4 [5] 5 5, d0 5 [2], d0 6 [3], d1 8 [12] 12, d2 9 [31] 12 31, d3 3 [25], d3 7 [27, 28, 29], d0 10 [26, 30, 32], ⟨11, [33], [], none, true, true, true⟩, d3 12 [23, 24, 34], d0 13 [35], d0 14 [22], d0 15 [22], d0 16 [36], d0 17 [37]]
@[go_sem] def zyo : List DE := [d1 0 [12] 12, d2 1 [51] 12 51, d2 2 [5] 5 5, d0 3 [16], d0 4 [13], d0 5 [3], d0 6 [15], d0 7 [56, 57], d0 8 [58], d0 9 [55, 59], d0 10 [54, 60], d3 11 [53, 61], d0 12 [62], ⟨13, [52, 63], [], none, true, false, false⟩, d1 14 [12] 12, d2 15 [65, 64] 12 65]
def zbM (a0 : Group) (a1 : ByteArray) (a2 : (List (List Int))) (a3 : List Int) (a4 : List Int) : Option (Proof × Bool) :=
 (zbI a0 a2 a4).bind fun z1 =>
 (zbh a2).bind fun z2 =>
 (zbI a0 a2 a3).bind fun z3 =>
 (zbh [z2, z3, z1]).bind fun z4 =>
 (zbD a0 a1 z4).bind fun z5 =>
 if (!z5.2) = true then (
 some ((Proof.mk [] [] []), false)) else (
 ((zap (σ := (List Int) × List Int × List Int) (fun i21 s20 =>
 (ix a4 i21).bind fun x27 =>
 (ix a3 i21).bind fun x28 =>
 (zc2 a0 (i64.wrap (x27 + (i64.wrap (z5.1 * x28))))).bind fun z29 =>
 gd ((s20.2.2.length + 1) * 8 ≤ 140737488355328 ∧ s20.2.2.length + 1 ≤ 4611686018427387904) <|
 some (.go (s20.1, s20.2.1, s20.2.2 ++ [z29]))) (fun s20 => (s20.1, s20.2.1, s20.2.2)) (a4.length) 0 (z1, [z5.1], []) : Option ((List Int × List Int × List Int))).bind fun x9 =>
 some ((Proof.mk x9.1 x9.2.1 x9.2.2), true)))
theorem zge : ∀ {a0} {a1} {a2} {a3} {a4} {r}, zbM a0 a1 a2 a3 a4 = some r → PCalls Tryz.prog 127 [(.sh, vE a0), (.sh, .str a1), (.sh, vG a2), (.sh, vC a3), (.sh, vC a4)] (Eo (.tup [vV r.1, .bool r.2]) [.junk, .junk, .junk, .junk, .junk]) := by
 intro a0 a1 a2 a3 a4 r hr
 apply pFz 68 [] [26, 30, 32] [] [.cell 10 37, .tmp 11] hr zB1 Tryz.func127
 intro Φ hΦ hF g
 unfold zbM at hF
 refine wW ?_
 refine wC hF [.sh, .sh, .sh] zfU (fun z1 hF => ?_)
 refine wK [1, 2, 3, 4, 5, 10, 12] ?_
 refine wX zzc follows ?_
 refine wC hF [.sh] zdA (fun z2 hF => ?_)
 refine wC hF [.sh, .sh, .sh] zfU (fun z3 hF => ?_)
 refine wC hF [.sh] zdA (fun z4 hF => ?_)
 refine wC hF [.sh, .sh, .sh] zgA (fun z5 hF => ?_)
 refine wK [3, 4, 5, 10, 12, 13, 14] ?_
 refine wW ?_
 refine wI hF (fun h6 hF => ?_) (fun h6 hF => ?_)
 ·exact wl hΦ hF
 iterate 3 (try simp [go_sem, g]; try intros; refine zas ?_)
 refine wJ hF (fun x9 => [(10, .bl [.sl true 1 [], .sl true 1 [], .sl true 1 []]), (12, .bl [vC x9.1, vD x9.2.1, vD x9.2.2])]) (fun x9 hF => ?_) fun _ hj7 hF => ?_
 ·refine wK [10, 11] ?_
  exact wm hΦ hF
 refine wB ?_
 obtain ⟨b30, hb31, hψ24⟩ := hF
 refine pR hb31 (fun i21 s20 => [(3, .v (vC a3)), (5, .bl [.int .i64 a0.P, .int .i64 a0.Q, .int .i64 a0.G]), (10, .bl [.sl true 1 [], .sl true 1 [], .sl true 1 []]), (12, .bl [vC s20.1, vD s20.2.1, vD s20.2.2]), (13, .v (.int .i64 z5.1)), (44, .v (vC a4)), (45, .v (.int .i64 (a4.length : Int))), (46, .v (.int .i64 i21))]) (fun s20 _ hN32 => ?_) (fun i21 s20 _ _ hi25 hi26 ho22 hg23 hF => ?_)
 ·exact wn hN32 (hj7 _) hψ24
 refine wK [3, 5, 10, 12, 13, 44, 45, 46, 47] ?_
 refine wu hi25 hi26 ?_
 refine wW ?_
 refine wB ?_
 obtain ⟨x27, g, hF⟩ := Rx g hF
 refine wW ?_
 refine wX zyo follows ?_
 obtain ⟨x28, g, hF⟩ := Rx g hF
 refine wC hF [.sh, .sh] ziS (fun z29 hF => ?_)
 obtain ⟨g, hF⟩ := Rg g hF
 refine wK [3, 5, 10, 12, 13, 44, 45, 46] ?_
 exact wi hi25 hi26 (hg23 _) (zaa hF)
def zhV (a0 : Group) (a1 : ByteArray) (a2 : (List (List Int))) (a3 : List Int) (a4 : List Int) : Option (Proof × Bool) :=
 (((zaL a0).bind fun z4 =>
 if (!z4) = true then (
 some true) else (
 (zdO a1).bind fun z6 =>
 if (!z6) = true then (
 some true) else (
 (zbS a0 a2).bind fun z8 =>
 if (!z8) = true then (
 some true) else (
 (ix a2 0).bind fun x10 =>
 if ((a3.length : Int) != (x10.length : Int)) = true then (
 some true) else (
 if ((a4.length : Int) != (a3.length : Int)) = true then (
 some true) else (
 (zba a0 a3).bind fun z13 =>
 if (!z13) = true then (
 some true) else (
 (zba a0 a4).bind fun z15 =>
 some (!z15))))))) : Option Bool).bind fun x3 =>
 if x3 = true then (
 some ((Proof.mk [] [] []), false)) else (
 (zbM a0 a1 a2 a3 a4).bind fun z17 =>
 some (z17.1, z17.2)))
theorem zuK : ∀ {a0} {a1} {a2} {a3} {a4} {r}, zhV a0 a1 a2 a3 a4 = some r → PCalls Tryz.prog 85 [(.sh, vE a0), (.sh, .str a1), (.sh, vG a2), (.sh, vC a3), (.sh, vC a4)] (Eo (.tup [vV r.1, .bool r.2]) [.junk, .junk, .junk, .junk, .junk]) := by
 intro a0 a1 a2 a3 a4 r hr
 apply pFz 63 [] [] [] [.cell 10 37, .tmp 11] hr zyB Tryz.func85
 intro Φ hΦ hF g
 unfold zhV at hF
 refine wW ?_
 refine wJ hF (fun x3 => [(1, .v (.str a1)), (2, .v (vG a2)), (3, .v (vC a3)), (4, .v (vC a4)), (5, .bl [.int .i64 a0.P, .int .i64 a0.Q, .int .i64 a0.G]), (10, .bl [.sl true 1 [], .sl true 1 [], .sl true 1 []]), (53, .v (.bool x3))]) (fun x3 hF => ?_) fun _ hj1 hF => ?_
 ·refine wI hF (fun h16 hF => ?_) (fun h16 hF => ?_)
  ·exact wl hΦ hF
  refine wW ?_
  refine wC hF [.sh, .sh, .sh, .sh, .sh] zge (fun z17 hF => ?_)
  refine wK [10, 11] ?_
  exact wm hΦ hF
 refine wC hF [.sh] zbe (fun z4 hF => ?_)
 refine wG hF (fun h5 hF => ?_) fun h5 hF => ?_
 ·exact wV h5 (hj1 _) (zaa hF)
 try simp [go_sem, g, h5]
 refine wC hF [.sh] zhE (fun z6 hF => ?_)
 try simp [go_sem, g, h5]
 refine wG hF (fun h7 hF => ?_) fun h7 hF => ?_
 ·exact wV h7 (hj1 _) (zaa hF)
 try simp [go_sem, g, h7]
 refine wC hF [.sh, .sh] zfv (fun z8 hF => ?_)
 try simp [go_sem, g, h7]
 refine wG hF (fun h9 hF => ?_) fun h9 hF => ?_
 ·exact wV h9 (hj1 _) (zaa hF)
 obtain ⟨x10, g, hF⟩ := Rxn g 0 hF
 try simp [go_sem, g, h9]
 try intros
 refine wG hF (fun h11 hF => ?_) fun h11 hF => ?_
 ·exact wV h11 (hj1 _) (zaa hF)
 try simp [go_sem, g, h11]
 try intros
 refine wG hF (fun h12 hF => ?_) fun h12 hF => ?_
 ·exact wV h12 (hj1 _) (zaa hF)
 try simp [go_sem, g, h12]
 refine wC hF [.sh, .sh] zdl (fun z13 hF => ?_)
 try simp [go_sem, g, h12]
 refine wG hF (fun h14 hF => ?_) fun h14 hF => ?_
 ·exact wV h14 (hj1 _) (zaa hF)
 try simp [go_sem, g, h14]
 refine wC hF [.sh, .sh] zdl (fun z15 hF => ?_)
 exact wV h14 (hj1 _) (zaa hF)
def zcJ (a0 : Group) (a1 : ByteArray) (a2 : (List (List Int))) (a3 : List Int) (a4 : List Int) : Option (Proof × Bool) :=
 (((zaL a0).bind fun z4 =>
 if (!z4) = true then (
 some true) else (
 (zdO a1).bind fun z6 =>
 if (!z6) = true then (
 some true) else (
 (zbS a0 a2).bind fun z8 =>
 if (!z8) = true then (
 some true) else (
 (ix a2 0).bind fun x10 =>
 if ((a3.length : Int) != (x10.length : Int)) = true then (
 some true) else (
 if ((a4.length : Int) != (a3.length : Int)) = true then (
 some true) else (
 (zba a0 a3).bind fun z13 =>
 if (!z13) = true then (
 some true) else (
 (zba a0 a4).bind fun z15 =>
 some (!z15))))))) : Option Bool).bind fun x3 =>
 if x3 = true then (
 some ((Proof.mk [] [] []), false)) else (
 (zbM a0 a1 a2 a3 a4).bind fun z17 =>
 some (z17.1, z17.2)))
theorem zhU : ∀ {a0} {a1} {a2} {a3} {a4} {r}, zcJ a0 a1 a2 a3 a4 = some r → PCalls Tryz.prog 85 [(.sh, vE a0), (.sh, .str a1), (.sh, vG a2), (.mv, vD a3), (.mv, vD a4)] (Eo (.tup [vV r.1, .bool r.2]) [.junk, .junk, .junk, .junk, .junk]) := by
 intro a0 a1 a2 a3 a4 r hr
 apply pFz 63 [] [58, 59] [] [.cell 10 37, .tmp 11] hr zyB Tryz.func85
 intro Φ hΦ hF g
 unfold zcJ at hF
 refine wW ?_
 refine wJ hF (fun x3 => [(1, .v (.str a1)), (2, .v (vG a2)), (3, .v (vD a3)), (4, .v (vD a4)), (5, .bl [.int .i64 a0.P, .int .i64 a0.Q, .int .i64 a0.G]), (10, .bl [.sl true 1 [], .sl true 1 [], .sl true 1 []]), (53, .v (.bool x3))]) (fun x3 hF => ?_) fun _ hj1 hF => ?_
 ·refine wI hF (fun h16 hF => ?_) (fun h16 hF => ?_)
  ·exact wl hΦ hF
  refine wW ?_
  refine wC hF [.sh, .sh, .sh, .sh, .sh] zge (fun z17 hF => ?_)
  refine wK [10, 11] ?_
  exact wm hΦ hF
 refine wC hF [.sh] zbe (fun z4 hF => ?_)
 refine wG hF (fun h5 hF => ?_) fun h5 hF => ?_
 ·exact wV h5 (hj1 _) (zaa hF)
 try simp [go_sem, g, h5]
 refine wC hF [.sh] zhE (fun z6 hF => ?_)
 try simp [go_sem, g, h5]
 refine wG hF (fun h7 hF => ?_) fun h7 hF => ?_
 ·exact wV h7 (hj1 _) (zaa hF)
 try simp [go_sem, g, h7]
 refine wC hF [.sh, .sh] zfv (fun z8 hF => ?_)
 try simp [go_sem, g, h7]
 refine wG hF (fun h9 hF => ?_) fun h9 hF => ?_
 ·exact wV h9 (hj1 _) (zaa hF)
 obtain ⟨x10, g, hF⟩ := Rxn g 0 hF
 try simp [go_sem, g, h9]
 try intros
 refine wG hF (fun h11 hF => ?_) fun h11 hF => ?_
 ·exact wV h11 (hj1 _) (zaa hF)
 try simp [go_sem, g, h11]
 try intros
 refine wG hF (fun h12 hF => ?_) fun h12 hF => ?_
 ·exact wV h12 (hj1 _) (zaa hF)
 try simp [go_sem, g, h12]
 refine wC hF [.sh, .sh] zdl (fun z13 hF => ?_)
 try simp [go_sem, g, h12]
 refine wG hF (fun h14 hF => ?_) fun h14 hF => ?_
 ·exact wV h14 (hj1 _) (zaa hF)
 try simp [go_sem, g, h14]
 refine wC hF [.sh, .sh] zdl (fun z15 hF => ?_)
 exact wV h14 (hj1 _) (zaa hF)
@[go_sem] def zB2 : List DE := [d2 0 [5] 5 5, d0 1 [1], d2 2 [7] 7 7, d0 4 [3], d0 5 [32], d0 6 [4], d0 7 [34], d3 3 [30], ⟨8, [28, 29, 31, 33, 35], [], none, true, true, true⟩, d0 9 [36], d0 10 [36], d2 11 [10, 37] 10 10, d0 12 [38]]
def zei (a0 : Group) (a1 : ByteArray) (a2 : EqualLog) (a3 : Int) (a4 : Int) : Option (Proof × Bool) :=
 (zd2 a0 a2 a3).bind fun z1 =>
 ((if (!z1.2) = true then (
 some true) else (
 some (!z1.1)) : Option Bool).bind fun x4 =>
 if x4 = true then (
 some ((Proof.mk [] [] []), false)) else (
 (zdG a2).bind fun z7 =>
 (zcJ a0 a1 z7 [a3] [a4]).bind fun z8 =>
 some (z8.1, z8.2)))
theorem zlX : ∀ {a0} {a1} {a2} {a3} {a4} {r}, zei a0 a1 a2 a3 a4 = some r → PCalls Tryz.prog 38 [(.sh, vE a0), (.sh, .str a1), (.sh, vY a2), (.sh, .int .i64 a3), (.sh, .int .i64 a4)] (Eo (.tup [vV r.1, .bool r.2]) [.junk, .junk, .junk, .junk, .junk]) := by
 intro a0 a1 a2 a3 a4 r hr
 apply pFz 39 [] [31] [] [.cell 10 37, .tmp 11] hr zD4 Tryz.func38
 intro Φ hΦ hF g
 unfold zei at hF
 refine wW ?_
 refine wC hF [.sh, .sh, .sh] zlf (fun z1 hF => ?_)
 refine wK [1, 3, 4, 5, 7, 10, 12, 13] ?_
 refine wJ hF (fun x4 => [(1, .v (.str a1)), (3, .v (.int .i64 a3)), (4, .v (.int .i64 a4)), (5, .bl [.int .i64 a0.P, .int .i64 a0.Q, .int .i64 a0.G]), (7, .bl [.int .i64 a2.G1, .int .i64 a2.Y1, .int .i64 a2.G2, .int .i64 a2.Y2]), (10, .bl [.sl true 1 [], .sl true 1 [], .sl true 1 []]), (26, .v (.bool x4))]) (fun x4 hF => ?_) fun _ hj2 hF => ?_
 ·refine wI hF (fun h6 hF => ?_) (fun h6 hF => ?_)
  ·exact wl hΦ hF
  refine wW ?_
  refine wX zB2 follows ?_
  refine wC hF [.sh] ziC (fun z7 hF => ?_)
  refine wC hF [.sh, .sh, .sh, .mv, .mv] zhU (fun z8 hF => ?_)
  refine wK [10, 11] ?_
  exact wm hΦ hF
 refine wG hF (fun h5 hF => ?_) fun h5 hF => ?_
 ·exact wV h5 (hj2 _) (zaa hF)
 exact wV h5 (hj2 _) (zaa hF)
@[go_sem] def zGx : List DE := [d2 0 [5] 5 5, d2 1 [5] 5 5, d0 2 [1], d2 3 [7] 7 7, d2 4 [13] 13 13, d0 6 [3], d0 7 [4], d0 12 [], d3 5 [30, 31, 32, 33], d3 8 [29, 34, 35, 36], d0 9 [37], d0 10 [28], d0 11 [28], d2 13 [15, 38] 15 15, d0 14 [39]]
@[go_sem] def zGh : List DE := [d2 0 [13] 13 13, d2 1 [15] 15 15, d2 2 [10, 44] 10 10, d2 3 [11, 45] 11 11, d0 4 []]
def zdF (a0 : Group) (a1 : Int) (a2 : Cipher) (a3 : Int) (a4 : Int) : Option (Cipher × Proof × Bool) :=
 (zeE a0 a1 a2 a3).bind fun z1 =>
 if (!z1.2) = true then (
 some ((Cipher.mk 0 0), (Proof.mk [] [] []), false)) else (
 (zbg a0 a1 a2 z1.1).bind fun z3 =>
 (zei a0 (⟨#[115, 97, 109, 101]⟩ : ByteArray) z3 a3 a4).bind fun z4 =>
 if (!z4.2) = true then (
 some ((Cipher.mk 0 0), (Proof.mk [] [] []), false)) else (
 some (z1.1, z4.1, true)))
theorem zmj : ∀ {a0} {a1} {a2} {a3} {a4} {r}, zdF a0 a1 a2 a3 a4 = some r → PCalls Tryz.prog 8 [(.sh, vE a0), (.sh, .int .i64 a1), (.sh, vQ a2), (.sh, .int .i64 a3), (.sh, .int .i64 a4)] (Eo (.tup [vQ r.1, vV r.2.1, .bool r.2.2]) [.junk, .junk, .junk, .junk, .junk]) := by
 intro a0 a1 a2 a3 a4 r hr
 apply pFz 46 [] [] [] [.cell 10 27, .cell 11 37, .tmp 12] hr cl8 Tryz.func8
 intro Φ hΦ hF g
 unfold zdF at hF
 refine wW ?_
 refine wC hF [.sh, .sh, .sh, .sh] zmv (fun z1 hF => ?_)
 refine wK [1, 3, 4, 5, 7, 10, 11, 13, 14] ?_
 refine wW ?_
 refine wI hF (fun h2 hF => ?_) (fun h2 hF => ?_)
 ·exact wl hΦ hF
 refine wW ?_
 refine wX zGx follows ?_
 refine wC hF [.sh, .sh, .sh, .sh] zfG (fun z3 hF => ?_)
 refine wC hF [.sh, .sh, .sh, .sh, .sh] zlX (fun z4 hF => ?_)
 refine wK [10, 11, 13, 14, 15] ?_
 refine wW ?_
 refine wI hF (fun h5 hF => ?_) (fun h5 hF => ?_)
 ·exact wl hΦ hF
 refine wW ?_
 refine wX zGh follows ?_
 exact wl hΦ hF
def zgy (a0 : Group) (a1 : Int) : Option Bool :=
 (((zdw a0).bind fun z4 =>
 if z4 = true then (
 (zdo a0 [a1]).bind fun z6 =>
 some z6) else (
 some false) : Option Bool).bind fun x3 =>
 some x3)
theorem zrm : ∀ {a0} {a1} {r}, zgy a0 a1 = some r → PCalls Tryz.prog 40 [(.sh, vE a0), (.sh, .int .i64 a1)] (Eo (.bool r) [.junk, .junk]) := by
 intro a0 a1 r hr
 apply pF 13 [] [] [] [.tmp 4] hr zEH Tryz.func40
 intro Φ hΦ hF g
 unfold zgy at hF
 refine wW ?_
 refine wJ hF (fun x3 => [(4, .v (.bool x3))]) (fun x3 hF => ?_) fun _ hj1 hF => ?_
 ·exact wm hΦ hF
 refine wC hF [.sh] zgM (fun z4 hF => ?_)
 refine wG hF (fun h5 hF => ?_) fun h5 hF => ?_
 ·try simp [go_sem, g, h5]
  refine wC hF [.sh, .sh] zhs (fun z6 hF => ?_)
  exact wV h5 (hj1 _) (zaa hF)
 exact wV h5 (hj1 _) (zaa hF)
@[go_sem] def zEs : List DE := [d2 0 [5] 5 5, d0 1 [1], d2 2 [7] 7 7, d0 3 [3], d2 5 [5] 5 5, d1 6 [5] 5, d2 7 [40] 5 40, d0 8 [41], d0 9 [1], d0 10 [43], d0 12 [3], d0 13 [46], d0 14 [4], d0 15 [48], d3 4 [34, 35, 36, 37], ⟨11, [42, 44], [], none, true, true, false⟩, ⟨16, [39, 45, 47, 49], [], none, true, true, true⟩, d2 17 [10, 38] 10 10, d2 18 [11, 50] 11 11, d0 19 []]
@[go_sem] def zyr : List DE := [d2 0 [5] 5 5, d0 1 [1], d2 2 [7] 7 7, d0 3 [3], d2 5 [5] 5 5, d1 6 [5] 5, d2 7 [40] 5 40, d0 8 [41], d0 9 [1], d0 10 [43], d0 12 [3], d0 13 [46], d0 14 [4], d0 15 [48], ⟨11, [42, 44], [], none, true, true, false⟩, d3 4 [34, 35, 36, 37], ⟨16, [39, 45, 47, 49], [], none, true, true, true⟩, d2 17 [10, 38] 10 10, d2 18 [11, 50] 11 11, d0 19 []]
def zdH (a0 : Group) (a1 : Int) (a2 : Cipher) (a3 : Int) (a4 : Int) : Option (Cipher × Proof × Bool) :=
 (((zgy a0 a1).bind fun z4 =>
 if (!z4) = true then (
 some true) else (
 (zcR a0 [a2]).bind fun z6 =>
 if (!z6) = true then (
 some true) else (
 (zd0 a0 [a3, a4]).bind fun z8 =>
 some (!z8))) : Option Bool).bind fun x3 =>
 if x3 = true then (
 some ((Cipher.mk 0 0), (Proof.mk [] [] []), false)) else (
 (ze2 a0 a1 a2 a3).bind fun z10 =>
 (zcm a0 (⟨#[115, 97, 109, 101]⟩ : ByteArray) [[a0.G], [a1]] [a3] [a4]).bind fun z11 =>
 some (z10, z11, true)))
theorem zmo : ∀ {a0} {a1} {a2} {a3} {a4} {r}, zdH a0 a1 a2 a3 a4 = some r → PCalls Tryz.prog 9 [(.sh, vE a0), (.sh, .int .i64 a1), (.sh, vQ a2), (.sh, .int .i64 a3), (.sh, .int .i64 a4)] (Eo (.tup [vQ r.1, vT r.2.1, .bool r.2.2]) [.junk, .junk, .junk, .junk, .junk]) := by
 intro a0 a1 a2 a3 a4 r hr
 apply pF 51 [] [] [] [.cell 10 27, .cell 11 37, .tmp 12] hr cl9 Tryz.func9
 intro Φ hΦ hF g
 unfold zdH at hF
 refine wW ?_
 refine wJ hF (fun x3 => [(1, .v (.int .i64 a1)), (3, .v (.int .i64 a3)), (4, .v (.int .i64 a4)), (5, .bl [.int .i64 a0.P, .int .i64 a0.Q, .int .i64 a0.G]), (7, .bl [.int .i64 a2.A, .int .i64 a2.B]), (10, .bl [.int .i64 0, .int .i64 0]), (11, .bl [.sl true 1 [], .sl true 1 [], .sl true 1 []]), (31, .v (.bool x3))]) (fun x3 hF => ?_) fun _ hj1 hF => ?_
 ·refine wI hF (fun h9 hF => ?_) (fun h9 hF => ?_)
  ·refine wK [10, 11, 12] ?_
   exact wm hΦ hF
  refine wW ?_
  repeat rw [sq]
  refine zkg 4 11 zEs zyr follows (by decide) (by kernel_rfl) (by kernel_rfl) rfl rfl ?_ ?_
  ·refine wC hF [.sh, .sh, .sh, .sh] zkA (fun z10 hF => ?_)
   refine wC hF [.sh, .sh, .sh, .sh, .sh] zfF (fun z11 hF => ?_)
   refine wK [10, 11, 12] ?_
   exact wm hΦ hF
  refine wC hF [.sh, .sh, .sh, .sh] zkA (fun z10 hF => ?_)
  refine wC hF [.sh, .sh, .sh, .sh, .sh] zfF (fun z11 hF => ?_)
  refine wK [10, 11, 12] ?_
  exact wm hΦ hF
 refine wC hF [.sh, .sh] zrm (fun z4 hF => ?_)
 refine wG hF (fun h5 hF => ?_) fun h5 hF => ?_
 ·exact wV h5 (hj1 _) (zaa hF)
 try simp [go_sem, g, h5]
 refine wC hF [.sh, .sh] zfo (fun z6 hF => ?_)
 try simp [go_sem, g, h5]
 refine wG hF (fun h7 hF => ?_) fun h7 hF => ?_
 ·exact wV h7 (hj1 _) (zaa hF)
 try simp [go_sem, g, h7]
 refine wC hF [.sh, .sh] zhp (fun z8 hF => ?_)
 exact wV h7 (hj1 _) (zaa hF)
@[go_sem] def zBH : List DE := [d0 0 [0], d0 1 [5], d0 2 [16, 17], d0 3 [18], d0 4 [1], d0 5 [5], d0 6 [20, 21], d0 7 [22], d0 8 [19, 23]]
def zeF (a0 : List Int) (a1 : List Int) : Option Bool :=
 if ((a0.length : Int) != (a1.length : Int)) = true then (
 some false) else (
 ((zap (σ := Unit) (fun i6 s5 =>
 (ix a0 i6).bind fun x12 =>
 (ix a1 i6).bind fun x13 =>
 if (x12 != x13) = true then (
 some (.out (.inr false))) else (
 some (.go ()))) (fun s5 => .inl ()) (a0.length) 0 () : Option (Unit ⊕ Bool)).bind (Sum.elim (fun x4 =>
 some true) some)))
theorem ziL : ∀ {a0} {a1} {r}, zeF a0 a1 = some r → PCalls Tryz.prog 43 [(.sh, vC a0), (.sh, vC a1)] (Eo (.bool r) [.junk, .junk]) := by
 intro a0 a1 r hr
 apply pF 26 [] [] [] [.tmp 4] hr zEP Tryz.func43
 intro Φ hΦ hF g
 unfold zeF at hF
 iterate 2 (try simp [go_sem, g]; try intros; refine zas ?_)
 refine wI hF (fun h1 hF => ?_) (fun h1 hF => ?_)
 ·exact wl hΦ hF
 iterate 2 (try simp [go_sem, g]; try intros; refine zas ?_)
 refine wS hF (fun x4 => []) (fun x4 hF => ?_) fun _ hj2 hr3 hF => ?_
 ·refine wK [4] ?_
  exact wm hΦ hF
 refine wB ?_
 obtain ⟨b15, hb16, hψ9⟩ := hF
 refine pR hb16 (fun i6 s5 => [(0, .v (vC a0)), (1, .v (vC a1)), (12, .v (.int .i64 (a0.length : Int))), (13, .v (.int .i64 i6))]) (fun s5 _ hN17 => ?_) (fun i6 s5 _ _ hi10 hi11 ho7 hg8 hF => ?_)
 ·exact wn hN17 (hj2 _) hψ9
 refine wK [0, 1, 12, 13, 14] ?_
 refine wu hi10 hi11 ?_
 refine wW ?_
 refine wB ?_
 refine wW ?_
 refine wX zBH follows ?_
 obtain ⟨x12, g, hF⟩ := Rx g hF
 obtain ⟨x13, g, hF⟩ := Rx g hF
 refine wK [0, 1, 12, 13, 24] ?_
 refine wI hF (fun h14 hF => ?_) (fun h14 hF => ?_)
 ·cases ho7 _ (zaa hF)
  cases hΦ _ (hr3 _ hψ9)
  refine wW ?_
  try simp [go_sem, g]
 refine wW ?_
 exact wi hi10 hi11 (hg8 _) (zaa hF)
def zfH (a0 : Proof) (a1 : Proof) : Option Bool :=
 (((zeF a0.Commits a1.Commits).bind fun z4 =>
 if z4 = true then (
 (zeF a0.Challenges a1.Challenges).bind fun z6 =>
 if z6 = true then (
 (zeF a0.Responses a1.Responses).bind fun z8 =>
 some z8) else (
 some false)) else (
 some false) : Option Bool).bind fun x3 =>
 some x3)
theorem zo7 : ∀ {a0} {a1} {r}, zfH a0 a1 = some r → PCalls Tryz.prog 10 [(.sh, vV a0), (.sh, vV a1)] (Eo (.bool r) [.junk, .junk]) := by
 intro a0 a1 r hr
 apply pF 24 [] [] [] [.tmp 4] hr zFG Tryz.func10
 intro Φ hΦ hF g
 unfold zfH at hF
 refine wW ?_
 refine wJ hF (fun x3 => [(4, .v (.bool x3))]) (fun x3 hF => ?_) fun _ hj1 hF => ?_
 ·exact wm hΦ hF
 refine wC hF [.sh, .sh] ziL (fun z4 hF => ?_)
 refine wG hF (fun h5 hF => ?_) fun h5 hF => ?_
 ·try simp [go_sem, g, h5]
  refine wC hF [.sh, .sh] ziL (fun z6 hF => ?_)
  try simp [go_sem, g, h5]
  refine wG hF (fun h7 hF => ?_) fun h7 hF => ?_
  ·try simp [go_sem, g, h7]
   refine wC hF [.sh, .sh] ziL (fun z8 hF => ?_)
   exact wV h7 (hj1 _) (zaa hF)
  exact wV h7 (hj1 _) (zaa hF)
 exact wV h5 (hj1 _) (zaa hF)
@[go_sem] def zB6 : List DE := [d2 0 [5] 5 5, d2 1 [5] 5 5, d0 2 [1], d2 3 [7] 7 7, d2 4 [8] 8 8, d2 6 [9] 9 9, d3 5 [34, 35, 36, 37], d3 7 [33, 38, 39], d0 8 [40], d0 9 [40], d0 10 [41], d0 11 [42]]
def zeh (a0 : Group) (a1 : Int) (a2 : Cipher) (a3 : Cipher) (a4 : Proof) : Option (Bool × Bool) :=
 (((zaL a0).bind fun z4 =>
 if (!z4) = true then (
 some true) else (
 (zbC a0 a1).bind fun z6 =>
 if (!z6) = true then (
 some true) else (
 (zaK a0 a2).bind fun z8 =>
 if (!z8) = true then (
 some true) else (
 (zaK a0 a3).bind fun z10 =>
 some (!z10)))) : Option Bool).bind fun x3 =>
 if x3 = true then (
 some (false, false)) else (
 (zbg a0 a1 a2 a3).bind fun z12 =>
 (zc9 a0 (⟨#[115, 97, 109, 101]⟩ : ByteArray) z12 a4).bind fun z13 =>
 some (z13.1, z13.2)))
theorem zlW : ∀ {a0} {a1} {a2} {a3} {a4} {r}, zeh a0 a1 a2 a3 a4 = some r → PCalls Tryz.prog 11 [(.sh, vE a0), (.sh, .int .i64 a1), (.sh, vQ a2), (.sh, vQ a3), (.sh, vV a4)] (Eo (.tup [.bool r.1, .bool r.2]) [.junk, .junk, .junk, .junk, .junk]) := by
 intro a0 a1 a2 a3 a4 r hr
 apply pF 43 [] [] [] [.tmp 10, .tmp 11] hr zFh Tryz.func11
 intro Φ hΦ hF g
 unfold zeh at hF
 refine wW ?_
 refine wJ hF (fun x3 => [(1, .v (.int .i64 a1)), (5, .bl [.int .i64 a0.P, .int .i64 a0.Q, .int .i64 a0.G]), (7, .bl [.int .i64 a2.A, .int .i64 a2.B]), (8, .bl [.int .i64 a3.A, .int .i64 a3.B]), (9, .bl [vC a4.Commits, vC a4.Challenges, vC a4.Responses]), (32, .v (.bool x3))]) (fun x3 hF => ?_) fun _ hj1 hF => ?_
 ·refine wI hF (fun h11 hF => ?_) (fun h11 hF => ?_)
  ·exact wl hΦ hF
  refine wW ?_
  refine wX zB6 follows ?_
  refine wC hF [.sh, .sh, .sh, .sh] zfG (fun z12 hF => ?_)
  refine wC hF [.sh, .sh, .sh, .sh] zh5 (fun z13 hF => ?_)
  refine wK [10, 11] ?_
  exact wm hΦ hF
 refine wC hF [.sh] zbe (fun z4 hF => ?_)
 refine wG hF (fun h5 hF => ?_) fun h5 hF => ?_
 ·exact wV h5 (hj1 _) (zaa hF)
 try simp [go_sem, g, h5]
 refine wC hF [.sh, .sh] zdI (fun z6 hF => ?_)
 try simp [go_sem, g, h5]
 refine wG hF (fun h7 hF => ?_) fun h7 hF => ?_
 ·exact wV h7 (hj1 _) (zaa hF)
 try simp [go_sem, g, h7]
 refine wC hF [.sh, .sh] zbn (fun z8 hF => ?_)
 try simp [go_sem, g, h7]
 refine wG hF (fun h9 hF => ?_) fun h9 hF => ?_
 ·exact wV h9 (hj1 _) (zaa hF)
 try simp [go_sem, g, h9]
 refine wC hF [.sh, .sh] zbn (fun z10 hF => ?_)
 exact wV h9 (hj1 _) (zaa hF)
def zc8 (a0 : Group) (a1 : Int) (a2 : Int) (a3 : Int) : Option (Cipher × Bool) :=
 (((zaL a0).bind fun z4 =>
 if (!z4) = true then (
 some true) else (
 (za2 a0 [a1, a2]).bind fun z6 =>
 if (!z6) = true then (
 some true) else (
 (zby a0 a3).bind fun z8 =>
 some (!z8))) : Option Bool).bind fun x3 =>
 if x3 = true then (
 some ((Cipher.mk 0 0), false)) else (
 (zcu a0 a1 a2 a3).bind fun z10 =>
 some (z10, true)))
theorem zj3 : ∀ {a0} {a1} {a2} {a3} {r}, zc8 a0 a1 a2 a3 = some r → PCalls Tryz.prog 13 [(.sh, vE a0), (.sh, .int .i64 a1), (.sh, .int .i64 a2), (.sh, .int .i64 a3)] (Eo (.tup [vQ r.1, .bool r.2]) [.junk, .junk, .junk, .junk]) := by
 intro a0 a1 a2 a3 r hr
 apply pF 33 [] [] [] [.cell 8 27, .tmp 9] hr zET Tryz.func13
 intro Φ hΦ hF g
 unfold zc8 at hF
 refine wW ?_
 refine wJ hF (fun x3 => [(1, .v (.int .i64 a1)), (2, .v (.int .i64 a2)), (3, .v (.int .i64 a3)), (4, .bl [.int .i64 a0.P, .int .i64 a0.Q, .int .i64 a0.G]), (8, .bl [.int .i64 0, .int .i64 0]), (26, .v (.bool x3))]) (fun x3 hF => ?_) fun _ hj1 hF => ?_
 ·refine wI hF (fun h9 hF => ?_) (fun h9 hF => ?_)
  ·exact wl hΦ hF
  refine wW ?_
  refine wC hF [.sh, .sh, .sh, .sh] zhm (fun z10 hF => ?_)
  refine wK [8, 9] ?_
  exact wm hΦ hF
 refine wC hF [.sh] zbe (fun z4 hF => ?_)
 refine wG hF (fun h5 hF => ?_) fun h5 hF => ?_
 ·exact wV h5 (hj1 _) (zaa hF)
 try simp [go_sem, g, h5]
 refine wC hF [.sh, .sh] zcN (fun z6 hF => ?_)
 try simp [go_sem, g, h5]
 refine wG hF (fun h7 hF => ?_) fun h7 hF => ?_
 ·exact wV h7 (hj1 _) (zaa hF)
 try simp [go_sem, g, h7]
 refine wC hF [.sh, .sh] zeY (fun z8 hF => ?_)
 exact wV h7 (hj1 _) (zaa hF)
def zcY (a0 : List Int) (a1 : List Int) : Option Bool :=
 if decide (1048576 < (i64.wrap ((a0.length : Int) + (a1.length : Int)))) = true then (
 some true) else (
 (zde a0).bind fun z2 =>
 (zeN z2.1 z2.2.1 z2.2.2.1 z2.2.2.2.1 z2.2.2.2.2.1 z2.2.2.2.2.2).bind fun z3 =>
 (zeO z2.1 z2.2.1 z2.2.2.1 z2.2.2.2.1 z2.2.2.2.2.1 z2.2.2.2.2.2).bind fun z4 =>
 (zdj a1).bind fun z5 =>
 (zdF z5.1 z5.2.1 z5.2.2.1 z5.2.2.2.1 z5.2.2.2.2).bind fun z6 =>
 (zdH z5.1 z5.2.1 z5.2.2.1 z5.2.2.2.1 z5.2.2.2.2).bind fun z7 =>
 ((if (z3.2 != z4.2) = true then (
 some true) else (
 if (z3.1 != z4.1) = true then (
 some true) else (
 if (z6.2.2 != z7.2.2) = true then (
 some true) else (
 if (!(z6.1.A == z7.1.A && z6.1.B == z7.1.B)) = true then (
 some true) else (
 (zfH z6.2.1 z7.2.1).bind fun z15 =>
 some (!z15))))) : Option Bool).bind fun x10 =>
 if x10 = true then (
 some false) else (
 if (!z6.2.2) = true then (
 some true) else (
 (zeh z5.1 z5.2.1 z5.2.2.1 z6.1 z6.2.1).bind fun z18 =>
 (zb3 z5.1 z6.1 z5.2.2.1).bind fun z19 =>
 (zc8 z5.1 z5.2.1 1 z5.2.2.2.1).bind fun z20 =>
 ((if z18.1 = true then (
 if z18.2 = true then (
 if z19.2 = true then (
 if z20.2 = true then (
 some (z19.1.A == z20.1.A && z19.1.B == z20.1.B)) else (
 some false)) else (
 some false)) else (
 some false)) else (
 some false) : Option Bool).bind fun x23 =>
 some x23)))))
theorem zjJ : ∀ {a0} {a1} {r}, zcY a0 a1 = some r → PCalls Tryz.prog 3 [(.sh, .sl false 1 (a0.map zfq)), (.sh, .sl false 1 (a1.map zfq))] (Eo (.bool r) [.junk, .junk]) := by
 intro a0 a1 r hr
 apply pF 159 [] [] [] [.tmp 4] hr cl3 Tryz.func3
 intro Φ hΦ hF g
 unfold zcY at hF
 iterate 2 (try simp [go_sem, g]; try intros; refine zas ?_)
 refine wI hF (fun h1 hF => ?_) (fun h1 hF => ?_)
 ·exact wl hΦ hF
 refine wW ?_
 refine wC hF [.sh] zj9 (fun z2 hF => ?_)
 refine wK [1, 5, 6, 7, 8, 9, 10] ?_
 refine wC hF [.sh, .sh, .sh, .sh, .sh, .sh] zmB (fun z3 hF => ?_)
 refine wK [1, 5, 6, 7, 8, 9, 10, 11, 12] ?_
 refine wC hF [.sh, .sh, .sh, .sh, .sh, .sh] zmr (fun z4 hF => ?_)
 refine wK [1, 11, 12, 13, 14] ?_
 refine wC hF [.sh] zj8 (fun z5 hF => ?_)
 refine wK [11, 12, 13, 14, 15, 16, 17, 18, 19] ?_
 refine wC hF [.sh, .sh, .sh, .sh, .sh] zmj (fun z6 hF => ?_)
 refine wK [11, 12, 13, 14, 15, 16, 17, 18, 19, 20, 21, 22] ?_
 refine wC hF [.sh, .sh, .sh, .sh, .sh] zmo (fun z7 hF => ?_)
 refine wK [11, 12, 13, 14, 15, 16, 17, 18, 20, 21, 22, 23, 24, 25] ?_
 refine wJ hF (fun x10 => [(15, .bl [.int .i64 z5.1.P, .int .i64 z5.1.Q, .int .i64 z5.1.G]), (16, .v (.int .i64 z5.2.1)), (17, .bl [.int .i64 z5.2.2.1.A, .int .i64 z5.2.2.1.B]), (18, .v (.int .i64 z5.2.2.2.1)), (20, .bl [.int .i64 z6.1.A, .int .i64 z6.1.B]), (21, .bl [vC z6.2.1.Commits, vC z6.2.1.Challenges, vC z6.2.1.Responses]), (22, .v (.bool z6.2.2)), (118, .v (.bool x10))]) (fun x10 hF => ?_) fun _ hj8 hF => ?_
 ·refine wI hF (fun h16 hF => ?_) (fun h16 hF => ?_)
  ·exact wl hΦ hF
  iterate 2 refine wW ?_
  refine wI hF (fun h17 hF => ?_) (fun h17 hF => ?_)
  ·exact wl hΦ hF
  refine wW ?_
  refine wC hF [.sh, .sh, .sh, .sh, .sh] zlW (fun z18 hF => ?_)
  refine wK [15, 16, 17, 18, 20, 26, 27] ?_
  refine wC hF [.sh, .sh, .sh] zia (fun z19 hF => ?_)
  refine wK [15, 16, 18, 26, 27, 28, 29] ?_
  refine wC hF [.sh, .sh, .sh, .sh] zj3 (fun z20 hF => ?_)
  refine wK [26, 27, 28, 29, 30, 31] ?_
  refine wJ hF (fun x23 => [(4, .v (.bool x23))]) (fun x23 hF => ?_) fun _ hj21 hF => ?_
  ·exact wm hΦ hF
  refine wG hF (fun h24 hF => ?_) fun h24 hF => ?_
  ·try simp [go_sem, g, h24]
   refine wG hF (fun h25 hF => ?_) fun h25 hF => ?_
   ·try simp [go_sem, g, h25]
    refine wG hF (fun h26 hF => ?_) fun h26 hF => ?_
    ·try simp [go_sem, g, h26]
     refine wG hF (fun h27 hF => ?_) fun h27 hF => ?_
     ·exact wV h27 (hj21 _) (zaa hF)
     exact wV h27 (hj21 _) (zaa hF)
    exact wV h26 (hj21 _) (zaa hF)
   exact wV h25 (hj21 _) (zaa hF)
  exact wV h24 (hj21 _) (zaa hF)
 refine wG hF (fun h11 hF => ?_) fun h11 hF => ?_
 ·exact wV h11 (hj8 _) (zaa hF)
 try simp [go_sem, g, h11]
 refine wG hF (fun h12 hF => ?_) fun h12 hF => ?_
 ·exact wV h12 (hj8 _) (zaa hF)
 try simp [go_sem, g, h12]
 refine wG hF (fun h13 hF => ?_) fun h13 hF => ?_
 ·exact wV h13 (hj8 _) (zaa hF)
 try simp [go_sem, g, h13]
 refine wG hF (fun h14 hF => ?_) fun h14 hF => ?_
 ·exact wV h14 (hj8 _) (zaa hF)
 try simp [go_sem, g, h14]
 refine wC hF [.sh, .sh] zo7 (fun z15 hF => ?_)
 exact wV h14 (hj8 _) (zaa hF)
end
end Go.Pm
