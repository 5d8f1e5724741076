/-
  Plain functions and their walks. Written by wip/tools/lift.py.
-/
import Derived.Test.YtpkjdjnakplnjaaGreatM29
namespace Go.Pm
open Go.Am IntKind
open Go.Proofs
set_option maxRecDepth 100000
attribute [local irreducible] pw pwx pw1 pwg qv qz qf
attribute [-simp] List.map_set
set_option linter.unusedSimpArgs false
set_option linter.unusedVariables false
noncomputable section
theorem zyR : zzd Tryz.prog 168 := by
 intro id n c i j cells H hb hij hjn hnc hcl hn hi
 have e1 : zay Tryz.prog 25 = some 3 := by kernel_rfl
 have e2 : tsz Tryz.prog 3 = some (false, 1, 8, [.int .i64 0]) := by kernel_rfl
 refine ziw zwc Tryz.func168 rfl rfl (by simp [Tryz.f168]) fun hw => ?_
 have hne : ((i : Int) == (j : Int)) = false := by simp; omega
 have w0 : ¬ (i = j) := by omega
 have w1 : ¬ (n - i = 0) := by omega
 have w2 : i ≤ j := by omega
 have w3 : i ≤ c := by omega
 have w4 : j ≤ n := hjn
 have a1 : (0 : Int) ≤ (i : Int) := by omega
 have a2 : (0 : Int) ≤ (j : Int) := by omega
 have a3 : (0 : Int) ≤ (n : Int) := by omega
 simp [Tryz.f168, awp, zfP, aop, ahp, zaR, zaZ, za0, mat, za1, zax, zkr, FR.put, FR.init, rdv, rda, zbf, zcp, zan, e1, e2, Am.lenV, zdL, zca, bnd, zjj, hne, w0, w1, w2, w3, w4, hnc, a1, a2, a3, Int.toNat_natCast]
 refine ⟨follows, 0, zpo, by kernel_rfl, ?_⟩
 have w5 : i ≤ i + (n - j) := by omega
 have w6 : i + (n - j) ≤ n := by omega
 have w7 : i + (n - j) ≤ c := by omega
 by_cases hz : n - j = 0
 ·have w8 : ¬ n = i := by omega
  have hz2 : n = j := by omega
  subst hz2
  have w9 : ¬ n - i = 0 := by omega
  simp [zpo, dops, dop, gop, zc3, okL, okS, okR, DE.ex, awp, zkr, zfP, aop, ahp, zaR, zaZ, za0, mat, za1, zax, FR.put, FR.init, rdv, rda, zbf, zcp, zan, e1, e2, Am.lenV, zdL, zca, bnd, zjj, zdp, zdW, hne, w0, w1, w2, w3, w4, w5, w6, w7, w8, w9, hnc, a1, a2, a3, Int.toNat_natCast, zc9, hb]
  have hne0 : List.replicate (n - i) (Value.int i64 0) ≠ [] := fun e => by
   have := congrArg List.length e
   simp at this; omega
  obtain ⟨cs, hp⟩ := zf4 (cs := cells) hne0 (n := i) (by simp; omega)
  obtain ⟨q1, q2, q3, q4⟩ := zfi hne0 hp
  refine ⟨cs, hp, ?_⟩
  simp [zn6, zhh, zh3, zjT, FR.put]
  refine ⟨cs, rfl, q1, fun q hq => ?_⟩
  rw [if_pos hq]
  exact q3 q (by omega)
 have w8 : ¬ (i + (n - j) = i) := by omega
 have w9 : ¬ (n - (i + (n - j)) = 0) := by omega
 have hl1 : ((cells.drop j).take (n - j)).length = n - j := by simp; omega
 have hne1 : (cells.drop j).take (n - j) ≠ [] := fun e => by
  have := congrArg List.length e
  rw [hl1] at this; simp at this; omega
 obtain ⟨cs1, hp1⟩ := zf4 (cs := cells) hne1 (n := i) (by rw [hl1]; omega)
 obtain ⟨q1, q2, q3, q4⟩ := zfi hne1 hp1
 have hT : zgD (n - j) (cells.drop j) = some ((cells.drop j).take (n - j)) := zgO (by simp; omega)
 have hsol : ((cells.drop j).take (n - j)).all zc9 = true := by
  rw [List.all_eq_true]
  intro x hx
  obtain ⟨t, ht⟩ := List.getElem?_of_mem hx
  have htl : t < n - j := by
   have := (List.getElem?_eq_some_iff.1 ht).1
   rw [hl1] at this; exact this
  rw [List.getElem?_take_of_lt htl, List.getElem?_drop] at ht
  obtain ⟨m, hm⟩ := hi (j + t) (by omega)
  rw [hm] at ht
  cases ht; rfl
 have hsol2 : ∀ x, x ∈ List.take (n - j) (List.drop j cells) → zc9 x = true := List.all_eq_true.1 hsol
 have hfit1 : i ≤ cells.length := by omega
 have hfit2 : (i + (n - j)) * 8 ≤ 140737488355328 := by omega
 have hfit3 : i + (n - j) ≤ 4611686018427387904 := by omega
 have hld : H.load id j = some (cells.drop j) := by simp [AH.load, hb]
 have hne2 : List.replicate (n - (i + (n - j))) (Value.int i64 0) ≠ [] := fun e => by
  have := congrArg List.length e
  simp at this; omega
 obtain ⟨cs2, hp2⟩ := zf4 (cs := cs1) hne2 (n := i + (n - j)) (by simp; omega)
 obtain ⟨r1, r2, r3, r4⟩ := zfi hne2 hp2
 have hset : ∀ k k', (H.set id k).set id k' = H.set id k' := fun k k' => by
  simp only [AH.set, AH.mk.injEq, true_and]
  funext x
  split <;> rfl
 have hsb : ∀ k, (H.set id k).b id = k := fun k => by simp [AH.set]
 have a4 : (0 : Int) ≤ (i : Int) + ((n - j : Nat) : Int) := by omega
 have a5 : ((i : Int) + ((n - j : Nat) : Int)).toNat = i + (n - j) := by omega
 have hs1 : ∀ k (m : Int), zc9 (Value.int k m) = true := fun _ _ => rfl
 have hns : ¬ ∃ x, x ∈ List.take (n - j) (List.drop j cells) ∧ zc9 x = false := fun ⟨x, h1, h2⟩ => by rw [hsol2 x h1] at h2; cases h2
 simp [zpo, dops, dop, gop, zc3, okL, okS, okR, DE.ex, awp, zkr, zfP, aop, ahp, zaR, zaZ, za0, mat, za1, zax, FR.put, FR.init, rdv, rda, zbf, zcp, zan, e1, e2, Am.lenV, zdL, zca, bnd, zjj, zdp, zdW, hne, w0, w1, w2, w3, w4, w5, w6, w7, w8, w9, hnc, a1, a2, a3, Int.toNat_natCast, hs1, hns, a4, a5, hb, hz, hT, hp1, hld, hsol2, hfit1, hfit2, hfit3, hset, hsb]
 refine ⟨cs2, hp2, ?_⟩
 simp [zn6, zhh, zh3, zjT, FR.put]
 refine ⟨cs2, rfl, r1.trans q1, fun q hq => ?_⟩
 rw [hl1] at q3 q4
 rw [r3 q (by omega)]
 by_cases hqi : q < i
 ·rw [if_pos hqi]
  exact q3 q (by omega)
 rw [if_neg hqi]
 have := q4 (q - i) (by omega)
 rw [show i + (q - i) = q by omega, List.getElem?_take_of_lt (by omega), List.getElem?_drop] at this
 rw [this]
 congr 1; omega
def zcv (a0 : List Int) (a1 : Int) (a2 : Int) : Option (List Int) :=
 gd (0 ≤ a1 ∧ a1 < a2 ∧ a2 ≤ a0.length ∧ a0.length * 8 ≤ 140737488355328) <|
 some (a0.take a1.toNat ++ a0.drop a2.toNat)
theorem zhD {a0 : List Int} {a1 a2 : Int} {r : List Int} (hr : zcv a0 a1 a2 = some r) : PCalls Tryz.prog 168 [(.mv, .sl true 1 (a0.map zah)), (.sh, .int .i64 a1), (.sh, .int .i64 a2)] (Eo (.sl true 1 (r.map zah)) [.junk, .junk, .junk]) := by
 have hF : Rn _ (fun x => x = r) := ⟨r, hr, rfl⟩
 unfold zcv at hF
 obtain ⟨⟨g0, g1, g2, g3⟩, hF⟩ := zig hF
 have h1 := zaa hF
 subst h1
 obtain ⟨i, rfl⟩ := Int.eq_ofNat_of_zero_le g0
 obtain ⟨j, rfl⟩ := Int.eq_ofNat_of_zero_le (Int.le_trans g0 (Int.le_of_lt g1))
 exact ztm zyR zwc zah (fun _ => rfl) (by omega) (by omega) (by omega)
@[go_sem] def zwT : List DE := [d0 0 [7], d0 1 [8], d0 2 [10], d0 3 [42, 43], d0 4 [7], d0 5 [8], d0 6 [10], d0 7 [46, 47], d0 8 [45, 48], d0 9 [49], d0 10 [9], d0 11 [11], d0 12 [51, 52], d0 13 [0], d0 14 [53, 54], d0 15 [50, 55], d0 16 [0], d0 17 [56, 57], d0 18 [41, 44], d0 19 [59, 58]]
def zdX (a0 : Int) (a1 : List Int) (a2 : List Int) : Option ((List Int)) :=
 ((if ((a1.length : Int) == 0) = true then (
 some true) else (
 some ((a2.length : Int) == 0)) : Option Bool).bind fun x3 =>
 if x3 = true then (
 some []) else (
 gd (0 ≤ (i64.wrap ((i64.wrap ((a1.length : Int) + (a2.length : Int))) - 1)) ∧ (i64.wrap ((i64.wrap ((a1.length : Int) + (a2.length : Int))) - 1)) ≤ (i64.wrap ((i64.wrap ((a1.length : Int) + (a2.length : Int))) - 1)) ∧ 8 * (i64.wrap ((i64.wrap ((a1.length : Int) + (a2.length : Int))) - 1)) ≤ 140737488355328 ∧ (i64.wrap ((i64.wrap ((a1.length : Int) + (a2.length : Int))) - 1)) ≤ 4611686018427387904) <|
 (some (List.replicate ((i64.wrap ((i64.wrap ((a1.length : Int) + (a2.length : Int))) - 1)).toNat) 0)).bind fun x6 =>
 ((zaq (σ := (List Int)) (fun i46 s45 =>
 (((ix a1 i46).bind fun x55 =>
 zaq (σ := (List Int)) (fun i66 s65 =>
 (ix a2 i66).bind fun x72 =>
 (ix s65 (i64.wrap (i46 + i66))).bind fun x73 =>
 gd (a0 ≠ 0) <|
 gd (a0 ≠ 0) <|
 some (.go (s65.set ((i64.wrap (i46 + i66)).toNat) ((i64.wrap (x73 + ((i64.wrap (x55 * x72)).tmod a0))).tmod a0)))) (fun s65 => s65) (a2.length) 0 s45 : Option ((List Int))).bind fun x54 =>
 some (.go x54))) (fun s45 => s45) (a1.length) 0 x6 : Option ((List Int))).bind fun x11 =>
 some x11)))
theorem zja : ∀ {a0} {a1} {a2} {r}, zdX a0 a1 a2 = some r → PCalls Tryz.prog 170 [(.sh, .int .i64 a0), (.sh, vC a1), (.sh, vC a2)] (Eo (vD r) [.junk, .junk, .junk]) := by
 intro a0 a1 a2 r hr
 apply pF 63 [] [] [] [.tmp 6] hr zCd Tryz.func170
 intro Φ hΦ hF g
 unfold zdX at hF
 refine wW ?_
 refine wJ hF (fun x3 => [(0, .v (.int .i64 a0)), (1, .v (vC a1)), (2, .v (vC a2)), (19, .v (.bool x3))]) (fun x3 hF => ?_) fun _ hj1 hF => ?_
 ·refine wI hF (fun h5 hF => ?_) (fun h5 hF => ?_)
  ·exact wl hΦ hF
  obtain ⟨g, hF⟩ := Rg g hF
  obtain ⟨x6, e7, hF⟩ := zfF hF
  have g8 : List.replicate ((i64.wrap ((i64.wrap ((a1.length : Int) + (a2.length : Int))) - 1)).toNat) ([.int .i64 0] : List PV) = x6.map zah := by injection e7 with e7; rw [← e7]; simp [go_sem]
  iterate 2 (try simp [go_sem, g, g8]; try intros; refine zau ?_)
  try simp [go_sem, g, g8]
  try intros
  refine wK [0, 2, 7, 27, 28, 29] ?_
  refine wJ hF (fun x11 => [(7, .v (vD x11))]) (fun x11 hF => ?_) fun _ hj9 hF => ?_
  ·exact wl hΦ hF
  refine wB ?_
  obtain ⟨b78, hb79, hψ49⟩ := hF
  refine pR hb79 (fun i46 s45 => [(0, .v (.int .i64 a0)), (2, .v (vC a2)), (7, .v (vD s45)), (27, .v (vC a1)), (28, .v (.int .i64 (a1.length : Int))), (29, .v (.int .i64 i46))]) (fun s45 _ hN80 => ?_) (fun i46 s45 _ _ hi50 hi51 ho47 hg48 hF => ?_)
  ·exact wn hN80 (hj9 _) hψ49
  refine wW ?_
  refine wu hi50 hi51 ?_
  refine wW ?_
  refine wJ hF (fun x54 => [(0, .v (.int .i64 a0)), (2, .v (vC a2)), (7, .v (vD x54)), (27, .v (vC a1)), (28, .v (.int .i64 (a1.length : Int))), (29, .v (.int .i64 i46))]) (fun x54 hF => ?_) fun _ hj52 hF => ?_
  ·exact wi hi50 hi51 (hg48 _) (zaa hF)
  refine wB ?_
  obtain ⟨x55, g, hF⟩ := Rx g hF
  iterate 2 (try simp [go_sem, g]; try intros; refine zau ?_)
  refine wB ?_
  obtain ⟨b74, hb75, hψ69⟩ := hF
  refine pR hb75 (fun i66 s65 => [(0, .v (.int .i64 a0)), (2, .v (vC a2)), (7, .v (vD s65)), (8, .v (.int .i64 i46)), (9, .v (.int .i64 x55)), (27, .v (vC a1)), (28, .v (.int .i64 (a1.length : Int))), (29, .v (.int .i64 i46)), (34, .v (vC a2)), (35, .v (.int .i64 (a2.length : Int))), (36, .v (.int .i64 i66))]) (fun s65 _ hN76 => ?_) (fun i66 s65 _ _ hi70 hi71 ho67 hg68 hF => ?_)
  ·exact wn hN76 (hj52 _) hψ69
  refine wK [0, 2, 7, 8, 9, 27, 28, 29, 34, 35, 36, 37] ?_
  refine wu hi70 hi71 ?_
  refine wW ?_
  refine wB ?_
  obtain ⟨x72, g, hF⟩ := Rx g hF
  refine wW ?_
  refine wX zwT follows ?_
  obtain ⟨x73, g, hF⟩ := Rx g hF
  obtain ⟨g, hF⟩ := Rz g hF
  obtain ⟨g, hF⟩ := Rz g hF
  refine wK [0, 2, 7, 8, 9, 27, 28, 29, 34, 35, 36] ?_
  exact wi hi70 hi71 (hg68 _) (zaa hF)
 try simp [go_sem, g]
 try intros
 refine wG hF (fun h4 hF => ?_) fun h4 hF => ?_
 ·exact wV h4 (hj1 _) (zaa hF)
 try simp [go_sem, g, h4]
 try intros
 exact wT (hj1 _) (zaa hF)
def zeB (a0 : Int) (a1 : List Int) : Option ((List Int)) :=
 ((zaq (σ := (List Int)) (fun i5 s4 =>
 (ix a1 i5).bind fun x11 =>
 (zcQ (i64.wrap (0 - x11)) a0).bind fun z12 =>
 (zdX a0 s4 [z12, 1]).bind fun z13 =>
 some (.go z13)) (fun s4 => s4) (a1.length) 0 [1] : Option ((List Int))).bind fun x3 =>
 some x3)
theorem zmB : ∀ {a0} {a1} {r}, zeB a0 a1 = some r → PCalls Tryz.prog 169 [(.sh, .int .i64 a0), (.sh, vC a1)] (Eo (vD r) [.junk, .junk]) := by
 intro a0 a1 r hr
 apply pF 25 [] [] [] [.tmp 4] hr zCv Tryz.func169
 intro Φ hΦ hF g
 unfold zeB at hF
 iterate 3 (try simp [go_sem, g]; try intros; refine zau ?_)
 refine wJ hF (fun x3 => [(5, .v (vD x3))]) (fun x3 hF => ?_) fun _ hj1 hF => ?_
 ·exact wl hΦ hF
 refine wB ?_
 obtain ⟨b14, hb15, hψ8⟩ := hF
 refine pR hb15 (fun i5 s4 => [(0, .v (.int .i64 a0)), (5, .v (vD s4)), (9, .v (vC a1)), (10, .v (.int .i64 (a1.length : Int))), (11, .v (.int .i64 i5))]) (fun s4 _ hN16 => ?_) (fun i5 s4 _ _ hi9 hi10 ho6 hg7 hF => ?_)
 ·exact wn hN16 (hj1 _) hψ8
 refine wW ?_
 refine wu hi9 hi10 ?_
 refine wW ?_
 refine wB ?_
 obtain ⟨x11, g, hF⟩ := Rx g hF
 refine wK [0, 5, 7, 9, 10, 11] ?_
 refine wC hF [.sh, .sh] zid (fun z12 hF => ?_)
 refine wC hF [.sh, .sh, .sh] zja (fun z13 hF => ?_)
 refine wW ?_
 exact wi hi9 hi10 (hg7 _) (zaa hF)
def zdz (a0 : Int) (a1 : Int) : Option Int :=
 ((zbs (σ := Int × Int × Int × Int) (fun s4 =>
 if (s4.2.1 != 0) = true then (
 gd (s4.2.1 ≠ 0) <|
 some (.go (s4.2.1, i64.wrap (s4.1 - (i64.wrap ((i64.wrap (s4.1.tdiv s4.2.1)) * s4.2.1))), s4.2.2.2, i64.wrap (s4.2.2.1 - (i64.wrap ((i64.wrap (s4.1.tdiv s4.2.1)) * s4.2.2.2)))))) else (
 some (.out (s4.1, s4.2.2.1)))) (a1, a0, 0, 1) : Option ((Int × Int))).bind fun x3 =>
 if (x3.1 != 1) = true then (
 some 0) else (
 (zcQ x3.2 a1).bind fun z13 =>
 some z13))
theorem znX : ∀ {a0} {a1} {r}, zdz a0 a1 = some r → PCalls Tryz.prog 171 [(.sh, .int .i64 a0), (.sh, .int .i64 a1)] (Eo (.int .i64 r) [.junk, .junk]) := by
 intro a0 a1 r hr
 apply pF 34 [] [] [] [.tmp 4] hr zBl Tryz.func171
 intro Φ hΦ hF g
 unfold zdz at hF
 iterate 2 refine wW ?_
 refine wJ hF (fun x3 => [(1, .v (.int .i64 a1)), (5, .v (.int .i64 x3.1)), (7, .v (.int .i64 x3.2))]) (fun x3 hF => ?_) fun _ hj1 hF => ?_
 ·refine wW ?_
  refine wI hF (fun h12 hF => ?_) (fun h12 hF => ?_)
  ·refine wK [4] ?_
   exact wm hΦ hF
  refine wW ?_
  refine wC hF [.sh, .sh] zid (fun z13 hF => ?_)
  refine wK [4] ?_
  exact wm hΦ hF
 refine wB ?_
 obtain ⟨b10, hb11, hψ8⟩ := hF
 refine pL hb11 (fun s4 => [(1, .v (.int .i64 a1)), (5, .v (.int .i64 s4.1)), (6, .v (.int .i64 s4.2.1)), (7, .v (.int .i64 s4.2.2.1)), (8, .v (.int .i64 s4.2.2.2))]) (fun s4 _ _ ho6 hg7 hF => ?_)
 refine wW ?_
 refine wI hF (fun h9 hF => ?_) (fun h9 hF => ?_)
 ·refine wW ?_
  refine wB ?_
  obtain ⟨g, hF⟩ := Rz g hF
  refine wK [1, 5, 6, 7, 8, 9] ?_
  refine wW ?_
  exact wT (hg7 _) (zaa hF)
 cases ho6 _ (zaa hF)
 exact wT (hj1 _) hψ8
def zgi (a0 : Int) (a1 : List Int) (a2 : Int) : Option ((List Int)) :=
 (zdJ a1).bind fun z1 =>
 (zcv z1 a2 (i64.wrap (a2 + 1))).bind fun z2 =>
 (zeB a0 z2).bind fun z3 =>
 (ix a1 a2).bind fun x4 =>
 (zde a0 z3 x4).bind fun z5 =>
 (zdz z5 a0).bind fun z6 =>
 (zdX a0 z3 [z6]).bind fun z7 =>
 some z7
theorem znE : ∀ {a0} {a1} {a2} {r}, zgi a0 a1 a2 = some r → PCalls Tryz.prog 110 [(.sh, .int .i64 a0), (.sh, vC a1), (.sh, .int .i64 a2)] (Eo (vD r) [.junk, .junk, .junk]) := by
 intro a0 a1 a2 r hr
 apply pF 31 [] [] [] [.tmp 6] hr zB6 Tryz.func110
 intro Φ hΦ hF g
 unfold zgi at hF
 refine wW ?_
 refine wC hF [.sh] zjf (fun z1 hF => ?_)
 refine wC hF [.mv, .sh, .sh] zhD (fun z2 hF => ?_)
 refine wW ?_
 refine wC hF [.sh, .sh] zmB (fun z3 hF => ?_)
 refine wK [0, 1, 2, 8] ?_
 obtain ⟨x4, g, hF⟩ := Rx g hF
 refine wC hF [.sh, .sh, .sh] zhk (fun z5 hF => ?_)
 refine wC hF [.sh, .sh] znX (fun z6 hF => ?_)
 refine wC hF [.sh, .sh, .sh] zja (fun z7 hF => ?_)
 refine wK [6] ?_
 exact wm hΦ hF
def zdY (a0 : Int) (a1 : List Int) (a2 : Int) : Option ((List Int)) :=
 ((zaq (σ := (List Int)) (fun i5 s4 =>
 (zgi a0 a1 i5).bind fun z11 =>
 (zde a0 z11 a2).bind fun z12 =>
 gd ((s4.length + 1) * 8 ≤ 140737488355328 ∧ s4.length + 1 ≤ 4611686018427387904) <|
 some (.go (s4 ++ [z12]))) (fun s4 => s4) (a1.length) 0 [] : Option ((List Int))).bind fun x3 =>
 some x3)
theorem zi0 : ∀ {a0} {a1} {a2} {r}, zdY a0 a1 a2 = some r → PCalls Tryz.prog 59 [(.sh, .int .i64 a0), (.sh, vC a1), (.sh, .int .i64 a2)] (Eo (vD r) [.junk, .junk, .junk]) := by
 intro a0 a1 a2 r hr
 apply pF 27 [] [] [] [.tmp 6] hr zFW Tryz.func59
 intro Φ hΦ hF g
 unfold zdY at hF
 iterate 3 (try simp [go_sem, g]; try intros; refine zau ?_)
 refine wJ hF (fun x3 => [(7, .v (vD x3))]) (fun x3 hF => ?_) fun _ hj1 hF => ?_
 ·exact wl hΦ hF
 refine wB ?_
 obtain ⟨b13, hb14, hψ8⟩ := hF
 refine pR hb14 (fun i5 s4 => [(0, .v (.int .i64 a0)), (1, .v (vC a1)), (2, .v (.int .i64 a2)), (7, .v (vD s4)), (11, .v (.int .i64 (a1.length : Int))), (12, .v (.int .i64 i5))]) (fun s4 _ hN15 => ?_) (fun i5 s4 _ _ hi9 hi10 ho6 hg7 hF => ?_)
 ·exact wn hN15 (hj1 _) hψ8
 refine wW ?_
 refine wu hi9 hi10 ?_
 refine wW ?_
 refine wB ?_
 refine wW ?_
 refine wC hF [.sh, .sh, .sh] znE (fun z11 hF => ?_)
 refine wC hF [.sh, .sh, .sh] zhk (fun z12 hF => ?_)
 obtain ⟨g, hF⟩ := Rg g hF
 refine wK [0, 1, 2, 7, 11, 12] ?_
 exact wi hi9 hi10 (hg7 _) (zaa hF)
def zcV (a0 : Group) (a1 : Int) : Option Int :=
 (zaP a0 a1 (-1)).bind fun z1 =>
 some z1
theorem ziu : ∀ {a0} {a1} {r}, zcV a0 a1 = some r → PCalls Tryz.prog 57 [(.sh, vE a0), (.sh, .int .i64 a1)] (Eo (.int .i64 r) [.junk, .junk]) := by
 intro a0 a1 r hr
 apply pF 8 [] [] [] [.tmp 4] hr zEr Tryz.func57
 intro Φ hΦ hF g
 unfold zcV at hF
 refine wW ?_
 refine wC hF [.sh, .sh, .sh] zbu (fun z1 hF => ?_)
 exact wl hΦ hF
@[go_sem] def zyx : List DE := [d2 0 [4] 4 4, d1 1 [6] 6, d2 2 [62] 6 62, d2 3 [4] 4 4, d2 4 [4] 4 4, d0 5 [13], d1 6 [4] 4, d2 7 [67] 4 67, d0 8 [12], d3 9 [68, 69], d3 10 [65, 66, 70], d3 11 [64, 71], d0 12 [63, 72], ⟨13, [61, 73], [], none, true, true, true⟩, d0 14 [74], d0 15 []]
@[go_sem] def zBh : List DE := [d0 0 [12], d0 1 [3], d0 2 [15], d0 3 [45, 46], d0 4 [47], d0 5 [48], d0 6 [49], d0 8 [13], d0 9 [3], d0 10 [15], d0 11 [53, 54], d0 12 [55], d0 13 [56], d0 14 [57], ⟨7, [44, 50], [], none, true, false, false⟩, ⟨15, [52, 58], [], none, true, false, false⟩, d0 16 [51], d0 17 [59]]
@[go_sem] def zxm : List DE := [d0 0 [12], d0 1 [3], d0 2 [15], d0 3 [45, 46], d0 4 [47], d0 5 [48], d0 6 [49], d0 8 [13], d0 9 [3], d0 10 [15], d0 11 [53, 54], d0 12 [55], ⟨7, [44, 50], [], none, true, false, false⟩, d0 13 [56], d0 14 [57], ⟨15, [52, 58], [], none, true, false, false⟩, d0 16 [51], d0 17 [59]]
def zbd (a0 : Group) (a1 : List Int) (a2 : Cipher) (a3 : List Partial) : Option (Int × Bool) :=
 (zdt a0 a1 a2 a3).bind fun z1 =>
 ((if (!z1.2) = true then (
 some true) else (
 some (decide ((z1.1.length : Int) < (a1.length : Int)))) : Option Bool).bind fun x4 =>
 if x4 = true then (
 some (0, false)) else (
 gd (0 ≤ (a1.length : Int)) <|
 gd (0 ≤ a1.length ∧ a1.length ≤ z1.1.length) <|
 ((zaq (σ := (List Int) × List Int) (fun i11 s10 =>
 (ix ((z1.1.take a1.length).drop 0) i11).bind fun x18 =>
 (ix a3 x18).bind fun x19 =>
 gd ((s10.1.length + 1) * 8 ≤ 140737488355328 ∧ s10.1.length + 1 ≤ 4611686018427387904) <|
 gd ((s10.2.length + 1) * 8 ≤ 140737488355328 ∧ s10.2.length + 1 ≤ 4611686018427387904) <|
 some (.go (s10.1 ++ [x19.Index], s10.2 ++ [x19.Value]))) (fun s10 => (s10.1, s10.2)) (((z1.1.take a1.length).drop 0).length) 0 ([], []) : Option ((List Int × List Int))).bind fun x9 =>
 (zdY a0.Q x9.1 0).bind fun z24 =>
 (zcL a0 x9.2 z24).bind fun z25 =>
 (zcV a0 z25).bind fun z26 =>
 (zba a0 [a2.B, z26]).bind fun z27 =>
 some (z27, true))))
theorem ze0 : ∀ {a0} {a1} {a2} {a3} {r}, zbd a0 a1 a2 a3 = some r → PCalls Tryz.prog 16 [(.sh, vE a0), (.sh, vC a1), (.sh, vQ a2), (.sh, vAB a3)] (Eo (.tup [.int .i64 r.1, .bool r.2]) [.junk, .junk, .junk, .junk]) := by
 intro a0 a1 a2 a3 r hr
 apply pF 75 [] [10] [] [.tmp 8, .tmp 9] hr zE2 Tryz.func16
 intro Φ hΦ hF g
 unfold zbd at hF
 refine wW ?_
 refine wC hF [.sh, .sh, .sh, .sh] zkC (fun z1 hF => ?_)
 refine wK [1, 3, 4, 6, 10, 11] ?_
 refine wJ hF (fun x4 => [(1, .v (vC a1)), (3, .v (vAB a3)), (4, .bl [.int .i64 a0.P, .int .i64 a0.Q, .int .i64 a0.G]), (6, .bl [.int .i64 a2.A, .int .i64 a2.B]), (10, .v (vC z1.1)), (32, .v (.bool x4))]) (fun x4 hF => ?_) fun _ hj2 hF => ?_
 ·refine wI hF (fun h6 hF => ?_) (fun h6 hF => ?_)
  ·exact wl hΦ hF
  obtain ⟨g, hF⟩ := Rg g hF
  obtain ⟨g, hF⟩ := Rg g hF
  iterate 2 (try simp [go_sem, g]; try intros; refine zau ?_)
  try simp [go_sem, g]
  try intros
  refine wK [3, 4, 6, 12, 13, 38, 39, 40] ?_
  refine wJ hF (fun x9 => [(4, .bl [.int .i64 a0.P, .int .i64 a0.Q, .int .i64 a0.G]), (6, .bl [.int .i64 a2.A, .int .i64 a2.B]), (12, .v (vD x9.1)), (13, .v (vD x9.2))]) (fun x9 hF => ?_) fun _ hj7 hF => ?_
  ·refine wX zyx follows ?_
   refine wC hF [.sh, .sh, .sh] zi0 (fun z24 hF => ?_)
   refine wC hF [.sh, .sh, .sh] zhs (fun z25 hF => ?_)
   refine wC hF [.sh, .sh] ziu (fun z26 hF => ?_)
   refine wC hF [.sh, .sh] zcU (fun z27 hF => ?_)
   refine wK [8, 9] ?_
   exact wm hΦ hF
  refine wB ?_
  obtain ⟨b20, hb21, hψ14⟩ := hF
  refine pR hb21 (fun i11 s10 => [(3, .v (vAB a3)), (4, .bl [.int .i64 a0.P, .int .i64 a0.Q, .int .i64 a0.G]), (6, .bl [.int .i64 a2.A, .int .i64 a2.B]), (12, .v (vD s10.1)), (13, .v (vD s10.2)), (38, .v (vC ((z1.1.take a1.length).drop 0))), (39, .v (.int .i64 (((z1.1.take a1.length).drop 0).length : Int))), (40, .v (.int .i64 i11))]) (fun s10 _ hN22 => ?_) (fun i11 s10 _ _ hi15 hi16 ho12 hg13 hF => ?_)
  ·exact wn hN22 (hj7 _) hψ14
  have hi17 := hi16
  try simp at hi17
  refine wW ?_
  refine wt ?_ (hb := by simp [go_sem, g, hi15, hi16, hi17] <;> omega)
  refine wW ?_
  refine wB ?_
  obtain ⟨x18, g, hF⟩ := Rxq g hF
  refine wW ?_
  repeat rw [sq]
  refine zqb 13 7 zBh zxm follows (by decide) (by kernel_rfl) (by kernel_rfl) rfl rfl ?_ ?_
  ·obtain ⟨x19, g, hF⟩ := Rx g hF
   obtain ⟨g, hF⟩ := Rg g hF
   obtain ⟨g, hF⟩ := Rg g hF
   refine wK [3, 4, 6, 12, 13, 38, 39, 40] ?_
   exact wT (hg13 (s10.1 ++ [x19.Index], s10.2 ++ [x19.Value])) (zaa hF) (a := by simp [go_sem, g, zpk hi15 hi16 (by first | assumption | (simp; assumption) | (simp; omega))])
  obtain ⟨x19, g, hF⟩ := Rx g hF
  obtain ⟨g, hF⟩ := Rg g hF
  obtain ⟨g, hF⟩ := Rg g hF
  refine wK [3, 4, 6, 12, 13, 38, 39, 40] ?_
  exact wT (hg13 (s10.1 ++ [x19.Index], s10.2 ++ [x19.Value])) (zaa hF) (a := by simp [go_sem, g, zpk hi15 hi16 (by first | assumption | (simp; assumption) | (simp; omega))])
 refine wG hF (fun h5 hF => ?_) fun h5 hF => ?_
 ·exact wV h5 (hj2 _) (zaa hF)
 try simp [go_sem, g, h5]
 try intros
 exact wT (hj2 _) (zaa hF)
@[go_sem] def zH4 : List DE := [d2 0 [4] 4 4, d0 1 [1], d2 2 [12] 12 12, d0 3 [3], d0 4 [11], d0 5 [49, 50], d0 6 [51], d3 7 [46, 47, 48, 52], d0 8 [53], d0 9 [45], d0 10 [45], d0 11 [54], d0 12 [55]]
def zd2 (a0 : Group) (a1 : List Int) (a2 : List Cipher) (a3 : (List (List Partial))) : Option (List Int × Bool) :=
 (((zbX a0).bind fun z4 =>
 if (!z4) = true then (
 some true) else (
 (zbU a0 a1).bind fun z6 =>
 if (!z6) = true then (
 some true) else (
 (zcy a0 a2).bind fun z8 =>
 if (!z8) = true then (
 some true) else (
 some ((a3.length : Int) != (a2.length : Int))))) : Option Bool).bind fun x3 =>
 if x3 = true then (
 some ([], false)) else (
 ((zaq (σ := (List Int)) (fun i15 s14 =>
 (ix a2 i15).bind fun x21 =>
 (ix a3 i15).bind fun x22 =>
 (zbd a0 a1 x21 x22).bind fun z23 =>
 if (!z23.2) = true then (
 some (.out (.inr ([], false)))) else (
 gd ((s14.length + 1) * 8 ≤ 140737488355328 ∧ s14.length + 1 ≤ 4611686018427387904) <|
 some (.go (s14 ++ [z23.1])))) (fun s14 => .inl s14) (a2.length) 0 [] : Option ((List Int) ⊕ (List Int × Bool))).bind (Sum.elim (fun x13 =>
 some (x13, true)) some))))
theorem zlN : ∀ {a0} {a1} {a2} {a3} {r}, zd2 a0 a1 a2 a3 = some r → PCalls Tryz.prog 9 [(.sh, vE a0), (.sh, vC a1), (.sh, vZ a2), (.sh, vAA a3)] (Eo (.tup [vD r.1, .bool r.2]) [.junk, .junk, .junk, .junk]) := by
 intro a0 a1 a2 a3 r hr
 apply pF 64 [] [] [] [.tmp 8, .tmp 9] hr cl9 Tryz.func9
 intro Φ hΦ hF g
 unfold zd2 at hF
 refine wW ?_
 refine wJ hF (fun x3 => [(1, .v (vC a1)), (2, .v (vZ a2)), (3, .v (vAA a3)), (4, .bl [.int .i64 a0.P, .int .i64 a0.Q, .int .i64 a0.G]), (36, .v (.bool x3))]) (fun x3 hF => ?_) fun _ hj1 hF => ?_
 ·refine wI hF (fun h10 hF => ?_) (fun h10 hF => ?_)
  ·exact wl hΦ hF
  iterate 3 (try simp [go_sem, g]; try intros; refine zau ?_)
  refine wS hF (fun x13 => [(10, .v (vD x13))]) (fun x13 hF => ?_) fun _ hj11 hr12 hF => ?_
  ·refine wK [8, 9] ?_
   exact wm hΦ hF
  refine wB ?_
  obtain ⟨b25, hb26, hψ18⟩ := hF
  refine pR hb26 (fun i15 s14 => [(1, .v (vC a1)), (3, .v (vAA a3)), (4, .bl [.int .i64 a0.P, .int .i64 a0.Q, .int .i64 a0.G]), (10, .v (vD s14)), (38, .v (vZ a2)), (39, .v (.int .i64 (a2.length : Int))), (40, .v (.int .i64 i15))]) (fun s14 _ hN27 => ?_) (fun i15 s14 _ _ hi19 hi20 ho16 hg17 hF => ?_)
  ·exact wn hN27 (hj11 _) hψ18
  refine wW ?_
  refine wu hi19 hi20 ?_
  refine wW ?_
  refine wB ?_
  obtain ⟨x21, g, hF⟩ := Rx g hF
  refine wK [1, 3, 4, 10, 11, 12, 38, 39, 40] ?_
  refine wX zH4 follows ?_
  obtain ⟨x22, g, hF⟩ := Rx g hF
  refine wC hF [.sh, .sh, .sh, .sh] ze0 (fun z23 hF => ?_)
  refine wK [1, 3, 4, 10, 13, 14, 38, 39, 40] ?_
  refine wW ?_
  refine wI hF (fun h24 hF => ?_) (fun h24 hF => ?_)
  ·cases ho16 _ (zaa hF)
   cases hΦ _ (hr12 _ hψ18)
   refine wW ?_
   try simp [go_sem, g]
  obtain ⟨g, hF⟩ := Rg g hF
  iterate 2 refine wW ?_
  exact wi hi19 hi20 (hg17 _) (zaa hF)
 refine wC hF [.sh] zew (fun z4 hF => ?_)
 refine wG hF (fun h5 hF => ?_) fun h5 hF => ?_
 ·exact wV h5 (hj1 _) (zaa hF)
 try simp [go_sem, g, h5]
 refine wC hF [.sh, .sh] zgl (fun z6 hF => ?_)
 try simp [go_sem, g, h5]
 refine wG hF (fun h7 hF => ?_) fun h7 hF => ?_
 ·exact wV h7 (hj1 _) (zaa hF)
 try simp [go_sem, g, h7]
 refine wC hF [.sh, .sh] ziT (fun z8 hF => ?_)
 try simp [go_sem, g, h7]
 refine wG hF (fun h9 hF => ?_) fun h9 hF => ?_
 ·exact wV h9 (hj1 _) (zaa hF)
 try simp [go_sem, g, h9]
 try intros
 exact wT (hj1 _) (zaa hF)
def zdK (a0 : Group) (a1 : List Int) : Option Bool :=
 ((zaq (σ := Unit) (fun i5 s4 =>
 (ix a1 i5).bind fun x11 =>
 (((zbc x11 1 (i64.wrap (a0.P - 1))).bind fun z15 =>
 if (!z15) = true then (
 some true) else (
 (zbA x11 a0.Q a0.P).bind fun z17 =>
 some (z17 != 1)) : Option Bool).bind fun x14 =>
 if x14 = true then (
 some (.out (.inr false))) else (
 some (.go ())))) (fun s4 => .inl ()) (a1.length) 0 () : Option (Unit ⊕ Bool)).bind (Sum.elim (fun x3 =>
 some true) some))
theorem zif : ∀ {a0} {a1} {r}, zdK a0 a1 = some r → PCalls Tryz.prog 101 [(.sh, vE a0), (.sh, vC a1)] (Eo (.bool r) [.junk, .junk]) := by
 intro a0 a1 r hr
 apply pF 29 [] [] [] [.tmp 4] hr zAu Tryz.func101
 intro Φ hΦ hF g
 unfold zdK at hF
 iterate 2 (try simp [go_sem, g]; try intros; refine zau ?_)
 refine wS hF (fun x3 => []) (fun x3 hF => ?_) fun _ hj1 hr2 hF => ?_
 ·exact wl hΦ hF
 refine wB ?_
 obtain ⟨b19, hb20, hψ8⟩ := hF
 refine pR hb20 (fun i5 s4 => [(2, .bl [.int .i64 a0.P, .int .i64 a0.Q, .int .i64 a0.G]), (7, .v (vC a1)), (8, .v (.int .i64 (a1.length : Int))), (9, .v (.int .i64 i5))]) (fun s4 _ hN21 => ?_) (fun i5 s4 _ _ hi9 hi10 ho6 hg7 hF => ?_)
 ·exact wn hN21 (hj1 _) hψ8
 refine wW ?_
 refine wu hi9 hi10 ?_
 refine wW ?_
 refine wB ?_
 obtain ⟨x11, g, hF⟩ := Rx g hF
 refine wW ?_
 refine wJ hF (fun x14 => [(2, .bl [.int .i64 a0.P, .int .i64 a0.Q, .int .i64 a0.G]), (7, .v (vC a1)), (8, .v (.int .i64 (a1.length : Int))), (9, .v (.int .i64 i5)), (27, .v (.bool x14))]) (fun x14 hF => ?_) fun _ hj12 hF => ?_
 ·refine wI hF (fun h18 hF => ?_) (fun h18 hF => ?_)
  ·refine wK [4] ?_
   cases ho6 _ (zaa hF)
   cases hΦ _ (hr2 _ hψ8)
   try simp [go_sem, g]
  refine wW ?_
  exact wi hi9 hi10 (hg7 _) (zaa hF)
 refine wC hF [.sh, .sh, .sh] zbN (fun z15 hF => ?_)
 refine wG hF (fun h16 hF => ?_) fun h16 hF => ?_
 ·exact wV h16 (hj12 _) (zaa hF)
 try simp [go_sem, g, h16]
 refine wC hF [.sh, .sh, .sh] zeK (fun z17 hF => ?_)
 exact wV h16 (hj12 _) (zaa hF)
def zdZ (a0 : Group) (a1 : List Int) : Option Bool :=
 (((zbc (a1.length : Int) 1 7).bind fun z4 =>
 if z4 = true then (
 (zdK a0 a1).bind fun z6 =>
 some z6) else (
 some false) : Option Bool).bind fun x3 =>
 some x3)
theorem ziX : ∀ {a0} {a1} {r}, zdZ a0 a1 = some r → PCalls Tryz.prog 45 [(.sh, vE a0), (.sh, vC a1)] (Eo (.bool r) [.junk, .junk]) := by
 intro a0 a1 r hr
 apply pF 13 [] [] [] [.tmp 4] hr zFy Tryz.func45
 intro Φ hΦ hF g
 unfold zdZ at hF
 refine wW ?_
 refine wJ hF (fun x3 => [(4, .v (.bool x3))]) (fun x3 hF => ?_) fun _ hj1 hF => ?_
 ·exact wm hΦ hF
 try simp [go_sem, g]
 try intros
 refine wC hF [.sh, .sh, .sh] zbN (fun z4 hF => ?_)
 refine wG hF (fun h5 hF => ?_) fun h5 hF => ?_
 ·try simp [go_sem, g, h5]
  refine wC hF [.sh, .sh] zif (fun z6 hF => ?_)
  exact wV h5 (hj1 _) (zaa hF)
 exact wV h5 (hj1 _) (zaa hF)
def zdT (a0 : Group) (a1 : List Cipher) : Option Bool :=
 if decide (24 < (a1.length : Int)) = true then (
 some false) else (
 ((zaq (σ := Unit) (fun i6 s5 =>
 (ix a1 i6).bind fun x12 =>
 (zdK a0 [x12.A, x12.B]).bind fun z13 =>
 if (!z13) = true then (
 some (.out (.inr false))) else (
 some (.go ()))) (fun s5 => .inl ()) (a1.length) 0 () : Option (Unit ⊕ Bool)).bind (Sum.elim (fun x4 =>
 some true) some)))
theorem zkJ : ∀ {a0} {a1} {r}, zdT a0 a1 = some r → PCalls Tryz.prog 46 [(.sh, vE a0), (.sh, vZ a1)] (Eo (.bool r) [.junk, .junk]) := by
 intro a0 a1 r hr
 apply pF 25 [] [] [] [.tmp 4] hr zGz Tryz.func46
 intro Φ hΦ hF g
 unfold zdT at hF
 iterate 2 (try simp [go_sem, g]; try intros; refine zau ?_)
 refine wI hF (fun h1 hF => ?_) (fun h1 hF => ?_)
 ·exact wl hΦ hF
 iterate 2 (try simp [go_sem, g]; try intros; refine zau ?_)
 refine wS hF (fun x4 => []) (fun x4 hF => ?_) fun _ hj2 hr3 hF => ?_
 ·exact wl hΦ hF
 refine wB ?_
 obtain ⟨b15, hb16, hψ9⟩ := hF
 refine pR hb16 (fun i6 s5 => [(2, .bl [.int .i64 a0.P, .int .i64 a0.Q, .int .i64 a0.G]), (10, .v (vZ a1)), (11, .v (.int .i64 (a1.length : Int))), (12, .v (.int .i64 i6))]) (fun s5 _ hN17 => ?_) (fun i6 s5 _ _ hi10 hi11 ho7 hg8 hF => ?_)
 ·exact wn hN17 (hj2 _) hψ9
 refine wW ?_
 refine wu hi10 hi11 ?_
 refine wW ?_
 refine wB ?_
 obtain ⟨x12, g, hF⟩ := Rx g hF
 refine wK [2, 6, 10, 11, 12] ?_
 refine wC hF [.sh, .sh] zif (fun z13 hF => ?_)
 refine wW ?_
 refine wI hF (fun h14 hF => ?_) (fun h14 hF => ?_)
 ·cases ho7 _ (zaa hF)
  cases hΦ _ (hr3 _ hψ9)
  refine wW ?_
  try simp [go_sem, g]
 refine wW ?_
 exact wi hi10 hi11 (hg8 _) (zaa hF)
def zeM (a0 : Group) (a1 : List Int) (a2 : Cipher) (a3 : List Partial) : Option Bool :=
 (((zct a0).bind fun z4 =>
 if z4 = true then (
 (zdZ a0 a1).bind fun z6 =>
 if z6 = true then (
 (zdT a0 [a2]).bind fun z8 =>
 if z8 = true then (
 some (decide ((a3.length : Int) ≤ 14))) else (
 some false)) else (
 some false)) else (
 some false) : Option Bool).bind fun x3 =>
 some x3)
theorem zoL : ∀ {a0} {a1} {a2} {a3} {r}, zeM a0 a1 a2 a3 = some r → PCalls Tryz.prog 102 [(.sh, vE a0), (.sh, vC a1), (.sh, vQ a2), (.sh, vAB a3)] (Eo (.bool r) [.junk, .junk, .junk, .junk]) := by
 intro a0 a1 a2 a3 r hr
 apply pF 27 [] [] [] [.tmp 8] hr zAh Tryz.func102
 intro Φ hΦ hF g
 unfold zeM at hF
 refine wW ?_
 refine wJ hF (fun x3 => [(8, .v (.bool x3))]) (fun x3 hF => ?_) fun _ hj1 hF => ?_
 ·exact wm hΦ hF
 refine wC hF [.sh] zeN (fun z4 hF => ?_)
 refine wG hF (fun h5 hF => ?_) fun h5 hF => ?_
 ·try simp [go_sem, g, h5]
  refine wC hF [.sh, .sh] ziX (fun z6 hF => ?_)
  try simp [go_sem, g, h5]
  refine wG hF (fun h7 hF => ?_) fun h7 hF => ?_
  ·try simp [go_sem, g, h7]
   refine wC hF [.sh, .sh] zkJ (fun z8 hF => ?_)
   try simp [go_sem, g, h7]
   refine wG hF (fun h9 hF => ?_) fun h9 hF => ?_
   ·try simp [go_sem, g, h9]
    try intros
    exact wT (hj1 _) (zaa hF)
   exact wV h9 (hj1 _) (zaa hF)
  exact wV h7 (hj1 _) (zaa hF)
 exact wV h5 (hj1 _) (zaa hF)
def ze8 (a0 : List Int) (a1 : Int) : Option Bool :=
 ((zaq (σ := Unit) (fun i5 s4 =>
 (ix a0 i5).bind fun x11 =>
 if (x11 == a1) = true then (
 some (.out (.inr true))) else (
 some (.go ()))) (fun s4 => .inl ()) (a0.length) 0 () : Option (Unit ⊕ Bool)).bind (Sum.elim (fun x3 =>
 some false) some))
theorem zp3 : ∀ {a0} {a1} {r}, ze8 a0 a1 = some r → PCalls Tryz.prog 177 [(.sh, vC a0), (.sh, .int .i64 a1)] (Eo (.bool r) [.junk, .junk]) := by
 intro a0 a1 r hr
 apply pF 17 [] [] [] [.tmp 4] hr zBC Tryz.func177
 intro Φ hΦ hF g
 unfold ze8 at hF
 iterate 2 (try simp [go_sem, g]; try intros; refine zau ?_)
 refine wS hF (fun x3 => []) (fun x3 hF => ?_) fun _ hj1 hr2 hF => ?_
 ·exact wl hΦ hF
 refine wB ?_
 obtain ⟨b13, hb14, hψ8⟩ := hF
 refine pR hb14 (fun i5 s4 => [(1, .v (.int .i64 a1)), (7, .v (vC a0)), (8, .v (.int .i64 (a0.length : Int))), (9, .v (.int .i64 i5))]) (fun s4 _ hN15 => ?_) (fun i5 s4 _ _ hi9 hi10 ho6 hg7 hF => ?_)
 ·exact wn hN15 (hj1 _) hψ8
 refine wW ?_
 refine wu hi9 hi10 ?_
 refine wW ?_
 refine wB ?_
 obtain ⟨x11, g, hF⟩ := Rx g hF
 refine wW ?_
 refine wK [1, 7, 8, 9, 15] ?_
 refine wI hF (fun h12 hF => ?_) (fun h12 hF => ?_)
 ·cases ho6 _ (zaa hF)
  cases hΦ _ (hr2 _ hψ8)
  refine wW ?_
  try simp [go_sem, g]
 refine wW ?_
 exact wi hi9 hi10 (hg7 _) (zaa hF)
@[go_sem] def zyZ : List DE := [d1 0 [9] 9, d2 1 [14] 9 14, d0 2 [15], d0 3 [2], d0 4 [17], d0 5 [16, 18], d0 6 [19], d1 7 [9, 20] 9, d2 8 [21, 20] 9 21, d0 9 [22, 20], d0 10 [23, 20], d0 11 [20, 24], d0 12 [25], d1 13 [9, 26] 9, d2 14 [27, 26] 9 27, d0 15 [28, 26], d0 16 [2, 26], d0 17 [30, 26], d0 18 [31, 26], d0 19 [32, 26], d0 20 [29, 33, 26], d0 21 [26, 34], d0 22 [35], d2 23 [5, 36] 5 5, d1 24 [9, 36] 9, d2 25 [38, 36] 9 38, d3 26 [37, 39, 36], d0 27 [40, 36], d0 28 [36, 41], d0 29 [42], d2 30 [5, 43] 5 5, d1 31 [9, 43] 9, d2 32 [45, 43] 9 45, d3 33 [44, 46, 43], d0 34 [47, 43], d0 35 [43, 48]]
@[go_sem] def zyJ : List DE := [d0 0 [11], d2 1 [5] 5 5, d0 2 [1], d0 3 [2], d0 4 [3], d1 5 [9] 9, d2 6 [59] 9 59, d3 7 [57, 58, 60], d3 8 [55, 56, 61], d0 9 [54, 62]]
@[go_sem] def zyW : List DE := [d2 0 [5] 5 5, d0 1 [13], d1 2 [9] 9, d2 3 [73] 9 73, d2 5 [5] 5 5, d1 6 [9] 9, d2 7 [77] 9 77, d0 8 [12], d0 9 [78, 79], d0 10 [80], d2 11 [5] 5 5, d0 12 [3], d0 13 [12], d0 14 [83, 84], d0 15 [85], d0 16 [11], ⟨4, [71, 72, 74], [], none, false, true, false⟩, ⟨17, [82, 86, 87], [], none, false, true, false⟩, d0 18 [81, 88], ⟨19, [76, 89], [], none, true, true, true⟩, d0 20 [75, 90]]
def zfh (a0 : Group) (a1 : ByteArray) (a2 : (List (List Int))) (a3 : List Int) (a4 : Proof) : Option Bool :=
 ((if ((a4.Commits.length : Int) != (a2.length : Int)) = true then (
 some true) else (
 if ((a4.Challenges.length : Int) != 1) = true then (
 some true) else (
 (ix a2 0).bind fun x6 =>
 if ((a4.Responses.length : Int) != (x6.length : Int)) = true then (
 some true) else (
 (zdK a0 a4.Commits).bind fun z8 =>
 if (!z8) = true then (
 some true) else (
 (zdR a0 a4.Responses).bind fun z10 =>
 some (!z10))))) : Option Bool).bind fun x3 =>
 if x3 = true then (
 some false) else (
 (ix a4.Challenges 0).bind fun x12 =>
 (zdf a2 a3 a4.Commits).bind fun z13 =>
 (zdg a0 a1 z13).bind fun z14 =>
 if (x12 != z14) = true then (
 some false) else (
 ((zaq (σ := Unit) (fun i20 s19 =>
 (ix a2 i20).bind fun x26 =>
 (ix a4.Commits i20).bind fun x27 =>
 (ix a3 i20).bind fun x28 =>
 (zdU a0 x26 a4.Responses).bind fun z29 =>
 (zaT a0 x28 x12).bind fun z30 =>
 (zc5 a0 [x27, z30]).bind fun z31 =>
 if (z29 != z31) = true then (
 some (.out (.inr false))) else (
 some (.go ()))) (fun s19 => .inl ()) (a2.length) 0 () : Option (Unit ⊕ Bool)).bind (Sum.elim (fun x18 =>
 some true) some)))))
theorem znT : ∀ {a0} {a1} {a2} {a3} {a4} {r}, zfh a0 a1 a2 a3 a4 = some r → PCalls Tryz.prog 208 [(.sh, vE a0), (.sh, .str a1), (.sh, vH a2), (.sh, vC a3), (.sh, vU a4)] (Eo (.bool r) [.junk, .junk, .junk, .junk, .junk]) := by
 intro a0 a1 a2 a3 a4 r hr
 apply pF 93 [] [] [] [.tmp 10] hr zBi Tryz.func208
 intro Φ hΦ hF g
 unfold zfh at hF
 refine wW ?_
 refine wJ hF (fun x3 => [(1, .v (.str a1)), (2, .v (vH a2)), (3, .v (vC a3)), (5, .bl [.int .i64 a0.P, .int .i64 a0.Q, .int .i64 a0.G]), (9, .bl [vC a4.Commits, vC a4.Challenges, vC a4.Responses]), (49, .v (.bool x3))]) (fun x3 hF => ?_) fun _ hj1 hF => ?_
 ·refine wI hF (fun h11 hF => ?_) (fun h11 hF => ?_)
  ·exact wl hΦ hF
  obtain ⟨x12, g, hF⟩ := Rxn g 0 hF
  iterate 2 refine wW ?_
  refine wX zyJ follows ?_
  refine wC hF [.sh, .sh, .sh] zh6 (fun z13 hF => ?_)
  refine wC hF [.sh, .sh, .sh] zh8 (fun z14 hF => ?_)
  refine wK [2, 3, 5, 9, 11, 63] ?_
  refine wI hF (fun h15 hF => ?_) (fun h15 hF => ?_)
  ·exact wl hΦ hF
  iterate 2 (try simp [go_sem, g]; try intros; refine zau ?_)
  refine wS hF (fun x18 => []) (fun x18 hF => ?_) fun _ hj16 hr17 hF => ?_
  ·exact wl hΦ hF
  refine wB ?_
  obtain ⟨b33, hb34, hψ23⟩ := hF
  refine pR hb34 (fun i20 s19 => [(3, .v (vC a3)), (5, .bl [.int .i64 a0.P, .int .i64 a0.Q, .int .i64 a0.G]), (9, .bl [vC a4.Commits, vC a4.Challenges, vC a4.Responses]), (11, .v (.int .i64 x12)), (64, .v (vH a2)), (65, .v (.int .i64 (a2.length : Int))), (66, .v (.int .i64 i20))]) (fun s19 _ hN35 => ?_) (fun i20 s19 _ _ hi24 hi25 ho21 hg22 hF => ?_)
  ·exact wn hN35 (hj16 _) hψ23
  refine wW ?_
  refine wu hi24 hi25 ?_
  refine wW ?_
  refine wB ?_
  obtain ⟨x26, g, hF⟩ := Rx g hF
  refine wW ?_
  refine wX zyW follows ?_
  obtain ⟨x27, g, hF⟩ := Rx g hF
  obtain ⟨x28, g, hF⟩ := Rx g hF
  refine wD hF ziQ (fun z29 hF => ?_)
  refine wD hF zcO (fun z30 hF => ?_)
  refine wC hF [.sh, .sh] zgs (fun z31 hF => ?_)
  refine wK [3, 5, 9, 11, 64, 65, 66, 91] ?_
  refine wI hF (fun h32 hF => ?_) (fun h32 hF => ?_)
  ·cases ho21 _ (zaa hF)
   cases hΦ _ (hr17 _ hψ23)
   refine wW ?_
   try simp [go_sem, g]
  refine wW ?_
  exact wi hi24 hi25 (hg22 _) (zaa hF)
 refine wX zyZ follows ?_
 try simp [go_sem, g]
 try intros
 refine wH hF (fun h4 hF => ?_) fun h4 hF => ?_
 ·exact wV h4 (hj1 _) (zaa hF)
 try simp [go_sem, g, h4]
 try intros
 refine wH hF (fun h5 hF => ?_) fun h5 hF => ?_
 ·exact wV h5 (hj1 _) (zaa hF)
 obtain ⟨x6, g, hF⟩ := Rxn g 0 hF
 try simp [go_sem, g, h5]
 try intros
 refine wH hF (fun h7 hF => ?_) fun h7 hF => ?_
 ·exact wV h7 (hj1 _) (zaa hF)
 try simp [go_sem, g, h7]
 refine wC hF [.sh, .sh] zif (fun z8 hF => ?_)
 try simp [go_sem, g, h7]
 refine wH hF (fun h9 hF => ?_) fun h9 hF => ?_
 ·exact wV h9 (hj1 _) (zaa hF)
 try simp [go_sem, g, h9]
 refine wC hF [.sh, .sh] zhg (fun z10 hF => ?_)
 exact wV h9 (hj1 _) (zaa hF)
def zfs (a0 : Group) (a1 : ByteArray) (a2 : EqualLog) (a3 : Proof) : Option Bool :=
 (zfh a0 a1 [[a2.G1], [a2.G2]] [a2.Y1, a2.Y2] a3).bind fun z1 =>
 some z1
theorem zmi : ∀ {a0} {a1} {a2} {a3} {r}, zfs a0 a1 a2 a3 = some r → PCalls Tryz.prog 202 [(.sh, vE a0), (.sh, .str a1), (.sh, vAD a2), (.sh, vU a3)] (Eo (.bool r) [.junk, .junk, .junk, .junk]) := by
 intro a0 a1 a2 a3 r hr
 apply pF 25 [] [] [] [.tmp 8] hr zBO Tryz.func202
 intro Φ hΦ hF g
 unfold zfs at hF
 refine wW ?_
 refine wC hF [.sh, .sh, .sh, .sh, .sh] znT (fun z1 hF => ?_)
 refine wK [8] ?_
 exact wm hΦ hF
@[go_sem] def zx0 : List DE := [d2 0 [4] 4 4, d1 1 [4] 4, d2 2 [22] 4 22, d2 3 [4] 4 4, d0 4 [1], d1 5 [7] 7, d2 6 [26] 7 26, d1 8 [6] 6, d2 9 [29] 6 29, d1 10 [7] 7, d2 11 [31] 7 31, d1 13 [7] 7, d2 14 [34] 7 34, d3 7 [24, 25, 27], d0 12 [23, 28, 30, 32], d3 15 [21, 33, 35], d0 16 [36]]
def zeh (a0 : Group) (a1 : List Int) (a2 : Cipher) (a3 : Partial) : Option Bool :=
 (((zbc a3.Index 1 7).bind fun z4 =>
 if (!z4) = true then (
 some true) else (
 (zdK a0 [a3.Value]).bind fun z6 =>
 some (!z6)) : Option Bool).bind fun x3 =>
 if x3 = true then (
 some false) else (
 (zfl a0 a1 a3.Index).bind fun z8 =>
 (zfs a0 (⟨#[112, 97, 114, 116, 105, 97, 108]⟩ : ByteArray) (EqualLog.mk a0.G z8 a2.A a3.Value) a3.Pi).bind fun z9 =>
 some z9))
theorem zn5 : ∀ {a0} {a1} {a2} {a3} {r}, zeh a0 a1 a2 a3 = some r → PCalls Tryz.prog 190 [(.sh, vE a0), (.sh, vC a1), (.sh, vQ a2), (.sh, vAC a3)] (Eo (.bool r) [.junk, .junk, .junk, .junk]) := by
 intro a0 a1 a2 a3 r hr
 apply pF 37 [] [] [] [.tmp 8] hr zAF Tryz.func190
 intro Φ hΦ hF g
 unfold zeh at hF
 refine wW ?_
 refine wJ hF (fun x3 => [(1, .v (vC a1)), (4, .bl [.int .i64 a0.P, .int .i64 a0.Q, .int .i64 a0.G]), (6, .bl [.int .i64 a2.A, .int .i64 a2.B]), (7, .bl [.int .i64 a3.Index, .int .i64 a3.Value, vC a3.Pi.Commits, vC a3.Pi.Challenges, vC a3.Pi.Responses]), (20, .v (.bool x3))]) (fun x3 hF => ?_) fun _ hj1 hF => ?_
 ·refine wI hF (fun h7 hF => ?_) (fun h7 hF => ?_)
  ·exact wl hΦ hF
  refine wW ?_
  refine wX zx0 follows ?_
  refine wC hF [.sh, .sh, .sh] zng (fun z8 hF => ?_)
  refine wC hF [.sh, .sh, .sh, .sh] zmi (fun z9 hF => ?_)
  refine wK [8] ?_
  exact wm hΦ hF
 refine wC hF [.sh, .sh, .sh] zbN (fun z4 hF => ?_)
 refine wG hF (fun h5 hF => ?_) fun h5 hF => ?_
 ·exact wV h5 (hj1 _) (zaa hF)
 try simp [go_sem, g, h5]
 refine wC hF [.sh, .sh] zif (fun z6 hF => ?_)
 exact wV h5 (hj1 _) (zaa hF)
def zf7 (a0 : Group) (a1 : List Int) (a2 : Cipher) (a3 : List Partial) : Option ((List Int)) :=
 ((zaq (σ := (List Int) × List Int) (fun i5 s4 =>
 (((ix a3 i5).bind fun x14 =>
 (((ze8 s4.2 x14.Index).bind fun z18 =>
 if (!z18) = true then (
 (zeh a0 a1 a2 x14).bind fun z20 =>
 some z20) else (
 some false) : Option Bool).bind fun x17 =>
 if x17 = true then (
 gd ((s4.1.length + 1) * 8 ≤ 140737488355328 ∧ s4.1.length + 1 ≤ 4611686018427387904) <|
 gd ((s4.2.length + 1) * 8 ≤ 140737488355328 ∧ s4.2.length + 1 ≤ 4611686018427387904) <|
 some (s4.1 ++ [i5], s4.2 ++ [x14.Index])) else (
 some (s4.1, s4.2))) : Option ((List Int × List Int))).bind fun x13 =>
 some (.go (x13.1, x13.2)))) (fun s4 => s4.1) (a3.length) 0 ([], []) : Option ((List Int))).bind fun x3 =>
 some x3)
theorem zqo : ∀ {a0} {a1} {a2} {a3} {r}, zf7 a0 a1 a2 a3 = some r → PCalls Tryz.prog 163 [(.sh, vE a0), (.sh, vC a1), (.sh, vQ a2), (.sh, vAB a3)] (Eo (vD r) [.junk, .junk, .junk, .junk]) := by
 intro a0 a1 a2 a3 r hr
 apply pF 43 [] [] [] [.tmp 8] hr zBU Tryz.func163
 intro Φ hΦ hF g
 unfold zf7 at hF
 iterate 3 (try simp [go_sem, g]; try intros; refine zau ?_)
 refine wJ hF (fun x3 => [(9, .v (vD x3))]) (fun x3 hF => ?_) fun _ hj1 hF => ?_
 ·refine wK [8] ?_
  exact wm hΦ hF
 refine wB ?_
 obtain ⟨b22, hb23, hψ8⟩ := hF
 refine pR hb23 (fun i5 s4 => [(1, .v (vC a1)), (4, .bl [.int .i64 a0.P, .int .i64 a0.Q, .int .i64 a0.G]), (6, .bl [.int .i64 a2.A, .int .i64 a2.B]), (9, .v (vD s4.1)), (10, .v (vD s4.2)), (13, .v (vAB a3)), (14, .v (.int .i64 (a3.length : Int))), (15, .v (.int .i64 i5))]) (fun s4 _ hN24 => ?_) (fun i5 s4 _ _ hi9 hi10 ho6 hg7 hF => ?_)
 ·exact wn hN24 (hj1 _) hψ8
 refine wW ?_
 refine wu hi9 hi10 ?_
 refine wW ?_
 refine wJ hF (fun x13 => [(1, .v (vC a1)), (4, .bl [.int .i64 a0.P, .int .i64 a0.Q, .int .i64 a0.G]), (6, .bl [.int .i64 a2.A, .int .i64 a2.B]), (9, .v (vD x13.1)), (10, .v (vD x13.2)), (13, .v (vAB a3)), (14, .v (.int .i64 (a3.length : Int))), (15, .v (.int .i64 i5))]) (fun x13 hF => ?_) fun _ hj11 hF => ?_
 ·exact wi hi9 hi10 (hg7 _) (zaa hF)
 refine wB ?_
 obtain ⟨x14, g, hF⟩ := Rx g hF
 refine wK [1, 4, 6, 9, 10, 11, 12, 13, 14, 15] ?_
 refine wJ hF (fun x17 => [(1, .v (vC a1)), (4, .bl [.int .i64 a0.P, .int .i64 a0.Q, .int .i64 a0.G]), (6, .bl [.int .i64 a2.A, .int .i64 a2.B]), (9, .v (vD s4.1)), (10, .v (vD s4.2)), (11, .v (.int .i64 i5)), (12, .bl [.int .i64 x14.Index, .int .i64 x14.Value, vC x14.Pi.Commits, vC x14.Pi.Challenges, vC x14.Pi.Responses]), (13, .v (vAB a3)), (14, .v (.int .i64 (a3.length : Int))), (15, .v (.int .i64 i5)), (31, .v (.bool x17))]) (fun x17 hF => ?_) fun _ hj15 hF => ?_
 ·refine wI hF (fun h21 hF => ?_) (fun h21 hF => ?_)
  ·obtain ⟨g, hF⟩ := Rg g hF
   obtain ⟨g, hF⟩ := Rg g hF
   refine wW ?_
   exact wT (hj11 _) (zaa hF)
  exact wT (hj11 _) (zaa hF)
 refine wC hF [.sh, .sh] zp3 (fun z18 hF => ?_)
 refine wG hF (fun h19 hF => ?_) fun h19 hF => ?_
 ·try simp [go_sem, g, h19]
  refine wC hF [.sh, .sh, .sh, .sh] zn5 (fun z20 hF => ?_)
  exact wV h19 (hj15 _) (zaa hF)
 exact wV h19 (hj15 _) (zaa hF)
def zcd (a0 : Int) (a1 : Int) : Option (Int × Bool) :=
 (zbO a0 a1).bind fun z1 =>
 ((zbs (σ := Int × Int × Int × Int) (fun s5 =>
 if (s5.2.1 != 0) = true then (
 gd (s5.2.1 ≠ 0) <|
 some (.go (s5.2.1, i64.wrap (s5.1 - (i64.wrap ((i64.wrap (s5.1.tdiv s5.2.1)) * s5.2.1))), s5.2.2.2, i64.wrap (s5.2.2.1 - (i64.wrap ((i64.wrap (s5.1.tdiv s5.2.1)) * s5.2.2.2)))))) else (
 some (.out (s5.1, s5.2.2.1)))) (z1, a1, 1, 0) : Option ((Int × Int))).bind fun x4 =>
 (zbO x4.2 a1).bind fun z13 =>
 some (z13, (x4.1 == 1)))
theorem zna : ∀ {a0} {a1} {r}, zcd a0 a1 = some r → PCalls Tryz.prog 191 [(.sh, .int .i64 a0), (.sh, .int .i64 a1)] (Eo (.tup [.int .i64 r.1, .bool r.2]) [.junk, .junk]) := by
 intro a0 a1 r hr
 apply pF 41 [] [] [] [.tmp 4, .tmp 5] hr zBo Tryz.func191
 intro Φ hΦ hF g
 unfold zcd at hF
 refine wW ?_
 refine wC hF [.sh, .sh] zfD (fun z1 hF => ?_)
 refine wW ?_
 refine wK [1, 6, 7, 8, 9] ?_
 refine wJ hF (fun x4 => [(1, .v (.int .i64 a1)), (6, .v (.int .i64 x4.1)), (8, .v (.int .i64 x4.2))]) (fun x4 hF => ?_) fun _ hj2 hF => ?_
 ·refine wC hF [.sh, .sh] zfD (fun z13 hF => ?_)
  exact wl hΦ hF
 refine wB ?_
 obtain ⟨b11, hb12, hψ9⟩ := hF
 refine pL hb12 (fun s5 => [(1, .v (.int .i64 a1)), (6, .v (.int .i64 s5.1)), (7, .v (.int .i64 s5.2.1)), (8, .v (.int .i64 s5.2.2.1)), (9, .v (.int .i64 s5.2.2.2))]) (fun s5 _ _ ho7 hg8 hF => ?_)
 refine wW ?_
 refine wI hF (fun h10 hF => ?_) (fun h10 hF => ?_)
 ·refine wW ?_
  refine wB ?_
  obtain ⟨g, hF⟩ := Rz g hF
  refine wW ?_
  refine wK [1, 7, 9, 11, 12] ?_
  iterate 3 refine wW ?_
  exact wT (hg8 _) (zaa hF)
 cases ho7 _ (zaa hF)
 exact wT (hj2 _) hψ9
def zex (a0 : Int) (a1 : List Int) (a2 : Int) : Option ((List Int)) :=
 ((zaq (σ := (List Int)) (fun i5 s4 =>
 (ix a1 i5).bind fun x11 =>
 ((zaq (σ := Int × Int) (fun i16 s15 =>
 (((ix a1 i16).bind fun x25 =>
 if (i16 != i5) = true then (
 (zbO (i64.wrap (a2 - x25)) a0).bind fun z27 =>
 gd (a0 ≠ 0) <|
 (zbO (i64.wrap (x11 - x25)) a0).bind fun z28 =>
 gd (a0 ≠ 0) <|
 some ((i64.wrap (s15.1 * z27)).tmod a0, (i64.wrap (s15.2 * z28)).tmod a0)) else (
 some (s15.1, s15.2)) : Option ((Int × Int))).bind fun x24 =>
 some (.go (x24.1, x24.2)))) (fun s15 => (s15.1, s15.2)) (a1.length) 0 (1, 1) : Option ((Int × Int))).bind fun x14 =>
 (zcd x14.2 a0).bind fun z33 =>
 gd (a0 ≠ 0) <|
 gd ((s4.length + 1) * 8 ≤ 140737488355328 ∧ s4.length + 1 ≤ 4611686018427387904) <|
 some (.go (s4 ++ [(i64.wrap (x14.1 * z33.1)).tmod a0])))) (fun s4 => s4) (a1.length) 0 [] : Option ((List Int))).bind fun x3 =>
 some x3)
theorem zmA : ∀ {a0} {a1} {a2} {r}, zex a0 a1 a2 = some r → PCalls Tryz.prog 164 [(.sh, .int .i64 a0), (.sh, vC a1), (.sh, .int .i64 a2)] (Eo (vD r) [.junk, .junk, .junk]) := by
 intro a0 a1 a2 r hr
 apply pF 68 [] [] [] [.tmp 6] hr zBR Tryz.func164
 intro Φ hΦ hF g
 unfold zex at hF
 iterate 3 (try simp [go_sem, g]; try intros; refine zau ?_)
 refine wJ hF (fun x3 => [(7, .v (vD x3))]) (fun x3 hF => ?_) fun _ hj1 hF => ?_
 ·exact wl hΦ hF
 refine wB ?_
 obtain ⟨b34, hb35, hψ8⟩ := hF
 refine pR hb35 (fun i5 s4 => [(0, .v (.int .i64 a0)), (1, .v (vC a1)), (2, .v (.int .i64 a2)), (7, .v (vD s4)), (16, .v (vC a1)), (17, .v (.int .i64 (a1.length : Int))), (18, .v (.int .i64 i5))]) (fun s4 _ hN36 => ?_) (fun i5 s4 _ _ hi9 hi10 ho6 hg7 hF => ?_)
 ·exact wn hN36 (hj1 _) hψ8
 refine wW ?_
 refine wu hi9 hi10 ?_
 refine wW ?_
 refine wB ?_
 obtain ⟨x11, g, hF⟩ := Rx g hF
 refine wK [0, 1, 2, 7, 8, 9, 16, 17, 18] ?_
 iterate 2 (try simp [go_sem, g]; try intros; refine zau ?_)
 refine wJ hF (fun x14 => [(0, .v (.int .i64 a0)), (1, .v (vC a1)), (2, .v (.int .i64 a2)), (7, .v (vD s4)), (10, .v (.int .i64 x14.1)), (11, .v (.int .i64 x14.2)), (16, .v (vC a1)), (17, .v (.int .i64 (a1.length : Int))), (18, .v (.int .i64 i5))]) (fun x14 hF => ?_) fun _ hj12 hF => ?_
 ·refine wC hF [.sh, .sh] zna (fun z33 hF => ?_)
  refine wK [0, 1, 2, 7, 10, 14, 16, 17, 18] ?_
  obtain ⟨g, hF⟩ := Rz g hF
  obtain ⟨g, hF⟩ := Rg g hF
  refine wW ?_
  exact wi hi9 hi10 (hg7 _) (zaa hF)
 refine wB ?_
 obtain ⟨b29, hb30, hψ19⟩ := hF
 refine pR hb30 (fun i16 s15 => [(0, .v (.int .i64 a0)), (1, .v (vC a1)), (2, .v (.int .i64 a2)), (7, .v (vD s4)), (8, .v (.int .i64 i5)), (9, .v (.int .i64 x11)), (10, .v (.int .i64 s15.1)), (11, .v (.int .i64 s15.2)), (16, .v (vC a1)), (17, .v (.int .i64 (a1.length : Int))), (18, .v (.int .i64 i5)), (23, .v (vC a1)), (24, .v (.int .i64 (a1.length : Int))), (25, .v (.int .i64 i16))]) (fun s15 _ hN31 => ?_) (fun i16 s15 _ _ hi20 hi21 ho17 hg18 hF => ?_)
 ·exact wn hN31 (hj12 _) hψ19
 refine wW ?_
 refine wu hi20 hi21 ?_
 refine wW ?_
 refine wJ hF (fun x24 => [(0, .v (.int .i64 a0)), (1, .v (vC a1)), (2, .v (.int .i64 a2)), (7, .v (vD s4)), (8, .v (.int .i64 i5)), (9, .v (.int .i64 x11)), (10, .v (.int .i64 x24.1)), (11, .v (.int .i64 x24.2)), (16, .v (vC a1)), (17, .v (.int .i64 (a1.length : Int))), (18, .v (.int .i64 i5)), (23, .v (vC a1)), (24, .v (.int .i64 (a1.length : Int))), (25, .v (.int .i64 i16))]) (fun x24 hF => ?_) fun _ hj22 hF => ?_
 ·exact wi hi20 hi21 (hg18 _) (zaa hF)
 refine wB ?_
 obtain ⟨x25, g, hF⟩ := Rx g hF
 refine wK [0, 1, 2, 7, 8, 9, 10, 11, 12, 13, 16, 17, 18, 23, 24, 25] ?_
 refine wW ?_
 refine wI hF (fun h26 hF => ?_) (fun h26 hF => ?_)
 ·refine wC hF [.sh, .sh] zfD (fun z27 hF => ?_)
  obtain ⟨g, hF⟩ := Rz g hF
  refine wK [0, 1, 2, 7, 8, 9, 10, 11, 13, 16, 17, 18, 23, 24, 25] ?_
  refine wC hF [.sh, .sh] zfD (fun z28 hF => ?_)
  obtain ⟨g, hF⟩ := Rz g hF
  exact wT (hj22 _) (zaa hF)
 exact wT (hj22 _) (zaa hF)
def zgq (a0 : Group) (a1 : Int) : Option Int :=
 (zbA a1 (i64.wrap (a0.Q - 1)) a0.P).bind fun z1 =>
 some z1
theorem zqC : ∀ {a0} {a1} {r}, zgq a0 a1 = some r → PCalls Tryz.prog 146 [(.sh, vE a0), (.sh, .int .i64 a1)] (Eo (.int .i64 r) [.junk, .junk]) := by
 intro a0 a1 r hr
 apply pF 12 [] [] [] [.tmp 4] hr zAo Tryz.func146
 intro Φ hΦ hF g
 unfold zgq at hF
 refine wW ?_
 refine wC hF [.sh, .sh, .sh] zeK (fun z1 hF => ?_)
 refine wK [4] ?_
 exact wm hΦ hF
@[go_sem] def zwM : List DE := [d2 0 [4] 4 4, d1 1 [6] 6, d2 2 [53] 6 53, d2 3 [4] 4 4, d2 4 [4] 4 4, d0 5 [13], d1 6 [4] 4, d2 7 [58] 4 58, d0 8 [12], d3 9 [59, 60], d3 10 [56, 57, 61], d3 11 [55, 62], d0 12 [54, 63], ⟨13, [52, 64], [], none, true, true, true⟩, d0 14 [65], d0 15 []]
def zeV (a0 : Group) (a1 : List Int) (a2 : Cipher) (a3 : List Partial) : Option (Int × Bool) :=
 (zf7 a0 a1 a2 a3).bind fun z1 =>
 if decide ((z1.length : Int) < (a1.length : Int)) = true then (
 some (0, false)) else (
 gd (0 ≤ (a1.length : Int)) <|
 gd (0 ≤ a1.length ∧ a1.length ≤ z1.length) <|
 ((zaq (σ := (List Int) × List Int) (fun i7 s6 =>
 (ix ((z1.take a1.length).drop 0) i7).bind fun x14 =>
 (ix a3 x14).bind fun x15 =>
 gd ((s6.1.length + 1) * 8 ≤ 140737488355328 ∧ s6.1.length + 1 ≤ 4611686018427387904) <|
 gd ((s6.2.length + 1) * 8 ≤ 140737488355328 ∧ s6.2.length + 1 ≤ 4611686018427387904) <|
 some (.go (s6.1 ++ [x15.Index], s6.2 ++ [x15.Value]))) (fun s6 => (s6.1, s6.2)) (((z1.take a1.length).drop 0).length) 0 ([], []) : Option ((List Int × List Int))).bind fun x5 =>
 (zex a0.Q x5.1 0).bind fun z20 =>
 (zdU a0 x5.2 z20).bind fun z21 =>
 (zgq a0 z21).bind fun z22 =>
 (zc5 a0 [a2.B, z22]).bind fun z23 =>
 some (z23, true)))
theorem znf : ∀ {a0} {a1} {a2} {a3} {r}, zeV a0 a1 a2 a3 = some r → PCalls Tryz.prog 103 [(.sh, vE a0), (.sh, vC a1), (.sh, vQ a2), (.sh, vAB a3)] (Eo (.tup [.int .i64 r.1, .bool r.2]) [.junk, .junk, .junk, .junk]) := by
 intro a0 a1 a2 a3 r hr
 apply pF 66 [] [10] [] [.tmp 8, .tmp 9] hr zA7 Tryz.func103
 intro Φ hΦ hF g
 unfold zeV at hF
 refine wW ?_
 refine wC hF [.sh, .sh, .sh, .sh] zqo (fun z1 hF => ?_)
 refine wK [1, 3, 4, 6, 10] ?_
 iterate 2 (try simp [go_sem, g]; try intros; refine zau ?_)
 refine wI hF (fun h2 hF => ?_) (fun h2 hF => ?_)
 ·exact wl hΦ hF
 obtain ⟨g, hF⟩ := Rg g hF
 obtain ⟨g, hF⟩ := Rg g hF
 iterate 2 (try simp [go_sem, g]; try intros; refine zau ?_)
 try simp [go_sem, g]
 try intros
 refine wK [3, 4, 6, 12, 13, 29, 30, 31] ?_
 refine wJ hF (fun x5 => [(4, .bl [.int .i64 a0.P, .int .i64 a0.Q, .int .i64 a0.G]), (6, .bl [.int .i64 a2.A, .int .i64 a2.B]), (12, .v (vD x5.1)), (13, .v (vD x5.2))]) (fun x5 hF => ?_) fun _ hj3 hF => ?_
 ·refine wX zwM follows ?_
  refine wC hF [.sh, .sh, .sh] zmA (fun z20 hF => ?_)
  refine wC hF [.sh, .sh, .sh] ziQ (fun z21 hF => ?_)
  refine wC hF [.sh, .sh] zqC (fun z22 hF => ?_)
  refine wC hF [.sh, .sh] zgs (fun z23 hF => ?_)
  refine wK [8, 9] ?_
  exact wm hΦ hF
 refine wB ?_
 obtain ⟨b16, hb17, hψ10⟩ := hF
 refine pR hb17 (fun i7 s6 => [(3, .v (vAB a3)), (4, .bl [.int .i64 a0.P, .int .i64 a0.Q, .int .i64 a0.G]), (6, .bl [.int .i64 a2.A, .int .i64 a2.B]), (12, .v (vD s6.1)), (13, .v (vD s6.2)), (29, .v (vC ((z1.take a1.length).drop 0))), (30, .v (.int .i64 (((z1.take a1.length).drop 0).length : Int))), (31, .v (.int .i64 i7))]) (fun s6 _ hN18 => ?_) (fun i7 s6 _ _ hi11 hi12 ho8 hg9 hF => ?_)
 ·exact wn hN18 (hj3 _) hψ10
 have hi13 := hi12
 try simp at hi13
 refine wW ?_
 refine wt ?_ (hb := by simp [go_sem, g, hi11, hi12, hi13] <;> omega)
 refine wW ?_
 refine wB ?_
 obtain ⟨x14, g, hF⟩ := Rxq g hF
 obtain ⟨x15, g, hF⟩ := Rx g hF
 obtain ⟨g, hF⟩ := Rg g hF
 refine wW ?_
 refine wK [3, 4, 6, 12, 13, 15, 29, 30, 31] ?_
 obtain ⟨g, hF⟩ := Rg g hF
 refine wW ?_
 exact wT (hg9 (s6.1 ++ [x15.Index], s6.2 ++ [x15.Value])) (zaa hF) (a := by simp [go_sem, g, zpk hi11 hi12 (by first | assumption | (simp; assumption) | (simp; omega))])
def zb7 (a0 : Group) (a1 : List Int) (a2 : Cipher) (a3 : List Partial) : Option (Int × Bool) :=
 (zeM a0 a1 a2 a3).bind fun z1 =>
 if (!z1) = true then (
 some (0, false)) else (
 (zeV a0 a1 a2 a3).bind fun z3 =>
 some (z3.1, z3.2))
theorem zju : ∀ {a0} {a1} {a2} {a3} {r}, zb7 a0 a1 a2 a3 = some r → PCalls Tryz.prog 47 [(.sh, vE a0), (.sh, vC a1), (.sh, vQ a2), (.sh, vAB a3)] (Eo (.tup [.int .i64 r.1, .bool r.2]) [.junk, .junk, .junk, .junk]) := by
 intro a0 a1 a2 a3 r hr
 apply pF 23 [] [] [] [.tmp 8, .tmp 9] hr zGS Tryz.func47
 intro Φ hΦ hF g
 unfold zb7 at hF
 refine wW ?_
 refine wC hF [.sh, .sh, .sh, .sh] zoL (fun z1 hF => ?_)
 refine wK [1, 3, 4, 6, 15] ?_
 refine wI hF (fun h2 hF => ?_) (fun h2 hF => ?_)
 ·exact wl hΦ hF
 refine wW ?_
 refine wC hF [.sh, .sh, .sh, .sh] znf (fun z3 hF => ?_)
 exact wl hΦ hF
@[go_sem] def zAW : List DE := [d2 0 [4] 4 4, d0 1 [1], d2 2 [12] 12 12, d0 3 [3], d0 4 [11], d0 5 [48, 49], d0 6 [50], d3 7 [45, 46, 47, 51], d0 8 [52], d0 9 [44], d0 10 [44], d0 11 [53], d0 12 [54]]
def zd6 (a0 : Group) (a1 : List Int) (a2 : List Cipher) (a3 : (List (List Partial))) : Option (List Int × Bool) :=
 (((zct a0).bind fun z4 =>
 if (!z4) = true then (
 some true) else (
 (zdZ a0 a1).bind fun z6 =>
 if (!z6) = true then (
 some true) else (
 (zdT a0 a2).bind fun z8 =>
 if (!z8) = true then (
 some true) else (
 some ((a3.length : Int) != (a2.length : Int))))) : Option Bool).bind fun x3 =>
 if x3 = true then (
 some ([], false)) else (
 ((zaq (σ := (List Int)) (fun i15 s14 =>
 (ix a2 i15).bind fun x21 =>
 (ix a3 i15).bind fun x22 =>
 (zb7 a0 a1 x21 x22).bind fun z23 =>
 if (!z23.2) = true then (
 some (.out (.inr ([], false)))) else (
 gd ((s14.length + 1) * 8 ≤ 140737488355328 ∧ s14.length + 1 ≤ 4611686018427387904) <|
 some (.go (s14 ++ [z23.1])))) (fun s14 => .inl s14) (a2.length) 0 [] : Option ((List Int) ⊕ (List Int × Bool))).bind (Sum.elim (fun x13 =>
 some (x13, true)) some))))
theorem zlM : ∀ {a0} {a1} {a2} {a3} {r}, zd6 a0 a1 a2 a3 = some r → PCalls Tryz.prog 10 [(.sh, vE a0), (.sh, vC a1), (.sh, vZ a2), (.sh, vAA a3)] (Eo (.tup [vD r.1, .bool r.2]) [.junk, .junk, .junk, .junk]) := by
 intro a0 a1 a2 a3 r hr
 apply pF 63 [] [] [] [.tmp 8, .tmp 9] hr zGw Tryz.func10
 intro Φ hΦ hF g
 unfold zd6 at hF
 refine wW ?_
 refine wJ hF (fun x3 => [(1, .v (vC a1)), (2, .v (vZ a2)), (3, .v (vAA a3)), (4, .bl [.int .i64 a0.P, .int .i64 a0.Q, .int .i64 a0.G]), (36, .v (.bool x3))]) (fun x3 hF => ?_) fun _ hj1 hF => ?_
 ·refine wI hF (fun h10 hF => ?_) (fun h10 hF => ?_)
  ·exact wl hΦ hF
  iterate 3 (try simp [go_sem, g]; try intros; refine zau ?_)
  refine wS hF (fun x13 => [(10, .v (vD x13))]) (fun x13 hF => ?_) fun _ hj11 hr12 hF => ?_
  ·refine wK [8, 9] ?_
   exact wm hΦ hF
  refine wB ?_
  obtain ⟨b25, hb26, hψ18⟩ := hF
  refine pR hb26 (fun i15 s14 => [(1, .v (vC a1)), (3, .v (vAA a3)), (4, .bl [.int .i64 a0.P, .int .i64 a0.Q, .int .i64 a0.G]), (10, .v (vD s14)), (37, .v (vZ a2)), (38, .v (.int .i64 (a2.length : Int))), (39, .v (.int .i64 i15))]) (fun s14 _ hN27 => ?_) (fun i15 s14 _ _ hi19 hi20 ho16 hg17 hF => ?_)
  ·exact wn hN27 (hj11 _) hψ18
  refine wW ?_
  refine wu hi19 hi20 ?_
  refine wW ?_
  refine wB ?_
  obtain ⟨x21, g, hF⟩ := Rx g hF
  refine wK [1, 3, 4, 10, 11, 12, 37, 38, 39] ?_
  refine wX zAW follows ?_
  obtain ⟨x22, g, hF⟩ := Rx g hF
  refine wC hF [.sh, .sh, .sh, .sh] zju (fun z23 hF => ?_)
  refine wK [1, 3, 4, 10, 13, 14, 37, 38, 39] ?_
  refine wW ?_
  refine wI hF (fun h24 hF => ?_) (fun h24 hF => ?_)
  ·cases ho16 _ (zaa hF)
   cases hΦ _ (hr12 _ hψ18)
   refine wW ?_
   try simp [go_sem, g]
  obtain ⟨g, hF⟩ := Rg g hF
  iterate 2 refine wW ?_
  exact wi hi19 hi20 (hg17 _) (zaa hF)
 refine wC hF [.sh] zeN (fun z4 hF => ?_)
 refine wG hF (fun h5 hF => ?_) fun h5 hF => ?_
 ·exact wV h5 (hj1 _) (zaa hF)
 try simp [go_sem, g, h5]
 refine wC hF [.sh, .sh] ziX (fun z6 hF => ?_)
 try simp [go_sem, g, h5]
 refine wG hF (fun h7 hF => ?_) fun h7 hF => ?_
 ·exact wV h7 (hj1 _) (zaa hF)
 try simp [go_sem, g, h7]
 refine wC hF [.sh, .sh] zkJ (fun z8 hF => ?_)
 try simp [go_sem, g, h7]
 refine wG hF (fun h9 hF => ?_) fun h9 hF => ?_
 ·exact wV h9 (hj1 _) (zaa hF)
 try simp [go_sem, g, h9]
 try intros
 exact wT (hj1 _) (zaa hF)
@[go_sem] def zA1 : List DE := [d0 0 [0], d0 1 [5], d0 2 [16, 17], d0 3 [18], d0 4 [1], d0 5 [5], d0 6 [20, 21], d0 7 [22], d0 8 [19, 23]]
def zeu (a0 : List Int) (a1 : List Int) : Option Bool :=
 if ((a0.length : Int) != (a1.length : Int)) = true then (
 some false) else (
 ((zaq (σ := Unit) (fun i6 s5 =>
 (ix a0 i6).bind fun x12 =>
 (ix a1 i6).bind fun x13 =>
 if (x12 != x13) = true then (
 some (.out (.inr false))) else (
 some (.go ()))) (fun s5 => .inl ()) (a0.length) 0 () : Option (Unit ⊕ Bool)).bind (Sum.elim (fun x4 =>
 some true) some)))
theorem ziG : ∀ {a0} {a1} {r}, zeu a0 a1 = some r → PCalls Tryz.prog 12 [(.sh, vC a0), (.sh, vC a1)] (Eo (.bool r) [.junk, .junk]) := by
 intro a0 a1 r hr
 apply pF 26 [] [] [] [.tmp 4] hr zH1 Tryz.func12
 intro Φ hΦ hF g
 unfold zeu at hF
 iterate 2 (try simp [go_sem, g]; try intros; refine zau ?_)
 refine wI hF (fun h1 hF => ?_) (fun h1 hF => ?_)
 ·exact wl hΦ hF
 iterate 2 (try simp [go_sem, g]; try intros; refine zau ?_)
 refine wS hF (fun x4 => []) (fun x4 hF => ?_) fun _ hj2 hr3 hF => ?_
 ·refine wK [4] ?_
  exact wm hΦ hF
 refine wB ?_
 obtain ⟨b15, hb16, hψ9⟩ := hF
 refine pR hb16 (fun i6 s5 => [(0, .v (vC a0)), (1, .v (vC a1)), (12, .v (.int .i64 (a0.length : Int))), (13, .v (.int .i64 i6))]) (fun s5 _ hN17 => ?_) (fun i6 s5 _ _ hi10 hi11 ho7 hg8 hF => ?_)
 ·exact wn hN17 (hj2 _) hψ9
 refine wK [0, 1, 12, 13, 14] ?_
 refine wu hi10 hi11 ?_
 refine wW ?_
 refine wB ?_
 refine wW ?_
 refine wX zA1 follows ?_
 obtain ⟨x12, g, hF⟩ := Rx g hF
 obtain ⟨x13, g, hF⟩ := Rx g hF
 refine wK [0, 1, 12, 13, 24] ?_
 refine wI hF (fun h14 hF => ?_) (fun h14 hF => ?_)
 ·cases ho7 _ (zaa hF)
  cases hΦ _ (hr3 _ hψ9)
  refine wW ?_
  try simp [go_sem, g]
 refine wW ?_
 exact wi hi10 hi11 (hg8 _) (zaa hF)
def zeP (a0 : Dealing) (a1 : Dealing) : Option Bool :=
 (((zeu a0.Commits a1.Commits).bind fun z4 =>
 if z4 = true then (
 (zeu a0.Shares a1.Shares).bind fun z6 =>
 some z6) else (
 some false) : Option Bool).bind fun x3 =>
 some x3)
theorem zmZ : ∀ {a0} {a1} {r}, zeP a0 a1 = some r → PCalls Tryz.prog 11 [(.sh, vM a0), (.sh, vM a1)] (Eo (.bool r) [.junk, .junk]) := by
 intro a0 a1 r hr
 apply pF 17 [] [] [] [.tmp 4] hr zGe Tryz.func11
 intro Φ hΦ hF g
 unfold zeP at hF
 refine wW ?_
 refine wJ hF (fun x3 => [(4, .v (.bool x3))]) (fun x3 hF => ?_) fun _ hj1 hF => ?_
 ·exact wm hΦ hF
 refine wC hF [.sh, .sh] ziG (fun z4 hF => ?_)
 refine wG hF (fun h5 hF => ?_) fun h5 hF => ?_
 ·try simp [go_sem, g, h5]
  refine wC hF [.sh, .sh] ziG (fun z6 hF => ?_)
  exact wV h5 (hj1 _) (zaa hF)
 exact wV h5 (hj1 _) (zaa hF)
def zgu (a0 : Int) (a1 : Int) : Option Int :=
 gd (a1 ≠ 0) <|
 gd (a1 ≠ 0) <|
 some ((i64.wrap ((a0.tmod a1) + a1)).tmod a1)
theorem zqP : ∀ {a0} {a1} {r}, zgu a0 a1 = some r → PCalls Tryz.prog 14 [(.sh, .int .i64 a0), (.sh, .int .i64 a1)] (Eo (.int .i64 r) [.junk, .junk]) := by
 intro a0 a1 r hr
 apply pF 12 [] [] [] [.tmp 4] hr zHL Tryz.func14
 intro Φ hΦ hF g
 unfold zgu at hF
 obtain ⟨g, hF⟩ := Rz g hF
 obtain ⟨g, hF⟩ := Rz g hF
 cases hΦ _ (zaa hF)
 iterate 2 refine wW ?_
 try simp [go_sem, g]
@[go_sem] def zBa : List DE := [d2 0 [4] 4 4, d1 1 [4] 4, d2 2 [10] 4 10, d0 3 [3], d2 5 [4] 4 4, d0 6 [2], d2 7 [4] 4 4, d0 8 [1], d0 9 [3], d3 4 [9, 11, 12], d3 10 [16, 17, 18], d0 11 [15, 19], ⟨12, [14, 20], [], none, true, true, true⟩, d0 13 [13, 21], d2 14 [8, 22] 8 8]
def zda (a0 : Group) (a1 : Int) (a2 : Int) (a3 : Int) : Option Cipher :=
 (zaP a0 a0.G a3).bind fun z1 =>
 (zaP a0 a1 a3).bind fun z2 =>
 (zba a0 [a2, z2]).bind fun z3 =>
 some (Cipher.mk z1 z3)
theorem zj2 : ∀ {a0} {a1} {a2} {a3} {r}, zda a0 a1 a2 a3 = some r → PCalls Tryz.prog 51 [(.sh, vE a0), (.sh, .int .i64 a1), (.sh, .int .i64 a2), (.sh, .int .i64 a3)] (Eo (vQ r) [.junk, .junk, .junk, .junk]) := by
 intro a0 a1 a2 a3 r hr
 apply pF 23 [] [] [] [.cell 8 41] hr zIc Tryz.func51
 intro Φ hΦ hF g
 unfold zda at hF
 refine wW ?_
 refine wX zBa follows ?_
 refine wC hF [.sh, .sh, .sh] zbu (fun z1 hF => ?_)
 refine wC hF [.sh, .sh, .sh] zbu (fun z2 hF => ?_)
 refine wC hF [.sh, .sh] zcU (fun z3 hF => ?_)
 refine wK [8] ?_
 exact wm hΦ hF
def zcY (a0 : Group) (a1 : Int) (a2 : Int) (a3 : Int) : Option (Cipher × Bool) :=
 (((zcJ a0).bind fun z4 =>
 if (!z4) = true then (
 some true) else (
 (zcc a0 [a1, a2]).bind fun z6 =>
 if (!z6) = true then (
 some true) else (
 (zc1 a0 a3).bind fun z8 =>
 some (!z8))) : Option Bool).bind fun x3 =>
 if x3 = true then (
 some ((Cipher.mk 0 0), false)) else (
 (zda a0 a1 a2 a3).bind fun z10 =>
 some (z10, true)))
theorem zjK : ∀ {a0} {a1} {a2} {a3} {r}, zcY a0 a1 a2 a3 = some r → PCalls Tryz.prog 13 [(.sh, vE a0), (.sh, .int .i64 a1), (.sh, .int .i64 a2), (.sh, .int .i64 a3)] (Eo (.tup [vQ r.1, .bool r.2]) [.junk, .junk, .junk, .junk]) := by
 intro a0 a1 a2 a3 r hr
 apply pF 33 [] [] [] [.cell 8 41, .tmp 9] hr zHx Tryz.func13
 intro Φ hΦ hF g
 unfold zcY at hF
 refine wW ?_
 refine wJ hF (fun x3 => [(1, .v (.int .i64 a1)), (2, .v (.int .i64 a2)), (3, .v (.int .i64 a3)), (4, .bl [.int .i64 a0.P, .int .i64 a0.Q, .int .i64 a0.G]), (8, .bl [.int .i64 0, .int .i64 0]), (26, .v (.bool x3))]) (fun x3 hF => ?_) fun _ hj1 hF => ?_
 ·refine wI hF (fun h9 hF => ?_) (fun h9 hF => ?_)
  ·exact wl hΦ hF
  refine wW ?_
  refine wC hF [.sh, .sh, .sh, .sh] zj2 (fun z10 hF => ?_)
  refine wK [8, 9] ?_
  exact wm hΦ hF
 refine wC hF [.sh] zhr (fun z4 hF => ?_)
 refine wG hF (fun h5 hF => ?_) fun h5 hF => ?_
 ·exact wV h5 (hj1 _) (zaa hF)
 try simp [go_sem, g, h5]
 refine wC hF [.sh, .sh] zfO (fun z6 hF => ?_)
 try simp [go_sem, g, h5]
 refine wG hF (fun h7 hF => ?_) fun h7 hF => ?_
 ·exact wV h7 (hj1 _) (zaa hF)
 try simp [go_sem, g, h7]
 refine wC hF [.sh, .sh] zhS (fun z8 hF => ?_)
 exact wV h7 (hj1 _) (zaa hF)
def zbx (a0 : Int) : Option Bool :=
 (zcS a0).bind fun z1 =>
 some (!z1)
theorem zg6 : ∀ {a0} {r}, zbx a0 = some r → PCalls Tryz.prog 155 [(.sh, .int .i64 a0), (.sh, .fp [.func (.func 61) [] []])] (Eo (.bool r) [.junk, .junk]) := by
 intro a0 r hr
 apply pF 8 [] [] [] [.tmp 3] hr zoQ Tryz.func155
 intro Φ hΦ hF g
 unfold zbx at hF
 refine wW ?_
 refine wC hF [.sh] zgI (fun z1 hF => ?_)
 exact wl hΦ hF
def za9 (a0 : List Int) : Option Int :=
 ((zaq (σ := Unit) (fun i5 s4 =>
 (ix a0 i5).bind fun x11 =>
 (zbx x11).bind fun z12 =>
 if z12 = true then (
 some (.out (.inr i5))) else (
 some (.go ()))) (fun s4 => .inl ()) (a0.length) 0 () : Option (Unit ⊕ Int)).bind (Sum.elim (fun x3 =>
 some (-1)) some))
theorem zdD : ∀ {a0} {r}, za9 a0 = some r → PCalls Tryz.prog 185 [(.sh, vC a0), (.sh, .func (.func 155) [] [.fp [.func (.func 61) [] []]])] (Eo (.int .i64 r) [.junk, .junk]) := by
 intro a0 r hr
 apply pF 19 [] [] [] [.tmp 4] hr zo0 Tryz.func185
 intro Φ hΦ hF g
 unfold za9 at hF
 iterate 2 (try simp [go_sem, g]; try intros; refine zau ?_)
 refine wS hF (fun x3 => []) (fun x3 hF => ?_) fun _ hj1 hr2 hF => ?_
 ·exact wl hΦ hF
 refine wB ?_
 obtain ⟨b14, hb15, hψ8⟩ := hF
 refine pR hb15 (fun i5 s4 => [(0, .v (vC a0)), (1, .v (.func (.func 155) [] [.fp [.func (.func 61) [] []]])), (7, .v (.int .i64 (a0.length : Int))), (8, .v (.int .i64 i5))]) (fun s4 _ hN16 => ?_) (fun i5 s4 _ _ hi9 hi10 ho6 hg7 hF => ?_)
 ·exact wn hN16 (hj1 _) hψ8
 refine wW ?_
 refine wu hi9 hi10 ?_
 refine wW ?_
 refine wB ?_
 obtain ⟨x11, g, hF⟩ := Rx g hF
 refine wW ?_
 refine wC hF [.sh] zg6 (fun z12 hF => ?_)
 refine wK [0, 1, 5, 7, 8, 16] ?_
 refine wI hF (fun h13 hF => ?_) (fun h13 hF => ?_)
 ·cases ho6 _ (zaa hF)
  cases hΦ _ (hr2 _ hψ8)
  refine wW ?_
  try simp [go_sem, g]
 refine wW ?_
 exact wi hi9 hi10 (hg7 _) (zaa hF)
def za2 (a0 : List Int) : Option Bool :=
 (za9 a0).bind fun z1 =>
 some (decide (0 ≤ z1))
theorem zdk : ∀ {a0} {r}, za2 a0 = some r → PCalls Tryz.prog 154 [(.sh, vC a0), (.sh, .func (.func 155) [] [.fp [.func (.func 61) [] []]])] (Eo (.bool r) [.junk, .junk]) := by
 intro a0 r hr
 apply pF 9 [] [] [] [.tmp 4] hr zo3 Tryz.func154
 intro Φ hΦ hF g
 unfold za2 at hF
 refine wW ?_
 refine wC hF [.sh, .sh] zdD (fun z1 hF => ?_)
 exact wl hΦ hF
def zcn (a0 : List Int) : Option Bool :=
 (za2 a0).bind fun z1 =>
 some (!z1)
theorem zhq : ∀ {a0} {r}, zcn a0 = some r → PCalls Tryz.prog 91 [(.sh, vC a0), (.sh, .func (.func 61) [] [])] (Eo (.bool r) [.junk, .junk]) := by
 intro a0 r hr
 apply pF 9 [] [] [1000000] [.tmp 4] hr zsq Tryz.func91
 intro Φ hΦ hF g
 unfold zcn at hF
 refine wW ?_
 refine wC hF [.sh, .sh] zdk (fun z1 hF => ?_)
 exact wl hΦ hF
def zeG (a0 : List Int) : Option Bool :=
 ((zaq (σ := Unit) (fun i5 s4 =>
 (ix a0 i5).bind fun x11 =>
 gd (0 ≤ i5) <|
 gd (0 ≤ i5.toNat ∧ i5.toNat ≤ a0.length) <|
 (za8 ((a0.take i5.toNat).drop 0) x11).bind fun z12 =>
 if z12 = true then (
 some (.out (.inr false))) else (
 some (.go ()))) (fun s4 => .inl ()) (a0.length) 0 () : Option (Unit ⊕ Bool)).bind (Sum.elim (fun x3 =>
 some true) some))
theorem zkA : ∀ {a0} {r}, zeG a0 = some r → PCalls Tryz.prog 106 [(.sh, vC a0)] (Eo (.bool r) [.junk]) := by
 intro a0 r hr
 apply pF 18 [] [] [] [.tmp 2] hr zBb Tryz.func106
 intro Φ hΦ hF g
 unfold zeG at hF
 iterate 2 (try simp [go_sem, g]; try intros; refine zau ?_)
 refine wS hF (fun x3 => []) (fun x3 hF => ?_) fun _ hj1 hr2 hF => ?_
 ·exact wl hΦ hF
 refine wB ?_
 obtain ⟨b14, hb15, hψ8⟩ := hF
 refine pR hb15 (fun i5 s4 => [(0, .v (vC a0)), (5, .v (vC a0)), (6, .v (.int .i64 (a0.length : Int))), (7, .v (.int .i64 i5))]) (fun s4 _ hN16 => ?_) (fun i5 s4 _ _ hi9 hi10 ho6 hg7 hF => ?_)
 ·exact wn hN16 (hj1 _) hψ8
 refine wW ?_
 refine wu hi9 hi10 ?_
 refine wW ?_
 refine wB ?_
 obtain ⟨x11, g, hF⟩ := Rx g hF
 refine wK [0, 3, 4, 5, 6, 7] ?_
 obtain ⟨g, hF⟩ := Rg g hF
 obtain ⟨g, hF⟩ := Rg g hF
 refine wC hF [.sh, .sh] zec (fun z12 hF => ?_)
 refine wW ?_
 refine wI hF (fun h13 hF => ?_) (fun h13 hF => ?_)
 ·cases ho6 _ (zaa hF)
  cases hΦ _ (hr2 _ hψ8)
  refine wW ?_
  try simp [go_sem, g]
 refine wW ?_
 exact wi hi9 hi10 (hg7 _) (zaa hF)
def zcZ (a0 : List Int) : Option Bool :=
 (((zcn a0).bind fun z4 =>
 if z4 = true then (
 (zeG a0).bind fun z6 =>
 some z6) else (
 some false) : Option Bool).bind fun x3 =>
 some x3)
theorem zhV : ∀ {a0} {r}, zcZ a0 = some r → PCalls Tryz.prog 53 [(.sh, vC a0)] (Eo (.bool r) [.junk]) := by
 intro a0 r hr
 apply pF 9 [] [] [] [.tmp 2] hr zGE Tryz.func53
 intro Φ hΦ hF g
 unfold zcZ at hF
 refine wW ?_
 refine wJ hF (fun x3 => [(2, .v (.bool x3))]) (fun x3 hF => ?_) fun _ hj1 hF => ?_
 ·exact wm hΦ hF
 refine wC hF [.sh, .sh] zhq (fun z4 hF => ?_)
 refine wG hF (fun h5 hF => ?_) fun h5 hF => ?_
 ·try simp [go_sem, g, h5]
  refine wC hF [.sh] zkA (fun z6 hF => ?_)
  exact wV h5 (hj1 _) (zaa hF)
 exact wV h5 (hj1 _) (zaa hF)
@[go_sem] def zuG : List DE := [d2 0 [5] 5 5, d0 1 [1], d0 2 [2], d2 4 [5] 5 5, d0 5 [2], d0 6 [3], d1 8 [12] 12, d2 9 [31] 12 31, d3 3 [25], d3 7 [27, 28, 29], d0 10 [26, 30, 32], ⟨11, [33], [], none, true, true, true⟩, d3 12 [23, 24, 34], d0 13 [35], d0 14 [22], d0 15 [22], d0 16 [36], d0 17 [37]]
@[go_sem] def zum : List DE := [d1 0 [12] 12, d2 1 [51] 12 51, d2 2 [5] 5 5, d0 3 [16], d0 4 [13], d0 5 [3], d0 6 [15], d0 7 [56, 57], d0 8 [58], d0 9 [55, 59], d0 10 [54, 60], d3 11 [53, 61], d0 12 [62], ⟨13, [52, 63], [], none, true, false, false⟩, d1 14 [12] 12, d2 15 [65, 64] 12 65]
def zf3 (a0 : Group) (a1 : ByteArray) (a2 : (List (List Int))) (a3 : List Int) (a4 : List Int) : Option (Proof × Bool) :=
 (zbj a0 a2 a4).bind fun z1 =>
 (zaU a2).bind fun z2 =>
 (zbj a0 a2 a3).bind fun z3 =>
 (zaU [z2, z3, z1]).bind fun z4 =>
 (zbo a0 a1 z4).bind fun z5 =>
 if (!z5.2) = true then (
 some ((Proof.mk [] [] []), false)) else (
 ((zaq (σ := (List Int) × List Int × List Int) (fun i21 s20 =>
 (ix a4 i21).bind fun x27 =>
 (ix a3 i21).bind fun x28 =>
 (zcq a0 (i64.wrap (x27 + (i64.wrap (z5.1 * x28))))).bind fun z29 =>
 gd ((s20.2.2.length + 1) * 8 ≤ 140737488355328 ∧ s20.2.2.length + 1 ≤ 4611686018427387904) <|
 some (.go (s20.1, s20.2.1, s20.2.2 ++ [z29]))) (fun s20 => (s20.1, s20.2.1, s20.2.2)) (a4.length) 0 (z1, [z5.1], []) : Option ((List Int × List Int × List Int))).bind fun x9 =>
 some ((Proof.mk x9.1 x9.2.1 x9.2.2), true)))
theorem zpr : ∀ {a0} {a1} {a2} {a3} {a4} {r}, zf3 a0 a1 a2 a3 a4 = some r → PCalls Tryz.prog 107 [(.sh, vE a0), (.sh, .str a1), (.sh, vH a2), (.sh, vC a3), (.sh, vC a4)] (Eo (.tup [vU r.1, .bool r.2]) [.junk, .junk, .junk, .junk, .junk]) := by
 intro a0 a1 a2 a3 a4 r hr
 apply pFz 68 [] [26, 30, 32] [] [.cell 10 52, .tmp 11] hr zwb Tryz.func107
 intro Φ hΦ hF g
 unfold zf3 at hF
 refine wW ?_
 refine wC hF [.sh, .sh, .sh] zds (fun z1 hF => ?_)
 refine wK [1, 2, 3, 4, 5, 10, 12] ?_
 refine wX zuG follows ?_
 refine wC hF [.sh] zbT (fun z2 hF => ?_)
 refine wC hF [.sh, .sh, .sh] zds (fun z3 hF => ?_)
 refine wC hF [.sh] zbT (fun z4 hF => ?_)
 refine wC hF [.sh, .sh, .sh] ze2 (fun z5 hF => ?_)
 refine wK [3, 4, 5, 10, 12, 13, 14] ?_
 refine wW ?_
 refine wI hF (fun h6 hF => ?_) (fun h6 hF => ?_)
 ·exact wl hΦ hF
 iterate 3 (try simp [go_sem, g]; try intros; refine zau ?_)
 refine wJ hF (fun x9 => [(10, .bl [.sl true 1 [], .sl true 1 [], .sl true 1 []]), (12, .bl [vC x9.1, vD x9.2.1, vD x9.2.2])]) (fun x9 hF => ?_) fun _ hj7 hF => ?_
 ·refine wK [10, 11] ?_
  exact wm hΦ hF
 refine wB ?_
 obtain ⟨b30, hb31, hψ24⟩ := hF
 refine pR hb31 (fun i21 s20 => [(3, .v (vC a3)), (5, .bl [.int .i64 a0.P, .int .i64 a0.Q, .int .i64 a0.G]), (10, .bl [.sl true 1 [], .sl true 1 [], .sl true 1 []]), (12, .bl [vC s20.1, vD s20.2.1, vD s20.2.2]), (13, .v (.int .i64 z5.1)), (44, .v (vC a4)), (45, .v (.int .i64 (a4.length : Int))), (46, .v (.int .i64 i21))]) (fun s20 _ hN32 => ?_) (fun i21 s20 _ _ hi25 hi26 ho22 hg23 hF => ?_)
 ·exact wn hN32 (hj7 _) hψ24
 refine wK [3, 5, 10, 12, 13, 44, 45, 46, 47] ?_
 refine wu hi25 hi26 ?_
 refine wW ?_
 refine wB ?_
 obtain ⟨x27, g, hF⟩ := Rx g hF
 refine wW ?_
 refine wX zum follows ?_
 obtain ⟨x28, g, hF⟩ := Rx g hF
 refine wC hF [.sh, .sh] zgQ (fun z29 hF => ?_)
 obtain ⟨g, hF⟩ := Rg g hF
 refine wK [3, 5, 10, 12, 13, 44, 45, 46] ?_
 exact wi hi25 hi26 (hg23 _) (zaa hF)
def zbP (a0 : Group) (a1 : ByteArray) (a2 : (List (List Int))) (a3 : List Int) (a4 : List Int) : Option (Proof × Bool) :=
 (zbj a0 a2 a4).bind fun z1 =>
 (zaU a2).bind fun z2 =>
 (zbj a0 a2 a3).bind fun z3 =>
 (zaU [z2, z3, z1]).bind fun z4 =>
 (zbo a0 a1 z4).bind fun z5 =>
 if (!z5.2) = true then (
 some ((Proof.mk [] [] []), false)) else (
 ((zaq (σ := (List Int) × List Int × List Int) (fun i21 s20 =>
 (ix a4 i21).bind fun x27 =>
 (ix a3 i21).bind fun x28 =>
 (zcq a0 (i64.wrap (x27 + (i64.wrap (z5.1 * x28))))).bind fun z29 =>
 gd ((s20.2.2.length + 1) * 8 ≤ 140737488355328 ∧ s20.2.2.length + 1 ≤ 4611686018427387904) <|
 some (.go (s20.1, s20.2.1, s20.2.2 ++ [z29]))) (fun s20 => (s20.1, s20.2.1, s20.2.2)) (a4.length) 0 (z1, [z5.1], []) : Option ((List Int × List Int × List Int))).bind fun x9 =>
 some ((Proof.mk x9.1 x9.2.1 x9.2.2), true)))
theorem zgw : ∀ {a0} {a1} {a2} {a3} {a4} {r}, zbP a0 a1 a2 a3 a4 = some r → PCalls Tryz.prog 107 [(.sh, vE a0), (.sh, .str a1), (.sh, vH a2), (.mv, vD a3), (.mv, vD a4)] (Eo (.tup [vU r.1, .bool r.2]) [.junk, .junk, .junk, .junk, .junk]) := by
 intro a0 a1 a2 a3 a4 r hr
 apply pFz 68 [] [26, 30, 32] [] [.cell 10 52, .tmp 11] hr zwb Tryz.func107
 intro Φ hΦ hF g
 unfold zbP at hF
 refine wW ?_
 refine wC hF [.sh, .sh, .sh] zds (fun z1 hF => ?_)
 refine wK [1, 2, 3, 4, 5, 10, 12] ?_
 refine wX zuG follows ?_
 refine wC hF [.sh] zbT (fun z2 hF => ?_)
 refine wC hF [.sh, .sh, .sh] zds (fun z3 hF => ?_)
 refine wC hF [.sh] zbT (fun z4 hF => ?_)
 refine wC hF [.sh, .sh, .sh] ze2 (fun z5 hF => ?_)
 refine wK [3, 4, 5, 10, 12, 13, 14] ?_
 refine wW ?_
 refine wI hF (fun h6 hF => ?_) (fun h6 hF => ?_)
 ·exact wl hΦ hF
 iterate 3 (try simp [go_sem, g]; try intros; refine zau ?_)
 refine wJ hF (fun x9 => [(10, .bl [.sl true 1 [], .sl true 1 [], .sl true 1 []]), (12, .bl [vC x9.1, vD x9.2.1, vD x9.2.2])]) (fun x9 hF => ?_) fun _ hj7 hF => ?_
 ·refine wK [10, 11] ?_
  exact wm hΦ hF
 refine wB ?_
 obtain ⟨b30, hb31, hψ24⟩ := hF
 refine pR hb31 (fun i21 s20 => [(3, .v (vD a3)), (4, .v (vD a4)), (5, .bl [.int .i64 a0.P, .int .i64 a0.Q, .int .i64 a0.G]), (10, .bl [.sl true 1 [], .sl true 1 [], .sl true 1 []]), (12, .bl [vC s20.1, vD s20.2.1, vD s20.2.2]), (13, .v (.int .i64 z5.1)), (44, .rf 4 []), (45, .v (.int .i64 (a4.length : Int))), (46, .v (.int .i64 i21))]) (fun s20 _ hN32 => ?_) (fun i21 s20 _ _ hi25 hi26 ho22 hg23 hF => ?_)
 ·exact wn hN32 (hj7 _) hψ24
 refine wK [3, 4, 5, 10, 12, 13, 44, 45, 46, 47] ?_
 refine wu hi25 hi26 ?_
 refine wW ?_
 refine wB ?_
 obtain ⟨x27, g, hF⟩ := Rx g hF
 refine wW ?_
 refine wX zum follows ?_
 obtain ⟨x28, g, hF⟩ := Rx g hF
 refine wC hF [.sh, .sh] zgQ (fun z29 hF => ?_)
 obtain ⟨g, hF⟩ := Rg g hF
 refine wK [3, 4, 5, 10, 12, 13, 44, 45, 46] ?_
 exact wi hi25 hi26 (hg23 _) (zaa hF)
def zdc (a0 : Group) (a1 : Cipher) (a2 : Int) (a3 : Int) (a4 : Int) : Option Partial :=
 (zaP a0 a1.A a3).bind fun z1 =>
 (zbP a0 (⟨#[112, 97, 114, 116, 105, 97, 108]⟩ : ByteArray) [[a0.G], [a1.A]] [a3] [a4]).bind fun z2 =>
 some (Partial.mk a2 z1 z2.1)
theorem zkl : ∀ {a0} {a1} {a2} {a3} {a4} {r}, zdc a0 a1 a2 a3 a4 = some r → PCalls Tryz.prog 54 [(.sh, vE a0), (.sh, vQ a1), (.sh, .int .i64 a2), (.sh, .int .i64 a3), (.sh, .int .i64 a4)] (Eo (vAC r) [.junk, .junk, .junk, .junk, .junk]) := by
 intro a0 a1 a2 a3 a4 r hr
 apply pF 41 [] [29] [] [.cell 10 54] hr zFk Tryz.func54
 intro Φ hΦ hF g
 unfold zdc at hF
 refine wW ?_
 refine wC hF [.sh, .sh, .sh] zbu (fun z1 hF => ?_)
 refine wW ?_
 refine wK [2, 3, 4, 5, 10, 11, 12] ?_
 refine wC hF [.sh, .sh, .sh, .mv, .mv] zgw (fun z2 hF => ?_)
 refine wK [2, 10, 11, 13] ?_
 exact wl hΦ hF
@[go_sem] def zB2 : List DE := [d0 0 [12], d2 1 [5] 5 5, d2 2 [6] 6 6, d0 3 [14], d0 4 [3], d0 5 [13], d0 6 [67, 68], d0 7 [69], d0 8 [4], d0 9 [13], d0 10 [71, 72], d0 11 [73], d3 12 [64, 65, 66, 70, 74], d0 13 [75], ⟨14, [63, 76], [], none, true, false, false⟩, d0 15 [77]]
def zdi (a0 : Group) (a1 : Cipher) (a2 : List Int) (a3 : List Int) (a4 : List Int) : Option (List Partial × Bool) :=
 (((zbX a0).bind fun z4 =>
 if (!z4) = true then (
 some true) else (
 (zbn a0 a1).bind fun z6 =>
 if (!z6) = true then (
 some true) else (
 (zcZ a2).bind fun z8 =>
 if (!z8) = true then (
 some true) else (
 if ((a3.length : Int) != (a2.length : Int)) = true then (
 some true) else (
 if ((a4.length : Int) != (a2.length : Int)) = true then (
 some true) else (
 (zbm a0 a3).bind fun z12 =>
 if (!z12) = true then (
 some true) else (
 (zbm a0 a4).bind fun z14 =>
 some (!z14))))))) : Option Bool).bind fun x3 =>
 if x3 = true then (
 some ([], false)) else (
 ((zaq (σ := (List Partial)) (fun i20 s19 =>
 (ix a2 i20).bind fun x26 =>
 (ix a3 i20).bind fun x27 =>
 (ix a4 i20).bind fun x28 =>
 (zdc a0 a1 x26 x27 x28).bind fun z29 =>
 gd ((s19.length + 1) * 88 ≤ 140737488355328 ∧ s19.length + 1 ≤ 4611686018427387904) <|
 some (.go (s19 ++ [z29]))) (fun s19 => s19) (a2.length) 0 [] : Option ((List Partial))).bind fun x18 =>
 some (x18, true))))
theorem zh7 : ∀ {a0} {a1} {a2} {a3} {a4} {r}, zdi a0 a1 a2 a3 a4 = some r → PCalls Tryz.prog 15 [(.sh, vE a0), (.sh, vQ a1), (.sh, vC a2), (.sh, vC a3), (.sh, vC a4)] (Eo (.tup [vW r.1, .bool r.2]) [.junk, .junk, .junk, .junk, .junk]) := by
 intro a0 a1 a2 a3 a4 r hr
 apply pF 80 [] [] [] [.tmp 10, .tmp 11] hr zFR Tryz.func15
 intro Φ hΦ hF g
 unfold zdi at hF
 refine wW ?_
 refine wJ hF (fun x3 => [(2, .v (vC a2)), (3, .v (vC a3)), (4, .v (vC a4)), (5, .bl [.int .i64 a0.P, .int .i64 a0.Q, .int .i64 a0.G]), (6, .bl [.int .i64 a1.A, .int .i64 a1.B]), (54, .v (.bool x3))]) (fun x3 hF => ?_) fun _ hj1 hF => ?_
 ·refine wI hF (fun h15 hF => ?_) (fun h15 hF => ?_)
  ·exact wl hΦ hF
  iterate 3 (try simp [go_sem, g]; try intros; refine zau ?_)
  refine wJ hF (fun x18 => [(12, .v (vW x18))]) (fun x18 hF => ?_) fun _ hj16 hF => ?_
  ·refine wK [10, 11] ?_
   exact wm hΦ hF
  refine wB ?_
  obtain ⟨b30, hb31, hψ23⟩ := hF
  refine pR hb31 (fun i20 s19 => [(3, .v (vC a3)), (4, .v (vC a4)), (5, .bl [.int .i64 a0.P, .int .i64 a0.Q, .int .i64 a0.G]), (6, .bl [.int .i64 a1.A, .int .i64 a1.B]), (12, .v (vW s19)), (56, .v (vC a2)), (57, .v (.int .i64 (a2.length : Int))), (58, .v (.int .i64 i20))]) (fun s19 _ hN32 => ?_) (fun i20 s19 _ _ hi24 hi25 ho21 hg22 hF => ?_)
  ·exact wn hN32 (hj16 _) hψ23
  refine wK [3, 4, 5, 6, 12, 56, 57, 58, 59] ?_
  refine wu hi24 hi25 ?_
  refine wW ?_
  refine wB ?_
  obtain ⟨x26, g, hF⟩ := Rx g hF
  refine wW ?_
  refine wX zB2 follows ?_
  obtain ⟨x27, g, hF⟩ := Rx g hF
  obtain ⟨x28, g, hF⟩ := Rx g hF
  refine wC hF [.sh, .sh, .sh, .sh, .sh] zkl (fun z29 hF => ?_)
  obtain ⟨g, hF⟩ := Rg g hF
  refine wK [3, 4, 5, 6, 12, 56, 57, 58] ?_
  exact wi hi24 hi25 (hg22 _) (zaa hF)
 refine wC hF [.sh] zew (fun z4 hF => ?_)
 refine wG hF (fun h5 hF => ?_) fun h5 hF => ?_
 ·exact wV h5 (hj1 _) (zaa hF)
 try simp [go_sem, g, h5]
 refine wC hF [.sh, .sh] zdG (fun z6 hF => ?_)
 try simp [go_sem, g, h5]
 refine wG hF (fun h7 hF => ?_) fun h7 hF => ?_
 ·exact wV h7 (hj1 _) (zaa hF)
 try simp [go_sem, g, h7]
 refine wC hF [.sh] zhV (fun z8 hF => ?_)
 try simp [go_sem, g, h7]
 refine wG hF (fun h9 hF => ?_) fun h9 hF => ?_
 ·exact wV h9 (hj1 _) (zaa hF)
 try simp [go_sem, g, h9]
 try intros
 refine wG hF (fun h10 hF => ?_) fun h10 hF => ?_
 ·exact wV h10 (hj1 _) (zaa hF)
 try simp [go_sem, g, h10]
 try intros
 refine wG hF (fun h11 hF => ?_) fun h11 hF => ?_
 ·exact wV h11 (hj1 _) (zaa hF)
 try simp [go_sem, g, h11]
 refine wC hF [.sh, .sh] zdb (fun z12 hF => ?_)
 try simp [go_sem, g, h11]
 refine wG hF (fun h13 hF => ?_) fun h13 hF => ?_
 ·exact wV h13 (hj1 _) (zaa hF)
 try simp [go_sem, g, h13]
 refine wC hF [.sh, .sh] zdb (fun z14 hF => ?_)
 exact wV h13 (hj1 _) (zaa hF)
@[go_sem] def zCY : List DE := [d2 0 [3] 3 3, d0 1 [1], d2 2 [3] 3 3, d0 3 [2], d3 4 [9, 10], d0 5 [8, 11], ⟨6, [7, 12], [], none, true, true, true⟩, d0 7 [13]]
def zd3 (a0 : Group) (a1 : Int) (a2 : Int) : Option Int :=
 (zcV a0 a2).bind fun z1 =>
 (zba a0 [a1, z1]).bind fun z2 =>
 some z2
theorem zlJ : ∀ {a0} {a1} {a2} {r}, zd3 a0 a1 a2 = some r → PCalls Tryz.prog 64 [(.sh, vE a0), (.sh, .int .i64 a1), (.sh, .int .i64 a2)] (Eo (.int .i64 r) [.junk, .junk, .junk]) := by
 intro a0 a1 a2 r hr
 apply pF 14 [] [] [] [.tmp 6] hr zE0 Tryz.func64
 intro Φ hΦ hF g
 unfold zd3 at hF
 refine wW ?_
 refine wX zCY follows ?_
 refine wC hF [.sh, .sh] ziu (fun z1 hF => ?_)
 refine wC hF [.sh, .sh] zcU (fun z2 hF => ?_)
 refine wK [6] ?_
 exact wm hΦ hF
@[go_sem] def zB1 : List DE := [d1 0 [6] 6, d2 1 [61] 6 61, d0 2 [], d0 3 [3], d0 5 [5], ⟨4, [63, 64], [], none, true, false, false⟩, d3 6 [62, 65, 66], d0 7 [67]]
@[go_sem] def zA9 : List DE := [d2 0 [6] 6 6, d2 1 [6] 6 6, d1 2 [7] 7, d2 3 [70] 7 70, d0 4 [2], d0 6 [14], d0 7 [74], d0 8 [75], ⟨5, [69, 71, 72], [], none, false, true, false⟩, d3 9 [68, 73, 76], d0 10 [77]]
@[go_sem] def zCX : List DE := [d2 0 [6] 6 6, d0 1 [15], d2 2 [6] 6 6, d2 3 [6] 6 6, d1 4 [7] 7, d2 5 [89] 7 89, d0 6 [17], d0 8 [14], d0 9 [16], d0 10 [94], d0 11 [93, 95], d0 12 [96], ⟨7, [88, 90, 91], [], none, false, true, false⟩, d3 13 [87, 92, 97], d0 14 [86, 98], ⟨15, [85, 99], [], none, true, true, true⟩, d0 16 [100]]
def zbD (a0 : Group) (a1 : Cipher) (a2 : Int) (a3 : List Int) (a4 : List Int) (a5 : Int) : Option (Int × Bool) :=
 (((zbX a0).bind fun z4 =>
 if (!z4) = true then (
 some true) else (
 (zbn a0 a1).bind fun z6 =>
 if (!z6) = true then (
 some true) else (
 (zbZ a0 a2).bind fun z8 =>
 if (!z8) = true then (
 some true) else (
 (zcZ a3).bind fun z10 =>
 if (!z10) = true then (
 some true) else (
 (zcS a5).bind fun z12 =>
 if (!z12) = true then (
 some true) else (
 (za8 a3 a5).bind fun z14 =>
 if z14 = true then (
 some true) else (
 if ((a4.length : Int) != (a3.length : Int)) = true then (
 some true) else (
 (zbm a0 a4).bind fun z17 =>
 some (!z17)))))))) : Option Bool).bind fun x3 =>
 if x3 = true then (
 some (0, false)) else (
 gd (([0].length + a3.length) * 8 ≤ 140737488355328 ∧ [0].length + a3.length ≤ 4611686018427387904) <|
 (zdY a0.Q ([0] ++ a3) a5).bind fun z19 =>
 (ix z19 0).bind fun x20 =>
 (zd3 a0 a1.B a2).bind fun z21 =>
 (zaP a0 z21 x20).bind fun z22 =>
 ((zaq (σ := Int) (fun i27 s26 =>
 (ix a4 i27).bind fun x33 =>
 (ix z19 (i64.wrap (i27 + 1))).bind fun x34 =>
 (zaP a0 a1.A x33).bind fun z35 =>
 (zaP a0 z35 x34).bind fun z36 =>
 (zba a0 [s26, z36]).bind fun z37 =>
 some (.go z37)) (fun s26 => s26) (a4.length) 0 z22 : Option Int).bind fun x25 =>
 some (x25, true))))
theorem zji : ∀ {a0} {a1} {a2} {a3} {a4} {a5} {r}, zbD a0 a1 a2 a3 a4 a5 = some r → PCalls Tryz.prog 17 [(.sh, vE a0), (.sh, vQ a1), (.sh, .int .i64 a2), (.sh, vC a3), (.sh, vC a4), (.sh, .int .i64 a5)] (Eo (.tup [.int .i64 r.1, .bool r.2]) [.junk, .junk, .junk, .junk, .junk, .junk]) := by
 intro a0 a1 a2 a3 a4 a5 r hr
 apply pF 103 [] [] [] [.tmp 12, .tmp 13] hr zFN Tryz.func17
 intro Φ hΦ hF g
 unfold zbD at hF
 refine wW ?_
 refine wJ hF (fun x3 => [(2, .v (.int .i64 a2)), (3, .v (vC a3)), (4, .v (vC a4)), (5, .v (.int .i64 a5)), (6, .bl [.int .i64 a0.P, .int .i64 a0.Q, .int .i64 a0.G]), (7, .bl [.int .i64 a1.A, .int .i64 a1.B]), (60, .v (.bool x3))]) (fun x3 hF => ?_) fun _ hj1 hF => ?_
 ·refine wI hF (fun h18 hF => ?_) (fun h18 hF => ?_)
  ·exact wl hΦ hF
  refine wW ?_
  refine wX zB1 follows ?_
  obtain ⟨g, hF⟩ := Rg g hF
  refine wC hF [.sh, .sh, .sh] zi0 (fun z19 hF => ?_)
  refine wK [2, 4, 6, 7, 14] ?_
  refine wX zA9 follows ?_
  obtain ⟨x20, g, hF⟩ := Rxn g 0 hF
  refine wD hF zlJ (fun z21 hF => ?_)
  refine wC hF [.sh, .sh, .sh] zbu (fun z22 hF => ?_)
  refine wK [4, 6, 7, 14, 15] ?_
  try simp [go_sem, g]
  try intros
  refine zau ?_
  refine wJ hF (fun x25 => [(15, .v (.int .i64 x25))]) (fun x25 hF => ?_) fun _ hj23 hF => ?_
  ·exact wl hΦ hF
  refine wB ?_
  obtain ⟨b38, hb39, hψ30⟩ := hF
  refine pR hb39 (fun i27 s26 => [(6, .bl [.int .i64 a0.P, .int .i64 a0.Q, .int .i64 a0.G]), (7, .bl [.int .i64 a1.A, .int .i64 a1.B]), (14, .v (vD z19)), (15, .v (.int .i64 s26)), (78, .v (vC a4)), (79, .v (.int .i64 (a4.length : Int))), (80, .v (.int .i64 i27))]) (fun s26 _ hN40 => ?_) (fun i27 s26 _ _ hi31 hi32 ho28 hg29 hF => ?_)
  ·exact wn hN40 (hj23 _) hψ30
  refine wW ?_
  refine wu hi31 hi32 ?_
  refine wW ?_
  refine wB ?_
  obtain ⟨x33, g, hF⟩ := Rx g hF
  refine wW ?_
  refine wX zCX follows ?_
  obtain ⟨x34, g, hF⟩ := Rx g hF
  refine wD hF zbu (fun z35 hF => ?_)
  refine wC hF [.sh, .sh, .sh] zbu (fun z36 hF => ?_)
  refine wC hF [.sh, .sh] zcU (fun z37 hF => ?_)
  refine wK [6, 7, 14, 15, 78, 79, 80] ?_
  exact wi hi31 hi32 (hg29 _) (zaa hF)
 refine wC hF [.sh] zew (fun z4 hF => ?_)
 refine wG hF (fun h5 hF => ?_) fun h5 hF => ?_
 ·exact wV h5 (hj1 _) (zaa hF)
 try simp [go_sem, g, h5]
 refine wC hF [.sh, .sh] zdG (fun z6 hF => ?_)
 try simp [go_sem, g, h5]
 refine wG hF (fun h7 hF => ?_) fun h7 hF => ?_
 ·exact wV h7 (hj1 _) (zaa hF)
 try simp [go_sem, g, h7]
 refine wC hF [.sh, .sh] zep (fun z8 hF => ?_)
 try simp [go_sem, g, h7]
 refine wG hF (fun h9 hF => ?_) fun h9 hF => ?_
 ·exact wV h9 (hj1 _) (zaa hF)
 try simp [go_sem, g, h9]
 refine wC hF [.sh] zhV (fun z10 hF => ?_)
 try simp [go_sem, g, h9]
 refine wG hF (fun h11 hF => ?_) fun h11 hF => ?_
 ·exact wV h11 (hj1 _) (zaa hF)
 try simp [go_sem, g, h11]
 refine wC hF [.sh] zgI (fun z12 hF => ?_)
 try simp [go_sem, g, h11]
 refine wG hF (fun h13 hF => ?_) fun h13 hF => ?_
 ·exact wV h13 (hj1 _) (zaa hF)
 try simp [go_sem, g, h13]
 refine wC hF [.sh, .sh] zec (fun z14 hF => ?_)
 try simp [go_sem, g, h13]
 refine wG hF (fun h15 hF => ?_) fun h15 hF => ?_
 ·exact wV h15 (hj1 _) (zaa hF)
 try simp [go_sem, g, h15]
 try intros
 refine wG hF (fun h16 hF => ?_) fun h16 hF => ?_
 ·exact wV h16 (hj1 _) (zaa hF)
 try simp [go_sem, g, h16]
 refine wC hF [.sh, .sh] zdb (fun z17 hF => ?_)
 exact wV h16 (hj1 _) (zaa hF)
@[go_sem] def zAA : List DE := [d2 0 [5] 5 5, d1 1 [8] 8, d2 2 [112] 8 112, d0 3 [113], d0 4 [114], d1 5 [8] 8, d2 6 [116] 8 116, d0 7 [117], d0 8 [118], d0 9 [1], d0 10 [120], d0 11 [121], d1 12 [5] 5, d2 13 [123] 5 123, d0 19 [], ⟨14, [122, 124], [], none, false, true, false⟩, d3 15 [111, 115, 119, 125], d0 16 [126], d0 17 [110], d0 18 [110], d2 20 [20, 127] 20 20, d0 21 [128]]
@[go_sem] def zAe : List DE := [d2 0 [5] 5 5, d2 1 [20] 20 20, d0 2 [23], d1 3 [8] 8, d2 4 [151] 8 151, d0 5 [22], d0 6 [152, 153], d0 7 [23], d3 8 [148, 149, 150, 154, 155], d0 9 [156], d0 10 [147], d0 11 [147], d0 12 [157], d0 13 [158]]
@[go_sem] def zCW : List DE := [d2 0 [5] 5 5, d2 1 [20] 20 20, d0 2 [33], d0 3 [23], d0 4 [242], d1 5 [8] 8, d2 6 [244] 8 244, d0 7 [22], d0 8 [245, 246], d3 9 [239, 240, 241, 243, 247], d0 10 [248], d0 11 [238], d0 12 [238], d0 13 [249], d0 14 [250]]
def zdv (a0 : List Int) (a1 : List Int) : Option Bool :=
 if decide (1048576 < (i64.wrap ((a0.length : Int) + (a1.length : Int)))) = true then (
 some true) else (
 (zcX a0).bind fun z2 =>
 (zd4 z2.1 z2.2.1 z2.2.2).bind fun z3 =>
 (zd8 z2.1 z2.2.1 z2.2.2).bind fun z4 =>
 (zgb a1).bind fun z5 =>
 (zd2 z5.1 z5.2.2.1 z5.2.1 z5.2.2.2).bind fun z6 =>
 (zd6 z5.1 z5.2.2.1 z5.2.1 z5.2.2.2).bind fun z7 =>
 ((if (z3.2 != z4.2) = true then (
 some true) else (
 (zeP z3.1 z4.1).bind fun z12 =>
 if (!z12) = true then (
 some true) else (
 if (z6.2 != z7.2) = true then (
 some true) else (
 (zeu z6.1 z7.1).bind fun z15 =>
 some (!z15)))) : Option Bool).bind fun x10 =>
 if x10 = true then (
 some false) else (
 if (!z3.2) = true then (
 some true) else (
 (ix z3.1.Commits 0).bind fun x18 =>
 (zgu (i64.wrap ((a1.length : Int) + 1)) z2.1.Q).bind fun z19 =>
 (zcY z2.1 x18 x18 z19).bind fun z20 =>
 ((zbs (σ := (List Int) × List Int × Int) (fun s24 =>
 if decide (s24.2.2 ≤ (z2.2.1.length : Int)) = true then (
 gd ((s24.1.length + 1) * 8 ≤ 140737488355328 ∧ s24.1.length + 1 ≤ 4611686018427387904) <|
 gd ((s24.2.1.length + 1) * 8 ≤ 140737488355328 ∧ s24.2.1.length + 1 ≤ 4611686018427387904) <|
 some (.go (s24.1 ++ [s24.2.2], s24.2.1 ++ [i64.wrap ((i64.wrap (z2.2.2 + 1)) - s24.2.2)], i64.wrap (s24.2.2 + 1)))) else (
 some (.out (s24.1, s24.2.1)))) ([], [], 1) : Option ((List Int × List Int))).bind fun x23 =>
 gd (0 ≤ (z2.2.1.length : Int)) <|
 gd (0 ≤ z2.2.1.length ∧ z2.2.1.length ≤ z3.1.Shares.length) <|
 (zdi z2.1 z20.1 x23.1 ((z3.1.Shares.take z2.2.1.length).drop 0) x23.1).bind fun z32 =>
 ((zaq (σ := (List Int)) (fun i37 s36 =>
 (ix x23.2 i37).bind fun x43 =>
 (ix z3.1.Shares (i64.wrap (x43 - 1))).bind fun x44 =>
 gd ((s36.length + 1) * 8 ≤ 140737488355328 ∧ s36.length + 1 ≤ 4611686018427387904) <|
 some (.go (s36 ++ [x44]))) (fun s36 => s36) (x23.2.length) 0 [] : Option ((List Int))).bind fun x35 =>
 (zdi z2.1 z20.1 x23.2 x35 x23.1).bind fun z49 =>
 (zbd z2.1 z3.1.Commits z20.1 z32.1).bind fun z50 =>
 (zbd z2.1 z3.1.Commits z20.1 z49.1).bind fun z51 =>
 ((if (!z20.2) = true then (
 some true) else (
 if (!z32.2) = true then (
 some true) else (
 if (!z49.2) = true then (
 some true) else (
 if (!z50.2) = true then (
 some true) else (
 if (!z51.2) = true then (
 some true) else (
 if ((z32.1.length : Int) == 0) = true then (
 some true) else (
 if (z50.1 != x18) = true then (
 some true) else (
 some (z51.1 != z50.1)))))))) : Option Bool).bind fun x54 =>
 if x54 = true then (
 some false) else (
 gd (1 ≤ x23.1.length ∧ x23.1.length ≤ x23.1.length) <|
 gd (0 ≤ (z2.2.1.length : Int)) <|
 gd (1 ≤ z2.2.1.length ∧ z2.2.1.length ≤ z3.1.Shares.length) <|
 (zbD z2.1 z20.1 z50.1 ((x23.1.take x23.1.length).drop 1) ((z3.1.Shares.take z2.2.1.length).drop 1) 1).bind fun z63 =>
 ((if z63.2 = true then (
 (ix z32.1 0).bind fun x68 =>
 some (z63.1 == x68.Value)) else (
 some false) : Option Bool).bind fun x66 =>
 some x66)))))))))
set_option maxHeartbeats 1000000 in
theorem zkx : ∀ {a0} {a1} {r}, zdv a0 a1 = some r → PCalls Tryz.prog 3 [(.sh, .sl false 1 (a0.map zfb)), (.sh, .sl false 1 (a1.map zfb))] (Eo (.bool r) [.junk, .junk]) := by
 intro a0 a1 r hr
 apply pF 260 [] [150, 152, 154, 155, 178, 179] [] [.tmp 4] hr cl3 Tryz.func3
 intro Φ hΦ hF g
 unfold zdv at hF
 iterate 2 (try simp [go_sem, g]; try intros; refine zau ?_)
 refine wI hF (fun h1 hF => ?_) (fun h1 hF => ?_)
 ·exact wl hΦ hF
 refine wW ?_
 refine wC hF [.sh] zjM (fun z2 hF => ?_)
 refine wK [1, 5, 6, 7] ?_
 refine wC hF [.sh, .sh, .sh] zlF (fun z3 hF => ?_)
 refine wK [1, 5, 6, 7, 8, 9] ?_
 refine wC hF [.sh, .sh, .sh] zlI (fun z4 hF => ?_)
 refine wK [1, 5, 6, 7, 8, 9, 10, 11] ?_
 refine wC hF [.sh] zny (fun z5 hF => ?_)
 refine wK [1, 5, 6, 7, 8, 9, 10, 11, 12, 13, 14, 15] ?_
 refine wC hF [.sh, .sh, .sh, .sh] zlN (fun z6 hF => ?_)
 refine wK [1, 5, 6, 7, 8, 9, 10, 11, 12, 13, 14, 15, 16, 17] ?_
 refine wC hF [.sh, .sh, .sh, .sh] zlM (fun z7 hF => ?_)
 refine wK [1, 5, 6, 7, 8, 9, 10, 11, 16, 17, 18, 19] ?_
 refine wJ hF (fun x10 => [(1, .v (vA a1)), (5, .bl [.int .i64 z2.1.P, .int .i64 z2.1.Q, .int .i64 z2.1.G]), (6, .v (vC z2.2.1)), (7, .v (.int .i64 z2.2.2)), (8, .bl [vD z3.1.Commits, vD z3.1.Shares]), (9, .v (.bool z3.2)), (107, .v (.bool x10))]) (fun x10 hF => ?_) fun _ hj8 hF => ?_
 ·refine wI hF (fun h16 hF => ?_) (fun h16 hF => ?_)
  ·exact wl hΦ hF
  iterate 2 refine wW ?_
  refine wI hF (fun h17 hF => ?_) (fun h17 hF => ?_)
  ·exact wl hΦ hF
  refine wW ?_
  refine wX zAA follows ?_
  obtain ⟨x18, g, hF⟩ := Rxn g 0 hF
  try simp [go_sem, g]
  try intros
  refine wD hF zqP (fun z19 hF => ?_)
  refine wC hF [.sh, .sh, .sh, .sh] zjK (fun z20 hF => ?_)
  refine wK [5, 6, 7, 8, 20, 21] ?_
  iterate 3 (try simp [go_sem, g]; try intros; refine zau ?_)
  refine wJ hF (fun x23 => [(5, .bl [.int .i64 z2.1.P, .int .i64 z2.1.Q, .int .i64 z2.1.G]), (8, .bl [vD z3.1.Commits, vD z3.1.Shares]), (20, .bl [.int .i64 z20.1.A, .int .i64 z20.1.B]), (21, .v (.bool z20.2)), (22, .v (.int .i64 (z2.2.1.length : Int))), (23, .v (vD x23.1)), (24, .v (vD x23.2))]) (fun x23 hF => ?_) fun _ hj21 hF => ?_
  ·refine wX zAe follows ?_
   obtain ⟨g, hF⟩ := Rg g hF
   obtain ⟨g, hF⟩ := Rg g hF
   refine wC hF [.sh, .sh, .sh, .sh, .sh] zh7 (fun z32 hF => ?_)
   refine wK [5, 8, 20, 21, 22, 23, 24, 26, 27] ?_
   iterate 2 (try simp [go_sem, g]; try intros; refine zau ?_)
   refine wJ hF (fun x35 => [(5, .bl [.int .i64 z2.1.P, .int .i64 z2.1.Q, .int .i64 z2.1.G]), (8, .bl [vD z3.1.Commits, vC z3.1.Shares]), (20, .bl [.int .i64 z20.1.A, .int .i64 z20.1.B]), (21, .v (.bool z20.2)), (22, .v (.int .i64 (z2.2.1.length : Int))), (23, .v (vC x23.1)), (24, .v (vD x23.2)), (26, .v (vW z32.1)), (27, .v (.bool z32.2)), (28, .v (vD x35))]) (fun x35 hF => ?_) fun _ hj33 hF => ?_
   ·refine wC hF [.sh, .sh, .sh, .sh, .sh] zh7 (fun z49 hF => ?_)
    refine wK [5, 8, 20, 21, 22, 23, 26, 27, 31, 32] ?_
    refine wC hF [.sh, .sh, .sh, .sh] ze0 (fun z50 hF => ?_)
    refine wK [5, 8, 20, 21, 22, 23, 26, 27, 31, 32, 33, 34] ?_
    refine wC hF [.sh, .sh, .sh, .sh] ze0 (fun z51 hF => ?_)
    refine wK [5, 8, 20, 21, 22, 23, 26, 27, 32, 33, 34, 35, 36] ?_
    refine wJ hF (fun x54 => [(5, .bl [.int .i64 z2.1.P, .int .i64 z2.1.Q, .int .i64 z2.1.G]), (8, .bl [vD z3.1.Commits, vC z3.1.Shares]), (20, .bl [.int .i64 z20.1.A, .int .i64 z20.1.B]), (22, .v (.int .i64 (z2.2.1.length : Int))), (23, .v (vC x23.1)), (26, .v (vW z32.1)), (33, .v (.int .i64 z50.1)), (237, .v (.bool x54))]) (fun x54 hF => ?_) fun _ hj52 hF => ?_
    ·refine wI hF (fun h62 hF => ?_) (fun h62 hF => ?_)
     ·exact wl hΦ hF
     refine wW ?_
     refine wX zCW follows ?_
     obtain ⟨g, hF⟩ := Rg g hF
     obtain ⟨g, hF⟩ := Rg g hF
     obtain ⟨g, hF⟩ := Rg g hF
     refine wC hF [.sh, .sh, .sh, .sh, .sh, .sh] zji (fun z63 hF => ?_)
     refine wK [26, 37, 38] ?_
     refine wJ hF (fun x66 => [(4, .v (.bool x66))]) (fun x66 hF => ?_) fun _ hj64 hF => ?_
     ·exact wm hΦ hF
     refine wG hF (fun h67 hF => ?_) fun h67 hF => ?_
     ·obtain ⟨x68, g, hF⟩ := Rxn g 0 hF
      exact wV h67 (hj64 _) (zaa hF)
     exact wV h67 (hj64 _) (zaa hF)
    refine wG hF (fun h55 hF => ?_) fun h55 hF => ?_
    ·exact wV h55 (hj52 _) (zaa hF)
    try simp [go_sem, g, h55]
    refine wG hF (fun h56 hF => ?_) fun h56 hF => ?_
    ·exact wV h56 (hj52 _) (zaa hF)
    try simp [go_sem, g, h56]
    refine wG hF (fun h57 hF => ?_) fun h57 hF => ?_
    ·exact wV h57 (hj52 _) (zaa hF)
    try simp [go_sem, g, h57]
    refine wG hF (fun h58 hF => ?_) fun h58 hF => ?_
    ·exact wV h58 (hj52 _) (zaa hF)
    try simp [go_sem, g, h58]
    refine wG hF (fun h59 hF => ?_) fun h59 hF => ?_
    ·exact wV h59 (hj52 _) (zaa hF)
    try simp [go_sem, g, h59]
    try intros
    refine wG hF (fun h60 hF => ?_) fun h60 hF => ?_
    ·exact wV h60 (hj52 _) (zaa hF)
    try simp [go_sem, g, h60]
    refine wG hF (fun h61 hF => ?_) fun h61 hF => ?_
    ·exact wV h61 (hj52 _) (zaa hF)
    exact wV h61 (hj52 _) (zaa hF)
   refine wB ?_
   obtain ⟨b45, hb46, hψ40⟩ := hF
   refine pR hb46 (fun i37 s36 => [(5, .bl [.int .i64 z2.1.P, .int .i64 z2.1.Q, .int .i64 z2.1.G]), (8, .bl [vD z3.1.Commits, vC z3.1.Shares]), (20, .bl [.int .i64 z20.1.A, .int .i64 z20.1.B]), (21, .v (.bool z20.2)), (22, .v (.int .i64 (z2.2.1.length : Int))), (23, .v (vC x23.1)), (24, .v (vD x23.2)), (26, .v (vW z32.1)), (27, .v (.bool z32.2)), (28, .v (vD s36)), (159, .rf 24 []), (160, .v (.int .i64 (x23.2.length : Int))), (161, .v (.int .i64 i37))]) (fun s36 _ hN47 => ?_) (fun i37 s36 _ _ hi41 hi42 ho38 hg39 hF => ?_)
   ·exact wn hN47 (hj33 _) hψ40
   refine wW ?_
   refine wu hi41 hi42 ?_
   refine wW ?_
   refine wB ?_
   obtain ⟨x43, g, hF⟩ := Rx g hF
   obtain ⟨x44, g, hF⟩ := Rx g hF
   obtain ⟨g, hF⟩ := Rg g hF
   refine wW ?_
   refine wK [5, 8, 20, 21, 22, 23, 24, 26, 27, 28, 159, 160, 161] ?_
   exact wi hi41 hi42 (hg39 _) (zaa hF)
  refine wB ?_
  obtain ⟨b30, hb31, hψ28⟩ := hF
  refine pL hb31 (fun s24 => [(5, .bl [.int .i64 z2.1.P, .int .i64 z2.1.Q, .int .i64 z2.1.G]), (7, .v (.int .i64 z2.2.2)), (8, .bl [vD z3.1.Commits, vD z3.1.Shares]), (20, .bl [.int .i64 z20.1.A, .int .i64 z20.1.B]), (21, .v (.bool z20.2)), (22, .v (.int .i64 (z2.2.1.length : Int))), (23, .v (vD s24.1)), (24, .v (vD s24.2.1)), (25, .v (.int .i64 s24.2.2))]) (fun s24 _ _ ho26 hg27 hF => ?_)
  refine wW ?_
  refine wI hF (fun h29 hF => ?_) (fun h29 hF => ?_)
  ·refine wW ?_
   refine wB ?_
   obtain ⟨g, hF⟩ := Rg g hF
   refine wK [5, 7, 8, 20, 21, 22, 23, 24, 25] ?_
   obtain ⟨g, hF⟩ := Rg g hF
   refine wW ?_
   exact wT (hg27 _) (zaa hF)
  cases ho26 _ (zaa hF)
  exact wT (hj21 _) hψ28
 refine wG hF (fun h11 hF => ?_) fun h11 hF => ?_
 ·exact wV h11 (hj8 _) (zaa hF)
 try simp [go_sem, g, h11]
 refine wC hF [.sh, .sh] zmZ (fun z12 hF => ?_)
 try simp [go_sem, g, h11]
 refine wG hF (fun h13 hF => ?_) fun h13 hF => ?_
 ·exact wV h13 (hj8 _) (zaa hF)
 try simp [go_sem, g, h13]
 refine wG hF (fun h14 hF => ?_) fun h14 hF => ?_
 ·exact wV h14 (hj8 _) (zaa hF)
 try simp [go_sem, g, h14]
 refine wC hF [.sh, .sh] ziG (fun z15 hF => ?_)
 exact wV h14 (hj8 _) (zaa hF)
end
end Go.Pm
