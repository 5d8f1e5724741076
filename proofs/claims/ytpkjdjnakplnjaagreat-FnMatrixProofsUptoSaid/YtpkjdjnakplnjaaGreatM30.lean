/-
  Plain functions and their walks. Written by wip/tools/lift.py.
-/
import Derived.Test.YtpkjdjnakplnjaaGreatPS
namespace Go.Pm
open Go.Am IntKind
open Go.Proofs
set_option maxRecDepth 100000
attribute [local irreducible] pw pwx pw1 pwg qv qz qf
attribute [-simp] List.map_set
set_option linter.unusedSimpArgs false
set_option linter.unusedVariables false
noncomputable section
structure Group where
 P : Int
 Q : Int
 G : Int
structure Cipher where
 A : Int
 B : Int
structure l1Cur where
 code : (List Int)
 at_ : Int
 seed : Int
structure Proof where
 Commits : (List Int)
 Challenges : (List Int)
 Responses : (List Int)
structure MatrixProof where
 Columns : (List Int)
 Chain : (List Int)
 Pi : Proof
structure Bases where
 H : Int
 Hs : (List Int)
structure taker where
 l : (List Int)
structure l3State where
 s : Int
 t : Int
def ze5 (x : Int) : List PV := [.int .u8 x]
@[go_sem] theorem zC7 {x : Int} : ze5 x = [.int .u8 x] := (rfl)
@[go_sem] theorem zp8 {l : List Int} : List.map (List.map drop ∘ ze5) l = l.map ze5 := by refine List.map_congr_left fun x _ => ?_; simp [go_sem]
@[go_sem] theorem zxQ {l : List Int} : List.map (List.map drop) (l.map ze5) = l.map ze5 := by rw [List.map_map]; exact zp8
@[go_sem] theorem zza {l : List Int} {i : Nat} {a : Int} : (l.map ze5).set i [.int .u8 a] = (l.set i a).map ze5 := by rw [List.map_set]; rfl
def zat (x : Int) : List PV := [.int .i64 x]
@[go_sem] theorem zy7 {x : Int} : zat x = [.int .i64 x] := (rfl)
@[go_sem] theorem zoM {l : List Int} : List.map (List.map drop ∘ zat) l = l.map zat := by refine List.map_congr_left fun x _ => ?_; simp [go_sem]
@[go_sem] theorem zwo {l : List Int} : List.map (List.map drop) (l.map zat) = l.map zat := by rw [List.map_map]; exact zoM
@[go_sem] theorem zyy {l : List Int} {i : Nat} {a : Int} : (l.map zat).set i [.int .i64 a] = (l.set i a).map zat := by rw [List.map_set]; rfl
def zbT (x : Cipher) : List PV := [.int .i64 x.A, .int .i64 x.B]
@[go_sem] theorem zwq {x : Cipher} : zbT x = [.int .i64 x.A, .int .i64 x.B] := (rfl)
@[go_sem] theorem zmG {l : List Cipher} : List.map (List.map drop ∘ zbT) l = l.map zbT := by refine List.map_congr_left fun x _ => ?_; simp [go_sem]
@[go_sem] theorem zuC {l : List Cipher} : List.map (List.map drop) (l.map zbT) = l.map zbT := by rw [List.map_map]; exact zmG
@[go_sem] theorem zvq {l : List Cipher} {i : Nat} {A : Int} {B : Int} : (l.map zbT).set i [.int .i64 A, .int .i64 B] = (l.set i (Cipher.mk A B)).map zbT := by rw [List.map_set]; rfl
def zfl (x : List Int) : List PV := [.sl false 1 (x.map zat)]
@[go_sem] theorem zyA {x : (List Int)} : zfl x = [.sl false 1 (x.map zat)] := (rfl)
@[go_sem] theorem zn7 {l : List (List Int)} : List.map (List.map drop ∘ zfl) l = l.map zfl := by refine List.map_congr_left fun x _ => ?_; simp [go_sem]
@[go_sem] theorem zwg {l : List (List Int)} : List.map (List.map drop) (l.map zfl) = l.map zfl := by rw [List.map_map]; exact zn7
@[go_sem] theorem zwW {l : List (List Int)} {i : Nat} {a : (List Int)} : (l.map zfl).set i [.sl false 1 (a.map zat)] = (l.set i a).map zfl := by rw [List.map_set]; rfl
def vA (x : List Int) : PV := .sl false 1 (x.map ze5)
@[go_sem] theorem zMX {x : (List Int)} : vA x = .sl false 1 (x.map ze5) := (rfl)
def vB (x0 : List Int) (x1 : Int) (x2 : Int) : PV := .bx [.sl false 1 (x0.map ze5), .int .i64 x1, .int .u64 x2]
@[go_sem] theorem zND {x0 : (List Int)} {x1 : Int} {x2 : Int} : vB x0 x1 x2 = .bx [.sl false 1 (x0.map ze5), .int .i64 x1, .int .u64 x2] := (rfl)
def vC (x : List Int) : PV := .sl false 1 (x.map zat)
@[go_sem] theorem zOc {x : (List Int)} : vC x = .sl false 1 (x.map zat) := (rfl)
def vD (x : List Int) : PV := .sl true 1 (x.map zat)
@[go_sem] theorem zNi {x : (List Int)} : vD x = .sl true 1 (x.map zat) := (rfl)
def vE (x : Group) : PV := .agg [.int .i64 x.P, .int .i64 x.Q, .int .i64 x.G]
@[go_sem] theorem zN0 {x : Group} : vE x = .agg [.int .i64 x.P, .int .i64 x.Q, .int .i64 x.G] := (rfl)
def vF (x : Cipher) : PV := .agg [.int .i64 x.A, .int .i64 x.B]
@[go_sem] theorem zNB {x : Cipher} : vF x = .agg [.int .i64 x.A, .int .i64 x.B] := (rfl)
def vG (x : List Cipher) : PV := .sl true 2 (x.map zbT)
@[go_sem] theorem zOi {x : (List Cipher)} : vG x = .sl true 2 (x.map zbT) := (rfl)
def vH (x : List Cipher) : PV := .sl false 2 (x.map zbT)
@[go_sem] theorem zNq {x : (List Cipher)} : vH x = .sl false 2 (x.map zbT) := (rfl)
def vI (x : Bases) : PV := .agg [.int .i64 x.H, .sl true 1 (x.Hs.map zat)]
@[go_sem] theorem zMN {x : Bases} : vI x = .agg [.int .i64 x.H, .sl true 1 (x.Hs.map zat)] := (rfl)
def vJ (x : Bases) : PV := .agg [.int .i64 x.H, .sl false 1 (x.Hs.map zat)]
@[go_sem] theorem zOx {x : Bases} : vJ x = .agg [.int .i64 x.H, .sl false 1 (x.Hs.map zat)] := (rfl)
def vK (x : (List (List Int))) : PV := .sl false 1 (x.map zfl)
@[go_sem] theorem zNG {x : (List (List Int))} : vK x = .sl false 1 (x.map zfl) := (rfl)
def vL (x : MatrixProof) : PV := .agg [.sl false 1 (x.Columns.map zat), .sl false 1 (x.Chain.map zat), .sl false 1 (x.Pi.Commits.map zat), .sl false 1 (x.Pi.Challenges.map zat), .sl false 1 (x.Pi.Responses.map zat)]
@[go_sem] theorem zOv {x : MatrixProof} : vL x = .agg [.sl false 1 (x.Columns.map zat), .sl false 1 (x.Chain.map zat), .sl false 1 (x.Pi.Commits.map zat), .sl false 1 (x.Pi.Challenges.map zat), .sl false 1 (x.Pi.Responses.map zat)] := (rfl)
def vM (x0 : Int) (x1 : Int) : PV := .bx [.int .i64 x0, .int .i64 x1]
@[go_sem] theorem zMo {x0 : Int} {x1 : Int} : vM x0 x1 = .bx [.int .i64 x0, .int .i64 x1] := (rfl)
def vN (x : MatrixProof) : PV := .agg [.sl true 1 (x.Columns.map zat), .sl true 1 (x.Chain.map zat), .sl true 1 (x.Pi.Commits.map zat), .sl true 1 (x.Pi.Challenges.map zat), .sl true 1 (x.Pi.Responses.map zat)]
@[go_sem] theorem zME {x : MatrixProof} : vN x = .agg [.sl true 1 (x.Columns.map zat), .sl true 1 (x.Chain.map zat), .sl true 1 (x.Pi.Commits.map zat), .sl true 1 (x.Pi.Challenges.map zat), .sl true 1 (x.Pi.Responses.map zat)] := (rfl)
def vO (x : Proof) : PV := .agg [.sl false 1 (x.Commits.map zat), .sl false 1 (x.Challenges.map zat), .sl false 1 (x.Responses.map zat)]
@[go_sem] theorem zOf {x : Proof} : vO x = .agg [.sl false 1 (x.Commits.map zat), .sl false 1 (x.Challenges.map zat), .sl false 1 (x.Responses.map zat)] := (rfl)
def vP (x : Proof) : PV := .agg [.sl true 1 (x.Commits.map zat), .sl true 1 (x.Challenges.map zat), .sl true 1 (x.Responses.map zat)]
@[go_sem] theorem zMD {x : Proof} : vP x = .agg [.sl true 1 (x.Commits.map zat), .sl true 1 (x.Challenges.map zat), .sl true 1 (x.Responses.map zat)] := (rfl)
@[go_sem] def zA0 : List DE := [d0 0 [0], d0 1 [4], d0 2 [5], d0 3 [6], d0 4 [0], d0 5 [8], d0 6 [9], d0 7 [10], d0 8 [11], d0 9 [7, 12]]
@[go_sem] def zBN : List DE := [d0 0 [0], d0 1 [14], d0 2 [15], d0 3 [16], d0 4 [0], d0 5 [18], d0 6 [19], d0 7 [20], d0 8 [17, 21], d0 9 [22], d0 10 [23], d0 11 [24]]
@[go_sem] def zBb : List DE := [d0 0 [0], d0 1 [44], d0 2 [45], d0 3 [46], d0 4 [0], d0 5 [48], d0 6 [49], d0 7 [50], d0 8 [51], d0 9 [47, 52]]
def zcm (a0c0 : List Int) (a0c1 : Int) (a0c2 : Int) : Option (Int × (List Int × Int × Int)) :=
 ((if decide (a0c1 < (a0c0.length : Int)) = true then (
 (ix a0c0 a0c1).bind fun x5 =>
 some (i64.wrap x5)) else (
 some 0) : Option Int).bind fun x3 =>
 if decide ((i64.wrap (a0c1 + 1)) ≤ (a0c0.length : Int)) = true then (
 some (x3, (a0c0, i64.wrap (a0c1 + 1), u64.wrap ((u64.wrap ((u64.wrap (a0c2 * 6364136223846793005)) + (u64.wrap x3))) + 1442695040888963407)))) else (
 some (i64.wrap (u64.wrap ((BitVec.ofInt u64.bits ((u64.wrap ((u64.wrap ((u64.wrap (a0c2 * 6364136223846793005)) + (u64.wrap x3))) + 1442695040888963407)).fdiv 1099511627776) &&& BitVec.ofInt u64.bits 255).toNat)), (a0c0, i64.wrap (a0c1 + 1), u64.wrap ((u64.wrap ((u64.wrap (a0c2 * 6364136223846793005)) + (u64.wrap x3))) + 1442695040888963407)))))
theorem zgr : ∀ {a0c0} {a0c1} {a0c2} {r}, zcm a0c0 a0c1 a0c2 = some r → PCalls Tryz.prog 90 [(.io, vB a0c0 a0c1 a0c2)] (Eo (.int .i64 r.1) [vB r.2.1 r.2.2.1 r.2.2.2]) := by
 intro a0c0 a0c1 a0c2 r hr
 apply pF 62 [0] [] [] [.tmp 2] hr zDB Tryz.func90
 intro Φ hΦ hF g
 unfold zcm at hF
 iterate 2 refine wW ?_
 refine wX zA0 follows ?_
 try simp [go_sem, g]
 try intros
 refine wK [0, 3, 13] ?_
 refine wJ hF (fun x3 => [(0, .v (vB a0c0 a0c1 a0c2)), (3, .v (.int .i64 x3))]) (fun x3 hF => ?_) fun _ hj1 hF => ?_
 ·refine wW ?_
  refine wK [0, 3] ?_
  refine wX zBb follows ?_
  try simp [go_sem, g]
  try intros
  refine wK [0, 3, 53] ?_
  refine wI hF (fun h6 hF => ?_) (fun h6 hF => ?_)
  ·cases hΦ _ (zaa hF)
   refine wW ?_
   try simp [go_sem, g]
  have g := Ls g 40
  cases hΦ _ (zaa hF)
  iterate 2 refine wW ?_
  try simp [go_sem, g]
 refine wI hF (fun h4 hF => ?_) (fun h4 hF => ?_)
 ·refine wX zBN follows ?_
  obtain ⟨x5, g, hF⟩ := Rx g hF
  exact wT (hj1 _) (zaa hF)
 exact wT (hj1 _) (zaa hF)
def zag (a0c0 : List Int) (a0c1 : Int) (a0c2 : Int) (a1 : Int) : Option (Int × (List Int × Int × Int)) :=
 if decide (a1 ≤ 1) = true then (
 some (0, (a0c0, a0c1, a0c2))) else (
 (zcm a0c0 a0c1 a0c2).bind fun z2 =>
 ((if decide (200 < a1) = true then (
 (zcm z2.2.1 z2.2.2.1 z2.2.2.2).bind fun z7 =>
 some ((z7.2.1, z7.2.2.1, z7.2.2.2), i64.wrap ((i64.wrap (z2.1 * 256)) + z7.1))) else (
 some ((z2.2.1, z2.2.2.1, z2.2.2.2), z2.1)) : Option (((List Int × Int × Int) × Int))).bind fun x5 =>
 gd (a1 ≠ 0) <|
 some (x5.2.tmod a1, (x5.1.1, x5.1.2.1, x5.1.2.2))))
theorem zah : ∀ {a0c0} {a0c1} {a0c2} {a1} {r}, zag a0c0 a0c1 a0c2 a1 = some r → PCalls Tryz.prog 32 [(.io, vB a0c0 a0c1 a0c2), (.sh, .int .i64 a1)] (Eo (.int .i64 r.1) [vB r.2.1 r.2.2.1 r.2.2.2, .junk]) := by
 intro a0c0 a0c1 a0c2 a1 r hr
 apply pF 20 [0] [] [] [.tmp 4] hr zFV Tryz.func32
 intro Φ hΦ hF g
 unfold zag at hF
 iterate 2 refine wW ?_
 refine wI hF (fun h1 hF => ?_) (fun h1 hF => ?_)
 ·cases hΦ _ (zaa hF)
  refine wW ?_
  try simp [go_sem, g]
 refine wW ?_
 refine wC hF [.io] zgr (fun z2 hF => ?_)
 iterate 2 refine wW ?_
 refine wJ hF (fun x5 => [(0, .v (vB x5.1.1 x5.1.2.1 x5.1.2.2)), (1, .v (.int .i64 a1)), (5, .v (.int .i64 x5.2))]) (fun x5 hF => ?_) fun _ hj3 hF => ?_
 ·obtain ⟨g, hF⟩ := Rz g hF
  refine wK [0, 4] ?_
  cases hΦ _ (zaa hF)
  try simp [go_sem, g]
 refine wI hF (fun h6 hF => ?_) (fun h6 hF => ?_)
 ·refine wC hF [.io] zgr (fun z7 hF => ?_)
  exact wT (hj3 _) (zaa hF)
 exact wT (hj3 _) (zaa hF)
def zgi (a0c0 : List Int) (a0c1 : Int) (a0c2 : Int) (a1 : List Int) : Option (Int × (List Int × Int × Int)) :=
 (zag a0c0 a0c1 a0c2 (a1.length : Int)).bind fun z1 =>
 (ix a1 z1.1).bind fun x2 =>
 some (x2, (z1.2.1, z1.2.2.1, z1.2.2.2))
theorem zpM : ∀ {a0c0} {a0c1} {a0c2} {a1} {r}, zgi a0c0 a0c1 a0c2 a1 = some r → PCalls Tryz.prog 30 [(.io, vB a0c0 a0c1 a0c2), (.sh, vC a1)] (Eo (.int .i64 r.1) [vB r.2.1 r.2.2.1 r.2.2.2, .junk]) := by
 intro a0c0 a0c1 a0c2 a1 r hr
 apply pF 12 [0] [] [] [.tmp 4] hr zw1 Tryz.func30
 intro Φ hΦ hF g
 unfold zgi at hF
 try simp [go_sem, g]
 try intros
 refine zay ?_
 try simp [go_sem, g]
 try intros
 refine wC hF [.io, .sh] zah (fun z1 hF => ?_)
 obtain ⟨x2, g, hF⟩ := Rx g hF
 cases hΦ _ (zaa hF)
 refine wW ?_
 try simp [go_sem, g]
def zao (a0c0 : List Int) (a0c1 : Int) (a0c2 : Int) (a1 : List Int) : Option (Int × (List Int × Int × Int)) :=
 (zag a0c0 a0c1 a0c2 (a1.length : Int)).bind fun z1 =>
 (ix a1 z1.1).bind fun x2 =>
 some (x2, (z1.2.1, z1.2.2.1, z1.2.2.2))
theorem zak : ∀ {a0c0} {a0c1} {a0c2} {a1} {r}, zao a0c0 a0c1 a0c2 a1 = some r → PCalls Tryz.prog 30 [(.io, vB a0c0 a0c1 a0c2), (.mv, vD a1)] (Eo (.int .i64 r.1) [vB r.2.1 r.2.2.1 r.2.2.2, .junk]) := by
 intro a0c0 a0c1 a0c2 a1 r hr
 apply pF 12 [0] [] [] [.tmp 4] hr zw1 Tryz.func30
 intro Φ hΦ hF g
 unfold zao at hF
 try simp [go_sem, g]
 try intros
 refine zay ?_
 try simp [go_sem, g]
 try intros
 refine wC hF [.io, .sh] zah (fun z1 hF => ?_)
 obtain ⟨x2, g, hF⟩ := Rx g hF
 cases hΦ _ (zaa hF)
 refine wW ?_
 try simp [go_sem, g]
def zb8 (a0 : Int) (a1 : Int) (a2 : Int) : Option Bool :=
 ((if decide (a1 ≤ a0) = true then (
 some (decide (a0 ≤ a2))) else (
 some false) : Option Bool).bind fun x3 =>
 some x3)
theorem zdr : ∀ {a0} {a1} {a2} {r}, zb8 a0 a1 a2 = some r → PCalls Tryz.prog 39 [(.sh, .int .i64 a0), (.sh, .int .i64 a1), (.sh, .int .i64 a2)] (Eo (.bool r) [.junk, .junk, .junk]) := by
 intro a0 a1 a2 r hr
 apply pF 15 [] [] [] [.tmp 6] hr zGR Tryz.func39
 intro Φ hΦ hF g
 unfold zb8 at hF
 refine wW ?_
 refine wJ hF (fun x3 => [(6, .v (.bool x3))]) (fun x3 hF => ?_) fun _ hj1 hF => ?_
 ·cases hΦ _ (zaa hF)
  try simp [go_sem, g]
 refine wG hF (fun h4 hF => ?_) fun h4 hF => ?_
 ·try simp [go_sem, g, h4]
  exact wT (hj1 _) (zaa hF)
 try simp [go_sem, g, h4]
 exact wT (hj1 _) (zaa hF)
def zdG (a0 : Int) : Option Bool :=
 if decide (a0 < 2) = true then (
 some false) else (
 ((zbX (σ := Int) (fun s5 =>
 if decide ((i64.wrap (s5 * s5)) ≤ a0) = true then (
 gd (s5 ≠ 0) <|
 if ((a0.tmod s5) == 0) = true then (
 some (.out (.inr false))) else (
 some (.go (i64.wrap (s5 + 1))))) else (
 some (.out (.inl ())))) 2 : Option (Unit ⊕ Bool)).bind (Sum.elim (fun x4 =>
 some true) some)))
theorem zgx : ∀ {a0} {r}, zdG a0 = some r → PCalls Tryz.prog 151 [(.sh, .int .i64 a0)] (Eo (.bool r) [.junk]) := by
 intro a0 r hr
 apply pF 17 [] [] [] [.tmp 2] hr zAs Tryz.func151
 intro Φ hΦ hF g
 unfold zdG at hF
 iterate 2 refine wW ?_
 refine wI hF (fun h1 hF => ?_) (fun h1 hF => ?_)
 ·cases hΦ _ (zaa hF)
  refine wW ?_
  try simp [go_sem, g]
 iterate 2 refine wW ?_
 refine wS hF (fun x4 => []) (fun x4 hF => ?_) fun _ hj2 hr3 hF => ?_
 ·cases hΦ _ (zaa hF)
  refine wW ?_
  try simp [go_sem, g]
 refine wB ?_
 obtain ⟨b12, hb13, hψ9⟩ := hF
 refine pL hb13 (fun s5 => [(0, .v (.int .i64 a0)), (3, .v (.int .i64 s5))]) (fun s5 _ _ ho7 hg8 hF => ?_)
 refine wW ?_
 refine wI hF (fun h10 hF => ?_) (fun h10 hF => ?_)
 ·refine wW ?_
  refine wB ?_
  obtain ⟨g, hF⟩ := Rz g hF
  refine wK [0, 3, 16] ?_
  refine wI hF (fun h11 hF => ?_) (fun h11 hF => ?_)
  ·cases ho7 _ (zaa hF)
   cases hΦ _ (hr3 _ hψ9)
   refine wW ?_
   try simp [go_sem, g]
  refine wW ?_
  exact wT (hg8 _) (zaa hF)
 cases ho7 _ (zaa hF)
 exact wT (hj2 _) hψ9
def zbw (a0 : Int) (a1 : Int) (a2 : Int) : Option Int :=
 gd (a2 ≠ 0) <|
 ((zbX (σ := Int × Int × Int) (fun s4 =>
 if decide (0 < s4.2.1) = true then (
 ((if ((s4.2.1.tmod 2) == 1) = true then (
 gd (a2 ≠ 0) <|
 some ((i64.wrap (s4.2.2 * s4.1)).tmod a2)) else (
 some s4.2.2) : Option Int).bind fun x12 =>
 gd (a2 ≠ 0) <|
 some (.go ((i64.wrap (s4.1 * s4.1)).tmod a2, i64.wrap (s4.2.1.tdiv 2), x12)))) else (
 some (.out s4.2.2))) (a0, a1, (1 : Int).tmod a2) : Option Int).bind fun x3 =>
 some x3)
theorem zea : ∀ {a0} {a1} {a2} {r}, zbw a0 a1 a2 = some r → PCalls Tryz.prog 152 [(.sh, .int .i64 a0), (.sh, .int .i64 a1), (.sh, .int .i64 a2)] (Eo (.int .i64 r) [.junk, .junk, .junk]) := by
 intro a0 a1 a2 r hr
 apply pF 28 [] [] [] [.tmp 6] hr zAG Tryz.func152
 intro Φ hΦ hF g
 unfold zbw at hF
 obtain ⟨g, hF⟩ := Rz g hF
 iterate 2 refine wW ?_
 refine wJ hF (fun x3 => [(7, .v (.int .i64 x3))]) (fun x3 hF => ?_) fun _ hj1 hF => ?_
 ·cases hΦ _ (zaa hF)
  refine wW ?_
  try simp [go_sem, g]
 refine wB ?_
 obtain ⟨b14, hb15, hψ8⟩ := hF
 refine pL hb15 (fun s4 => [(0, .v (.int .i64 s4.1)), (1, .v (.int .i64 s4.2.1)), (2, .v (.int .i64 a2)), (7, .v (.int .i64 s4.2.2))]) (fun s4 _ _ ho6 hg7 hF => ?_)
 refine wW ?_
 refine wI hF (fun h9 hF => ?_) (fun h9 hF => ?_)
 ·refine wW ?_
  refine wB ?_
  have g := Ld g 2
  refine wW ?_
  refine wJ hF (fun x12 => [(0, .v (.int .i64 s4.1)), (1, .v (.int .i64 s4.2.1)), (2, .v (.int .i64 a2)), (7, .v (.int .i64 x12))]) (fun x12 hF => ?_) fun _ hj10 hF => ?_
  ·obtain ⟨g, hF⟩ := Rz g hF
   refine wK [0, 1, 2, 7] ?_
   exact wT (hg7 _) (zaa hF)
  refine wI hF (fun h13 hF => ?_) (fun h13 hF => ?_)
  ·obtain ⟨g, hF⟩ := Rz g hF
   exact wT (hj10 _) (zaa hF)
  exact wT (hj10 _) (zaa hF)
 cases ho6 _ (zaa hF)
 exact wT (hj1 _) hψ8
def zdS (a0 : Int) : Option (Group × Bool) :=
 (((zb8 a0 2 1000000).bind fun z4 =>
 if (!z4) = true then (
 some true) else (
 (zdG a0).bind fun z6 =>
 some (!z6)) : Option Bool).bind fun x3 =>
 if x3 = true then (
 some ((Group.mk 0 0 0), false)) else (
 ((zbX (σ := Int) (fun s11 =>
 if decide (s11 ≤ 2000000000) = true then (
 (zdG s11).bind fun z17 =>
 if (!z17) = true then (
 some (.go (i64.wrap (s11 + a0)))) else (
 ((zbX (σ := Int) (fun s22 =>
 gd (a0 ≠ 0) <|
 (zbw s22 (i64.wrap ((i64.wrap (s11 - 1)).tdiv a0)) s11).bind fun z27 =>
 if (z27 == 1) = true then (
 some (.go (i64.wrap (s22 + 1)))) else (
 some (.out s22))) 2 : Option Int).bind fun x21 =>
 gd (a0 ≠ 0) <|
 (zbw x21 (i64.wrap ((i64.wrap (s11 - 1)).tdiv a0)) s11).bind fun z31 =>
 some (.out (.inr ((Group.mk s11 a0 z31), true)))))) else (
 some (.out (.inl ())))) (i64.wrap (a0 + 1)) : Option (Unit ⊕ (Group × Bool))).bind (Sum.elim (fun x10 =>
 some ((Group.mk 0 0 0), false)) some))))
theorem ziw : ∀ {a0} {r}, zdS a0 = some r → PCalls Tryz.prog 88 [(.sh, .int .i64 a0)] (Eo (.tup [vE r.1, .bool r.2]) [.junk]) := by
 intro a0 r hr
 apply pF 46 [] [] [] [.cell 2 24, .tmp 3] hr zGx Tryz.func88
 intro Φ hΦ hF g
 unfold zdS at hF
 refine wW ?_
 refine wJ hF (fun x3 => [(0, .v (.int .i64 a0)), (2, .bl [.int .i64 0, .int .i64 0, .int .i64 0]), (13, .v (.bool x3))]) (fun x3 hF => ?_) fun _ hj1 hF => ?_
 ·refine wI hF (fun h7 hF => ?_) (fun h7 hF => ?_)
  ·cases hΦ _ (zaa hF)
   refine wW ?_
   try simp [go_sem, g]
  iterate 2 refine wW ?_
  refine wS hF (fun x10 => [(2, .bl [.int .i64 0, .int .i64 0, .int .i64 0])]) (fun x10 hF => ?_) fun _ hj8 hr9 hF => ?_
  ·cases hΦ _ (zaa hF)
   refine wW ?_
   try simp [go_sem, g]
  refine wB ?_
  obtain ⟨b32, hb33, hψ15⟩ := hF
  refine pL hb33 (fun s11 => [(0, .v (.int .i64 a0)), (2, .bl [.int .i64 0, .int .i64 0, .int .i64 0]), (4, .v (.int .i64 s11))]) (fun s11 _ _ ho13 hg14 hF => ?_)
  refine wW ?_
  refine wI hF (fun h16 hF => ?_) (fun h16 hF => ?_)
  ·refine wW ?_
   refine wB ?_
   refine wC hF [.sh] zgx (fun z17 hF => ?_)
   refine wK [0, 2, 4, 24] ?_
   refine wI hF (fun h18 hF => ?_) (fun h18 hF => ?_)
   ·refine wW ?_
    exact wT (hg14 _) (zaa hF)
   iterate 2 refine wW ?_
   refine wJ hF (fun x21 => [(0, .v (.int .i64 a0)), (2, .bl [.int .i64 0, .int .i64 0, .int .i64 0]), (4, .v (.int .i64 s11)), (5, .v (.int .i64 x21))]) (fun x21 hF => ?_) fun _ hj19 hF => ?_
   ·obtain ⟨g, hF⟩ := Rz g hF
    refine wC hF [.sh, .sh, .sh] zea (fun z31 hF => ?_)
    refine wK [2, 3] ?_
    cases ho13 _ (zaa hF)
    cases hΦ _ (hr9 _ hψ15)
    try simp [go_sem, g]
   refine wB ?_
   obtain ⟨b29, hb30, hψ26⟩ := hF
   refine pL hb30 (fun s22 => [(0, .v (.int .i64 a0)), (2, .bl [.int .i64 0, .int .i64 0, .int .i64 0]), (4, .v (.int .i64 s11)), (5, .v (.int .i64 s22))]) (fun s22 _ _ ho24 hg25 hF => ?_)
   obtain ⟨g, hF⟩ := Rz g hF
   refine wC hF [.sh, .sh, .sh] zea (fun z27 hF => ?_)
   refine wW ?_
   refine wI hF (fun h28 hF => ?_) (fun h28 hF => ?_)
   ·refine wW ?_
    refine wB ?_
    exact wT (hg25 _) (zaa hF)
   cases ho24 _ (zaa hF)
   exact wT (hj19 _) hψ26
  cases ho13 _ (zaa hF)
  exact wT (hj8 _) hψ15
 refine wC hF [.sh, .sh, .sh] zdr (fun z4 hF => ?_)
 refine wG hF (fun h5 hF => ?_) fun h5 hF => ?_
 ·try simp [go_sem, g, h5]
  exact wT (hj1 _) (zaa hF)
 try simp [go_sem, g, h5]
 refine wC hF [.sh] zgx (fun z6 hF => ?_)
 try simp [go_sem, g, h5]
 exact wT (hj1 _) (zaa hF)
def zc2 (a0c0 : List Int) (a0c1 : Int) (a0c2 : Int) : Option (Group × (List Int × Int × Int)) :=
 (zao a0c0 a0c1 a0c2 [3, 5, 5, 7, 11, 11, 13, 23]).bind fun z1 =>
 (zdS z1.1).bind fun z2 =>
 some (z2.1, (z1.2.1, z1.2.2.1, z1.2.2.2))
theorem zja : ∀ {a0c0} {a0c1} {a0c2} {r}, zc2 a0c0 a0c1 a0c2 = some r → PCalls Tryz.prog 172 [(.io, vB a0c0 a0c1 a0c2)] (Eo (vE r.1) [vB r.2.1 r.2.2.1 r.2.2.2]) := by
 intro a0c0 a0c1 a0c2 r hr
 apply pF 13 [0] [] [] [.cell 2 24] hr zBm Tryz.func172
 intro Φ hΦ hF g
 unfold zc2 at hF
 refine wW ?_
 refine wC hF [.io, .mv] zak (fun z1 hF => ?_)
 refine wC hF [.sh] ziw (fun z2 hF => ?_)
 refine wK [0, 2, 3] ?_
 cases hΦ _ (zaa hF)
 refine wW ?_
 try simp [go_sem, g]
def zem (a0 : Int) (a1 : Int) : Option Int :=
 gd (a1 ≠ 0) <|
 gd (a1 ≠ 0) <|
 some ((i64.wrap ((a0.tmod a1) + a1)).tmod a1)
theorem zlz : ∀ {a0} {a1} {r}, zem a0 a1 = some r → PCalls Tryz.prog 156 [(.sh, .int .i64 a0), (.sh, .int .i64 a1)] (Eo (.int .i64 r) [.junk, .junk]) := by
 intro a0 a1 r hr
 apply pF 12 [] [] [] [.tmp 4] hr zBq Tryz.func156
 intro Φ hΦ hF g
 unfold zem at hF
 obtain ⟨g, hF⟩ := Rz g hF
 obtain ⟨g, hF⟩ := Rz g hF
 cases hΦ _ (zaa hF)
 iterate 2 refine wW ?_
 try simp [go_sem, g]
@[go_sem] def zAj : List DE := [d0 0 [1], d0 1 [2], d1 2 [3] 3, d2 3 [9] 3 9, d1 5 [3] 3, d2 6 [12] 3 12, d3 4 [8, 10], d3 7 [7, 11, 13], d0 8 [14]]
def zaq (a0 : Group) (a1 : Int) (a2 : Int) : Option Int :=
 (zem a2 a0.Q).bind fun z1 =>
 (zbw a1 z1 a0.P).bind fun z2 =>
 some z2
theorem zaY : ∀ {a0} {a1} {a2} {r}, zaq a0 a1 a2 = some r → PCalls Tryz.prog 95 [(.sh, vE a0), (.sh, .int .i64 a1), (.sh, .int .i64 a2)] (Eo (.int .i64 r) [.junk, .junk, .junk]) := by
 intro a0 a1 a2 r hr
 apply pF 15 [] [] [] [.tmp 6] hr zF5 Tryz.func95
 intro Φ hΦ hF g
 unfold zaq at hF
 refine wW ?_
 refine wX zAj follows ?_
 refine wC hF [.sh, .sh] zlz (fun z1 hF => ?_)
 refine wC hF [.sh, .sh, .sh] zea (fun z2 hF => ?_)
 refine wK [6] ?_
 cases hΦ _ (zaa hF)
 try simp [go_sem, g]
@[go_sem] def zxZ : List DE := [d2 0 [5] 5 5, d1 1 [5] 5, d2 2 [24] 5 24, d0 3 [0], d1 4 [5] 5, d2 5 [27] 5 27, d0 6 [28], d3 7 [26, 29], d0 8 [30], d3 9 [23, 25, 31], d1 10 [5] 5, d2 11 [33, 32] 5 33]
def zcd (a0c0 : List Int) (a0c1 : Int) (a0c2 : Int) : Option (Group × (List Int × Int × Int)) :=
 (zag a0c0 a0c1 a0c2 6).bind fun z1 =>
 if (z1.1 == 0) = true then (
 some ((Group.mk 1000000007 500000003 4), (z1.2.1, z1.2.2.1, z1.2.2.2))) else (
 if (z1.1 == 1) = true then (
 (zao z1.2.1 z1.2.2.1 z1.2.2.2 [101, 1009, 1019, 65537, 999983]).bind fun z4 =>
 (zdS z4.1).bind fun z5 =>
 some (z5.1, (z4.2.1, z4.2.2.1, z4.2.2.2))) else (
 (zc2 z1.2.1 z1.2.2.1 z1.2.2.2).bind fun z6 =>
 (zag z6.2.1 z6.2.2.1 z6.2.2.2 (i64.wrap (z6.1.Q - 1))).bind fun z7 =>
 (zaq z6.1 z6.1.G (i64.wrap (1 + z7.1))).bind fun z8 =>
 some ((Group.mk z6.1.P z6.1.Q z8), (z7.2.1, z7.2.2.1, z7.2.2.2))))
theorem zgh : ∀ {a0c0} {a0c1} {a0c2} {r}, zcd a0c0 a0c1 a0c2 = some r → PCalls Tryz.prog 113 [(.io, vB a0c0 a0c1 a0c2)] (Eo (vE r.1) [vB r.2.1 r.2.2.1 r.2.2.2]) := by
 intro a0c0 a0c1 a0c2 r hr
 apply pF 35 [0] [] [] [.cell 2 24] hr zzF Tryz.func113
 intro Φ hΦ hF g
 unfold zcd at hF
 refine wW ?_
 refine wC hF [.io, .sh] zah (fun z1 hF => ?_)
 refine wW ?_
 refine wB ?_
 refine wW ?_
 refine wI hF (fun h2 hF => ?_) (fun h2 hF => ?_)
 ·cases hΦ _ (zaa hF)
  refine wW ?_
  try simp [go_sem, g]
 refine wW ?_
 refine wI hF (fun h3 hF => ?_) (fun h3 hF => ?_)
 ·refine wC hF [.io, .mv] zak (fun z4 hF => ?_)
  refine wC hF [.sh] ziw (fun z5 hF => ?_)
  refine wK [0, 2, 3] ?_
  cases hΦ _ (zaa hF)
  refine wW ?_
  try simp [go_sem, g]
 refine wW ?_
 refine wC hF [.io] zja (fun z6 hF => ?_)
 refine wK [0, 2, 5] ?_
 refine wX zxZ follows ?_
 refine wC hF [.io, .sh] zah (fun z7 hF => ?_)
 refine wC hF [.sh, .sh, .sh] zaY (fun z8 hF => ?_)
 refine wK [0, 2, 5] ?_
 cases hΦ _ (zaa hF)
 refine wW ?_
 try simp [go_sem, g]
def zbK (a0c0 : List Int) (a0c1 : Int) (a0c2 : Int) (a1 : Int) : Option (Bool × (List Int × Int × Int)) :=
 (zag a0c0 a0c1 a0c2 a1).bind fun z1 =>
 some ((z1.1 == 0), (z1.2.1, z1.2.2.1, z1.2.2.2))
theorem zd6 : ∀ {a0c0} {a0c1} {a0c2} {a1} {r}, zbK a0c0 a0c1 a0c2 a1 = some r → PCalls Tryz.prog 74 [(.io, vB a0c0 a0c1 a0c2), (.sh, .int .i64 a1)] (Eo (.bool r.1) [vB r.2.1 r.2.2.1 r.2.2.2, .junk]) := by
 intro a0c0 a0c1 a0c2 a1 r hr
 apply pF 9 [0] [] [] [.tmp 4] hr zGS Tryz.func74
 intro Φ hΦ hF g
 unfold zbK at hF
 refine wW ?_
 refine wC hF [.io, .sh] zah (fun z1 hF => ?_)
 cases hΦ _ (zaa hF)
 refine wW ?_
 try simp [go_sem, g]
def zcg (a0c0 : List Int) (a0c1 : Int) (a0c2 : Int) : Option (Group × (List Int × Int × Int)) :=
 (zcd a0c0 a0c1 a0c2).bind fun z1 =>
 (zag z1.2.1 z1.2.2.1 z1.2.2.2 24).bind fun z2 =>
 ((if (z2.1 == 0) = true then (
 (zao z2.2.1 z2.2.2.1 z2.2.2.2 [0, i64.wrap (z1.1.P + 2), 4, (-7)]).bind fun z7 =>
 some ((z7.2.1, z7.2.2.1, z7.2.2.2), z7.1, z1.1.Q, z1.1.G)) else (
 if (z2.1 == 1) = true then (
 (zao z2.2.1 z2.2.2.1 z2.2.2.2 [0, 1, i64.wrap (z1.1.Q + 1), i64.wrap (z1.1.P - 1)]).bind fun z9 =>
 some ((z9.2.1, z9.2.2.1, z9.2.2.2), z1.1.P, z9.1, z1.1.G)) else (
 if (z2.1 == 2) = true then (
 (zao z2.2.1 z2.2.2.1 z2.2.2.2 [0, 1, i64.wrap (z1.1.P - 1), z1.1.P, i64.wrap (z1.1.G + 1)]).bind fun z11 =>
 some ((z11.2.1, z11.2.2.1, z11.2.2.2), z1.1.P, z1.1.Q, z11.1)) else (
 some ((z2.2.1, z2.2.2.1, z2.2.2.2), z1.1.P, z1.1.Q, z1.1.G)))) : Option (((List Int × Int × Int) × Int × Int × Int))).bind fun x5 =>
 some ((Group.mk x5.2.1 x5.2.2.1 x5.2.2.2), (x5.1.1, x5.1.2.1, x5.1.2.2)))
theorem zhO : ∀ {a0c0} {a0c1} {a0c2} {r}, zcg a0c0 a0c1 a0c2 = some r → PCalls Tryz.prog 87 [(.io, vB a0c0 a0c1 a0c2)] (Eo (vE r.1) [vB r.2.1 r.2.2.1 r.2.2.2]) := by
 intro a0c0 a0c1 a0c2 r hr
 apply pF 44 [0] [] [] [.cell 2 24] hr zDE Tryz.func87
 intro Φ hΦ hF g
 unfold zcg at hF
 refine wW ?_
 refine wC hF [.io] zgh (fun z1 hF => ?_)
 refine wW ?_
 refine wC hF [.io, .sh] zah (fun z2 hF => ?_)
 refine wW ?_
 refine wJ hF (fun x5 => [(0, .v (vB x5.1.1 x5.1.2.1 x5.1.2.2)), (2, .bl [.int .i64 0, .int .i64 0, .int .i64 0]), (3, .bl [.int .i64 x5.2.1, .int .i64 x5.2.2.1, .int .i64 x5.2.2.2])]) (fun x5 hF => ?_) fun _ hj3 hF => ?_
 ·cases hΦ _ (zaa hF)
  refine wW ?_
  try simp [go_sem, g]
 refine wB ?_
 refine wW ?_
 refine wI hF (fun h6 hF => ?_) (fun h6 hF => ?_)
 ·refine wC hF [.io, .mv] zak (fun z7 hF => ?_)
  exact wT (hj3 _) (zaa hF)
 refine wK [0, 2, 3, 7, 17] ?_
 refine wI hF (fun h8 hF => ?_) (fun h8 hF => ?_)
 ·refine wC hF [.io, .mv] zak (fun z9 hF => ?_)
  exact wT (hj3 _) (zaa hF)
 refine wW ?_
 refine wI hF (fun h10 hF => ?_) (fun h10 hF => ?_)
 ·refine wC hF [.io, .mv] zak (fun z11 hF => ?_)
  exact wT (hj3 _) (zaa hF)
 exact wT (hj3 _) (zaa hF)
@[go_sem] def zxa : List DE := [d0 0 [0], d0 3 [0], d1 6 [3] 3, d2 7 [14] 3 14, d3 1 [8], d0 2 [9], d3 4 [11], d0 5 [10, 12], d0 8 [13, 15], d0 9 [16]]
def zbb (a0c0 : List Int) (a0c1 : Int) (a0c2 : Int) (a1 : Group) : Option (Int × (List Int × Int × Int)) :=
 if decide (a1.Q < 2) = true then (
 some (0, (a0c0, a0c1, a0c2))) else (
 (zag a0c0 a0c1 a0c2 60000).bind fun z2 =>
 (zag z2.2.1 z2.2.2.1 z2.2.2.2 60000).bind fun z3 =>
 gd (a1.Q ≠ 0) <|
 some ((i64.wrap ((i64.wrap (z2.1 * 60000)) + z3.1)).tmod a1.Q, (z3.2.1, z3.2.2.1, z3.2.2.2)))
theorem za2 : ∀ {a0c0} {a0c1} {a0c2} {a1} {r}, zbb a0c0 a0c1 a0c2 a1 = some r → PCalls Tryz.prog 153 [(.io, vB a0c0 a0c1 a0c2), (.sh, vE a1)] (Eo (.int .i64 r.1) [vB r.2.1 r.2.2.1 r.2.2.2, .junk]) := by
 intro a0c0 a0c1 a0c2 a1 r hr
 apply pF 17 [0] [] [] [.tmp 4] hr zBO Tryz.func153
 intro Φ hΦ hF g
 unfold zbb at hF
 iterate 2 refine wW ?_
 refine wI hF (fun h1 hF => ?_) (fun h1 hF => ?_)
 ·cases hΦ _ (zaa hF)
  refine wW ?_
  try simp [go_sem, g]
 refine wW ?_
 refine wX zxa follows ?_
 refine wC hF [.io, .sh] zah (fun z2 hF => ?_)
 refine wC hF [.io, .sh] zah (fun z3 hF => ?_)
 obtain ⟨g, hF⟩ := Rz g hF
 refine wK [0, 4] ?_
 cases hΦ _ (zaa hF)
 try simp [go_sem, g]
@[go_sem] def zxE : List DE := [d2 0 [3] 3 3, d1 1 [3] 3, d2 2 [14] 3 14, d1 3 [3] 3, d2 4 [16] 3 16, d0 6 [0], d2 7 [3] 3 3, d3 5 [15, 17], d3 8 [19, 20], d3 9 [13, 18, 21], d0 10 [22]]
def zaR (a0c0 : List Int) (a0c1 : Int) (a0c2 : Int) (a1 : Group) : Option (Int × (List Int × Int × Int)) :=
 ((if decide (a1.P < 3) = true then (
 some true) else (
 some (decide (a1.Q < 1))) : Option Bool).bind fun x3 =>
 if x3 = true then (
 some (1, (a0c0, a0c1, a0c2))) else (
 (zem a1.G a1.P).bind fun z6 =>
 (zbb a0c0 a0c1 a0c2 a1).bind fun z7 =>
 (zaq a1 z6 z7.1).bind fun z8 =>
 some (z8, (z7.2.1, z7.2.2.1, z7.2.2.2))))
theorem zaL : ∀ {a0c0} {a0c1} {a0c2} {a1} {r}, zaR a0c0 a0c1 a0c2 a1 = some r → PCalls Tryz.prog 173 [(.io, vB a0c0 a0c1 a0c2), (.sh, vE a1)] (Eo (.int .i64 r.1) [vB r.2.1 r.2.2.1 r.2.2.2, .junk]) := by
 intro a0c0 a0c1 a0c2 a1 r hr
 apply pF 23 [0] [] [] [.tmp 4] hr zz8 Tryz.func173
 intro Φ hΦ hF g
 unfold zaR at hF
 refine wW ?_
 refine wJ hF (fun x3 => [(0, .v (vB a0c0 a0c1 a0c2)), (3, .bl [.int .i64 a1.P, .int .i64 a1.Q, .int .i64 a1.G]), (12, .v (.bool x3))]) (fun x3 hF => ?_) fun _ hj1 hF => ?_
 ·refine wI hF (fun h5 hF => ?_) (fun h5 hF => ?_)
  ·cases hΦ _ (zaa hF)
   refine wW ?_
   try simp [go_sem, g]
  refine wW ?_
  refine wX zxE follows ?_
  refine wC hF [.sh, .sh] zlz (fun z6 hF => ?_)
  refine wC hF [.io, .sh] za2 (fun z7 hF => ?_)
  refine wC hF [.sh, .sh, .sh] zaY (fun z8 hF => ?_)
  refine wK [0, 4] ?_
  cases hΦ _ (zaa hF)
  try simp [go_sem, g]
 refine wG hF (fun h4 hF => ?_) fun h4 hF => ?_
 ·try simp [go_sem, g, h4]
  exact wT (hj1 _) (zaa hF)
 try simp [go_sem, g, h4]
 exact wT (hj1 _) (zaa hF)
@[go_sem] def zx5 : List DE := [d0 0 [0], d2 1 [3] 3 3, d0 3 [0], d2 4 [3] 3 3, d3 2 [5, 6], d3 5 [8, 9], d0 6 [7, 10], d2 7 [4, 11] 4 4]
def zcA (a0c0 : List Int) (a0c1 : Int) (a0c2 : Int) (a1 : Group) : Option (Cipher × (List Int × Int × Int)) :=
 (zaR a0c0 a0c1 a0c2 a1).bind fun z1 =>
 (zaR z1.2.1 z1.2.2.1 z1.2.2.2 a1).bind fun z2 =>
 some ((Cipher.mk z1.1 z2.1), (z2.2.1, z2.2.2.1, z2.2.2.2))
theorem ziz : ∀ {a0c0} {a0c1} {a0c2} {a1} {r}, zcA a0c0 a0c1 a0c2 a1 = some r → PCalls Tryz.prog 114 [(.io, vB a0c0 a0c1 a0c2), (.sh, vE a1)] (Eo (vF r.1) [vB r.2.1 r.2.2.1 r.2.2.2, .junk]) := by
 intro a0c0 a0c1 a0c2 a1 r hr
 apply pF 12 [0] [] [] [.cell 4 41] hr zAV Tryz.func114
 intro Φ hΦ hF g
 unfold zcA at hF
 refine wW ?_
 refine wX zx5 follows ?_
 refine wC hF [.io, .sh] zaL (fun z1 hF => ?_)
 refine wC hF [.io, .sh] zaL (fun z2 hF => ?_)
 refine wK [0, 4] ?_
 cases hΦ _ (zaa hF)
 try simp [go_sem, g]
def zc3 (a0c0 : List Int) (a0c1 : Int) (a0c2 : Int) (a1 : Int) : Option (List Int × (List Int × Int × Int)) :=
 ((zbX (σ := (List Int) × Int) (fun s4 =>
 if decide (s4.2 < a1) = true then (
 gd ((s4.1.length + 1) * 8 ≤ 140737488355328 ∧ s4.1.length + 1 ≤ 4611686018427387904) <|
 some (.go (s4.1 ++ [s4.2], i64.wrap (s4.2 + 1)))) else (
 some (.out s4.1))) ([], 0) : Option ((List Int))).bind fun x3 =>
 ((zbX (σ := (List Int × Int × Int) × List Int × Int) (fun s25 =>
 if decide (0 < s25.2.2) = true then (
 (zag s25.1.1 s25.1.2.1 s25.1.2.2 (i64.wrap (s25.2.2 + 1))).bind fun z31 =>
 (ix s25.2.1 s25.2.2).bind fun x32 =>
 (ix s25.2.1 z31.1).bind fun x33 =>
 (ix (s25.2.1.set s25.2.2.toNat x33) z31.1).bind fun x34 =>
 some (.go ((z31.2.1, z31.2.2.1, z31.2.2.2), (s25.2.1.set s25.2.2.toNat x33).set z31.1.toNat x32, i64.wrap (s25.2.2 - 1)))) else (
 some (.out ((s25.1.1, s25.1.2.1, s25.1.2.2), s25.2.1)))) ((a0c0, a0c1, a0c2), x3, i64.wrap (a1 - 1)) : Option (((List Int × Int × Int) × List Int))).bind fun x14 =>
 some (x14.2, (x14.1.1, x14.1.2.1, x14.1.2.2))))
theorem zjd : ∀ {a0c0} {a0c1} {a0c2} {a1} {r}, zc3 a0c0 a0c1 a0c2 a1 = some r → PCalls Tryz.prog 115 [(.io, vB a0c0 a0c1 a0c2), (.sh, .int .i64 a1)] (Eo (vD r.1) [vB r.2.1 r.2.2.1 r.2.2.2, .junk]) := by
 intro a0c0 a0c1 a0c2 a1 r hr
 apply pF 45 [0] [] [] [.tmp 4] hr zzZ Tryz.func115
 intro Φ hΦ hF g
 unfold zc3 at hF
 iterate 3 refine wW ?_
 refine wJ hF (fun x3 => [(0, .v (vB a0c0 a0c1 a0c2)), (1, .v (.int .i64 a1)), (5, .v (vD x3))]) (fun x3 hF => ?_) fun _ hj1 hF => ?_
 ·refine wW ?_
  refine wJ hF (fun x14 => [(0, .v (vB x14.1.1 x14.1.2.1 x14.1.2.2)), (5, .v (vD x14.2))]) (fun x14 hF => ?_) fun _ hj12 hF => ?_
  ·cases hΦ _ (zaa hF)
   refine wW ?_
   try simp [go_sem, g]
  refine wB ?_
  obtain ⟨b35, hb36, hψ29⟩ := hF
  refine pL hb36 (fun s25 => [(0, .v (vB s25.1.1 s25.1.2.1 s25.1.2.2)), (5, .v (vD s25.2.1)), (7, .v (.int .i64 s25.2.2))]) (fun s25 _ _ ho27 hg28 hF => ?_)
  refine wW ?_
  refine wI hF (fun h30 hF => ?_) (fun h30 hF => ?_)
  ·refine wW ?_
   refine wB ?_
   refine wC hF [.io, .sh] zah (fun z31 hF => ?_)
   refine wK [0, 5, 7, 8] ?_
   obtain ⟨x32, g, hF⟩ := Rx g hF
   obtain ⟨x33, g, hF⟩ := Rx g hF
   refine wW ?_
   refine wK [0, 5, 7, 8, 9] ?_
   obtain ⟨x34, g, hF⟩ := Rx g hF
   try simp only [List.length_set] at g
   refine wW ?_
   exact wT (hg28 _) (zaa hF)
  cases ho27 _ (zaa hF)
  exact wT (hj12 _) hψ29
 refine wB ?_
 obtain ⟨b10, hb11, hψ8⟩ := hF
 refine pL hb11 (fun s4 => [(0, .v (vB a0c0 a0c1 a0c2)), (1, .v (.int .i64 a1)), (5, .v (vD s4.1)), (6, .v (.int .i64 s4.2))]) (fun s4 _ _ ho6 hg7 hF => ?_)
 refine wW ?_
 refine wI hF (fun h9 hF => ?_) (fun h9 hF => ?_)
 ·refine wW ?_
  refine wB ?_
  obtain ⟨g, hF⟩ := Rg g hF
  refine wK [0, 1, 5, 6] ?_
  exact wT (hg7 _) (zaa hF)
 cases ho6 _ (zaa hF)
 exact wT (hj1 _) hψ8
def zcK (a0c0 : List Int) (a0c1 : Int) (a0c2 : Int) (a1 : Group) (a2 : Int) : Option (List Int × (List Int × Int × Int)) :=
 ((zbX (σ := (List Int × Int × Int) × Int × List Int) (fun s11 =>
 if decide (0 < s11.2.1) = true then (
 (zbb s11.1.1 s11.1.2.1 s11.1.2.2 a1).bind fun z17 =>
 gd ((s11.2.2.length + 1) * 8 ≤ 140737488355328 ∧ s11.2.2.length + 1 ≤ 4611686018427387904) <|
 some (.go ((z17.2.1, z17.2.2.1, z17.2.2.2), i64.wrap (s11.2.1 - 1), s11.2.2 ++ [z17.1]))) else (
 some (.out ((s11.1.1, s11.1.2.1, s11.1.2.2), s11.2.2)))) ((a0c0, a0c1, a0c2), a2, []) : Option (((List Int × Int × Int) × List Int))).bind fun x3 =>
 some (x3.2, (x3.1.1, x3.1.2.1, x3.1.2.2)))
theorem ziK : ∀ {a0c0} {a0c1} {a0c2} {a1} {a2} {r}, zcK a0c0 a0c1 a0c2 a1 a2 = some r → PCalls Tryz.prog 89 [(.io, vB a0c0 a0c1 a0c2), (.sh, vE a1), (.sh, .int .i64 a2)] (Eo (vD r.1) [vB r.2.1 r.2.2.1 r.2.2.2, .junk, .junk]) := by
 intro a0c0 a0c1 a0c2 a1 a2 r hr
 apply pF 19 [0] [] [] [.tmp 6] hr zFo Tryz.func89
 intro Φ hΦ hF g
 unfold zcK at hF
 iterate 2 refine wW ?_
 refine wJ hF (fun x3 => [(0, .v (vB x3.1.1 x3.1.2.1 x3.1.2.2)), (7, .v (vD x3.2))]) (fun x3 hF => ?_) fun _ hj1 hF => ?_
 ·cases hΦ _ (zaa hF)
  refine wW ?_
  try simp [go_sem, g]
 refine wB ?_
 obtain ⟨b18, hb19, hψ15⟩ := hF
 refine pL hb19 (fun s11 => [(0, .v (vB s11.1.1 s11.1.2.1 s11.1.2.2)), (2, .v (.int .i64 s11.2.1)), (4, .bl [.int .i64 a1.P, .int .i64 a1.Q, .int .i64 a1.G]), (7, .v (vD s11.2.2))]) (fun s11 _ _ ho13 hg14 hF => ?_)
 refine wW ?_
 refine wI hF (fun h16 hF => ?_) (fun h16 hF => ?_)
 ·refine wW ?_
  refine wB ?_
  refine wC hF [.io, .sh] za2 (fun z17 hF => ?_)
  obtain ⟨g, hF⟩ := Rg g hF
  refine wK [0, 2, 4, 7] ?_
  exact wT (hg14 _) (zaa hF)
 cases ho13 _ (zaa hF)
 exact wT (hj1 _) hψ15
@[go_sem] def zwP : List DE := [d0 0 [7], d0 1 [0], d0 2 [2], d0 4 [0], d1 5 [4] 4, d2 6 [34] 4 34, d0 7 [35], d3 3 [30, 31], ⟨8, [33, 36], [], none, true, true, true⟩, d0 9 [29, 32], d0 10 [38, 37]]
def zbP (a0c0 : List Int) (a0c1 : Int) (a0c2 : Int) (a1 : Group) (a2 : Int) : Option (List Int × (List Int × Int × Int)) :=
 (zcK a0c0 a0c1 a0c2 a1 a2).bind fun z1 =>
 (zag z1.2.1 z1.2.2.1 z1.2.2.2 30).bind fun z2 =>
 ((if (z2.1 == 0) = true then (
 gd ((z1.1.length + 1) * 8 ≤ 140737488355328 ∧ z1.1.length + 1 ≤ 4611686018427387904) <|
 some (.inr (z1.1 ++ [0], (z2.2.1, z2.2.2.1, z2.2.2.2)))) else (
 if (z2.1 == 1) = true then (
 if decide (0 < a2) = true then (
 gd (1 ≤ z1.1.length ∧ z1.1.length ≤ z1.1.length) <|
 some (.inr ((z1.1.take z1.1.length).drop 1, (z2.2.1, z2.2.2.1, z2.2.2.2)))) else (
 some (.inl ((z2.2.1, z2.2.2.1, z2.2.2.2), z1.1)))) else (
 if (z2.1 == 2) = true then (
 if decide (0 < a2) = true then (
 (zag z2.2.1 z2.2.2.1 z2.2.2.2 a2).bind fun z11 =>
 (zao z11.2.1 z11.2.2.1 z11.2.2.2 [(-1), a1.Q]).bind fun z12 =>
 (ix z1.1 z11.1).bind fun x13 =>
 some (.inl ((z12.2.1, z12.2.2.1, z12.2.2.2), z1.1.set z11.1.toNat z12.1))) else (
 some (.inl ((z2.2.1, z2.2.2.1, z2.2.2.2), z1.1)))) else (
 some (.inl ((z2.2.1, z2.2.2.1, z2.2.2.2), z1.1))))) : Option (((List Int × Int × Int) × List Int) ⊕ (List Int × (List Int × Int × Int)))).bind (Sum.elim (fun x5 =>
 some (x5.2, (x5.1.1, x5.1.2.1, x5.1.2.2))) some))
theorem zfz : ∀ {a0c0} {a0c1} {a0c2} {a1} {a2} {r}, zbP a0c0 a0c1 a0c2 a1 a2 = some r → PCalls Tryz.prog 31 [(.io, vB a0c0 a0c1 a0c2), (.sh, vE a1), (.sh, .int .i64 a2)] (Eo (vC r.1) [vB r.2.1 r.2.2.1 r.2.2.2, .junk, .junk]) := by
 intro a0c0 a0c1 a0c2 a1 a2 r hr
 apply pF 40 [0] [6] [] [.tmp 6] hr zFX Tryz.func31
 intro Φ hΦ hF g
 unfold zbP at hF
 refine wW ?_
 refine wC hF [.io, .sh, .sh] ziK (fun z1 hF => ?_)
 refine wW ?_
 refine wC hF [.io, .sh] zah (fun z2 hF => ?_)
 refine wW ?_
 refine wS hF (fun x5 => [(0, .v (vB x5.1.1 x5.1.2.1 x5.1.2.2)), (7, .v (vD x5.2))]) (fun x5 hF => ?_) fun _ hj3 hr4 hF => ?_
 ·refine wK [0, 6] ?_
  cases hΦ _ (zaa hF)
  try simp [go_sem, g]
 refine wB ?_
 refine wK [0, 2, 4, 7, 13, 14] ?_
 refine wI hF (fun h6 hF => ?_) (fun h6 hF => ?_)
 ·obtain ⟨g, hF⟩ := Rg g hF
  cases hΦ _ (hr4 _ (zaa hF))
  refine wW ?_
  try simp [go_sem, g]
 refine wW ?_
 refine wI hF (fun h7 hF => ?_) (fun h7 hF => ?_)
 ·refine wW ?_
  refine wI hF (fun h8 hF => ?_) (fun h8 hF => ?_)
  ·obtain ⟨g, hF⟩ := Rg g hF
   cases hΦ _ (hr4 _ (zaa hF))
   refine wW ?_
   try simp [go_sem, g]
  exact wT (hj3 _) (zaa hF)
 refine wW ?_
 refine wI hF (fun h9 hF => ?_) (fun h9 hF => ?_)
 ·refine wW ?_
  refine wI hF (fun h10 hF => ?_) (fun h10 hF => ?_)
  ·refine wX zwP follows ?_
   refine wC hF [.io, .sh] zah (fun z11 hF => ?_)
   refine wC hF [.io, .mv] zak (fun z12 hF => ?_)
   obtain ⟨x13, g, hF⟩ := Rx g hF
   exact wT (hj3 _) (zaa hF)
  exact wT (hj3 _) (zaa hF)
 exact wT (hj3 _) (zaa hF)
def zaW (a0c0 : List Int) (a0c1 : Int) (a0c2 : Int) (a1 : Group) : Option (Int × (List Int × Int × Int)) :=
 (zbK a0c0 a0c1 a0c2 20).bind fun z1 =>
 if z1.1 = true then (
 (zao z1.2.1 z1.2.2.1 z1.2.2.2 [0, 1, i64.wrap (a1.P - 1), a1.P, (-1), 5]).bind fun z3 =>
 some (z3.1, (z3.2.1, z3.2.2.1, z3.2.2.2))) else (
 (zaR z1.2.1 z1.2.2.1 z1.2.2.2 a1).bind fun z4 =>
 some (z4.1, (z4.2.1, z4.2.2.1, z4.2.2.2)))
theorem zb0 : ∀ {a0c0} {a0c1} {a0c2} {a1} {r}, zaW a0c0 a0c1 a0c2 a1 = some r → PCalls Tryz.prog 116 [(.io, vB a0c0 a0c1 a0c2), (.sh, vE a1)] (Eo (.int .i64 r.1) [vB r.2.1 r.2.2.1 r.2.2.2, .junk]) := by
 intro a0c0 a0c1 a0c2 a1 r hr
 apply pF 18 [0] [] [] [.tmp 4] hr zzt Tryz.func116
 intro Φ hΦ hF g
 unfold zaW at hF
 refine wW ?_
 refine wC hF [.io, .sh] zd6 (fun z1 hF => ?_)
 refine wW ?_
 refine wI hF (fun h2 hF => ?_) (fun h2 hF => ?_)
 ·refine wC hF [.io, .mv] zak (fun z3 hF => ?_)
  refine wK [0, 4] ?_
  cases hΦ _ (zaa hF)
  try simp [go_sem, g]
 refine wW ?_
 refine wC hF [.io, .sh] zaL (fun z4 hF => ?_)
 cases hΦ _ (zaa hF)
 refine wW ?_
 try simp [go_sem, g]
@[go_sem] def zAX : List DE := [d0 0 [0], d2 1 [3] 3 3, d0 3 [0], d2 4 [3] 3 3, d3 2 [5, 6], d3 5 [8, 9], d0 6 [7, 10], d2 7 [4, 11] 4 4]
def zbI (a0c0 : List Int) (a0c1 : Int) (a0c2 : Int) (a1 : Group) : Option (Cipher × (List Int × Int × Int)) :=
 (zaW a0c0 a0c1 a0c2 a1).bind fun z1 =>
 (zaW z1.2.1 z1.2.2.1 z1.2.2.2 a1).bind fun z2 =>
 some ((Cipher.mk z1.1 z2.1), (z2.2.1, z2.2.2.1, z2.2.2.2))
theorem zfh : ∀ {a0c0} {a0c1} {a0c2} {a1} {r}, zbI a0c0 a0c1 a0c2 a1 = some r → PCalls Tryz.prog 75 [(.io, vB a0c0 a0c1 a0c2), (.sh, vE a1)] (Eo (vF r.1) [vB r.2.1 r.2.2.1 r.2.2.2, .junk]) := by
 intro a0c0 a0c1 a0c2 a1 r hr
 apply pF 12 [0] [] [] [.cell 4 41] hr zDq Tryz.func75
 intro Φ hΦ hF g
 unfold zbI at hF
 refine wW ?_
 refine wX zAX follows ?_
 refine wC hF [.io, .sh] zb0 (fun z1 hF => ?_)
 refine wC hF [.io, .sh] zb0 (fun z2 hF => ?_)
 refine wK [0, 4] ?_
 cases hΦ _ (zaa hF)
 try simp [go_sem, g]
@[go_sem] def zyg : List DE := [d2 0 [7] 7 7, d0 1 [0], d2 2 [7] 7 7, d0 4 [8], d0 5 [10], d0 6 [11], d3 3 [75, 76], d2 7 [2, 74] 2 2, d0 8 [77], d0 9 [78], d0 10 [79], d0 11 [80]]
def zcM (a0c0 : List Int) (a0c1 : Int) (a0c2 : Int) : Option (Group × Int × List Cipher × List Int × List Int × (List Int × Int × Int)) :=
 (zcd a0c0 a0c1 a0c2).bind fun z1 =>
 (zbK z1.2.1 z1.2.2.1 z1.2.2.2 20).bind fun z2 =>
 ((if z2.1 = true then (
 (zcg z2.2.1 z2.2.2.1 z2.2.2.2).bind fun z7 =>
 some ((z7.2.1, z7.2.2.1, z7.2.2.2), z7.1.P, z7.1.Q, z7.1.G)) else (
 some ((z2.2.1, z2.2.2.1, z2.2.2.2), z1.1.P, z1.1.Q, z1.1.G)) : Option (((List Int × Int × Int) × Int × Int × Int))).bind fun x5 =>
 (zag x5.1.1 x5.1.2.1 x5.1.2.2 4).bind fun z8 =>
 ((zbX (σ := (List Int × Int × Int) × List Cipher × Int) (fun s19 =>
 if decide (0 < s19.2.2) = true then (
 (zcA s19.1.1 s19.1.2.1 s19.1.2.2 (Group.mk x5.2.1 x5.2.2.1 x5.2.2.2)).bind fun z25 =>
 gd ((s19.2.1.length + 1) * 16 ≤ 140737488355328 ∧ s19.2.1.length + 1 ≤ 4611686018427387904) <|
 some (.go ((z25.2.1, z25.2.2.1, z25.2.2.2), s19.2.1 ++ [z25.1], i64.wrap (s19.2.2 - 1)))) else (
 some (.out ((s19.1.1, s19.1.2.1, s19.1.2.2), s19.2.1)))) ((z8.2.1, z8.2.2.1, z8.2.2.2), [], i64.wrap (1 + z8.1)) : Option (((List Int × Int × Int) × List Cipher))).bind fun x11 =>
 (zc3 x11.1.1 x11.1.2.1 x11.1.2.2 (x11.2.length : Int)).bind fun z28 =>
 (zbP z28.2.1 z28.2.2.1 z28.2.2.2 (Group.mk x5.2.1 x5.2.2.1 x5.2.2.2) (x11.2.length : Int)).bind fun z29 =>
 (zag z29.2.1 z29.2.2.1 z29.2.2.2 24).bind fun z30 =>
 ((if (z30.1 == 0) = true then (
 (zbI z30.2.1 z30.2.2.1 z30.2.2.2 (Group.mk x5.2.1 x5.2.2.1 x5.2.2.2)).bind fun z35 =>
 (ix x11.2 0).bind fun x36 =>
 some ((z35.2.1, z35.2.2.1, z35.2.2.2), x11.2.set 0 z35.1, z28.1)) else (
 if (z30.1 == 1) = true then (
 (zao z30.2.1 z30.2.2.1 z30.2.2.2 [(-1), (x11.2.length : Int), 0]).bind fun z38 =>
 (ix z28.1 0).bind fun x39 =>
 some ((z38.2.1, z38.2.2.1, z38.2.2.2), x11.2, z28.1.set 0 z38.1)) else (
 if (z30.1 == 2) = true then (
 some ((z30.2.1, z30.2.2.1, z30.2.2.2), [], z28.1)) else (
 if (z30.1 == 3) = true then (
 zbX (σ := (List Int × Int × Int) × List Cipher) (fun s50 =>
 (zag s50.1.1 s50.1.2.1 s50.1.2.2 2).bind fun z55 =>
 if decide ((s50.2.length : Int) < (i64.wrap (12 + z55.1))) = true then (
 (ix s50.2 0).bind fun x57 =>
 gd ((s50.2.length + 1) * 16 ≤ 140737488355328 ∧ s50.2.length + 1 ≤ 4611686018427387904) <|
 some (.go ((z55.2.1, z55.2.2.1, z55.2.2.2), s50.2 ++ [x57]))) else (
 some (.out ((z55.2.1, z55.2.2.1, z55.2.2.2), s50.2, z28.1)))) ((z30.2.1, z30.2.2.1, z30.2.2.2), x11.2)) else (
 some ((z30.2.1, z30.2.2.1, z30.2.2.2), x11.2, z28.1))))) : Option (((List Int × Int × Int) × List Cipher × List Int))).bind fun x33 =>
 (zaW x33.1.1 x33.1.2.1 x33.1.2.2 (Group.mk x5.2.1 x5.2.2.1 x5.2.2.2)).bind fun z60 =>
 some ((Group.mk x5.2.1 x5.2.2.1 x5.2.2.2), z60.1, x33.2.1, x33.2.2, z29.1, (z60.2.1, z60.2.2.1, z60.2.2.2)))))
theorem ziL : ∀ {a0c0} {a0c1} {a0c2} {r}, zcM a0c0 a0c1 a0c2 = some r → PCalls Tryz.prog 65 [(.io, vB a0c0 a0c1 a0c2)] (Eo (.tup [vE r.1, .int .i64 r.2.1, vG r.2.2.1, vD r.2.2.2.1, vC r.2.2.2.2.1]) [vB r.2.2.2.2.2.1 r.2.2.2.2.2.2.1 r.2.2.2.2.2.2.2]) := by
 intro a0c0 a0c1 a0c2 r hr
 apply pF 81 [0] [] [] [.cell 2 24, .tmp 3, .tmp 4, .tmp 5, .tmp 6] hr zDN Tryz.func65
 intro Φ hΦ hF g
 unfold zcM at hF
 refine wW ?_
 refine wC hF [.io] zgh (fun z1 hF => ?_)
 refine wW ?_
 refine wC hF [.io, .sh] zd6 (fun z2 hF => ?_)
 refine wK [0, 2, 7, 15] ?_
 refine wJ hF (fun x5 => [(0, .v (vB x5.1.1 x5.1.2.1 x5.1.2.2)), (2, .bl [.int .i64 0, .int .i64 0, .int .i64 0]), (7, .bl [.int .i64 x5.2.1, .int .i64 x5.2.2.1, .int .i64 x5.2.2.2])]) (fun x5 hF => ?_) fun _ hj3 hF => ?_
 ·refine wW ?_
  refine wC hF [.io, .sh] zah (fun z8 hF => ?_)
  refine wW ?_
  refine wJ hF (fun x11 => [(0, .v (vB x11.1.1 x11.1.2.1 x11.1.2.2)), (2, .bl [.int .i64 0, .int .i64 0, .int .i64 0]), (7, .bl [.int .i64 x5.2.1, .int .i64 x5.2.2.1, .int .i64 x5.2.2.2]), (8, .v (vG x11.2))]) (fun x11 hF => ?_) fun _ hj9 hF => ?_
  ·try simp [go_sem, g]
   try intros
   refine wC hF [.io, .sh] zjd (fun z28 hF => ?_)
   refine wK [0, 2, 7, 8, 10] ?_
   try simp [go_sem, g]
   try intros
   refine wC hF [.io, .sh, .sh] zfz (fun z29 hF => ?_)
   refine wW ?_
   refine wC hF [.io, .sh] zah (fun z30 hF => ?_)
   refine wW ?_
   refine wJ hF (fun x33 => [(0, .v (vB x33.1.1 x33.1.2.1 x33.1.2.2)), (2, .bl [.int .i64 0, .int .i64 0, .int .i64 0]), (7, .bl [.int .i64 x5.2.1, .int .i64 x5.2.2.1, .int .i64 x5.2.2.2]), (8, .v (vG x33.2.1)), (10, .v (vD x33.2.2)), (11, .v (vC z29.1))]) (fun x33 hF => ?_) fun _ hj31 hF => ?_
   ·refine wX zyg follows ?_
    refine wC hF [.io, .sh] zb0 (fun z60 hF => ?_)
    refine wK [0, 2, 3, 4, 5, 6] ?_
    cases hΦ _ (zaa hF)
    try simp [go_sem, g]
   refine wB ?_
   refine wK [0, 2, 7, 8, 10, 11, 41, 42] ?_
   refine wI hF (fun h34 hF => ?_) (fun h34 hF => ?_)
   ·refine wC hF [.io, .sh] zfh (fun z35 hF => ?_)
    obtain ⟨x36, g, hF⟩ := Rxn g 0 hF
    exact wT (hj31 _) (zaa hF)
   refine wW ?_
   refine wI hF (fun h37 hF => ?_) (fun h37 hF => ?_)
   ·try simp [go_sem, g]
    try intros
    refine wC hF [.io, .mv] zak (fun z38 hF => ?_)
    obtain ⟨x39, g, hF⟩ := Rxn g 0 hF
    exact wT (hj31 _) (zaa hF)
   refine wW ?_
   refine wI hF (fun h40 hF => ?_) (fun h40 hF => ?_)
   ·exact wT (hj31 _) (zaa hF)
   refine wW ?_
   refine wI hF (fun h41 hF => ?_) (fun h41 hF => ?_)
   ·refine wB ?_
    obtain ⟨b58, hb59, hψ54⟩ := hF
    refine pL hb59 (fun s50 => [(0, .v (vB s50.1.1 s50.1.2.1 s50.1.2.2)), (2, .bl [.int .i64 0, .int .i64 0, .int .i64 0]), (7, .bl [.int .i64 x5.2.1, .int .i64 x5.2.2.1, .int .i64 x5.2.2.2]), (8, .v (vG s50.2)), (10, .v (vD z28.1)), (11, .v (vC z29.1))]) (fun s50 _ _ ho52 hg53 hF => ?_)
    try simp [go_sem, g]
    try intros
    refine wC hF [.io, .sh] zah (fun z55 hF => ?_)
    refine wK [0, 2, 7, 8, 10, 11, 67] ?_
    refine wI hF (fun h56 hF => ?_) (fun h56 hF => ?_)
    ·refine wW ?_
     refine wB ?_
     obtain ⟨x57, g, hF⟩ := Rxn g 0 hF
     obtain ⟨g, hF⟩ := Rg g hF
     exact wT (hg53 _) (zaa hF)
    cases ho52 _ (zaa hF)
    exact wT (hj31 _) hψ54
   exact wT (hj31 _) (zaa hF)
  refine wB ?_
  obtain ⟨b26, hb27, hψ23⟩ := hF
  refine pL hb27 (fun s19 => [(0, .v (vB s19.1.1 s19.1.2.1 s19.1.2.2)), (2, .bl [.int .i64 0, .int .i64 0, .int .i64 0]), (7, .bl [.int .i64 x5.2.1, .int .i64 x5.2.2.1, .int .i64 x5.2.2.2]), (8, .v (vG s19.2.1)), (9, .v (.int .i64 s19.2.2))]) (fun s19 _ _ ho21 hg22 hF => ?_)
  refine wW ?_
  refine wI hF (fun h24 hF => ?_) (fun h24 hF => ?_)
  ·refine wW ?_
   refine wB ?_
   refine wC hF [.io, .sh] ziz (fun z25 hF => ?_)
   obtain ⟨g, hF⟩ := Rg g hF
   refine wK [0, 2, 7, 8, 9] ?_
   exact wT (hg22 _) (zaa hF)
  cases ho21 _ (zaa hF)
  exact wT (hj9 _) hψ23
 refine wI hF (fun h6 hF => ?_) (fun h6 hF => ?_)
 ·refine wC hF [.io] zhO (fun z7 hF => ?_)
  exact wT (hj3 _) (zaa hF)
 exact wT (hj3 _) (zaa hF)
@[go_sem] def zzX : List DE := [d2 0 [9] 9 9, d0 1 [10], d0 2 [11], d0 3 [12], d0 4 [13], d0 5 [8], d2 6 [9] 9 9, d0 7 [11], d0 8 [32], d0 9 [33], d0 10 [34], d3 11 [30, 31, 35], d2 12 [2, 25] 2 2, d0 13 [26], d0 14 [27], d0 15 [28], d0 16 [29], d0 17 [36]]
def zcn (a0 : List Int) : Option (Group × Int × List Cipher × List Int × List Int × List Int) :=
 (zcM a0 0 0).bind fun z1 =>
 (zbP z1.2.2.2.2.2.1 z1.2.2.2.2.2.2.1 z1.2.2.2.2.2.2.2 z1.1 (i64.wrap ((i64.wrap (4 * (z1.2.2.1.length : Int))) + 4))).bind fun z2 =>
 some (z1.1, z1.2.1, z1.2.2.1, z1.2.2.2.1, z1.2.2.2.2.1, z2.1)
theorem zgs : ∀ {a0} {r}, zcn a0 = some r → PCalls Tryz.prog 18 [(.sh, vA a0)] (Eo (.tup [vE r.1, .int .i64 r.2.1, vG r.2.2.1, vD r.2.2.2.1, vC r.2.2.2.2.1, vC r.2.2.2.2.2]) [.junk]) := by
 intro a0 r hr
 apply pF 37 [] [] [16] [.cell 2 24, .tmp 3, .tmp 4, .tmp 5, .tmp 6, .tmp 7] hr zEa Tryz.func18
 intro Φ hΦ hF g
 unfold zcn at hF
 refine wW ?_
 refine wK [2, 8] ?_
 refine wC hF [.io] ziL (fun z1 hF => ?_)
 refine wK [2, 8, 9, 10, 11, 12, 13] ?_
 refine wX zzX follows ?_
 try simp [go_sem, g]
 try intros
 refine wC hF [.io, .sh, .sh] zfz (fun z2 hF => ?_)
 refine wK [2, 3, 4, 5, 6, 7] ?_
 cases hΦ _ (zaa hF)
 try simp [go_sem, g]
def zbv (a0 : Int) (a1 : Int) (a2 : Int) : Option Bool :=
 ((if decide (a1 ≤ a0) = true then (
 some (decide (a0 ≤ a2))) else (
 some false) : Option Bool).bind fun x3 =>
 some x3)
theorem zcf : ∀ {a0} {a1} {a2} {r}, zbv a0 a1 a2 = some r → PCalls Tryz.prog 35 [(.sh, .int .i64 a0), (.sh, .int .i64 a1), (.sh, .int .i64 a2)] (Eo (.bool r) [.junk, .junk, .junk]) := by
 intro a0 a1 a2 r hr
 apply pF 15 [] [] [] [.tmp 6] hr zGb Tryz.func35
 intro Φ hΦ hF g
 unfold zbv at hF
 refine wW ?_
 refine wJ hF (fun x3 => [(6, .v (.bool x3))]) (fun x3 hF => ?_) fun _ hj1 hF => ?_
 ·cases hΦ _ (zaa hF)
  try simp [go_sem, g]
 refine wG hF (fun h4 hF => ?_) fun h4 hF => ?_
 ·try simp [go_sem, g, h4]
  exact wT (hj1 _) (zaa hF)
 try simp [go_sem, g, h4]
 exact wT (hj1 _) (zaa hF)
def zew (a0 : Int) : Option Bool :=
 (zbv a0 2 2000000000).bind fun z1 =>
 some z1
theorem zl7 : ∀ {a0} {r}, zew a0 = some r → PCalls Tryz.prog 165 [(.sh, .int .i64 a0)] (Eo (.bool r) [.junk]) := by
 intro a0 r hr
 apply pF 5 [] [] [] [.tmp 2] hr zzr Tryz.func165
 intro Φ hΦ hF g
 unfold zew at hF
 refine wW ?_
 refine wC hF [.sh, .sh, .sh] zcf (fun z1 hF => ?_)
 cases hΦ _ (zaa hF)
 refine wW ?_
 try simp [go_sem, g]
def zer (a0 : Int) : Option Bool :=
 (((zew a0).bind fun z4 =>
 if (!z4) = true then (
 some true) else (
 if ((a0.tmod 2) == 0) = true then (
 some (a0 != 2)) else (
 some false)) : Option Bool).bind fun x3 =>
 if x3 = true then (
 some false) else (
 ((zbX (σ := Int) (fun s11 =>
 if decide ((i64.wrap (s11 * s11)) ≤ a0) = true then (
 gd (s11 ≠ 0) <|
 if ((a0.tmod s11) == 0) = true then (
 some (.out (.inr false))) else (
 some (.go (i64.wrap (s11 + 2))))) else (
 some (.out (.inl ())))) 3 : Option (Unit ⊕ Bool)).bind (Sum.elim (fun x10 =>
 some true) some))))
theorem zjE : ∀ {a0} {r}, zer a0 = some r → PCalls Tryz.prog 104 [(.sh, .int .i64 a0)] (Eo (.bool r) [.junk]) := by
 intro a0 r hr
 apply pF 27 [] [] [] [.tmp 2] hr zBH Tryz.func104
 intro Φ hΦ hF g
 unfold zer at hF
 refine wW ?_
 refine wJ hF (fun x3 => [(0, .v (.int .i64 a0)), (15, .v (.bool x3))]) (fun x3 hF => ?_) fun _ hj1 hF => ?_
 ·refine wI hF (fun h7 hF => ?_) (fun h7 hF => ?_)
  ·cases hΦ _ (zaa hF)
   refine wW ?_
   try simp [go_sem, g]
  iterate 2 refine wW ?_
  refine wS hF (fun x10 => []) (fun x10 hF => ?_) fun _ hj8 hr9 hF => ?_
  ·cases hΦ _ (zaa hF)
   refine wW ?_
   try simp [go_sem, g]
  refine wB ?_
  obtain ⟨b18, hb19, hψ15⟩ := hF
  refine pL hb19 (fun s11 => [(0, .v (.int .i64 a0)), (3, .v (.int .i64 s11))]) (fun s11 _ _ ho13 hg14 hF => ?_)
  refine wW ?_
  refine wI hF (fun h16 hF => ?_) (fun h16 hF => ?_)
  ·refine wW ?_
   refine wB ?_
   obtain ⟨g, hF⟩ := Rz g hF
   refine wK [0, 3, 26] ?_
   refine wI hF (fun h17 hF => ?_) (fun h17 hF => ?_)
   ·cases ho13 _ (zaa hF)
    cases hΦ _ (hr9 _ hψ15)
    refine wW ?_
    try simp [go_sem, g]
   refine wW ?_
   exact wT (hg14 _) (zaa hF)
  cases ho13 _ (zaa hF)
  exact wT (hj8 _) hψ15
 refine wC hF [.sh] zl7 (fun z4 hF => ?_)
 refine wG hF (fun h5 hF => ?_) fun h5 hF => ?_
 ·try simp [go_sem, g, h5]
  exact wT (hj1 _) (zaa hF)
 have g := Ld g 2
 try simp [go_sem, g, h5]
 refine wG hF (fun h6 hF => ?_) fun h6 hF => ?_
 ·try simp [go_sem, g, h6, h5]
  exact wT (hj1 _) (zaa hF)
 try simp [go_sem, g, h6, h5]
 exact wT (hj1 _) (zaa hF)
def zc7 (a0 : Int) (a1 : Int) (a2 : Int) : Option Int :=
 gd (a2 ≠ 0) <|
 ((zbX (σ := Int × Int × Int) (fun s4 =>
 if decide (0 < s4.2.1) = true then (
 ((if ((i64.wrap ((BitVec.ofInt i64.bits s4.2.1 &&& BitVec.ofInt i64.bits 1).toNat)) == 1) = true then (
 gd (a2 ≠ 0) <|
 some ((i64.wrap (s4.2.2 * s4.1)).tmod a2)) else (
 some s4.2.2) : Option Int).bind fun x12 =>
 gd (a2 ≠ 0) <|
 some (.go ((i64.wrap (s4.1 * s4.1)).tmod a2, s4.2.1.fdiv 2, x12)))) else (
 some (.out s4.2.2))) (a0, a1, (1 : Int).tmod a2) : Option Int).bind fun x3 =>
 some x3)
theorem zha : ∀ {a0} {a1} {a2} {r}, zc7 a0 a1 a2 = some r → PCalls Tryz.prog 105 [(.sh, .int .i64 a0), (.sh, .int .i64 a1), (.sh, .int .i64 a2)] (Eo (.int .i64 r) [.junk, .junk, .junk]) := by
 intro a0 a1 a2 r hr
 apply pF 28 [] [] [] [.tmp 6] hr zzJ Tryz.func105
 intro Φ hΦ hF g
 unfold zc7 at hF
 obtain ⟨g, hF⟩ := Rz g hF
 iterate 2 refine wW ?_
 refine wJ hF (fun x3 => [(7, .v (.int .i64 x3))]) (fun x3 hF => ?_) fun _ hj1 hF => ?_
 ·cases hΦ _ (zaa hF)
  refine wW ?_
  try simp [go_sem, g]
 refine wB ?_
 obtain ⟨b14, hb15, hψ8⟩ := hF
 refine pL hb15 (fun s4 => [(0, .v (.int .i64 s4.1)), (1, .v (.int .i64 s4.2.1)), (2, .v (.int .i64 a2)), (7, .v (.int .i64 s4.2.2))]) (fun s4 _ _ ho6 hg7 hF => ?_)
 refine wW ?_
 refine wI hF (fun h9 hF => ?_) (fun h9 hF => ?_)
 ·refine wW ?_
  refine wB ?_
  refine wW ?_
  refine wJ hF (fun x12 => [(0, .v (.int .i64 s4.1)), (1, .v (.int .i64 s4.2.1)), (2, .v (.int .i64 a2)), (7, .v (.int .i64 x12))]) (fun x12 hF => ?_) fun _ hj10 hF => ?_
  ·obtain ⟨g, hF⟩ := Rz g hF
   refine wK [0, 1, 2, 7] ?_
   have g := Ls g 1
   exact wT (hg7 _) (zaa hF)
  refine wI hF (fun h13 hF => ?_) (fun h13 hF => ?_)
  ·obtain ⟨g, hF⟩ := Rz g hF
   exact wT (hj10 _) (zaa hF)
  exact wT (hj10 _) (zaa hF)
 cases ho6 _ (zaa hF)
 exact wT (hj1 _) hψ8
def zcp (a0 : Group) : Option Bool :=
 (((zbv a0.P 3 2000000000).bind fun z4 =>
 if z4 = true then (
 (zbv a0.Q 2 (i64.wrap (a0.P - 1))).bind fun z6 =>
 if z6 = true then (
 gd (a0.Q ≠ 0) <|
 if (((i64.wrap (a0.P - 1)).tmod a0.Q) == 0) = true then (
 (zbv a0.G 2 (i64.wrap (a0.P - 1))).bind fun z9 =>
 if z9 = true then (
 (zer a0.P).bind fun z11 =>
 if z11 = true then (
 (zer a0.Q).bind fun z13 =>
 if z13 = true then (
 (zc7 a0.G a0.Q a0.P).bind fun z15 =>
 some (z15 == 1)) else (
 some false)) else (
 some false)) else (
 some false)) else (
 some false)) else (
 some false)) else (
 some false) : Option Bool).bind fun x3 =>
 some x3)
theorem zfH : ∀ {a0} {r}, zcp a0 = some r → PCalls Tryz.prog 48 [(.sh, vE a0)] (Eo (.bool r) [.junk]) := by
 intro a0 r hr
 apply pF 51 [] [] [] [.tmp 2] hr zDL Tryz.func48
 intro Φ hΦ hF g
 unfold zcp at hF
 refine wW ?_
 refine wJ hF (fun x3 => [(2, .v (.bool x3))]) (fun x3 hF => ?_) fun _ hj1 hF => ?_
 ·cases hΦ _ (zaa hF)
  try simp [go_sem, g]
 refine wC hF [.sh, .sh, .sh] zcf (fun z4 hF => ?_)
 refine wG hF (fun h5 hF => ?_) fun h5 hF => ?_
 ·try simp [go_sem, g, h5]
  refine wC hF [.sh, .sh, .sh] zcf (fun z6 hF => ?_)
  try simp [go_sem, g, h5]
  refine wG hF (fun h7 hF => ?_) fun h7 hF => ?_
  ·obtain ⟨g, hF⟩ := Rz g hF
   try simp [go_sem, g, h7]
   refine wG hF (fun h8 hF => ?_) fun h8 hF => ?_
   ·try simp [go_sem, g, h8]
    refine wC hF [.sh, .sh, .sh] zcf (fun z9 hF => ?_)
    try simp [go_sem, g, h8]
    refine wG hF (fun h10 hF => ?_) fun h10 hF => ?_
    ·try simp [go_sem, g, h10]
     refine wC hF [.sh] zjE (fun z11 hF => ?_)
     try simp [go_sem, g, h10]
     refine wG hF (fun h12 hF => ?_) fun h12 hF => ?_
     ·try simp [go_sem, g, h12]
      refine wC hF [.sh] zjE (fun z13 hF => ?_)
      try simp [go_sem, g, h12]
      refine wG hF (fun h14 hF => ?_) fun h14 hF => ?_
      ·try simp [go_sem, g, h14]
       refine wC hF [.sh, .sh, .sh] zha (fun z15 hF => ?_)
       try simp [go_sem, g, h14]
       exact wT (hj1 _) (zaa hF)
      try simp [go_sem, g, h14]
      exact wT (hj1 _) (zaa hF)
     try simp [go_sem, g, h12]
     exact wT (hj1 _) (zaa hF)
    try simp [go_sem, g, h10]
    exact wT (hj1 _) (zaa hF)
   try simp [go_sem, g, h8]
   exact wT (hj1 _) (zaa hF)
  try simp [go_sem, g, h7]
  exact wT (hj1 _) (zaa hF)
 try simp [go_sem, g, h5]
 exact wT (hj1 _) (zaa hF)
def zcD (a0 : Group) (a1 : Int) : Option Bool :=
 (((zbv a1 1 (i64.wrap (a0.P - 1))).bind fun z4 =>
 if z4 = true then (
 (zc7 a1 a0.Q a0.P).bind fun z6 =>
 some (z6 == 1)) else (
 some false) : Option Bool).bind fun x3 =>
 some x3)
theorem zfu : ∀ {a0} {a1} {r}, zcD a0 a1 = some r → PCalls Tryz.prog 60 [(.sh, vE a0), (.sh, .int .i64 a1)] (Eo (.bool r) [.junk, .junk]) := by
 intro a0 a1 r hr
 apply pF 19 [] [] [] [.tmp 4] hr zD2 Tryz.func60
 intro Φ hΦ hF g
 unfold zcD at hF
 refine wW ?_
 refine wJ hF (fun x3 => [(4, .v (.bool x3))]) (fun x3 hF => ?_) fun _ hj1 hF => ?_
 ·cases hΦ _ (zaa hF)
  try simp [go_sem, g]
 refine wC hF [.sh, .sh, .sh] zcf (fun z4 hF => ?_)
 refine wG hF (fun h5 hF => ?_) fun h5 hF => ?_
 ·try simp [go_sem, g, h5]
  refine wC hF [.sh, .sh, .sh] zha (fun z6 hF => ?_)
  try simp [go_sem, g, h5]
  exact wT (hj1 _) (zaa hF)
 try simp [go_sem, g, h5]
 exact wT (hj1 _) (zaa hF)
def zc8 (a0 : Group) (a1 : Cipher) : Option Bool :=
 (((zcD a0 a1.A).bind fun z4 =>
 if z4 = true then (
 (zcD a0 a1.B).bind fun z6 =>
 some z6) else (
 some false) : Option Bool).bind fun x3 =>
 some x3)
theorem zjc : ∀ {a0} {a1} {r}, zc8 a0 a1 = some r → PCalls Tryz.prog 52 [(.sh, vE a0), (.sh, vF a1)] (Eo (.bool r) [.junk, .junk]) := by
 intro a0 a1 r hr
 apply pF 15 [] [] [] [.tmp 4] hr zFx Tryz.func52
 intro Φ hΦ hF g
 unfold zc8 at hF
 refine wW ?_
 refine wJ hF (fun x3 => [(4, .v (.bool x3))]) (fun x3 hF => ?_) fun _ hj1 hF => ?_
 ·cases hΦ _ (zaa hF)
  try simp [go_sem, g]
 refine wC hF [.sh, .sh] zfu (fun z4 hF => ?_)
 refine wG hF (fun h5 hF => ?_) fun h5 hF => ?_
 ·try simp [go_sem, g, h5]
  refine wC hF [.sh, .sh] zfu (fun z6 hF => ?_)
  try simp [go_sem, g, h5]
  exact wT (hj1 _) (zaa hF)
 try simp [go_sem, g, h5]
 exact wT (hj1 _) (zaa hF)
def zdb (a0 : Cipher) (a1c0 : Int) (a1c1 : Int) (a1c2 : Int) : Option Bool :=
 (zc8 (Group.mk a1c0 a1c1 a1c2) a0).bind fun z1 =>
 some (!z1)
theorem zhQ : ∀ {a0} {a1c0} {a1c1} {a1c2} {r}, zdb a0 a1c0 a1c1 a1c2 = some r → PCalls Tryz.prog 100 [(.sh, vF a0), (.sh, .fp [.int .i64 a1c0, .int .i64 a1c1, .int .i64 a1c2])] (Eo (.bool r) [.junk, .junk]) := by
 intro a0 a1c0 a1c1 a1c2 r hr
 apply pF 8 [] [] [] [.tmp 3] hr zAp Tryz.func100
 intro Φ hΦ hF g
 unfold zdb at hF
 refine wW ?_
 refine wC hF [.sh, .sh] zjc (fun z1 hF => ?_)
 cases hΦ _ (zaa hF)
 refine wW ?_
 try simp [go_sem, g]
def zax (a0 : List Cipher) (a1u0c0 : Int) (a1u0c1 : Int) (a1u0c2 : Int) : Option Int :=
 ((zar (σ := Unit) (fun i5 s4 =>
 (ix a0 i5).bind fun x11 =>
 (zdb x11 a1u0c0 a1u0c1 a1u0c2).bind fun z12 =>
 if z12 = true then (
 some (.out (.inr i5))) else (
 some (.go ()))) (fun s4 => .inl ()) (a0.length) 0 () : Option (Unit ⊕ Int)).bind (Sum.elim (fun x3 =>
 some (-1)) some))
theorem zcV : ∀ {a0} {a1u0c0} {a1u0c1} {a1u0c2} {r}, zax a0 a1u0c0 a1u0c1 a1u0c2 = some r → PCalls Tryz.prog 162 [(.sh, vH a0), (.sh, .func (.func 100) [] [.fp [.int .i64 a1u0c0, .int .i64 a1u0c1, .int .i64 a1u0c2]])] (Eo (.int .i64 r) [.junk, .junk]) := by
 intro a0 a1u0c0 a1u0c1 a1u0c2 r hr
 apply pF 19 [] [] [] [.tmp 4] hr zyS Tryz.func162
 intro Φ hΦ hF g
 unfold zax at hF
 iterate 2 (try simp [go_sem, g]; try intros; refine zay ?_)
 refine wS hF (fun x3 => []) (fun x3 hF => ?_) fun _ hj1 hr2 hF => ?_
 ·cases hΦ _ (zaa hF)
  refine wW ?_
  try simp [go_sem, g]
 refine wB ?_
 obtain ⟨b14, hb15, hψ8⟩ := hF
 refine pR hb15 (fun i5 s4 => [(0, .v (vH a0)), (1, .v (.func (.func 100) [] [.fp [.int .i64 a1u0c0, .int .i64 a1u0c1, .int .i64 a1u0c2]])), (7, .v (.int .i64 (a0.length : Int))), (8, .v (.int .i64 i5))]) (fun s4 _ hN16 => ?_) (fun i5 s4 _ _ hi9 hi10 ho6 hg7 hF => ?_)
 ·subst hN16
  refine wW ?_
  refine wf ?_
  exact wT (hj1 _) hψ8
 refine wW ?_
 refine wt ?_ (hb := by simp [go_sem, g, hi9, hi10])
 refine wW ?_
 refine wB ?_
 obtain ⟨x11, g, hF⟩ := Rx g hF
 refine wW ?_
 refine wC hF [.sh] zhQ (fun z12 hF => ?_)
 refine wK [0, 1, 5, 7, 8, 16] ?_
 refine wI hF (fun h13 hF => ?_) (fun h13 hF => ?_)
 ·cases ho6 _ (zaa hF)
  cases hΦ _ (hr2 _ hψ8)
  refine wW ?_
  try simp [go_sem, g]
 refine wW ?_
 exact wT (hg7 ()) (zaa hF) (a := by simp [go_sem, g, zbp hi9 hi10 (by assumption)])
def zaF (a0 : List Cipher) (a1u0c0 : Int) (a1u0c1 : Int) (a1u0c2 : Int) : Option Bool :=
 (zax a0 a1u0c0 a1u0c1 a1u0c2).bind fun z1 =>
 some (decide (0 ≤ z1))
theorem zcF : ∀ {a0} {a1u0c0} {a1u0c1} {a1u0c2} {r}, zaF a0 a1u0c0 a1u0c1 a1u0c2 = some r → PCalls Tryz.prog 99 [(.sh, vH a0), (.sh, .func (.func 100) [] [.fp [.int .i64 a1u0c0, .int .i64 a1u0c1, .int .i64 a1u0c2]])] (Eo (.bool r) [.junk, .junk]) := by
 intro a0 a1u0c0 a1u0c1 a1u0c2 r hr
 apply pF 9 [] [] [] [.tmp 4] hr zDY Tryz.func99
 intro Φ hΦ hF g
 unfold zaF at hF
 refine wW ?_
 refine wC hF [.sh, .sh] zcV (fun z1 hF => ?_)
 cases hΦ _ (zaa hF)
 refine wW ?_
 try simp [go_sem, g]
def zcH (a0 : Group) (a1 : List Cipher) : Option Bool :=
 ((if decide ((a1.length : Int) ≤ 24) = true then (
 (zaF a1 a0.P a0.Q a0.G).bind fun z5 =>
 some (!z5)) else (
 some false) : Option Bool).bind fun x3 =>
 some x3)
theorem ziJ : ∀ {a0} {a1} {r}, zcH a0 a1 = some r → PCalls Tryz.prog 44 [(.sh, vE a0), (.sh, vH a1)] (Eo (.bool r) [.junk, .junk]) := by
 intro a0 a1 r hr
 apply pF 14 [] [] [1000000] [.tmp 4] hr zFH Tryz.func44
 intro Φ hΦ hF g
 unfold zcH at hF
 refine wW ?_
 refine wJ hF (fun x3 => [(4, .v (.bool x3))]) (fun x3 hF => ?_) fun _ hj1 hF => ?_
 ·cases hΦ _ (zaa hF)
  try simp [go_sem, g]
 try simp [go_sem, g]
 try intros
 refine wG hF (fun h4 hF => ?_) fun h4 hF => ?_
 ·try simp [go_sem, g, h4]
  refine wC hF [.sh, .sh] zcF (fun z5 hF => ?_)
  try simp [go_sem, g, h4]
  exact wT (hj1 _) (zaa hF)
 try simp [go_sem, g, h4]
 exact wT (hj1 _) (zaa hF)
def zb2 (a0 : Group) (a1 : List Cipher) : Option Bool :=
 (((zbv (a1.length : Int) 1 12).bind fun z4 =>
 if z4 = true then (
 (zcH a0 a1).bind fun z6 =>
 some z6) else (
 some false) : Option Bool).bind fun x3 =>
 some x3)
theorem ze4 : ∀ {a0} {a1} {r}, zb2 a0 a1 = some r → PCalls Tryz.prog 77 [(.sh, vE a0), (.sh, vH a1)] (Eo (.bool r) [.junk, .junk]) := by
 intro a0 a1 r hr
 apply pF 13 [] [] [] [.tmp 4] hr zD3 Tryz.func77
 intro Φ hΦ hF g
 unfold zb2 at hF
 refine wW ?_
 refine wJ hF (fun x3 => [(4, .v (.bool x3))]) (fun x3 hF => ?_) fun _ hj1 hF => ?_
 ·cases hΦ _ (zaa hF)
  try simp [go_sem, g]
 try simp [go_sem, g]
 try intros
 refine wC hF [.sh, .sh, .sh] zcf (fun z4 hF => ?_)
 refine wG hF (fun h5 hF => ?_) fun h5 hF => ?_
 ·try simp [go_sem, g, h5]
  refine wC hF [.sh, .sh] ziJ (fun z6 hF => ?_)
  try simp [go_sem, g, h5]
  exact wT (hj1 _) (zaa hF)
 try simp [go_sem, g, h5]
 exact wT (hj1 _) (zaa hF)
def zfO (a0 : ByteArray) (a1 : List Int) : Option ((List Int)) :=
 ((zbX (σ := (List Int) × Int) (fun s4 =>
 if decide (s4.2 < (a0.size : Int)) = true then (
 (ixs a0 s4.2).bind fun x10 =>
 gd ((s4.1.length + 1) * 8 ≤ 140737488355328 ∧ s4.1.length + 1 ≤ 4611686018427387904) <|
 some (.go (s4.1 ++ [i64.wrap x10], i64.wrap (s4.2 + 1)))) else (
 some (.out s4.1))) ([(a0.size : Int)], 0) : Option ((List Int))).bind fun x3 =>
 gd ((x3.length + a1.length) * 8 ≤ 140737488355328 ∧ x3.length + a1.length ≤ 4611686018427387904) <|
 some (x3 ++ a1))
theorem zmQ : ∀ {a0} {a1} {r}, zfO a0 a1 = some r → PCalls Tryz.prog 195 [(.sh, .str a0), (.sh, vC a1)] (Eo (vD r) [.junk, .junk]) := by
 intro a0 a1 r hr
 apply pF 26 [] [] [] [.tmp 4] hr zBp Tryz.func195
 intro Φ hΦ hF g
 unfold zfO at hF
 iterate 3 refine wW ?_
 refine wJ hF (fun x3 => [(1, .v (vC a1)), (5, .v (vD x3))]) (fun x3 hF => ?_) fun _ hj1 hF => ?_
 ·obtain ⟨g, hF⟩ := Rg g hF
  refine wK [4] ?_
  cases hΦ _ (zaa hF)
  try simp [go_sem, g]
 refine wB ?_
 obtain ⟨b11, hb12, hψ8⟩ := hF
 refine pL hb12 (fun s4 => [(0, .v (.str a0)), (1, .v (vC a1)), (5, .v (vD s4.1)), (11, .v (.int .i64 (a0.size : Int))), (12, .v (.int .i64 s4.2))]) (fun s4 _ _ ho6 hg7 hF => ?_)
 refine wW ?_
 refine wI hF (fun h9 hF => ?_) (fun h9 hF => ?_)
 ·refine wW ?_
  refine wB ?_
  refine wK [0, 1, 5, 6, 11, 12] ?_
  obtain ⟨x10, g, hF⟩ := Rxs g hF
  obtain ⟨g, hF⟩ := Rg g hF
  refine wW ?_
  exact wT (hg7 _) (zaa hF)
 cases ho6 _ (zaa hF)
 exact wT (hj1 _) hψ8
def zeU (a0 : Int) : Option Bool :=
 (zbv a0 0 4611686018427387903).bind fun z1 =>
 some z1
theorem zmE : ∀ {a0} {r}, zeU a0 = some r → PCalls Tryz.prog 209 [(.sh, .int .i64 a0)] (Eo (.bool r) [.junk]) := by
 intro a0 r hr
 apply pF 5 [] [] [] [.tmp 2] hr zAS Tryz.func209
 intro Φ hΦ hF g
 unfold zeU at hF
 refine wW ?_
 refine wC hF [.sh, .sh, .sh] zcf (fun z1 hF => ?_)
 cases hΦ _ (zaa hF)
 refine wW ?_
 try simp [go_sem, g]
def zbU (a0 : Int) : Option Bool :=
 (zeU a0).bind fun z1 =>
 some (!z1)
theorem zg3 : ∀ {a0} {r}, zbU a0 = some r → PCalls Tryz.prog 155 [(.sh, .int .i64 a0), (.sh, .fp [.func (.func 209) [] []])] (Eo (.bool r) [.junk, .junk]) := by
 intro a0 r hr
 apply pF 8 [] [] [] [.tmp 3] hr zot Tryz.func155
 intro Φ hΦ hF g
 unfold zbU at hF
 refine wW ?_
 refine wC hF [.sh] zmE (fun z1 hF => ?_)
 cases hΦ _ (zaa hF)
 refine wW ?_
 try simp [go_sem, g]
def zbn (a0 : List Int) : Option Int :=
 ((zar (σ := Unit) (fun i5 s4 =>
 (ix a0 i5).bind fun x11 =>
 (zbU x11).bind fun z12 =>
 if z12 = true then (
 some (.out (.inr i5))) else (
 some (.go ()))) (fun s4 => .inl ()) (a0.length) 0 () : Option (Unit ⊕ Int)).bind (Sum.elim (fun x3 =>
 some (-1)) some))
theorem zdY : ∀ {a0} {r}, zbn a0 = some r → PCalls Tryz.prog 185 [(.sh, vC a0), (.sh, .func (.func 155) [] [.fp [.func (.func 209) [] []]])] (Eo (.int .i64 r) [.junk, .junk]) := by
 intro a0 r hr
 apply pF 19 [] [] [] [.tmp 4] hr zoA Tryz.func185
 intro Φ hΦ hF g
 unfold zbn at hF
 iterate 2 (try simp [go_sem, g]; try intros; refine zay ?_)
 refine wS hF (fun x3 => []) (fun x3 hF => ?_) fun _ hj1 hr2 hF => ?_
 ·cases hΦ _ (zaa hF)
  refine wW ?_
  try simp [go_sem, g]
 refine wB ?_
 obtain ⟨b14, hb15, hψ8⟩ := hF
 refine pR hb15 (fun i5 s4 => [(0, .v (vC a0)), (1, .v (.func (.func 155) [] [.fp [.func (.func 209) [] []]])), (7, .v (.int .i64 (a0.length : Int))), (8, .v (.int .i64 i5))]) (fun s4 _ hN16 => ?_) (fun i5 s4 _ _ hi9 hi10 ho6 hg7 hF => ?_)
 ·subst hN16
  refine wW ?_
  refine wf ?_
  exact wT (hj1 _) hψ8
 refine wW ?_
 refine wt ?_ (hb := by simp [go_sem, g, hi9, hi10])
 refine wW ?_
 refine wB ?_
 obtain ⟨x11, g, hF⟩ := Rx g hF
 refine wW ?_
 refine wC hF [.sh] zg3 (fun z12 hF => ?_)
 refine wK [0, 1, 5, 7, 8, 16] ?_
 refine wI hF (fun h13 hF => ?_) (fun h13 hF => ?_)
 ·cases ho6 _ (zaa hF)
  cases hΦ _ (hr2 _ hψ8)
  refine wW ?_
  try simp [go_sem, g]
 refine wW ?_
 exact wT (hg7 ()) (zaa hF) (a := by simp [go_sem, g, zbp hi9 hi10 (by assumption)])
def zbe (a0 : List Int) : Option Bool :=
 (zbn a0).bind fun z1 =>
 some (decide (0 ≤ z1))
theorem zdK : ∀ {a0} {r}, zbe a0 = some r → PCalls Tryz.prog 154 [(.sh, vC a0), (.sh, .func (.func 155) [] [.fp [.func (.func 209) [] []]])] (Eo (.bool r) [.junk, .junk]) := by
 intro a0 r hr
 apply pF 9 [] [] [] [.tmp 4] hr zol Tryz.func154
 intro Φ hΦ hF g
 unfold zbe at hF
 refine wW ?_
 refine wC hF [.sh, .sh] zdY (fun z1 hF => ?_)
 cases hΦ _ (zaa hF)
 refine wW ?_
 try simp [go_sem, g]
def zcE (a0 : List Int) : Option Bool :=
 (zbe a0).bind fun z1 =>
 some (!z1)
theorem zhu : ∀ {a0} {r}, zcE a0 = some r → PCalls Tryz.prog 91 [(.sh, vC a0), (.sh, .func (.func 209) [] [])] (Eo (.bool r) [.junk, .junk]) := by
 intro a0 r hr
 apply pF 9 [] [] [1000000] [.tmp 4] hr zru Tryz.func91
 intro Φ hΦ hF g
 unfold zcE at hF
 refine wW ?_
 refine wC hF [.sh, .sh] zdK (fun z1 hF => ?_)
 cases hΦ _ (zaa hF)
 refine wW ?_
 try simp [go_sem, g]
def zed (a0 : List Int) : Option Bool :=
 ((if decide ((a0.length : Int) ≤ 400) = true then (
 (zcE a0).bind fun z5 =>
 some z5) else (
 some false) : Option Bool).bind fun x3 =>
 some x3)
theorem zlw : ∀ {a0} {r}, zed a0 = some r → PCalls Tryz.prog 204 [(.sh, vC a0)] (Eo (.bool r) [.junk]) := by
 intro a0 r hr
 apply pF 10 [] [] [] [.tmp 2] hr zBJ Tryz.func204
 intro Φ hΦ hF g
 unfold zed at hF
 refine wW ?_
 refine wJ hF (fun x3 => [(2, .v (.bool x3))]) (fun x3 hF => ?_) fun _ hj1 hF => ?_
 ·cases hΦ _ (zaa hF)
  try simp [go_sem, g]
 try simp [go_sem, g]
 try intros
 refine wG hF (fun h4 hF => ?_) fun h4 hF => ?_
 ·try simp [go_sem, g, h4]
  refine wC hF [.sh, .sh] zhu (fun z5 hF => ?_)
  try simp [go_sem, g, h4]
  exact wT (hj1 _) (zaa hF)
 try simp [go_sem, g, h4]
 exact wT (hj1 _) (zaa hF)
def zgm (a0 : List Int) : Option Int :=
 gd (([(a0.length : Int)].length + a0.length) * 8 ≤ 140737488355328 ∧ [(a0.length : Int)].length + a0.length ≤ 4611686018427387904) <|
 (some ([(a0.length : Int)] ++ a0)).bind fun x1 =>
 ((zar (σ := Int × Int) (fun i7 s6 =>
 (ix x1 i7).bind fun x13 =>
 some (.go ((i64.wrap ((i64.wrap ((i64.wrap (48271 * ((i64.wrap ((i64.wrap ((i64.wrap (48271 * s6.1)) + (i64.wrap ((BitVec.ofInt i64.bits x13 &&& BitVec.ofInt i64.bits 2147483647).toNat)))) + 1)).tmod 2147483647))) + (x13.fdiv 2147483648))) + 1)).tmod 2147483647, (i64.wrap ((i64.wrap ((i64.wrap (69621 * ((i64.wrap ((i64.wrap ((i64.wrap (69621 * s6.2)) + (i64.wrap ((BitVec.ofInt i64.bits x13 &&& BitVec.ofInt i64.bits 2147483647).toNat)))) + 1)).tmod 2147483647))) + (x13.fdiv 2147483648))) + 1)).tmod 2147483647))) (fun s6 => (s6.1, s6.2)) (x1.length) 0 (1, 2) : Option ((Int × Int))).bind fun x5 =>
 some (i64.wrap ((i64.wrap (x5.1 * 2147483648)) + x5.2)))
theorem zp9 : ∀ {a0} {r}, zgm a0 = some r → PCalls Tryz.prog 205 [(.sh, vC a0)] (Eo (.int .i64 r) [.junk]) := by
 intro a0 r hr
 apply pF 52 [] [] [] [.tmp 2] hr zAO Tryz.func205
 intro Φ hΦ hF g
 unfold zgm at hF
 obtain ⟨g, hF⟩ := Rg g hF
 obtain ⟨x1, e2, hF⟩ := zep hF
 have g := And.intro g (show [.int .i64 (a0.length : Int)] :: (List.map zat a0) = x1.map zat by injection e2 with e2; rw [← e2]; simp [go_sem])
 iterate 2 (try simp [go_sem, g]; try intros; refine zay ?_)
 try simp [go_sem, g]
 try intros
 refine wK [3, 4, 13, 14, 15] ?_
 refine wJ hF (fun x5 => [(3, .v (.int .i64 x5.1)), (4, .v (.int .i64 x5.2))]) (fun x5 hF => ?_) fun _ hj3 hF => ?_
 ·have g := Ls g 31
  cases hΦ _ (zaa hF)
  refine wW ?_
  try simp [go_sem, g]
 refine wB ?_
 obtain ⟨b14, hb15, hψ10⟩ := hF
 refine pR hb15 (fun i7 s6 => [(3, .v (.int .i64 s6.1)), (4, .v (.int .i64 s6.2)), (13, .v (vD x1)), (14, .v (.int .i64 (x1.length : Int))), (15, .v (.int .i64 i7))]) (fun s6 _ hN16 => ?_) (fun i7 s6 _ _ hi11 hi12 ho8 hg9 hF => ?_)
 ·subst hN16
  refine wW ?_
  refine wf ?_
  exact wT (hj3 _) hψ10
 refine wW ?_
 refine wt ?_ (hb := by simp [go_sem, g, hi11, hi12])
 refine wW ?_
 refine wB ?_
 obtain ⟨x13, g, hF⟩ := Rx g hF
 have g := Ls g 31
 refine wW ?_
 refine wK [3, 4, 7, 8, 13, 14, 15] ?_
 have g := Ld g 2147483647
 refine wW ?_
 refine wK [3, 4, 7, 8, 13, 14, 15] ?_
 refine wW ?_
 refine wK [3, 4, 13, 14, 15] ?_
 exact wT (hg9 ((i64.wrap ((i64.wrap ((i64.wrap (48271 * ((i64.wrap ((i64.wrap ((i64.wrap (48271 * s6.1)) + (i64.wrap ((BitVec.ofInt i64.bits x13 &&& BitVec.ofInt i64.bits 2147483647).toNat)))) + 1)).tmod 2147483647))) + (x13.fdiv 2147483648))) + 1)).tmod 2147483647, (i64.wrap ((i64.wrap ((i64.wrap (69621 * ((i64.wrap ((i64.wrap ((i64.wrap (69621 * s6.2)) + (i64.wrap ((BitVec.ofInt i64.bits x13 &&& BitVec.ofInt i64.bits 2147483647).toNat)))) + 1)).tmod 2147483647))) + (x13.fdiv 2147483648))) + 1)).tmod 2147483647)) (zaa hF) (a := by simp [go_sem, g, zbp hi11 hi12 (by assumption)])
def zeS (a0 : List Int) : Option (Int × Bool) :=
 (zed a0).bind fun z1 =>
 if (!z1) = true then (
 some (0, false)) else (
 (zgm a0).bind fun z3 =>
 some (z3, true))
theorem zm6 : ∀ {a0} {r}, zeS a0 = some r → PCalls Tryz.prog 194 [(.sh, vC a0)] (Eo (.tup [.int .i64 r.1, .bool r.2]) [.junk]) := by
 intro a0 r hr
 apply pF 9 [] [] [] [.tmp 2, .tmp 3] hr zAD Tryz.func194
 intro Φ hΦ hF g
 unfold zeS at hF
 refine wW ?_
 refine wC hF [.sh] zlw (fun z1 hF => ?_)
 refine wW ?_
 refine wI hF (fun h2 hF => ?_) (fun h2 hF => ?_)
 ·cases hΦ _ (zaa hF)
  refine wW ?_
  try simp [go_sem, g]
 refine wW ?_
 refine wC hF [.sh] zp9 (fun z3 hF => ?_)
 cases hΦ _ (zaa hF)
 refine wW ?_
 try simp [go_sem, g]
def zcr (a0 : ByteArray) (a1 : List Int) : Option (Int × Bool) :=
 ((if decide (40 < (a0.size : Int)) = true then (
 some true) else (
 some (decide (400 < (a1.length : Int)))) : Option Bool).bind fun x3 =>
 if x3 = true then (
 some (0, false)) else (
 (zfO a0 a1).bind fun z6 =>
 (zeS z6).bind fun z7 =>
 some (z7.1, z7.2)))
theorem zhf : ∀ {a0} {a1} {r}, zcr a0 a1 = some r → PCalls Tryz.prog 175 [(.sh, .str a0), (.sh, vC a1)] (Eo (.tup [.int .i64 r.1, .bool r.2]) [.junk, .junk]) := by
 intro a0 a1 r hr
 apply pF 20 [] [] [] [.tmp 4, .tmp 5] hr zAB Tryz.func175
 intro Φ hΦ hF g
 unfold zcr at hF
 refine wW ?_
 refine wJ hF (fun x3 => [(0, .v (.str a0)), (1, .v (vC a1)), (13, .v (.bool x3))]) (fun x3 hF => ?_) fun _ hj1 hF => ?_
 ·refine wI hF (fun h5 hF => ?_) (fun h5 hF => ?_)
  ·cases hΦ _ (zaa hF)
   refine wW ?_
   try simp [go_sem, g]
  refine wW ?_
  refine wC hF [.sh, .sh] zmQ (fun z6 hF => ?_)
  refine wC hF [.sh] zm6 (fun z7 hF => ?_)
  refine wK [4, 5] ?_
  cases hΦ _ (zaa hF)
  try simp [go_sem, g]
 refine wG hF (fun h4 hF => ?_) fun h4 hF => ?_
 ·try simp [go_sem, g, h4]
  exact wT (hj1 _) (zaa hF)
 try simp [go_sem, g, h4]
 try intros
 exact wT (hj1 _) (zaa hF)
@[go_sem] def zwH : List DE := [d0 0 [9], d1 1 [3] 3, d2 2 [32] 3 32, d0 3 [33], d0 4 [31, 34], d0 5 [35], d1 6 [3] 3, d2 7 [37] 3 37, d0 8 [38], d1 9 [3] 3, d2 10 [40] 3 40, d0 11 [39, 41], d1 12 [3] 3, d2 13 [43] 3 43, d3 14 [36, 42, 44], d0 15 [45]]
def zbG (a0 : Group) (a1 : ByteArray) (a2 : Int) : Option (Int × Bool) :=
 ((zbX (σ := Int) (fun s4 =>
 if decide (s4 < 1000) = true then (
 (zcr a1 [a0.P, a0.Q, a0.G, a2, s4]).bind fun z10 =>
 if (!z10.2) = true then (
 some (.out (.inr (0, false)))) else (
 gd (i64.wrap (a0.P - 1) ≠ 0) <|
 gd (a0.Q ≠ 0) <|
 (zc7 (i64.wrap (1 + (z10.1.tmod (i64.wrap (a0.P - 1))))) (i64.wrap ((i64.wrap (a0.P - 1)).tdiv a0.Q)) a0.P).bind fun z12 =>
 if (z12 != 1) = true then (
 some (.out (.inr (z12, true)))) else (
 some (.go (i64.wrap (s4 + 1)))))) else (
 some (.out (.inl ())))) 0 : Option (Unit ⊕ (Int × Bool))).bind (Sum.elim (fun x3 =>
 some (0, false)) some))
theorem zhe : ∀ {a0} {a1} {a2} {r}, zbG a0 a1 a2 = some r → PCalls Tryz.prog 147 [(.sh, vE a0), (.sh, .str a1), (.sh, .int .i64 a2)] (Eo (.tup [.int .i64 r.1, .bool r.2]) [.junk, .junk, .junk]) := by
 intro a0 a1 a2 r hr
 apply pF 50 [] [] [] [.tmp 6, .tmp 7] hr zBj Tryz.func147
 intro Φ hΦ hF g
 unfold zbG at hF
 iterate 2 refine wW ?_
 refine wS hF (fun x3 => []) (fun x3 hF => ?_) fun _ hj1 hr2 hF => ?_
 ·cases hΦ _ (zaa hF)
  refine wW ?_
  try simp [go_sem, g]
 refine wB ?_
 obtain ⟨b14, hb15, hψ8⟩ := hF
 refine pL hb15 (fun s4 => [(1, .v (.str a1)), (2, .v (.int .i64 a2)), (3, .bl [.int .i64 a0.P, .int .i64 a0.Q, .int .i64 a0.G]), (12, .v (.int .i64 s4))]) (fun s4 _ _ ho6 hg7 hF => ?_)
 refine wW ?_
 refine wI hF (fun h9 hF => ?_) (fun h9 hF => ?_)
 ·refine wW ?_
  refine wB ?_
  refine wW ?_
  refine wC hF [.sh, .sh] zhf (fun z10 hF => ?_)
  refine wK [1, 2, 3, 9, 10, 12] ?_
  refine wW ?_
  refine wI hF (fun h11 hF => ?_) (fun h11 hF => ?_)
  ·cases ho6 _ (zaa hF)
   cases hΦ _ (hr2 _ hψ8)
   refine wW ?_
   try simp [go_sem, g]
  refine wW ?_
  refine wX zwH follows ?_
  obtain ⟨g, hF⟩ := Rz g hF
  obtain ⟨g, hF⟩ := Rz g hF
  refine wC hF [.sh, .sh, .sh] zha (fun z12 hF => ?_)
  refine wK [1, 2, 3, 11, 12] ?_
  refine wW ?_
  refine wI hF (fun h13 hF => ?_) (fun h13 hF => ?_)
  ·cases ho6 _ (zaa hF)
   cases hΦ _ (hr2 _ hψ8)
   refine wW ?_
   try simp [go_sem, g]
  refine wW ?_
  exact wT (hg7 _) (zaa hF)
 cases ho6 _ (zaa hF)
 exact wT (hj1 _) hψ8
def zaM (a0 : Group) (a1 : Int) : Option (Bases × Bool) :=
 (zbG a0 (⟨#[104]⟩ : ByteArray) 0).bind fun z1 =>
 ((zbX (σ := Int × List Int × Bool × Int) (fun s16 =>
 if decide (s16.2.2.2 < a1) = true then (
 (zbG a0 (⟨#[104, 115]⟩ : ByteArray) s16.2.2.2).bind fun z22 =>
 ((if s16.2.2.1 = true then (
 some z22.2) else (
 some false) : Option Bool).bind fun x25 =>
 gd ((s16.2.1.length + 1) * 8 ≤ 140737488355328 ∧ s16.2.1.length + 1 ≤ 4611686018427387904) <|
 some (.go (s16.1, s16.2.1 ++ [z22.1], x25, i64.wrap (s16.2.2.2 + 1))))) else (
 some (.out (s16.1, s16.2.1, s16.2.2.1)))) (z1.1, [], true, 0) : Option ((Int × List Int × Bool))).bind fun x4 =>
 ((if (!z1.2) = true then (
 some true) else (
 some (!x4.2.2)) : Option Bool).bind fun x31 =>
 if x31 = true then (
 some ((Bases.mk 0 []), false)) else (
 some ((Bases.mk x4.1 x4.2.1), true))))
theorem zfo : ∀ {a0} {a1} {r}, zaM a0 a1 = some r → PCalls Tryz.prog 80 [(.sh, vE a0), (.sh, .int .i64 a1)] (Eo (.tup [vI r.1, .bool r.2]) [.junk, .junk]) := by
 intro a0 a1 r hr
 apply pF 49 [] [] [] [.cell 4 103, .tmp 5] hr zEd Tryz.func80
 intro Φ hΦ hF g
 unfold zaM at hF
 refine wW ?_
 refine wC hF [.sh, .sh, .sh] zhe (fun z1 hF => ?_)
 refine wK [1, 2, 4, 6, 7] ?_
 iterate 2 refine wW ?_
 refine wJ hF (fun x4 => [(4, .bl [.int .i64 0, .sl true 1 []]), (7, .v (.bool z1.2)), (8, .bl [.int .i64 x4.1, vD x4.2.1]), (9, .v (.bool x4.2.2))]) (fun x4 hF => ?_) fun _ hj2 hF => ?_
 ·refine wJ hF (fun x31 => [(4, .bl [.int .i64 0, .sl true 1 []]), (8, .bl [.int .i64 x4.1, vD x4.2.1]), (46, .v (.bool x31))]) (fun x31 hF => ?_) fun _ hj29 hF => ?_
  ·refine wI hF (fun h33 hF => ?_) (fun h33 hF => ?_)
   ·refine wK [4, 5] ?_
    cases hΦ _ (zaa hF)
    try simp [go_sem, g]
   refine wW ?_
   refine wK [4, 5] ?_
   cases hΦ _ (zaa hF)
   try simp [go_sem, g]
  refine wG hF (fun h32 hF => ?_) fun h32 hF => ?_
  ·try simp [go_sem, g, h32]
   exact wT (hj29 _) (zaa hF)
  try simp [go_sem, g, h32]
  exact wT (hj29 _) (zaa hF)
 refine wB ?_
 obtain ⟨b27, hb28, hψ20⟩ := hF
 refine pL hb28 (fun s16 => [(2, .bl [.int .i64 a0.P, .int .i64 a0.Q, .int .i64 a0.G]), (4, .bl [.int .i64 0, .sl true 1 []]), (7, .v (.bool z1.2)), (8, .bl [.int .i64 s16.1, vD s16.2.1]), (9, .v (.bool s16.2.2.1)), (20, .v (.int .i64 a1)), (21, .v (.int .i64 s16.2.2.2))]) (fun s16 _ _ ho18 hg19 hF => ?_)
 refine wW ?_
 refine wI hF (fun h21 hF => ?_) (fun h21 hF => ?_)
 ·refine wW ?_
  refine wB ?_
  refine wK [2, 4, 7, 8, 9, 10, 20, 21] ?_
  refine wC hF [.sh, .sh, .sh] zhe (fun z22 hF => ?_)
  refine wW ?_
  refine wJ hF (fun x25 => [(2, .bl [.int .i64 a0.P, .int .i64 a0.Q, .int .i64 a0.G]), (4, .bl [.int .i64 0, .sl true 1 []]), (7, .v (.bool z1.2)), (8, .bl [.int .i64 s16.1, vD s16.2.1]), (9, .v (.bool x25)), (11, .v (.int .i64 z22.1)), (20, .v (.int .i64 a1)), (21, .v (.int .i64 s16.2.2.2))]) (fun x25 hF => ?_) fun _ hj23 hF => ?_
  ·obtain ⟨g, hF⟩ := Rg g hF
   refine wK [2, 4, 7, 8, 9, 20, 21] ?_
   exact wT (hg19 _) (zaa hF)
  refine wG hF (fun h26 hF => ?_) fun h26 hF => ?_
  ·try simp [go_sem, g, h26]
   exact wT (hj23 _) (zaa hF)
  try simp [go_sem, g, h26]
  exact wT (hj23 _) (zaa hF)
 cases ho18 _ (zaa hF)
 exact wT (hj2 _) hψ20
def zb9 (a0 : Group) (a1 : Int) (a2 : List Cipher) : Option (Bases × Bool) :=
 (((zcp a0).bind fun z4 =>
 if (!z4) = true then (
 some true) else (
 (zcD a0 a1).bind fun z6 =>
 if (!z6) = true then (
 some true) else (
 (zb2 a0 a2).bind fun z8 =>
 some (!z8))) : Option Bool).bind fun x3 =>
 if x3 = true then (
 some ((Bases.mk 0 []), false)) else (
 (zaM a0 (a2.length : Int)).bind fun z10 =>
 some (z10.1, z10.2)))
theorem zfN : ∀ {a0} {a1} {a2} {r}, zb9 a0 a1 a2 = some r → PCalls Tryz.prog 66 [(.sh, vE a0), (.sh, .int .i64 a1), (.sh, vH a2)] (Eo (.tup [vI r.1, .bool r.2]) [.junk, .junk, .junk]) := by
 intro a0 a1 a2 r hr
 apply pF 30 [] [] [] [.cell 6 103, .tmp 7] hr zHh Tryz.func66
 intro Φ hΦ hF g
 unfold zb9 at hF
 refine wW ?_
 refine wJ hF (fun x3 => [(2, .v (vH a2)), (3, .bl [.int .i64 a0.P, .int .i64 a0.Q, .int .i64 a0.G]), (6, .bl [.int .i64 0, .sl true 1 []]), (22, .v (.bool x3))]) (fun x3 hF => ?_) fun _ hj1 hF => ?_
 ·refine wI hF (fun h9 hF => ?_) (fun h9 hF => ?_)
  ·cases hΦ _ (zaa hF)
   refine wW ?_
   try simp [go_sem, g]
  try simp [go_sem, g]
  try intros
  refine zay ?_
  try simp [go_sem, g]
  try intros
  refine wC hF [.sh, .sh] zfo (fun z10 hF => ?_)
  refine wK [6, 7] ?_
  cases hΦ _ (zaa hF)
  try simp [go_sem, g]
 refine wC hF [.sh] zfH (fun z4 hF => ?_)
 refine wG hF (fun h5 hF => ?_) fun h5 hF => ?_
 ·try simp [go_sem, g, h5]
  exact wT (hj1 _) (zaa hF)
 try simp [go_sem, g, h5]
 refine wC hF [.sh, .sh] zfu (fun z6 hF => ?_)
 try simp [go_sem, g, h5]
 refine wG hF (fun h7 hF => ?_) fun h7 hF => ?_
 ·try simp [go_sem, g, h7]
  exact wT (hj1 _) (zaa hF)
 try simp [go_sem, g, h7]
 refine wC hF [.sh, .sh] ze4 (fun z8 hF => ?_)
 try simp [go_sem, g, h7]
 exact wT (hj1 _) (zaa hF)
def zdL (a0 : Int) (a1c0 : List Int) : Option Bool :=
 (zbv a0 0 (i64.wrap ((a1c0.length : Int) - 1))).bind fun z1 =>
 some z1
theorem ziN : ∀ {a0} {a1c0} {r}, zdL a0 a1c0 = some r → PCalls Tryz.prog 174 [(.sh, .int .i64 a0), (.sh, .fp [vC a1c0])] (Eo (.bool r) [.junk, .junk]) := by
 intro a0 a1c0 r hr
 apply pF 9 [] [] [] [.tmp 3] hr zBd Tryz.func174
 intro Φ hΦ hF g
 unfold zdL at hF
 try simp [go_sem, g]
 try intros
 refine zay ?_
 try simp [go_sem, g]
 try intros
 refine wC hF [.sh, .sh, .sh] zcf (fun z1 hF => ?_)
 cases hΦ _ (zaa hF)
 refine wW ?_
 try simp [go_sem, g]
def zbj (a0 : Int) (a1c0u0c0 : List Int) : Option Bool :=
 (zdL a0 a1c0u0c0).bind fun z1 =>
 some (!z1)
theorem zfS : ∀ {a0} {a1c0u0c0} {r}, zbj a0 a1c0u0c0 = some r → PCalls Tryz.prog 155 [(.sh, .int .i64 a0), (.sh, .fp [.func (.func 174) [] [.fp [vC a1c0u0c0]]])] (Eo (.bool r) [.junk, .junk]) := by
 intro a0 a1c0u0c0 r hr
 apply pF 8 [] [] [] [.tmp 3] hr zot Tryz.func155
 intro Φ hΦ hF g
 unfold zbj at hF
 refine wW ?_
 refine wC hF [.sh] ziN (fun z1 hF => ?_)
 cases hΦ _ (zaa hF)
 refine wW ?_
 try simp [go_sem, g]
def zaO (a0 : List Int) (a1u0c0u0c0 : List Int) : Option Int :=
 ((zar (σ := Unit) (fun i5 s4 =>
 (ix a0 i5).bind fun x11 =>
 (zbj x11 a1u0c0u0c0).bind fun z12 =>
 if z12 = true then (
 some (.out (.inr i5))) else (
 some (.go ()))) (fun s4 => .inl ()) (a0.length) 0 () : Option (Unit ⊕ Int)).bind (Sum.elim (fun x3 =>
 some (-1)) some))
theorem zdp : ∀ {a0} {a1u0c0u0c0} {r}, zaO a0 a1u0c0u0c0 = some r → PCalls Tryz.prog 185 [(.sh, vC a0), (.sh, .func (.func 155) [] [.fp [.func (.func 174) [] [.fp [vC a1u0c0u0c0]]]])] (Eo (.int .i64 r) [.junk, .junk]) := by
 intro a0 a1u0c0u0c0 r hr
 apply pF 19 [] [] [] [.tmp 4] hr zoA Tryz.func185
 intro Φ hΦ hF g
 unfold zaO at hF
 iterate 2 (try simp [go_sem, g]; try intros; refine zay ?_)
 refine wS hF (fun x3 => []) (fun x3 hF => ?_) fun _ hj1 hr2 hF => ?_
 ·cases hΦ _ (zaa hF)
  refine wW ?_
  try simp [go_sem, g]
 refine wB ?_
 obtain ⟨b14, hb15, hψ8⟩ := hF
 refine pR hb15 (fun i5 s4 => [(0, .v (vC a0)), (1, .v (.func (.func 155) [] [.fp [.func (.func 174) [] [.fp [vC a1u0c0u0c0]]]])), (7, .v (.int .i64 (a0.length : Int))), (8, .v (.int .i64 i5))]) (fun s4 _ hN16 => ?_) (fun i5 s4 _ _ hi9 hi10 ho6 hg7 hF => ?_)
 ·subst hN16
  refine wW ?_
  refine wf ?_
  exact wT (hj1 _) hψ8
 refine wW ?_
 refine wt ?_ (hb := by simp [go_sem, g, hi9, hi10])
 refine wW ?_
 refine wB ?_
 obtain ⟨x11, g, hF⟩ := Rx g hF
 refine wW ?_
 refine wC hF [.sh] zfS (fun z12 hF => ?_)
 refine wK [0, 1, 5, 7, 8, 16] ?_
 refine wI hF (fun h13 hF => ?_) (fun h13 hF => ?_)
 ·cases ho6 _ (zaa hF)
  cases hΦ _ (hr2 _ hψ8)
  refine wW ?_
  try simp [go_sem, g]
 refine wW ?_
 exact wT (hg7 ()) (zaa hF) (a := by simp [go_sem, g, zbp hi9 hi10 (by assumption)])
def zaK (a0 : List Int) (a1u0c0u0c0 : List Int) : Option Bool :=
 (zaO a0 a1u0c0u0c0).bind fun z1 =>
 some (decide (0 ≤ z1))
theorem zc9 : ∀ {a0} {a1u0c0u0c0} {r}, zaK a0 a1u0c0u0c0 = some r → PCalls Tryz.prog 154 [(.sh, vC a0), (.sh, .func (.func 155) [] [.fp [.func (.func 174) [] [.fp [vC a1u0c0u0c0]]]])] (Eo (.bool r) [.junk, .junk]) := by
 intro a0 a1u0c0u0c0 r hr
 apply pF 9 [] [] [] [.tmp 4] hr zol Tryz.func154
 intro Φ hΦ hF g
 unfold zaK at hF
 refine wW ?_
 refine wC hF [.sh, .sh] zdp (fun z1 hF => ?_)
 cases hΦ _ (zaa hF)
 refine wW ?_
 try simp [go_sem, g]
def zbt (a0 : List Int) (a1u0c0 : List Int) : Option Bool :=
 (zaK a0 a1u0c0).bind fun z1 =>
 some (!z1)
theorem zf7 : ∀ {a0} {a1u0c0} {r}, zbt a0 a1u0c0 = some r → PCalls Tryz.prog 91 [(.sh, vC a0), (.sh, .func (.func 174) [] [.fp [vC a1u0c0]])] (Eo (.bool r) [.junk, .junk]) := by
 intro a0 a1u0c0 r hr
 apply pF 9 [] [] [1000000] [.tmp 4] hr zru Tryz.func91
 intro Φ hΦ hF g
 unfold zbt at hF
 refine wW ?_
 refine wC hF [.sh, .sh] zc9 (fun z1 hF => ?_)
 cases hΦ _ (zaa hF)
 refine wW ?_
 try simp [go_sem, g]
def zcl (a0 : List Int) (a1 : Int) : Option Int :=
 ((zar (σ := Unit) (fun i5 s4 =>
 (ix a0 i5).bind fun x11 =>
 if (a1 == x11) = true then (
 some (.out (.inr i5))) else (
 some (.go ()))) (fun s4 => .inl ()) (a0.length) 0 () : Option (Unit ⊕ Int)).bind (Sum.elim (fun x3 =>
 some (-1)) some))
theorem zi2 : ∀ {a0} {a1} {r}, zcl a0 a1 = some r → PCalls Tryz.prog 111 [(.sh, vC a0), (.sh, .int .i64 a1)] (Eo (.int .i64 r) [.junk, .junk]) := by
 intro a0 a1 r hr
 apply pF 19 [] [] [] [.tmp 4] hr zz3 Tryz.func111
 intro Φ hΦ hF g
 unfold zcl at hF
 iterate 2 (try simp [go_sem, g]; try intros; refine zay ?_)
 refine wS hF (fun x3 => []) (fun x3 hF => ?_) fun _ hj1 hr2 hF => ?_
 ·cases hΦ _ (zaa hF)
  refine wW ?_
  try simp [go_sem, g]
 refine wB ?_
 obtain ⟨b13, hb14, hψ8⟩ := hF
 refine pR hb14 (fun i5 s4 => [(0, .v (vC a0)), (1, .v (.int .i64 a1)), (7, .v (.int .i64 (a0.length : Int))), (8, .v (.int .i64 i5))]) (fun s4 _ hN15 => ?_) (fun i5 s4 _ _ hi9 hi10 ho6 hg7 hF => ?_)
 ·subst hN15
  refine wW ?_
  refine wf ?_
  exact wT (hj1 _) hψ8
 refine wW ?_
 refine wt ?_ (hb := by simp [go_sem, g, hi9, hi10])
 refine wW ?_
 refine wB ?_
 obtain ⟨x11, g, hF⟩ := Rx g hF
 refine wW ?_
 refine wK [0, 1, 5, 7, 8, 16] ?_
 refine wI hF (fun h12 hF => ?_) (fun h12 hF => ?_)
 ·cases ho6 _ (zaa hF)
  cases hΦ _ (hr2 _ hψ8)
  refine wW ?_
  try simp [go_sem, g]
 refine wW ?_
 exact wT (hg7 ()) (zaa hF) (a := by simp [go_sem, g, zbp hi9 hi10 (by assumption)])
def zcs (a0 : List Int) (a1 : Int) : Option Bool :=
 (zcl a0 a1).bind fun z1 =>
 some (decide (0 ≤ z1))
theorem zh3 : ∀ {a0} {a1} {r}, zcs a0 a1 = some r → PCalls Tryz.prog 62 [(.sh, vC a0), (.sh, .int .i64 a1)] (Eo (.bool r) [.junk, .junk]) := by
 intro a0 a1 r hr
 apply pF 9 [] [] [] [.tmp 4] hr zEr Tryz.func62
 intro Φ hΦ hF g
 unfold zcs at hF
 refine wW ?_
 refine wC hF [.sh, .sh] zi2 (fun z1 hF => ?_)
 cases hΦ _ (zaa hF)
 refine wW ?_
 try simp [go_sem, g]
def zc0 (a0 : List Int) : Option Bool :=
 ((zar (σ := Unit) (fun i5 s4 =>
 (ix a0 i5).bind fun x11 =>
 gd (0 ≤ i5) <|
 gd (0 ≤ i5.toNat ∧ i5.toNat ≤ a0.length) <|
 (zcs ((a0.take i5.toNat).drop 0) x11).bind fun z12 =>
 if z12 = true then (
 some (.out (.inr false))) else (
 some (.go ()))) (fun s4 => .inl ()) (a0.length) 0 () : Option (Unit ⊕ Bool)).bind (Sum.elim (fun x3 =>
 some true) some))
theorem zkj : ∀ {a0} {r}, zc0 a0 = some r → PCalls Tryz.prog 106 [(.sh, vC a0)] (Eo (.bool r) [.junk]) := by
 intro a0 r hr
 apply pF 18 [] [] [] [.tmp 2] hr zzo Tryz.func106
 intro Φ hΦ hF g
 unfold zc0 at hF
 iterate 2 (try simp [go_sem, g]; try intros; refine zay ?_)
 refine wS hF (fun x3 => []) (fun x3 hF => ?_) fun _ hj1 hr2 hF => ?_
 ·cases hΦ _ (zaa hF)
  refine wW ?_
  try simp [go_sem, g]
 refine wB ?_
 obtain ⟨b14, hb15, hψ8⟩ := hF
 refine pR hb15 (fun i5 s4 => [(0, .v (vC a0)), (5, .v (vC a0)), (6, .v (.int .i64 (a0.length : Int))), (7, .v (.int .i64 i5))]) (fun s4 _ hN16 => ?_) (fun i5 s4 _ _ hi9 hi10 ho6 hg7 hF => ?_)
 ·subst hN16
  refine wW ?_
  refine wf ?_
  exact wT (hj1 _) hψ8
 refine wW ?_
 refine wt ?_ (hb := by simp [go_sem, g, hi9, hi10])
 refine wW ?_
 refine wB ?_
 obtain ⟨x11, g, hF⟩ := Rx g hF
 refine wK [0, 3, 4, 5, 6, 7] ?_
 obtain ⟨g, hF⟩ := Rg g hF
 obtain ⟨g, hF⟩ := Rg g hF
 refine wC hF [.sh, .sh] zh3 (fun z12 hF => ?_)
 refine wW ?_
 refine wI hF (fun h13 hF => ?_) (fun h13 hF => ?_)
 ·cases ho6 _ (zaa hF)
  cases hΦ _ (hr2 _ hψ8)
  refine wW ?_
  try simp [go_sem, g]
 refine wW ?_
 exact wT (hg7 ()) (zaa hF) (a := by simp [go_sem, g, zbp hi9 hi10 (by assumption)])
def zdC (a0 : List Int) : Option Bool :=
 ((if decide ((a0.length : Int) ≤ 24) = true then (
 (zbt a0 a0).bind fun z5 =>
 if z5 = true then (
 (zc0 a0).bind fun z7 =>
 some z7) else (
 some false)) else (
 some false) : Option Bool).bind fun x3 =>
 some x3)
theorem zjJ : ∀ {a0} {r}, zdC a0 = some r → PCalls Tryz.prog 117 [(.sh, vC a0)] (Eo (.bool r) [.junk]) := by
 intro a0 r hr
 apply pF 15 [] [] [1000000] [.tmp 2] hr zBx Tryz.func117
 intro Φ hΦ hF g
 unfold zdC at hF
 refine wW ?_
 refine wJ hF (fun x3 => [(2, .v (.bool x3))]) (fun x3 hF => ?_) fun _ hj1 hF => ?_
 ·cases hΦ _ (zaa hF)
  try simp [go_sem, g]
 try simp [go_sem, g]
 try intros
 refine wG hF (fun h4 hF => ?_) fun h4 hF => ?_
 ·try simp [go_sem, g, h4]
  refine wC hF [.sh, .sh] zf7 (fun z5 hF => ?_)
  try simp [go_sem, g, h4]
  refine wG hF (fun h6 hF => ?_) fun h6 hF => ?_
  ·try simp [go_sem, g, h6]
   refine wC hF [.sh] zkj (fun z7 hF => ?_)
   try simp [go_sem, g, h6]
   exact wT (hj1 _) (zaa hF)
  try simp [go_sem, g, h6]
  exact wT (hj1 _) (zaa hF)
 try simp [go_sem, g, h4]
 exact wT (hj1 _) (zaa hF)
def zd1 (a0 : Group) (a1 : Int) : Option Bool :=
 (zbv a1 0 (i64.wrap (a0.Q - 1))).bind fun z1 =>
 some z1
theorem zkZ : ∀ {a0} {a1} {r}, zd1 a0 a1 = some r → PCalls Tryz.prog 50 [(.sh, vE a0), (.sh, .int .i64 a1)] (Eo (.bool r) [.junk, .junk]) := by
 intro a0 a1 r hr
 apply pF 10 [] [] [] [.tmp 4] hr zE0 Tryz.func50
 intro Φ hΦ hF g
 unfold zd1 at hF
 refine wW ?_
 refine wC hF [.sh, .sh, .sh] zcf (fun z1 hF => ?_)
 cases hΦ _ (zaa hF)
 refine wW ?_
 try simp [go_sem, g]
def zbA (a0 : Int) (a1c0x0 : Group) : Option Bool :=
 (zd1 a1c0x0 a0).bind fun z1 =>
 some (!z1)
theorem zgq : ∀ {a0} {a1c0x0} {r}, zbA a0 a1c0x0 = some r → PCalls Tryz.prog 155 [(.sh, .int .i64 a0), (.sh, .fp [.func (.func 50) [vE a1c0x0] []])] (Eo (.bool r) [.junk, .junk]) := by
 intro a0 a1c0x0 r hr
 apply pF 8 [] [] [] [.tmp 3] hr zot Tryz.func155
 intro Φ hΦ hF g
 unfold zbA at hF
 refine wW ?_
 refine wC hF [.sh] zkZ (fun z1 hF => ?_)
 cases hΦ _ (zaa hF)
 refine wW ?_
 try simp [go_sem, g]
def zbd (a0 : List Int) (a1u0c0x0 : Group) : Option Int :=
 ((zar (σ := Unit) (fun i5 s4 =>
 (ix a0 i5).bind fun x11 =>
 (zbA x11 a1u0c0x0).bind fun z12 =>
 if z12 = true then (
 some (.out (.inr i5))) else (
 some (.go ()))) (fun s4 => .inl ()) (a0.length) 0 () : Option (Unit ⊕ Int)).bind (Sum.elim (fun x3 =>
 some (-1)) some))
theorem zdI : ∀ {a0} {a1u0c0x0} {r}, zbd a0 a1u0c0x0 = some r → PCalls Tryz.prog 185 [(.sh, vC a0), (.sh, .func (.func 155) [] [.fp [.func (.func 50) [vE a1u0c0x0] []]])] (Eo (.int .i64 r) [.junk, .junk]) := by
 intro a0 a1u0c0x0 r hr
 apply pF 19 [] [] [] [.tmp 4] hr zoA Tryz.func185
 intro Φ hΦ hF g
 unfold zbd at hF
 iterate 2 (try simp [go_sem, g]; try intros; refine zay ?_)
 refine wS hF (fun x3 => []) (fun x3 hF => ?_) fun _ hj1 hr2 hF => ?_
 ·cases hΦ _ (zaa hF)
  refine wW ?_
  try simp [go_sem, g]
 refine wB ?_
 obtain ⟨b14, hb15, hψ8⟩ := hF
 refine pR hb15 (fun i5 s4 => [(0, .v (vC a0)), (1, .v (.func (.func 155) [] [.fp [.func (.func 50) [vE a1u0c0x0] []]])), (7, .v (.int .i64 (a0.length : Int))), (8, .v (.int .i64 i5))]) (fun s4 _ hN16 => ?_) (fun i5 s4 _ _ hi9 hi10 ho6 hg7 hF => ?_)
 ·subst hN16
  refine wW ?_
  refine wf ?_
  exact wT (hj1 _) hψ8
 refine wW ?_
 refine wt ?_ (hb := by simp [go_sem, g, hi9, hi10])
 refine wW ?_
 refine wB ?_
 obtain ⟨x11, g, hF⟩ := Rx g hF
 refine wW ?_
 refine wC hF [.sh] zgq (fun z12 hF => ?_)
 refine wK [0, 1, 5, 7, 8, 16] ?_
 refine wI hF (fun h13 hF => ?_) (fun h13 hF => ?_)
 ·cases ho6 _ (zaa hF)
  cases hΦ _ (hr2 _ hψ8)
  refine wW ?_
  try simp [go_sem, g]
 refine wW ?_
 exact wT (hg7 ()) (zaa hF) (a := by simp [go_sem, g, zbp hi9 hi10 (by assumption)])
def za9 (a0 : List Int) (a1u0c0x0 : Group) : Option Bool :=
 (zbd a0 a1u0c0x0).bind fun z1 =>
 some (decide (0 ≤ z1))
theorem zdq : ∀ {a0} {a1u0c0x0} {r}, za9 a0 a1u0c0x0 = some r → PCalls Tryz.prog 154 [(.sh, vC a0), (.sh, .func (.func 155) [] [.fp [.func (.func 50) [vE a1u0c0x0] []]])] (Eo (.bool r) [.junk, .junk]) := by
 intro a0 a1u0c0x0 r hr
 apply pF 9 [] [] [] [.tmp 4] hr zol Tryz.func154
 intro Φ hΦ hF g
 unfold za9 at hF
 refine wW ?_
 refine wC hF [.sh, .sh] zdI (fun z1 hF => ?_)
 cases hΦ _ (zaa hF)
 refine wW ?_
 try simp [go_sem, g]
def zcj (a0 : List Int) (a1x0 : Group) : Option Bool :=
 (za9 a0 a1x0).bind fun z1 =>
 some (!z1)
theorem zgR : ∀ {a0} {a1x0} {r}, zcj a0 a1x0 = some r → PCalls Tryz.prog 91 [(.sh, vC a0), (.sh, .func (.func 50) [vE a1x0] [])] (Eo (.bool r) [.junk, .junk]) := by
 intro a0 a1x0 r hr
 apply pF 9 [] [] [1000000] [.tmp 4] hr zru Tryz.func91
 intro Φ hΦ hF g
 unfold zcj at hF
 refine wW ?_
 refine wC hF [.sh, .sh] zdq (fun z1 hF => ?_)
 cases hΦ _ (zaa hF)
 refine wW ?_
 try simp [go_sem, g]
def zbm (a0 : Group) (a1 : List Int) : Option Bool :=
 (zcj a1 a0).bind fun z1 =>
 some z1
theorem zdu : ∀ {a0} {a1} {r}, zbm a0 a1 = some r → PCalls Tryz.prog 36 [(.sh, vE a0), (.sh, vC a1)] (Eo (.bool r) [.junk, .junk]) := by
 intro a0 a1 r hr
 apply pF 9 [] [] [] [.tmp 4] hr zF2 Tryz.func36
 intro Φ hΦ hF g
 unfold zbm at hF
 refine wW ?_
 refine wC hF [.sh, .sh] zgR (fun z1 hF => ?_)
 cases hΦ _ (zaa hF)
 refine wW ?_
 try simp [go_sem, g]
def zb5 (a0 : Group) (a1 : List Int) (a2 : List Int) (a3 : Int) : Option Bool :=
 (((zdC a1).bind fun z4 =>
 if z4 = true then (
 if ((a1.length : Int) == a3) = true then (
 if ((a2.length : Int) == a3) = true then (
 (zbm a0 a2).bind fun z8 =>
 some z8) else (
 some false)) else (
 some false)) else (
 some false) : Option Bool).bind fun x3 =>
 some x3)
theorem ze9 : ∀ {a0} {a1} {a2} {a3} {r}, zb5 a0 a1 a2 a3 = some r → PCalls Tryz.prog 67 [(.sh, vE a0), (.sh, vC a1), (.sh, vC a2), (.sh, .int .i64 a3)] (Eo (.bool r) [.junk, .junk, .junk, .junk]) := by
 intro a0 a1 a2 a3 r hr
 apply pF 28 [] [] [] [.tmp 8] hr zFi Tryz.func67
 intro Φ hΦ hF g
 unfold zb5 at hF
 refine wW ?_
 refine wJ hF (fun x3 => [(8, .v (.bool x3))]) (fun x3 hF => ?_) fun _ hj1 hF => ?_
 ·cases hΦ _ (zaa hF)
  try simp [go_sem, g]
 refine wC hF [.sh] zjJ (fun z4 hF => ?_)
 refine wG hF (fun h5 hF => ?_) fun h5 hF => ?_
 ·try simp [go_sem, g, h5]
  try intros
  refine wG hF (fun h6 hF => ?_) fun h6 hF => ?_
  ·try simp [go_sem, g, h6]
   try intros
   refine wG hF (fun h7 hF => ?_) fun h7 hF => ?_
   ·try simp [go_sem, g, h7]
    refine wC hF [.sh, .sh] zdu (fun z8 hF => ?_)
    try simp [go_sem, g, h7]
    exact wT (hj1 _) (zaa hF)
   try simp [go_sem, g, h7]
   exact wT (hj1 _) (zaa hF)
  try simp [go_sem, g, h6]
  exact wT (hj1 _) (zaa hF)
 try simp [go_sem, g, h5]
 exact wT (hj1 _) (zaa hF)
def za1 (a0c0 : List Int) (a1 : Int) : Option (List Int × List Int) :=
 gd (0 ≤ a1) <|
 gd (0 ≤ a1.toNat ∧ a1.toNat ≤ a0c0.length) <|
 gd (0 ≤ a1) <|
 gd (a1.toNat ≤ a0c0.length ∧ a0c0.length ≤ a0c0.length) <|
 some ((a0c0.take a1.toNat).drop 0, (a0c0.take a0c0.length).drop a1.toNat)
theorem zc5 : ∀ {a0c0} {a1} {r}, za1 a0c0 a1 = some r → PCalls Tryz.prog 118 [(.io, .bx [vC a0c0]), (.sh, .int .i64 a1)] (Eo (vC r.1) [.bx [vC r.2], .junk]) := by
 intro a0c0 a1 r hr
 apply pF 22 [0] [] [] [.tmp 4] hr zAh Tryz.func118
 intro Φ hΦ hF g
 unfold za1 at hF
 obtain ⟨g, hF⟩ := Rg g hF
 obtain ⟨g, hF⟩ := Rg g hF
 obtain ⟨g, hF⟩ := Rg g hF
 obtain ⟨g, hF⟩ := Rg g hF
 iterate 2 refine wW ?_
 refine wK [0, 5] ?_
 cases hΦ _ (zaa hF)
 refine wW ?_
 try simp [go_sem, g]
def zbL (a0c0 : List Int) : Option (Int × List Int) :=
 (za1 a0c0 1).bind fun z1 =>
 (ix z1.1 0).bind fun x2 =>
 some (x2, z1.2)
theorem zd4 : ∀ {a0c0} {r}, zbL a0c0 = some r → PCalls Tryz.prog 119 [(.io, .bx [vC a0c0])] (Eo (.int .i64 r.1) [.bx [vC r.2]]) := by
 intro a0c0 r hr
 apply pF 7 [0] [] [] [.tmp 2] hr zAa Tryz.func119
 intro Φ hΦ hF g
 unfold zbL at hF
 refine wW ?_
 refine wC hF [.io, .sh] zc5 (fun z1 hF => ?_)
 obtain ⟨x2, g, hF⟩ := Rxn g 0 hF
 cases hΦ _ (zaa hF)
 refine wW ?_
 try simp [go_sem, g]
def zgf (a0 : Int) (a1 : Int) : Option Int :=
 gd (a1 ≠ 0) <|
 gd (a1 ≠ 0) <|
 some ((i64.wrap ((a0.tmod a1) + a1)).tmod a1)
theorem zmU : ∀ {a0} {a1} {r}, zgf a0 a1 = some r → PCalls Tryz.prog 112 [(.sh, .int .i64 a0), (.sh, .int .i64 a1)] (Eo (.int .i64 r) [.junk, .junk]) := by
 intro a0 a1 r hr
 apply pF 12 [] [] [] [.tmp 4] hr zBw Tryz.func112
 intro Φ hΦ hF g
 unfold zgf at hF
 obtain ⟨g, hF⟩ := Rz g hF
 obtain ⟨g, hF⟩ := Rz g hF
 cases hΦ _ (zaa hF)
 iterate 2 refine wW ?_
 try simp [go_sem, g]
@[go_sem] def zAu : List DE := [d0 0 [1], d0 1 [2], d1 2 [3] 3, d2 3 [9] 3 9, d1 5 [3] 3, d2 6 [12] 3 12, d3 4 [8, 10], d3 7 [7, 11, 13], d0 8 [14]]
def zai (a0 : Group) (a1 : Int) (a2 : Int) : Option Int :=
 (zgf a2 a0.Q).bind fun z1 =>
 (zc7 a1 z1 a0.P).bind fun z2 =>
 some z2
theorem zaA : ∀ {a0} {a1} {a2} {r}, zai a0 a1 a2 = some r → PCalls Tryz.prog 63 [(.sh, vE a0), (.sh, .int .i64 a1), (.sh, .int .i64 a2)] (Eo (.int .i64 r) [.junk, .junk, .junk]) := by
 intro a0 a1 a2 r hr
 apply pF 15 [] [] [] [.tmp 6] hr zGm Tryz.func63
 intro Φ hΦ hF g
 unfold zai at hF
 refine wW ?_
 refine wX zAu follows ?_
 refine wC hF [.sh, .sh] zmU (fun z1 hF => ?_)
 refine wC hF [.sh, .sh, .sh] zha (fun z2 hF => ?_)
 refine wK [6] ?_
 cases hΦ _ (zaa hF)
 try simp [go_sem, g]
def zan (a0 : Group) (a1 : List Int) : Option Int :=
 ((zar (σ := Int) (fun i5 s4 =>
 (ix a1 i5).bind fun x11 =>
 gd (a0.P ≠ 0) <|
 some (.go ((i64.wrap (s4 * x11)).tmod a0.P))) (fun s4 => s4) (a1.length) 0 1 : Option Int).bind fun x3 =>
 some x3)
theorem zaQ : ∀ {a0} {a1} {r}, zan a0 a1 = some r → PCalls Tryz.prog 56 [(.sh, vE a0), (.sh, vC a1)] (Eo (.int .i64 r) [.junk, .junk]) := by
 intro a0 a1 r hr
 apply pF 22 [] [] [] [.tmp 4] hr zDM Tryz.func56
 intro Φ hΦ hF g
 unfold zan at hF
 iterate 3 (try simp [go_sem, g]; try intros; refine zay ?_)
 refine wJ hF (fun x3 => [(5, .v (.int .i64 x3))]) (fun x3 hF => ?_) fun _ hj1 hF => ?_
 ·cases hΦ _ (zaa hF)
  refine wW ?_
  try simp [go_sem, g]
 refine wB ?_
 obtain ⟨b12, hb13, hψ8⟩ := hF
 refine pR hb13 (fun i5 s4 => [(2, .bl [.int .i64 a0.P, .int .i64 a0.Q, .int .i64 a0.G]), (5, .v (.int .i64 s4)), (8, .v (vC a1)), (9, .v (.int .i64 (a1.length : Int))), (10, .v (.int .i64 i5))]) (fun s4 _ hN14 => ?_) (fun i5 s4 _ _ hi9 hi10 ho6 hg7 hF => ?_)
 ·subst hN14
  refine wW ?_
  refine wf ?_
  exact wT (hj1 _) hψ8
 refine wW ?_
 refine wt ?_ (hb := by simp [go_sem, g, hi9, hi10])
 refine wW ?_
 refine wB ?_
 obtain ⟨x11, g, hF⟩ := Rx g hF
 refine wK [2, 5, 7, 8, 9, 10] ?_
 obtain ⟨g, hF⟩ := Rz g hF
 refine wW ?_
 exact wT (hg7 ((i64.wrap (s4 * x11)).tmod a0.P)) (zaa hF) (a := by simp [go_sem, g, zbp hi9 hi10 (by assumption)])
@[go_sem] def zzl : List DE := [d2 0 [4] 4 4, d1 1 [4] 4, d2 2 [10] 4 10, d0 3 [3], d2 5 [4] 4 4, d0 6 [2], d2 7 [4] 4 4, d0 8 [1], d0 9 [3], d3 4 [9, 11, 12], d3 10 [16, 17, 18], d0 11 [15, 19], ⟨12, [14, 20], [], none, true, true, true⟩, d0 13 [13, 21], d2 14 [8, 22] 8 8]
def zdx (a0 : Group) (a1 : Int) (a2 : Int) (a3 : Int) : Option Cipher :=
 (zai a0 a0.G a3).bind fun z1 =>
 (zai a0 a1 a3).bind fun z2 =>
 (zan a0 [a2, z2]).bind fun z3 =>
 some (Cipher.mk z1 z3)
theorem zj6 : ∀ {a0} {a1} {a2} {a3} {r}, zdx a0 a1 a2 a3 = some r → PCalls Tryz.prog 51 [(.sh, vE a0), (.sh, .int .i64 a1), (.sh, .int .i64 a2), (.sh, .int .i64 a3)] (Eo (vF r) [.junk, .junk, .junk, .junk]) := by
 intro a0 a1 a2 a3 r hr
 apply pF 23 [] [] [] [.cell 8 41] hr zGH Tryz.func51
 intro Φ hΦ hF g
 unfold zdx at hF
 refine wW ?_
 refine wX zzl follows ?_
 refine wC hF [.sh, .sh, .sh] zaA (fun z1 hF => ?_)
 refine wC hF [.sh, .sh, .sh] zaA (fun z2 hF => ?_)
 refine wC hF [.sh, .sh] zaQ (fun z3 hF => ?_)
 refine wK [8] ?_
 cases hΦ _ (zaa hF)
 try simp [go_sem, g]
@[go_sem] def zwQ : List DE := [d2 0 [3] 3 3, d1 1 [4] 4, d2 2 [8] 4 8, d1 3 [5] 5, d2 4 [10] 5 10, d0 5 [9, 11], d2 7 [3] 3 3, d1 8 [4] 4, d2 9 [15] 4 15, d1 10 [5] 5, d2 11 [17] 5 17, d0 12 [16, 18], ⟨6, [7, 12], [], none, true, true, true⟩, ⟨13, [14, 19], [], none, true, true, true⟩, d0 14 [13, 20], d2 15 [6, 21] 6 6]
def zeC (a0 : Group) (a1 : Cipher) (a2 : Cipher) : Option Cipher :=
 (zan a0 [a1.A, a2.A]).bind fun z1 =>
 (zan a0 [a1.B, a2.B]).bind fun z2 =>
 some (Cipher.mk z1 z2)
theorem zkk : ∀ {a0} {a1} {a2} {r}, zeC a0 a1 a2 = some r → PCalls Tryz.prog 184 [(.sh, vE a0), (.sh, vF a1), (.sh, vF a2)] (Eo (vF r) [.junk, .junk, .junk]) := by
 intro a0 a1 a2 r hr
 apply pF 22 [] [] [] [.cell 6 41] hr zBA Tryz.func184
 intro Φ hΦ hF g
 unfold zeC at hF
 refine wW ?_
 refine wX zwQ follows ?_
 refine wC hF [.sh, .sh] zaQ (fun z1 hF => ?_)
 refine wC hF [.sh, .sh] zaQ (fun z2 hF => ?_)
 refine wK [6] ?_
 cases hΦ _ (zaa hF)
 try simp [go_sem, g]
@[go_sem] def zxw : List DE := [d2 0 [4] 4 4, d2 1 [6] 6 6, d2 2 [4] 4 4, d0 3 [1], d0 4 [3], d3 5 [11, 12, 13], d3 6 [9, 10, 14], d2 7 [8, 15] 8 8]
def zck (a0 : Group) (a1 : Int) (a2 : Cipher) (a3 : Int) : Option Cipher :=
 (zdx a0 a1 1 a3).bind fun z1 =>
 (zeC a0 a2 z1).bind fun z2 =>
 some z2
theorem zjb : ∀ {a0} {a1} {a2} {a3} {r}, zck a0 a1 a2 a3 = some r → PCalls Tryz.prog 148 [(.sh, vE a0), (.sh, .int .i64 a1), (.sh, vF a2), (.sh, .int .i64 a3)] (Eo (vF r) [.junk, .junk, .junk, .junk]) := by
 intro a0 a1 a2 a3 r hr
 apply pF 16 [] [] [] [.cell 8 41] hr zzh Tryz.func148
 intro Φ hΦ hF g
 unfold zck at hF
 refine wW ?_
 refine wX zxw follows ?_
 refine wC hF [.sh, .sh, .sh, .sh] zj6 (fun z1 hF => ?_)
 refine wC hF [.sh, .sh, .sh] zkk (fun z2 hF => ?_)
 refine wK [8] ?_
 cases hΦ _ (zaa hF)
 try simp [go_sem, g]
@[go_sem] def zzA : List DE := [d0 0 [11], d2 1 [5] 5 5, d0 2 [1], d0 3 [2], d0 4 [13], d0 5 [25, 26], d0 6 [27], d0 7 [4], d0 8 [12], d0 9 [29, 30], d0 10 [31], d3 11 [23, 24, 28, 32], d0 12 [33], ⟨13, [22, 34], [], none, true, false, false⟩, d0 14 [35]]
def zdR (a0 : Group) (a1 : Int) (a2 : List Cipher) (a3 : List Int) (a4 : List Int) : Option ((List Cipher)) :=
 ((zar (σ := (List Cipher)) (fun i5 s4 =>
 (ix a3 i5).bind fun x11 =>
 (ix a2 x11).bind fun x12 =>
 (ix a4 i5).bind fun x13 =>
 (zck a0 a1 x12 x13).bind fun z14 =>
 gd ((s4.length + 1) * 16 ≤ 140737488355328 ∧ s4.length + 1 ≤ 4611686018427387904) <|
 some (.go (s4 ++ [z14]))) (fun s4 => s4) (a3.length) 0 [] : Option ((List Cipher))).bind fun x3 =>
 some x3)
theorem ziF : ∀ {a0} {a1} {a2} {a3} {a4} {r}, zdR a0 a1 a2 a3 a4 = some r → PCalls Tryz.prog 82 [(.sh, vE a0), (.sh, .int .i64 a1), (.sh, vH a2), (.sh, vC a3), (.sh, vC a4)] (Eo (vG r) [.junk, .junk, .junk, .junk, .junk]) := by
 intro a0 a1 a2 a3 a4 r hr
 apply pF 38 [] [] [] [.tmp 10] hr zGs Tryz.func82
 intro Φ hΦ hF g
 unfold zdR at hF
 iterate 3 (try simp [go_sem, g]; try intros; refine zay ?_)
 refine wJ hF (fun x3 => [(11, .v (vG x3))]) (fun x3 hF => ?_) fun _ hj1 hF => ?_
 ·cases hΦ _ (zaa hF)
  refine wW ?_
  try simp [go_sem, g]
 refine wB ?_
 obtain ⟨b15, hb16, hψ8⟩ := hF
 refine pR hb16 (fun i5 s4 => [(1, .v (.int .i64 a1)), (2, .v (vH a2)), (4, .v (vC a4)), (5, .bl [.int .i64 a0.P, .int .i64 a0.Q, .int .i64 a0.G]), (11, .v (vG s4)), (15, .v (vC a3)), (16, .v (.int .i64 (a3.length : Int))), (17, .v (.int .i64 i5))]) (fun s4 _ hN17 => ?_) (fun i5 s4 _ _ hi9 hi10 ho6 hg7 hF => ?_)
 ·subst hN17
  refine wW ?_
  refine wf ?_
  exact wT (hj1 _) hψ8
 refine wW ?_
 refine wt ?_ (hb := by simp [go_sem, g, hi9, hi10])
 refine wW ?_
 refine wB ?_
 obtain ⟨x11, g, hF⟩ := Rx g hF
 refine wK [1, 2, 4, 5, 11, 12, 13, 15, 16, 17] ?_
 refine wX zzA follows ?_
 obtain ⟨x12, g, hF⟩ := Rx g hF
 obtain ⟨x13, g, hF⟩ := Rx g hF
 refine wC hF [.sh, .sh, .sh, .sh] zjb (fun z14 hF => ?_)
 obtain ⟨g, hF⟩ := Rg g hF
 refine wK [1, 2, 4, 5, 11, 15, 16, 17] ?_
 exact wT (hg7 (s4 ++ [z14])) (zaa hF) (a := by simp [go_sem, g, zbp hi9 hi10 (by assumption)])
@[go_sem] def zyV : List DE := [d0 0 [9], d0 1 [11], d2 2 [4] 4 4, d2 3 [4] 4 4, d1 4 [4] 4, d2 5 [26] 4 26, d0 6 [3], d0 7 [11], d0 8 [28, 29], d0 9 [30], d1 11 [5] 5, d2 12 [33] 5 33, d0 13 [10], d0 14 [34, 35], d0 15 [36], ⟨10, [25, 27, 31], [], none, false, true, false⟩, d0 16 [32, 37], ⟨17, [24, 38], [], none, true, true, true⟩, d0 18 [22, 23], d0 19 [40, 39]]
def zbQ (a0 : Group) (a1 : Bases) (a2 : List Int) (a3 : List Int) : Option ((List Int)) :=
 gd (0 ≤ (a2.length : Int) ∧ (a2.length : Int) ≤ (a2.length : Int) ∧ 8 * (a2.length : Int) ≤ 140737488355328 ∧ (a2.length : Int) ≤ 4611686018427387904) <|
 (some (List.replicate a2.length 0)).bind fun x1 =>
 ((zar (σ := (List Int)) (fun i21 s20 =>
 (ix a2 i21).bind fun x27 =>
 (ix a3 x27).bind fun x28 =>
 (ix a1.Hs i21).bind fun x29 =>
 (zai a0 a0.G x28).bind fun z30 =>
 (zan a0 [z30, x29]).bind fun z31 =>
 (ix s20 x27).bind fun x32 =>
 some (.go (s20.set x27.toNat z31))) (fun s20 => s20) (a2.length) 0 x1 : Option ((List Int))).bind fun x6 =>
 some x6)
theorem zfB : ∀ {a0} {a1} {a2} {a3} {r}, zbQ a0 a1 a2 a3 = some r → PCalls Tryz.prog 81 [(.sh, vE a0), (.sh, vJ a1), (.sh, vC a2), (.sh, vC a3)] (Eo (vD r) [.junk, .junk, .junk, .junk]) := by
 intro a0 a1 a2 a3 r hr
 apply pF 43 [] [] [] [.tmp 8] hr zFR Tryz.func81
 intro Φ hΦ hF g
 unfold zbQ at hF
 obtain ⟨g, hF⟩ := Rg g hF
 obtain ⟨x1, e2, hF⟩ := zep hF
 have g3 : List.replicate a2.length ([.int .i64 0] : List PV) = x1.map zat := by injection e2 with e2; rw [← e2]; simp [go_sem]
 iterate 2 (try simp [go_sem, g, g3]; try intros; refine zay ?_)
 try simp [go_sem, g, g3]
 try intros
 refine wK [3, 4, 5, 9, 15, 16, 17] ?_
 refine wJ hF (fun x6 => [(9, .v (vD x6))]) (fun x6 hF => ?_) fun _ hj4 hF => ?_
 ·cases hΦ _ (zaa hF)
  refine wW ?_
  try simp [go_sem, g]
 refine wB ?_
 obtain ⟨b33, hb34, hψ24⟩ := hF
 refine pR hb34 (fun i21 s20 => [(3, .v (vC a3)), (4, .bl [.int .i64 a0.P, .int .i64 a0.Q, .int .i64 a0.G]), (5, .bl [.int .i64 a1.H, vC a1.Hs]), (9, .v (vD s20)), (15, .v (vC a2)), (16, .v (.int .i64 (a2.length : Int))), (17, .v (.int .i64 i21))]) (fun s20 _ hN35 => ?_) (fun i21 s20 _ _ hi25 hi26 ho22 hg23 hF => ?_)
 ·subst hN35
  refine wW ?_
  refine wf ?_
  exact wT (hj4 _) hψ24
 refine wW ?_
 refine wt ?_ (hb := by simp [go_sem, g, hi25, hi26])
 refine wW ?_
 refine wB ?_
 obtain ⟨x27, g, hF⟩ := Rx g hF
 refine wW ?_
 refine wX zyV follows ?_
 obtain ⟨x28, g, hF⟩ := Rx g hF
 obtain ⟨x29, g, hF⟩ := Rx g hF
 refine wD hF zaA (fun z30 hF => ?_)
 refine wC hF [.sh, .sh] zaQ (fun z31 hF => ?_)
 obtain ⟨x32, g, hF⟩ := Rx g hF
 refine wK [3, 4, 5, 9, 15, 16, 17] ?_
 exact wT (hg23 (s20.set x27.toNat z31)) (zaa hF) (a := by simp [go_sem, g, zbp hi25 hi26 (by assumption)])
def zbH (a0 : List Cipher) : Option (List Cipher) :=
 gd (a0.length * 16 ≤ 140737488355328 ∧ a0.length ≤ 4611686018427387904) <|
 some a0
theorem zfM {a0 : (List Cipher)} {r : (List Cipher)} (hr : zbH a0 = some r) : PCalls Tryz.prog 150 [(.sh, .sl false 2 (a0.map zbT))] (Eo (.sl true 2 (r.map zbT)) [.junk]) := by
 apply zkw 8 [] [] [1000000] [.tmp 2] hr zzI Tryz.func150 rfl rfl rfl
 ·exact ⟨by simp, rfl⟩
 intro Φ hΦ hF
 unfold zbH at hF
 obtain ⟨g, hF⟩ := zhZ hF
 have h1 := hΦ _ (zaa hF)
 subst h1
 try simp [go_sem]
 refine zkx [(0, .v (.sl false 2 (a0.map zbT)))] (by simp [go_sem]) ?_
 try simp [go_sem]
 refine zq5 rfl rfl (by simp [go_sem]) rfl (by rfl) fun b hb => ?_
 try simp [go_sem]
 refine zay ?_
 repeat rw [zpl]
 cases b
 ·refine zku (by simp [go_sem]) ?_
  try simp [go_sem]
  refine zay ?_
  try simp [go_sem, g]
  refine zay ?_
  try simp [go_sem, g]
 have hb0 : a0 = [] := by
  cases a0 with
  | nil => rfl
  | cons x l => exact absurd (hb (by simp)) (by simp)
 subst hb0
 refine zk4 (by simp [go_sem]) ?_
 try simp [go_sem]
 refine zay ?_
 try simp [go_sem]
def zcG (a0 : Int) (a1 : List Cipher) (a2 : List Cipher) (a3 : List Int) : Option ((List Int)) :=
 (zbH a1).bind fun z1 =>
 gd ((z1.length + a2.length) * 16 ≤ 140737488355328 ∧ z1.length + a2.length ≤ 4611686018427387904) <|
 (some (z1 ++ a2)).bind fun x2 =>
 ((zar (σ := (List Int)) (fun i8 s7 =>
 (ix x2 i8).bind fun x14 =>
 gd ((s7.length + 2) * 8 ≤ 140737488355328 ∧ s7.length + 2 ≤ 4611686018427387904) <|
 some (.go (s7 ++ [x14.A, x14.B]))) (fun s7 => s7) (x2.length) 0 [a0] : Option ((List Int))).bind fun x6 =>
 gd ((x6.length + a3.length) * 8 ≤ 140737488355328 ∧ x6.length + a3.length ≤ 4611686018427387904) <|
 some (x6 ++ a3))
theorem zhg : ∀ {a0} {a1} {a2} {a3} {r}, zcG a0 a1 a2 a3 = some r → PCalls Tryz.prog 85 [(.sh, .int .i64 a0), (.sh, vH a1), (.sh, vH a2), (.sh, vC a3)] (Eo (vD r) [.junk, .junk, .junk, .junk]) := by
 intro a0 a1 a2 a3 r hr
 apply pF 34 [] [] [] [.tmp 8] hr zFQ Tryz.func85
 intro Φ hΦ hF g
 unfold zcG at hF
 iterate 2 refine wW ?_
 refine wC hF [.sh] zfM (fun z1 hF => ?_)
 obtain ⟨g, hF⟩ := Rg g hF
 obtain ⟨x2, e3, hF⟩ := zep hF
 have g := And.intro g (show List.map zbT z1 ++ List.map zbT a2 = x2.map zbT by injection e3 with e3; rw [← e3]; simp [go_sem])
 try simp [go_sem, g]
 try intros
 refine wK [3, 9, 17, 18, 19] ?_
 refine wJ hF (fun x6 => [(3, .v (vC a3)), (9, .v (vD x6))]) (fun x6 hF => ?_) fun _ hj4 hF => ?_
 ·obtain ⟨g, hF⟩ := Rg g hF
  cases hΦ _ (zaa hF)
  refine wW ?_
  try simp [go_sem, g]
 refine wB ?_
 obtain ⟨b15, hb16, hψ11⟩ := hF
 refine pR hb16 (fun i8 s7 => [(3, .v (vC a3)), (9, .v (vD s7)), (17, .v (vG x2)), (18, .v (.int .i64 (x2.length : Int))), (19, .v (.int .i64 i8))]) (fun s7 _ hN17 => ?_) (fun i8 s7 _ _ hi12 hi13 ho9 hg10 hF => ?_)
 ·subst hN17
  refine wW ?_
  refine wf ?_
  exact wT (hj4 _) hψ11
 refine wW ?_
 refine wt ?_ (hb := by simp [go_sem, g, hi12, hi13])
 refine wW ?_
 refine wB ?_
 obtain ⟨x14, g, hF⟩ := Rx g hF
 obtain ⟨g, hF⟩ := Rg g hF
 refine wW ?_
 refine wK [3, 9, 17, 18, 19] ?_
 exact wT (hg10 (s7 ++ [x14.A, x14.B])) (zaa hF) (a := by simp [go_sem, g, zbp hi12 hi13 (by assumption)])
def zdX (a0 : List Int) : Option (List Int) :=
 gd (a0.length * 8 ≤ 140737488355328 ∧ a0.length ≤ 4611686018427387904) <|
 some a0
theorem zi9 {a0 : (List Int)} {r : (List Int)} (hr : zdX a0 = some r) : PCalls Tryz.prog 149 [(.sh, .sl false 1 (a0.map zat))] (Eo (.sl true 1 (r.map zat)) [.junk]) := by
 apply zkw 8 [] [] [1000000] [.tmp 2] hr zzs Tryz.func149 rfl rfl rfl
 ·exact ⟨by simp, rfl⟩
 intro Φ hΦ hF
 unfold zdX at hF
 obtain ⟨g, hF⟩ := zhZ hF
 have h1 := hΦ _ (zaa hF)
 subst h1
 try simp [go_sem]
 refine zkx [(0, .v (.sl false 1 (a0.map zat)))] (by simp [go_sem]) ?_
 try simp [go_sem]
 refine zq5 rfl rfl (by simp [go_sem]) rfl (by rfl) fun b hb => ?_
 try simp [go_sem]
 refine zay ?_
 repeat rw [zpl]
 cases b
 ·refine zku (by simp [go_sem]) ?_
  try simp [go_sem]
  refine zay ?_
  try simp [go_sem, g]
  refine zay ?_
  try simp [go_sem, g]
 have hb0 : a0 = [] := by
  cases a0 with
  | nil => rfl
  | cons x l => exact absurd (hb (by simp)) (by simp)
 subst hb0
 refine zk4 (by simp [go_sem]) ?_
 try simp [go_sem]
 refine zay ?_
 try simp [go_sem]
def zbl (a0 : Group) (a1 : ByteArray) (a2 : List Int) : Option (Int × Bool) :=
 gd (([a0.P, a0.Q, a0.G].length + a2.length) * 8 ≤ 140737488355328 ∧ [a0.P, a0.Q, a0.G].length + a2.length ≤ 4611686018427387904) <|
 (zcr a1 ([a0.P, a0.Q, a0.G] ++ a2)).bind fun z1 =>
 if (!z1.2) = true then (
 some (0, false)) else (
 gd (a0.Q ≠ 0) <|
 some (z1.1.tmod a0.Q, true))
theorem zeZ : ∀ {a0} {a1} {a2} {r}, zbl a0 a1 a2 = some r → PCalls Tryz.prog 123 [(.sh, vE a0), (.sh, .str a1), (.sh, vC a2)] (Eo (.tup [.int .i64 r.1, .bool r.2]) [.junk, .junk, .junk]) := by
 intro a0 a1 a2 r hr
 apply pF 30 [] [] [] [.tmp 6, .tmp 7] hr zzN Tryz.func123
 intro Φ hΦ hF g
 unfold zbl at hF
 obtain ⟨g, hF⟩ := Rg g hF
 refine wW ?_
 refine wC hF [.sh, .sh] zhf (fun z1 hF => ?_)
 refine wK [3, 8, 9] ?_
 refine wW ?_
 refine wI hF (fun h2 hF => ?_) (fun h2 hF => ?_)
 ·cases hΦ _ (zaa hF)
  refine wW ?_
  try simp [go_sem, g]
 obtain ⟨g, hF⟩ := Rz g hF
 cases hΦ _ (zaa hF)
 iterate 2 refine wW ?_
 try simp [go_sem, g]
@[go_sem] def zBt : List DE := [d2 0 [4] 4 4, d0 1 [1], d0 2 [2], d0 4 [11], d0 5 [25], d3 3 [23], ⟨6, [24, 26], [], none, true, false, false⟩, d3 7 [21, 22, 27], d0 8 [28], d0 9 [20], d0 10 [20], d0 11 [29], d0 12 [30]]
def za5 (a0 : Group) (a1 : ByteArray) (a2 : List Int) (a3 : Int) : Option (List Int × Bool) :=
 ((zbX (σ := (List Int) × Int) (fun s4 =>
 if decide (s4.2 < (if a3 < 1 then 1 else a3)) = true then (
 (zdX a2).bind fun z10 =>
 gd ((z10.length + 1) * 8 ≤ 140737488355328 ∧ z10.length + 1 ≤ 4611686018427387904) <|
 (zbl a0 a1 (z10 ++ [s4.2])).bind fun z11 =>
 if (!z11.2) = true then (
 some (.out (.inr ([], false)))) else (
 gd ((s4.1.length + 1) * 8 ≤ 140737488355328 ∧ s4.1.length + 1 ≤ 4611686018427387904) <|
 some (.go (s4.1 ++ [z11.1], i64.wrap (s4.2 + 1))))) else (
 some (.out (.inl s4.1)))) ([], 0) : Option ((List Int) ⊕ (List Int × Bool))).bind (Sum.elim (fun x3 =>
 gd (0 ≤ a3) <|
 gd (0 ≤ a3.toNat ∧ a3.toNat ≤ x3.length) <|
 some (x3.take a3.toNat, true)) some))
theorem zeG : ∀ {a0} {a1} {a2} {a3} {r}, za5 a0 a1 a2 a3 = some r → PCalls Tryz.prog 84 [(.sh, vE a0), (.sh, .str a1), (.sh, vC a2), (.sh, .int .i64 a3)] (Eo (.tup [vD r.1, .bool r.2]) [.junk, .junk, .junk, .junk]) := by
 intro a0 a1 a2 a3 r hr
 apply pF 41 [] [] [] [.tmp 8, .tmp 9] hr zGc Tryz.func84
 intro Φ hΦ hF g
 unfold za5 at hF
 iterate 3 refine wW ?_
 refine wS hF (fun x3 => [(3, .v (.int .i64 a3)), (10, .v (vD x3))]) (fun x3 hF => ?_) fun _ hj1 hr2 hF => ?_
 ·obtain ⟨g, hF⟩ := Rg g hF
  obtain ⟨g, hF⟩ := Rg g hF
  refine wK [8, 9] ?_
  cases hΦ _ (zaa hF)
  try simp [go_sem, g]
 refine wB ?_
 obtain ⟨b13, hb14, hψ8⟩ := hF
 refine pL hb14 (fun s4 => [(1, .v (.str a1)), (2, .v (vC a2)), (3, .v (.int .i64 a3)), (4, .bl [.int .i64 a0.P, .int .i64 a0.Q, .int .i64 a0.G]), (10, .v (vD s4.1)), (16, .v (.int .i64 (if a3 < 1 then 1 else a3))), (17, .v (.int .i64 s4.2))]) (fun s4 _ _ ho6 hg7 hF => ?_)
 refine wW ?_
 refine wI hF (fun h9 hF => ?_) (fun h9 hF => ?_)
 ·refine wW ?_
  refine wB ?_
  refine wK [1, 2, 3, 4, 10, 11, 16, 17] ?_
  refine wX zBt follows ?_
  refine wC hF [.sh] zi9 (fun z10 hF => ?_)
  obtain ⟨g, hF⟩ := Rg g hF
  refine wC hF [.sh, .sh, .sh] zeZ (fun z11 hF => ?_)
  refine wK [1, 2, 3, 4, 10, 12, 13, 16, 17] ?_
  refine wW ?_
  refine wI hF (fun h12 hF => ?_) (fun h12 hF => ?_)
  ·cases ho6 _ (zaa hF)
   cases hΦ _ (hr2 _ hψ8)
   refine wW ?_
   try simp [go_sem, g]
  obtain ⟨g, hF⟩ := Rg g hF
  iterate 2 refine wW ?_
  exact wT (hg7 _) (zaa hF)
 cases ho6 _ (zaa hF)
 exact wT (hj1 _) hψ8
def zfZ (a0 : List Int) (a1 : List Int) : Option ((List Int)) :=
 ((zar (σ := (List Int)) (fun i5 s4 =>
 (ix a1 i5).bind fun x11 =>
 (ix a0 x11).bind fun x12 =>
 gd ((s4.length + 1) * 8 ≤ 140737488355328 ∧ s4.length + 1 ≤ 4611686018427387904) <|
 some (.go (s4 ++ [x12]))) (fun s4 => s4) (a1.length) 0 [] : Option ((List Int))).bind fun x3 =>
 some x3)
theorem zt0 : ∀ {a0} {a1} {r}, zfZ a0 a1 = some r → PCalls Tryz.prog 120 [(.sh, vC a0), (.sh, vC a1)] (Eo (vD r) [.junk, .junk]) := by
 intro a0 a1 r hr
 apply pF 24 [] [] [] [.tmp 4] hr zAP Tryz.func120
 intro Φ hΦ hF g
 unfold zfZ at hF
 iterate 3 (try simp [go_sem, g]; try intros; refine zay ?_)
 refine wJ hF (fun x3 => [(5, .v (vD x3))]) (fun x3 hF => ?_) fun _ hj1 hF => ?_
 ·cases hΦ _ (zaa hF)
  refine wW ?_
  try simp [go_sem, g]
 refine wB ?_
 obtain ⟨b13, hb14, hψ8⟩ := hF
 refine pR hb14 (fun i5 s4 => [(0, .v (vC a0)), (5, .v (vD s4)), (9, .v (vC a1)), (10, .v (.int .i64 (a1.length : Int))), (11, .v (.int .i64 i5))]) (fun s4 _ hN15 => ?_) (fun i5 s4 _ _ hi9 hi10 ho6 hg7 hF => ?_)
 ·subst hN15
  refine wW ?_
  refine wf ?_
  exact wT (hj1 _) hψ8
 refine wW ?_
 refine wt ?_ (hb := by simp [go_sem, g, hi9, hi10])
 refine wW ?_
 refine wB ?_
 obtain ⟨x11, g, hF⟩ := Rx g hF
 refine wK [0, 5, 7, 9, 10, 11] ?_
 obtain ⟨x12, g, hF⟩ := Rx g hF
 obtain ⟨g, hF⟩ := Rg g hF
 refine wW ?_
 exact wT (hg7 (s4 ++ [x12])) (zaa hF) (a := by simp [go_sem, g, zbp hi9 hi10 (by assumption)])
@[go_sem] def zBk : List DE := [d2 0 [4] 4 4, d2 1 [4] 4 4, d1 2 [4] 4, d2 3 [22] 4 22, d0 4 [3], d0 5 [10], d0 6 [24, 25], d0 7 [26], d2 9 [4] 4 4, d0 10 [1], d0 11 [11], d3 8 [21, 23, 27], d3 12 [29, 30, 31], d0 13 [28, 32], ⟨14, [20, 33], [], none, true, true, true⟩, d0 15 [34]]
def zde (a0 : Group) (a1 : Int) (a2 : List Int) (a3 : List Int) : Option ((List Int)) :=
 ((zar (σ := Int × List Int) (fun i5 s4 =>
 (ix a2 i5).bind fun x11 =>
 (ix a3 i5).bind fun x12 =>
 (zai a0 a0.G x12).bind fun z13 =>
 (zai a0 s4.1 x11).bind fun z14 =>
 (zan a0 [z13, z14]).bind fun z15 =>
 gd ((s4.2.length + 1) * 8 ≤ 140737488355328 ∧ s4.2.length + 1 ≤ 4611686018427387904) <|
 some (.go (z15, s4.2 ++ [z15]))) (fun s4 => s4.2) (a2.length) 0 (a1, []) : Option ((List Int))).bind fun x3 =>
 some x3)
theorem zhH : ∀ {a0} {a1} {a2} {a3} {r}, zde a0 a1 a2 a3 = some r → PCalls Tryz.prog 86 [(.sh, vE a0), (.sh, .int .i64 a1), (.sh, vC a2), (.sh, vC a3)] (Eo (vD r) [.junk, .junk, .junk, .junk]) := by
 intro a0 a1 a2 a3 r hr
 apply pF 41 [] [] [] [.tmp 8] hr zEC Tryz.func86
 intro Φ hΦ hF g
 unfold zde at hF
 iterate 3 (try simp [go_sem, g]; try intros; refine zay ?_)
 refine wJ hF (fun x3 => [(9, .v (vD x3))]) (fun x3 hF => ?_) fun _ hj1 hF => ?_
 ·cases hΦ _ (zaa hF)
  refine wW ?_
  try simp [go_sem, g]
 refine wB ?_
 obtain ⟨b16, hb17, hψ8⟩ := hF
 refine pR hb17 (fun i5 s4 => [(1, .v (.int .i64 s4.1)), (3, .v (vC a3)), (4, .bl [.int .i64 a0.P, .int .i64 a0.Q, .int .i64 a0.G]), (9, .v (vD s4.2)), (13, .v (vC a2)), (14, .v (.int .i64 (a2.length : Int))), (15, .v (.int .i64 i5))]) (fun s4 _ hN18 => ?_) (fun i5 s4 _ _ hi9 hi10 ho6 hg7 hF => ?_)
 ·subst hN18
  refine wW ?_
  refine wf ?_
  exact wT (hj1 _) hψ8
 refine wW ?_
 refine wt ?_ (hb := by simp [go_sem, g, hi9, hi10])
 refine wW ?_
 refine wB ?_
 obtain ⟨x11, g, hF⟩ := Rx g hF
 refine wK [1, 3, 4, 9, 10, 11, 13, 14, 15] ?_
 refine wX zBk follows ?_
 obtain ⟨x12, g, hF⟩ := Rx g hF
 refine wC hF [.sh, .sh, .sh] zaA (fun z13 hF => ?_)
 refine wC hF [.sh, .sh, .sh] zaA (fun z14 hF => ?_)
 refine wC hF [.sh, .sh] zaQ (fun z15 hF => ?_)
 refine wK [1, 3, 4, 9, 13, 14, 15] ?_
 obtain ⟨g, hF⟩ := Rg g hF
 refine wW ?_
 exact wT (hg7 (z15, s4.2 ++ [z15])) (zaa hF) (a := by simp [go_sem, g, zbp hi9 hi10 (by assumption)])
def za4 (a0 : Group) (a1 : Int) : Option Int :=
 (zgf a1 a0.Q).bind fun z1 =>
 some z1
theorem zcy : ∀ {a0} {a1} {r}, za4 a0 a1 = some r → PCalls Tryz.prog 121 [(.sh, vE a0), (.sh, .int .i64 a1)] (Eo (.int .i64 r) [.junk, .junk]) := by
 intro a0 a1 r hr
 apply pF 9 [] [] [] [.tmp 4] hr zAi Tryz.func121
 intro Φ hΦ hF g
 unfold za4 at hF
 refine wW ?_
 refine wC hF [.sh, .sh] zmU (fun z1 hF => ?_)
 cases hΦ _ (zaa hF)
 refine wW ?_
 try simp [go_sem, g]
@[go_sem] def zwE : List DE := [d0 0 [4], d1 1 [7] 7, d2 2 [17] 7 17, d0 3 [18], d0 5 [5], d1 6 [7] 7, d2 7 [22] 7 22, d0 8 [23], ⟨4, [16, 19], [], none, true, false, false⟩, ⟨9, [21, 24], [], none, true, false, false⟩, d0 10 [20], d0 11 [25]]
def zey (a0 : List Cipher) : Option (List Int × List Int) :=
 ((zar (σ := (List Int) × List Int) (fun i5 s4 =>
 (ix a0 i5).bind fun x11 =>
 gd ((s4.1.length + 1) * 8 ≤ 140737488355328 ∧ s4.1.length + 1 ≤ 4611686018427387904) <|
 gd ((s4.2.length + 1) * 8 ≤ 140737488355328 ∧ s4.2.length + 1 ≤ 4611686018427387904) <|
 some (.go (s4.1 ++ [x11.A], s4.2 ++ [x11.B]))) (fun s4 => (s4.1, s4.2)) (a0.length) 0 ([], []) : Option ((List Int × List Int))).bind fun x3 =>
 some (x3.1, x3.2))
theorem zim : ∀ {a0} {r}, zey a0 = some r → PCalls Tryz.prog 122 [(.sh, vH a0)] (Eo (.tup [vD r.1, vD r.2]) [.junk]) := by
 intro a0 r hr
 apply pF 29 [] [] [] [.tmp 2, .tmp 3] hr zAJ Tryz.func122
 intro Φ hΦ hF g
 unfold zey at hF
 iterate 3 (try simp [go_sem, g]; try intros; refine zay ?_)
 refine wJ hF (fun x3 => [(4, .v (vD x3.1)), (5, .v (vD x3.2))]) (fun x3 hF => ?_) fun _ hj1 hF => ?_
 ·refine wK [2, 3] ?_
  cases hΦ _ (zaa hF)
  try simp [go_sem, g]
 refine wB ?_
 obtain ⟨b12, hb13, hψ8⟩ := hF
 refine pR hb13 (fun i5 s4 => [(4, .v (vD s4.1)), (5, .v (vD s4.2)), (10, .v (vH a0)), (11, .v (.int .i64 (a0.length : Int))), (12, .v (.int .i64 i5))]) (fun s4 _ hN14 => ?_) (fun i5 s4 _ _ hi9 hi10 ho6 hg7 hF => ?_)
 ·subst hN14
  refine wW ?_
  refine wf ?_
  exact wT (hj1 _) hψ8
 refine wK [4, 5, 10, 11, 12, 13] ?_
 refine wt ?_ (hb := by simp [go_sem, g, hi9, hi10])
 refine wW ?_
 refine wB ?_
 obtain ⟨x11, g, hF⟩ := Rx g hF
 refine wW ?_
 refine wX zwE follows ?_
 obtain ⟨g, hF⟩ := Rg g hF
 obtain ⟨g, hF⟩ := Rg g hF
 refine wK [4, 5, 10, 11, 12] ?_
 exact wT (hg7 (s4.1 ++ [x11.A], s4.2 ++ [x11.B])) (zaa hF) (a := by simp [go_sem, g, zbp hi9 hi10 (by assumption)])
@[go_sem] def zzg : List DE := [d2 0 [3] 3 3, d0 1 [7], d2 2 [3] 3 3, d0 3 [9], d0 4 [2], d0 5 [8], d0 6 [21, 22], d0 7 [23], d3 8 [19, 20, 24], d0 9 [18, 25], ⟨10, [17, 26], [], none, true, true, true⟩, d0 11 [27]]
def zaZ (a0 : Group) (a1 : List Int) (a2 : List Int) : Option Int :=
 ((zar (σ := Int) (fun i5 s4 =>
 (ix a1 i5).bind fun x11 =>
 (ix a2 i5).bind fun x12 =>
 (zai a0 x11 x12).bind fun z13 =>
 (zan a0 [s4, z13]).bind fun z14 =>
 some (.go z14)) (fun s4 => s4) (a1.length) 0 1 : Option Int).bind fun x3 =>
 some x3)
theorem zbF : ∀ {a0} {a1} {a2} {r}, zaZ a0 a1 a2 = some r → PCalls Tryz.prog 58 [(.sh, vE a0), (.sh, vC a1), (.sh, vC a2)] (Eo (.int .i64 r) [.junk, .junk, .junk]) := by
 intro a0 a1 a2 r hr
 apply pF 30 [] [] [] [.tmp 6] hr zFp Tryz.func58
 intro Φ hΦ hF g
 unfold zaZ at hF
 iterate 3 (try simp [go_sem, g]; try intros; refine zay ?_)
 refine wJ hF (fun x3 => [(7, .v (.int .i64 x3))]) (fun x3 hF => ?_) fun _ hj1 hF => ?_
 ·cases hΦ _ (zaa hF)
  refine wW ?_
  try simp [go_sem, g]
 refine wB ?_
 obtain ⟨b15, hb16, hψ8⟩ := hF
 refine pR hb16 (fun i5 s4 => [(2, .v (vC a2)), (3, .bl [.int .i64 a0.P, .int .i64 a0.Q, .int .i64 a0.G]), (7, .v (.int .i64 s4)), (10, .v (vC a1)), (11, .v (.int .i64 (a1.length : Int))), (12, .v (.int .i64 i5))]) (fun s4 _ hN17 => ?_) (fun i5 s4 _ _ hi9 hi10 ho6 hg7 hF => ?_)
 ·subst hN17
  refine wW ?_
  refine wf ?_
  exact wT (hj1 _) hψ8
 refine wW ?_
 refine wt ?_ (hb := by simp [go_sem, g, hi9, hi10])
 refine wW ?_
 refine wB ?_
 obtain ⟨x11, g, hF⟩ := Rx g hF
 refine wK [2, 3, 7, 8, 9, 10, 11, 12] ?_
 refine wX zzg follows ?_
 obtain ⟨x12, g, hF⟩ := Rx g hF
 refine wC hF [.sh, .sh, .sh] zaA (fun z13 hF => ?_)
 refine wC hF [.sh, .sh] zaQ (fun z14 hF => ?_)
 refine wK [2, 3, 7, 10, 11, 12] ?_
 exact wT (hg7 z14) (zaa hF) (a := by simp [go_sem, g, zbp hi9 hi10 (by assumption)])
theorem zy2 : zso Tryz.prog 176 25 := by
 intro n H e b es by_ z e1 e2 h0 h1 h2 h3 h4 h5
 refine zkB zAq Tryz.func176 rfl rfl (by simp [Tryz.f176]) fun hw => ?_
 have hn : ¬ n < 0 := by omega
 have hw1 : i64.wrap n = n := wrI (by omega)
 have hw0 : i64.wrap 0 = 0 := wrI (by omega)
 have ei : (zel Tryz.prog 3).isSome = true := by kernel_rfl
 by_cases hp : 0 < n
 ·have hne : n ≠ 0 := by omega
  have h5' := h5
  simp [zap] at h5'
  simp [Tryz.f176, awp, zgB, aop, ahp, za7, zbo, zbg, mat, zbk, zaC, zoo, FR.put, FR.init, rdv, rda, zbM, zdg, zap, Am.lenV, zeT, zdj, bnd, zlV, zsb, zhP, zi7, zlX, hn, e1, e2, ei, hw1, hw0, hp, h1, h2, h3, h4, hne]
  first | exact h5' | exact .inl h5'
 have hz : n = 0 := by omega
 subst hz
 simp [Tryz.f176, awp, zgB, aop, ahp, za7, zbo, zbg, mat, zbk, zaC, zoo, FR.put, FR.init, rdv, rda, zbM, zdg, zap, Am.lenV, zeT, zdj, bnd, zlV, zsb, zhP, zi7, zlX, hn, e1, e2, hw1, hw0, hp]
def zbx (a0 : (List (List Int))) : Option ((List Int)) :=
 ((zar (σ := Int) (fun i5 s4 =>
 (ix a0 i5).bind fun x11 =>
 if decide ((i64.wrap (s4 + (x11.length : Int))) < 0) = true then (
 none) else (
 some (.go (i64.wrap (s4 + (x11.length : Int)))))) (fun s4 => s4) (a0.length) 0 0 : Option Int).bind fun x3 =>
 gd (0 ≤ x3 ∧ 8 * x3 ≤ 140737488355328 ∧ x3 ≤ 4611686018427387904) <|
 ((zar (σ := (List Int)) (fun i22 s21 =>
 (ix a0 i22).bind fun x28 =>
 gd ((s21.length + x28.length) * 8 ≤ 140737488355328 ∧ s21.length + x28.length ≤ 4611686018427387904) <|
 some (.go (s21 ++ x28))) (fun s21 => s21) (a0.length) 0 [] : Option ((List Int))).bind fun x20 =>
 some x20))
theorem zgg : ∀ {a0} {r}, zbx a0 = some r → PCalls Tryz.prog 124 [(.sh, vK a0)] (Eo (vD r) [.junk]) := by
 intro a0 r hr
 apply pF 36 [] [] [] [.tmp 2] hr zzj Tryz.func124
 intro Φ hΦ hF g
 unfold zbx at hF
 iterate 3 (try simp [go_sem, g]; try intros; refine zay ?_)
 refine wJ hF (fun x3 => [(0, .v (vK a0)), (3, .v (.int .i64 x3))]) (fun x3 hF => ?_) fun _ hj1 hF => ?_
 ·obtain ⟨g17, hF⟩ := zhZ hF
  try simp [go_sem, g]
  refine zwe zy2 zDO (by simp [go_sem, g]) g17 ?_
  try simp [go_sem, g]
  try intros
  refine zay ?_
  try simp [go_sem, g]
  try intros
  refine wK [6, 25, 26, 27] ?_
  refine wJ hF (fun x20 => [(6, .v (vD x20))]) (fun x20 hF => ?_) fun _ hj18 hF => ?_
  ·cases hΦ _ (zaa hF)
   refine wW ?_
   try simp [go_sem, g]
  refine wB ?_
  obtain ⟨b29, hb30, hψ25⟩ := hF
  refine pR hb30 (fun i22 s21 => [(6, .v (vD s21)), (25, .v (vK a0)), (26, .v (.int .i64 (a0.length : Int))), (27, .v (.int .i64 i22))]) (fun s21 _ hN31 => ?_) (fun i22 s21 _ _ hi26 hi27 ho23 hg24 hF => ?_)
  ·subst hN31
   refine wW ?_
   refine wf ?_
   exact wT (hj18 _) hψ25
  refine wW ?_
  refine wt ?_ (hb := by simp [go_sem, g, hi26, hi27])
  refine wW ?_
  refine wB ?_
  obtain ⟨x28, g, hF⟩ := Rx g hF
  obtain ⟨g, hF⟩ := Rg g hF
  iterate 2 refine wW ?_
  exact wT (hg24 (s21 ++ x28)) (zaa hF) (a := by simp [go_sem, g, zbp hi26 hi27 (by assumption)])
 refine wB ?_
 obtain ⟨b13, hb14, hψ8⟩ := hF
 refine pR hb14 (fun i5 s4 => [(0, .v (vK a0)), (3, .v (.int .i64 s4)), (9, .v (vK a0)), (10, .v (.int .i64 (a0.length : Int))), (11, .v (.int .i64 i5))]) (fun s4 _ hN15 => ?_) (fun i5 s4 _ _ hi9 hi10 ho6 hg7 hF => ?_)
 ·subst hN15
  refine wW ?_
  refine wf ?_
  exact wT (hj1 _) hψ8
 refine wW ?_
 refine wt ?_ (hb := by simp [go_sem, g, hi9, hi10])
 refine wW ?_
 refine wB ?_
 obtain ⟨x11, g, hF⟩ := Rx g hF
 try simp [go_sem, g]
 try intros
 refine zay ?_
 try simp [go_sem, g]
 try intros
 refine wK [0, 3, 9, 10, 11] ?_
 refine wW ?_
 refine wI hF (fun h12 hF => ?_) (fun h12 hF => ?_)
 ·exact (znx hF).elim
 refine wW ?_
 exact wT (hg7 (i64.wrap (s4 + (x11.length : Int)))) (zaa hF) (a := by simp [go_sem, g, zbp hi9 hi10 (by assumption)])
def zf8 (a0 : List Int) (a1 : Int) : Option Int :=
 ((zar (σ := Int) (fun i5 s4 =>
 (ix a0 i5).bind fun x11 =>
 gd (a1 ≠ 0) <|
 some (.go ((i64.wrap (s4 + x11)).tmod a1))) (fun s4 => s4) (a0.length) 0 0 : Option Int).bind fun x3 =>
 some x3)
theorem zrL : ∀ {a0} {a1} {r}, zf8 a0 a1 = some r → PCalls Tryz.prog 125 [(.sh, vC a0), (.sh, .int .i64 a1)] (Eo (.int .i64 r) [.junk, .junk]) := by
 intro a0 a1 r hr
 apply pF 21 [] [] [] [.tmp 4] hr zBc Tryz.func125
 intro Φ hΦ hF g
 unfold zf8 at hF
 iterate 3 (try simp [go_sem, g]; try intros; refine zay ?_)
 refine wJ hF (fun x3 => [(5, .v (.int .i64 x3))]) (fun x3 hF => ?_) fun _ hj1 hF => ?_
 ·cases hΦ _ (zaa hF)
  refine wW ?_
  try simp [go_sem, g]
 refine wB ?_
 obtain ⟨b12, hb13, hψ8⟩ := hF
 refine pR hb13 (fun i5 s4 => [(1, .v (.int .i64 a1)), (5, .v (.int .i64 s4)), (8, .v (vC a0)), (9, .v (.int .i64 (a0.length : Int))), (10, .v (.int .i64 i5))]) (fun s4 _ hN14 => ?_) (fun i5 s4 _ _ hi9 hi10 ho6 hg7 hF => ?_)
 ·subst hN14
  refine wW ?_
  refine wf ?_
  exact wT (hj1 _) hψ8
 refine wW ?_
 refine wt ?_ (hb := by simp [go_sem, g, hi9, hi10])
 refine wW ?_
 refine wB ?_
 obtain ⟨x11, g, hF⟩ := Rx g hF
 obtain ⟨g, hF⟩ := Rz g hF
 refine wW ?_
 refine wK [1, 5, 8, 9, 10] ?_
 exact wT (hg7 ((i64.wrap (s4 + x11)).tmod a1)) (zaa hF) (a := by simp [go_sem, g, zbp hi9 hi10 (by assumption)])
@[go_sem] def zyd : List DE := [d0 0 [7], d0 1 [0], d0 2 [8], d0 3 [15, 16], d0 4 [17], d0 5 [1], d0 6 [8], d0 7 [19, 20], d0 8 [21], d0 9 [18, 22], d0 10 [2], d0 11 [23, 24], d0 12 [14, 25], d0 13 [2], d0 14 [26, 27], d0 15 [28]]
def zeO (a0 : List Int) (a1 : List Int) (a2 : Int) : Option Int :=
 ((zar (σ := Int) (fun i5 s4 =>
 (ix a0 i5).bind fun x11 =>
 (ix a1 i5).bind fun x12 =>
 gd (a2 ≠ 0) <|
 gd (a2 ≠ 0) <|
 some (.go ((i64.wrap (s4 + ((i64.wrap (x11 * x12)).tmod a2))).tmod a2))) (fun s4 => s4) (a0.length) 0 0 : Option Int).bind fun x3 =>
 some x3)
theorem zmO : ∀ {a0} {a1} {a2} {r}, zeO a0 a1 a2 = some r → PCalls Tryz.prog 126 [(.sh, vC a0), (.sh, vC a1), (.sh, .int .i64 a2)] (Eo (.int .i64 r) [.junk, .junk, .junk]) := by
 intro a0 a1 a2 r hr
 apply pF 31 [] [] [] [.tmp 6] hr zzQ Tryz.func126
 intro Φ hΦ hF g
 unfold zeO at hF
 iterate 3 (try simp [go_sem, g]; try intros; refine zay ?_)
 refine wJ hF (fun x3 => [(7, .v (.int .i64 x3))]) (fun x3 hF => ?_) fun _ hj1 hF => ?_
 ·cases hΦ _ (zaa hF)
  refine wW ?_
  try simp [go_sem, g]
 refine wB ?_
 obtain ⟨b13, hb14, hψ8⟩ := hF
 refine pR hb14 (fun i5 s4 => [(0, .v (vC a0)), (1, .v (vC a1)), (2, .v (.int .i64 a2)), (7, .v (.int .i64 s4)), (10, .v (.int .i64 (a0.length : Int))), (11, .v (.int .i64 i5))]) (fun s4 _ hN15 => ?_) (fun i5 s4 _ _ hi9 hi10 ho6 hg7 hF => ?_)
 ·subst hN15
  refine wW ?_
  refine wf ?_
  exact wT (hj1 _) hψ8
 refine wW ?_
 refine wt ?_ (hb := by simp [go_sem, g, hi9, hi10])
 refine wW ?_
 refine wB ?_
 refine wW ?_
 refine wX zyd follows ?_
 obtain ⟨x11, g, hF⟩ := Rx g hF
 obtain ⟨x12, g, hF⟩ := Rx g hF
 obtain ⟨g, hF⟩ := Rz g hF
 obtain ⟨g, hF⟩ := Rz g hF
 refine wK [0, 1, 2, 7, 10, 11] ?_
 exact wT (hg7 ((i64.wrap (s4 + ((i64.wrap (x11 * x12)).tmod a2))).tmod a2)) (zaa hF) (a := by simp [go_sem, g, zbp hi9 hi10 (by assumption)])
@[go_sem] def zxu : List DE := [d2 0 [7] 7 7, d0 1 [19], d0 2 [33], d0 3 [109, 110], d0 4 [111], d0 5 [31], d0 6 [33], d0 7 [113, 114], d0 8 [115], d0 9 [32], d0 10 [116, 117], d0 11 [112, 118], d3 12 [108, 119], d0 13 [120]]
@[go_sem] def zxH : List DE := [d2 0 [7] 7 7, d1 1 [7] 7, d2 2 [128] 7 128, d0 3 [20], d2 5 [7] 7 7, d2 6 [7] 7 7, d1 7 [7] 7, d2 8 [134] 7 134, d0 9 [21], d2 11 [7] 7 7, d1 12 [8] 8, d2 13 [139] 8 139, d0 14 [25], d2 18 [7] 7 7, d1 19 [7] 7, d2 20 [146] 7 146, d0 21 [22], d2 23 [7] 7 7, d2 24 [7] 7 7, d1 25 [7] 7, d2 26 [152] 7 152, d0 27 [23], d0 28 [154], d2 30 [7] 7 7, d0 31 [34], d0 32 [25], d2 36 [7] 7 7, d2 37 [7] 7 7, d0 38 [2], d0 39 [23], d0 40 [166], d2 42 [7] 7 7, d0 43 [35], d0 44 [25], d3 4 [127, 129, 130], d3 10 [133, 135, 136], d3 15 [138, 140, 141], d0 16 [137, 142], ⟨17, [132, 143], [], none, true, true, true⟩, d3 22 [145, 147, 148], d3 29 [151, 153, 155], d3 33 [157, 158, 159], d0 34 [156, 160], ⟨35, [150, 161], [], none, true, true, true⟩, d3 41 [164, 165, 167], d3 45 [169, 170, 171], d0 46 [168, 172], ⟨47, [163, 173], [], none, true, true, true⟩, d0 48 [131, 144, 149, 162, 174], d1 49 [27] 27, d1 50 [176] 27, ⟨51, [177, 175], [27], some 177, true, true, true⟩]
@[go_sem] def zwS : List DE := [d1 0 [27] 27, d1 1 [188] 27, d2 2 [189] 27 189, d2 3 [7] 7 7, d2 4 [7] 7 7, d1 5 [7] 7, d2 6 [193] 7 193, d0 7 [24], d0 8 [37], d0 9 [195, 196], d0 10 [197], d2 12 [7] 7 7, d0 13 [36], d0 14 [37], d0 15 [201, 202], d0 16 [203], d0 17 [25], d0 18 [37], d0 19 [205, 206], d0 20 [207], ⟨11, [192, 194, 198], [], none, false, true, false⟩, d3 21 [200, 204, 208], d0 22 [199, 209], ⟨23, [191, 210], [], none, true, true, true⟩, d0 24 [211], ⟨25, [190, 212], [], none, true, false, false⟩, d1 26 [27] 27, d1 27 [214] 27, d2 28 [215, 213] 27 215]
@[go_sem] def zxs : List DE := [d2 0 [7] 7 7, d0 1 [28], d1 2 [27] 27, d2 3 [220] 27 220, d1 4 [27] 27, d1 5 [222] 27, d2 6 [223] 27 223, d0 7 [219, 221, 224], ⟨8, [225], [], none, true, true, true⟩, d3 9 [218, 226], d0 10 [227], d0 11 [217], d0 12 [217], d0 13 [228], d0 14 [229]]
@[go_sem] def zwA : List DE := [d2 0 [7] 7 7, d0 1 [20], d0 2 [38], d0 3 [18], d1 4 [7] 7, d2 5 [241] 7 241, d2 10 [7] 7 7, d0 11 [21], d0 12 [38], d0 13 [18], d0 14 [29], d1 15 [7] 7, d2 16 [252] 7 252, d2 21 [7] 7 7, d0 22 [22], d0 23 [38], d0 24 [32], d0 25 [260, 261], d0 26 [259, 262], d2 28 [7] 7 7, d0 29 [23], d0 30 [38], d0 31 [5], d0 32 [31], d1 33 [7] 7, d2 34 [270] 7 270, d3 6 [240, 242], d0 7 [239, 243], d0 8 [238, 244], d3 9 [237, 245], d3 17 [250, 251, 253], d0 18 [249, 254], d0 19 [248, 255], d3 20 [247, 256], d3 27 [258, 263], d3 35 [268, 269, 271], d0 36 [267, 272], d0 37 [266, 273], d3 38 [265, 274], d0 39 [246, 257, 264, 275], d1 40 [27] 27, d1 41 [277] 27, ⟨42, [278, 276], [27], some 278, true, true, true⟩]
@[go_sem] def zw6 : List DE := [d1 0 [27] 27, d1 1 [283] 27, d2 2 [284] 27 284, d2 3 [7] 7 7, d0 4 [24], d0 5 [39], d0 6 [287, 288], d0 7 [289], d0 8 [38], d0 9 [19], d0 10 [39], d0 11 [292, 293], d0 12 [294], d0 13 [291, 295], d0 14 [290, 296], d3 15 [286, 297], d0 16 [298], ⟨17, [285, 299], [], none, true, false, false⟩, d1 18 [27] 27, d1 19 [301] 27, d2 20 [302, 300] 27 302]
@[go_sem] def zwV : List DE := [d1 0 [27] 27, d1 1 [308] 27, d2 2 [309] 27 309, d2 3 [7] 7 7, d0 4 [25], d0 5 [40], d0 6 [312, 313], d0 7 [314], d0 8 [38], d0 9 [31], d0 10 [40], d0 11 [317, 318], d0 12 [319], d0 13 [316, 320], d0 14 [315, 321], d3 15 [311, 322], d0 16 [323], ⟨17, [310, 324], [], none, true, false, false⟩, d1 18 [27] 27, d1 19 [326] 27, d2 20 [327, 325] 27 327]
def zb1 (a0 : Group) (a1 : Bases) (a2 : Int) (a3 : List Cipher) (a4 : List Int) (a5 : List Int) (a6 : List Int) : Option (MatrixProof × Bool) :=
 (za1 a6 (a3.length : Int)).bind fun z1 =>
 (za1 z1.2 (a3.length : Int)).bind fun z2 =>
 (zbL z2.2).bind fun z3 =>
 (zbL z3.2).bind fun z4 =>
 (zbL z4.2).bind fun z5 =>
 (zbL z5.2).bind fun z6 =>
 (za1 z6.2 (a3.length : Int)).bind fun z7 =>
 (za1 z7.2 (a3.length : Int)).bind fun z8 =>
 (zdR a0 a2 a3 a4 a5).bind fun z9 =>
 (zbQ a0 a1 a4 z1.1).bind fun z10 =>
 (zcG a2 a3 z9 z10).bind fun z11 =>
 (za5 a0 (⟨#[109, 105, 120, 32, 99, 111, 108, 117, 109, 110, 115]⟩ : ByteArray) z11 (a3.length : Int)).bind fun z12 =>
 if (!z12.2) = true then (
 some ((MatrixProof.mk [] [] (Proof.mk [] [] [])), false)) else (
 (zfZ z12.1 a4).bind fun z14 =>
 (zde a0 a1.H z14 z2.1).bind fun z15 =>
 ((zar (σ := Int) (fun i20 s19 =>
 (ix z2.1 i20).bind fun x26 =>
 (ix z14 i20).bind fun x27 =>
 (za4 a0 (i64.wrap (x26 + (i64.wrap (x27 * s19))))).bind fun z28 =>
 some (.go z28)) (fun s19 => s19) (a3.length) 0 0 : Option Int).bind fun x18 =>
 (zey z9).bind fun z33 =>
 (zai a0 a0.G z3.1).bind fun z34 =>
 (zai a0 a0.G z4.1).bind fun z35 =>
 (zaZ a0 a1.Hs z8.1).bind fun z36 =>
 (zan a0 [z35, z36]).bind fun z37 =>
 (zai a0 a0.G z5.1).bind fun z38 =>
 (zai a0 a0.G (i64.wrap (0 - z6.1))).bind fun z39 =>
 (zaZ a0 z33.1 z8.1).bind fun z40 =>
 (zan a0 [z39, z40]).bind fun z41 =>
 (zai a0 a2 (i64.wrap (0 - z6.1))).bind fun z42 =>
 (zaZ a0 z33.2 z8.1).bind fun z43 =>
 (zan a0 [z42, z43]).bind fun z44 =>
 gd (([a1.H].length + z15.length) * 8 ≤ 140737488355328 ∧ [a1.H].length + z15.length ≤ 4611686018427387904) <|
 (some ([a1.H] ++ z15)).bind fun x45 =>
 ((zar (σ := (List Int) × List Int × List Int × List Int × List Int) (fun i64 s63 =>
 (ix z7.1 i64).bind fun x70 =>
 (ix x45 i64).bind fun x71 =>
 (ix z8.1 i64).bind fun x72 =>
 (zai a0 a0.G x70).bind fun z73 =>
 (zai a0 x71 x72).bind fun z74 =>
 (zan a0 [z73, z74]).bind fun z75 =>
 gd ((s63.2.2.1.length + 1) * 8 ≤ 140737488355328 ∧ s63.2.2.1.length + 1 ≤ 4611686018427387904) <|
 some (.go (s63.1, s63.2.1, s63.2.2.1 ++ [z75], s63.2.2.2.1, s63.2.2.2.2))) (fun s63 => (s63.1, s63.2.1, s63.2.2.1, s63.2.2.2.1, s63.2.2.2.2)) (a3.length) 0 (z10, z15, [z34, z37, z38, z41, z44], [], []) : Option ((List Int × List Int × List Int × List Int × List Int))).bind fun x49 =>
 (zbx [z11, x49.2.1, x49.2.2.1]).bind fun z80 =>
 (zbl a0 (⟨#[109, 105, 120, 32, 112, 114, 111, 111, 102]⟩ : ByteArray) z80).bind fun z81 =>
 if (!z81.2) = true then (
 some ((MatrixProof.mk [] [] (Proof.mk [] [] [])), false)) else (
 (zf8 z1.1 a0.Q).bind fun z83 =>
 (za4 a0 (i64.wrap (z3.1 + (i64.wrap (z81.1 * z83))))).bind fun z84 =>
 (zeO z1.1 z12.1 a0.Q).bind fun z85 =>
 (za4 a0 (i64.wrap (z4.1 + (i64.wrap (z81.1 * z85))))).bind fun z86 =>
 (za4 a0 (i64.wrap (z5.1 + (i64.wrap (z81.1 * x18))))).bind fun z87 =>
 (zeO a5 z14 a0.Q).bind fun z88 =>
 (za4 a0 (i64.wrap (z6.1 + (i64.wrap (z81.1 * z88))))).bind fun z89 =>
 ((zar (σ := (List Int) × List Int × List Int × List Int × List Int) (fun i104 s103 =>
 (ix z7.1 i104).bind fun x110 =>
 (ix z2.1 i104).bind fun x111 =>
 (za4 a0 (i64.wrap (x110 + (i64.wrap (z81.1 * x111))))).bind fun z112 =>
 gd ((s103.2.2.2.2.length + 1) * 8 ≤ 140737488355328 ∧ s103.2.2.2.2.length + 1 ≤ 4611686018427387904) <|
 some (.go (s103.1, s103.2.1, s103.2.2.1, s103.2.2.2.1, s103.2.2.2.2 ++ [z112]))) (fun s103 => (s103.1, s103.2.1, s103.2.2.1, s103.2.2.2.1, s103.2.2.2.2)) (a3.length) 0 (x49.1, x49.2.1, x49.2.2.1, [z81.1], [z84, z86, z87, z89]) : Option ((List Int × List Int × List Int × List Int × List Int))).bind fun x92 =>
 ((zar (σ := (List Int) × List Int × List Int × List Int × List Int) (fun i131 s130 =>
 (ix z8.1 i131).bind fun x137 =>
 (ix z14 i131).bind fun x138 =>
 (za4 a0 (i64.wrap (x137 + (i64.wrap (z81.1 * x138))))).bind fun z139 =>
 gd ((s130.2.2.2.2.length + 1) * 8 ≤ 140737488355328 ∧ s130.2.2.2.2.length + 1 ≤ 4611686018427387904) <|
 some (.go (s130.1, s130.2.1, s130.2.2.1, s130.2.2.2.1, s130.2.2.2.2 ++ [z139]))) (fun s130 => (s130.1, s130.2.1, s130.2.2.1, s130.2.2.2.1, s130.2.2.2.2)) (a3.length) 0 (x92.1, x92.2.1, x92.2.2.1, x92.2.2.2.1, x92.2.2.2.2) : Option ((List Int × List Int × List Int × List Int × List Int))).bind fun x119 =>
 some ((MatrixProof.mk x119.1 x119.2.1 (Proof.mk x119.2.2.1 x119.2.2.2.1 x119.2.2.2.2)), true)))))))
set_option maxHeartbeats 1000000 in
theorem zik : ∀ {a0} {a1} {a2} {a3} {a4} {a5} {a6} {r}, zb1 a0 a1 a2 a3 a4 a5 a6 = some r → PCalls Tryz.prog 68 [(.sh, vE a0), (.sh, vJ a1), (.sh, .int .i64 a2), (.sh, vH a3), (.sh, vC a4), (.sh, vC a5), (.sh, vC a6)] (Eo (.tup [vL r.1, .bool r.2]) [.junk, .junk, .junk, .junk, .junk, .junk, .junk]) := by
 intro a0 a1 a2 a3 a4 a5 a6 r hr
 apply pFz 330 [] [219, 221, 224] [45] [.cell 14 59, .tmp 15] hr zFK Tryz.func68
 intro Φ hΦ hF g
 unfold zb1 at hF
 try simp [go_sem, g]
 try intros
 refine zay ?_
 try simp [go_sem, g]
 try intros
 refine wK [2, 3, 4, 5, 7, 8, 14, 16, 17] ?_
 refine wC hF [.io, .sh] zc5 (fun z1 hF => ?_)
 refine wC hF [.io, .sh] zc5 (fun z2 hF => ?_)
 refine wW ?_
 refine wC hF [.io] zd4 (fun z3 hF => ?_)
 refine wC hF [.io] zd4 (fun z4 hF => ?_)
 refine wC hF [.io] zd4 (fun z5 hF => ?_)
 refine wC hF [.io] zd4 (fun z6 hF => ?_)
 refine wK [2, 3, 4, 5, 7, 8, 14, 16, 17, 18, 19, 20, 21, 22, 23] ?_
 refine wC hF [.io, .sh] zc5 (fun z7 hF => ?_)
 refine wC hF [.io, .sh] zc5 (fun z8 hF => ?_)
 refine wW ?_
 refine wC hF [.sh, .sh, .sh, .sh, .sh] ziF (fun z9 hF => ?_)
 refine wK [2, 3, 4, 5, 7, 8, 14, 16, 18, 19, 20, 21, 22, 23, 24, 25, 26] ?_
 refine wC hF [.sh, .sh, .sh, .sh] zfB (fun z10 hF => ?_)
 refine wW ?_
 refine wC hF [.sh, .sh, .sh, .sh] zhg (fun z11 hF => ?_)
 refine wK [2, 4, 5, 7, 8, 14, 16, 18, 19, 20, 21, 22, 23, 24, 25, 26, 27, 28] ?_
 refine wC hF [.sh, .sh, .sh, .sh] zeG (fun z12 hF => ?_)
 refine wW ?_
 refine wK [2, 4, 5, 7, 8, 14, 16, 18, 19, 20, 21, 22, 23, 24, 25, 26, 27, 28, 29, 92] ?_
 refine wI hF (fun h13 hF => ?_) (fun h13 hF => ?_)
 ·cases hΦ _ (zaa hF)
  refine wW ?_
  try simp [go_sem, g]
 refine wW ?_
 refine wC hF [.sh, .sh] zt0 (fun z14 hF => ?_)
 refine wW ?_
 refine wC hF [.sh, .sh, .sh, .sh] zhH (fun z15 hF => ?_)
 refine wK [2, 5, 7, 8, 14, 16, 18, 19, 20, 21, 22, 23, 24, 25, 26, 27, 28, 29, 31] ?_
 iterate 2 refine wW ?_
 refine wJ hF (fun x18 => [(2, .v (.int .i64 a2)), (5, .v (vC a5)), (7, .bl [.int .i64 a0.P, .int .i64 a0.Q, .int .i64 a0.G]), (8, .bl [.int .i64 a1.H, vC a1.Hs]), (14, .bl [.sl true 1 [], .sl true 1 [], .sl true 1 [], .sl true 1 [], .sl true 1 []]), (16, .v (.int .i64 (a3.length : Int))), (18, .v (vC z1.1)), (19, .v (vC z2.1)), (20, .v (.int .i64 z3.1)), (21, .v (.int .i64 z4.1)), (22, .v (.int .i64 z5.1)), (23, .v (.int .i64 z6.1)), (24, .v (vC z7.1)), (25, .v (vC z8.1)), (26, .v (vG z9)), (27, .bl [vD z10, vD z15, .sl true 1 [], .sl true 1 [], .sl true 1 []]), (28, .v (vD z11)), (29, .v (vD z12.1)), (31, .v (vD z14)), (32, .v (.int .i64 x18))]) (fun x18 hF => ?_) fun _ hj16 hF => ?_
 ·refine wC hF [.sh] zim (fun z33 hF => ?_)
  refine wK [2, 5, 7, 8, 14, 16, 18, 19, 20, 21, 22, 23, 24, 25, 27, 28, 29, 31, 32, 34, 35] ?_
  refine wX zxH follows ?_
  refine wC hF [.sh, .sh, .sh] zaA (fun z34 hF => ?_)
  refine wC hF [.sh, .sh, .sh] zaA (fun z35 hF => ?_)
  refine wC hF [.sh, .sh, .sh] zbF (fun z36 hF => ?_)
  refine wC hF [.sh, .sh] zaQ (fun z37 hF => ?_)
  refine wC hF [.sh, .sh, .sh] zaA (fun z38 hF => ?_)
  refine wC hF [.sh, .sh, .sh] zaA (fun z39 hF => ?_)
  refine wC hF [.sh, .sh, .sh] zbF (fun z40 hF => ?_)
  refine wC hF [.sh, .sh] zaQ (fun z41 hF => ?_)
  refine wC hF [.sh, .sh, .sh] zaA (fun z42 hF => ?_)
  refine wC hF [.sh, .sh, .sh] zbF (fun z43 hF => ?_)
  refine wC hF [.sh, .sh] zaQ (fun z44 hF => ?_)
  refine wK [5, 7, 8, 14, 16, 18, 19, 20, 21, 22, 23, 24, 25, 27, 28, 29, 31, 32] ?_
  obtain ⟨g, hF⟩ := Rg g hF
  obtain ⟨x45, e46, hF⟩ := zep hF
  have g := And.intro g (show [.int .i64 a1.H] :: (List.map zat z15) = x45.map zat by injection e46 with e46; rw [← e46]; simp [go_sem])
  iterate 2 refine wW ?_
  refine wJ hF (fun x49 => [(5, .v (vC a5)), (7, .bl [.int .i64 a0.P, .int .i64 a0.Q, .int .i64 a0.G]), (14, .bl [.sl true 1 [], .sl true 1 [], .sl true 1 [], .sl true 1 [], .sl true 1 []]), (16, .v (.int .i64 (a3.length : Int))), (18, .v (vC z1.1)), (19, .v (vC z2.1)), (20, .v (.int .i64 z3.1)), (21, .v (.int .i64 z4.1)), (22, .v (.int .i64 z5.1)), (23, .v (.int .i64 z6.1)), (24, .v (vC z7.1)), (25, .v (vC z8.1)), (27, .bl [vD x49.1, vD x49.2.1, vD x49.2.2.1, vD x49.2.2.2.1, vD x49.2.2.2.2]), (28, .v (vD z11)), (29, .v (vD z12.1)), (31, .v (vD z14)), (32, .v (.int .i64 x18))]) (fun x49 hF => ?_) fun _ hj47 hF => ?_
  ·refine wX zxs follows ?_
   refine wC hF [.sh] zgg (fun z80 hF => ?_)
   refine wC hF [.sh, .sh, .sh] zeZ (fun z81 hF => ?_)
   refine wK [5, 7, 14, 16, 18, 19, 20, 21, 22, 23, 24, 25, 27, 29, 30, 31, 32, 38] ?_
   refine wW ?_
   refine wI hF (fun h82 hF => ?_) (fun h82 hF => ?_)
   ·cases hΦ _ (zaa hF)
    refine wW ?_
    try simp [go_sem, g]
   iterate 2 refine wW ?_
   refine wX zwA follows ?_
   refine wC hF [.sh, .sh] zrL (fun z83 hF => ?_)
   refine wC hF [.sh, .sh] zcy (fun z84 hF => ?_)
   refine wC hF [.sh, .sh, .sh] zmO (fun z85 hF => ?_)
   refine wC hF [.sh, .sh] zcy (fun z86 hF => ?_)
   refine wC hF [.sh, .sh] zcy (fun z87 hF => ?_)
   refine wC hF [.sh, .sh, .sh] zmO (fun z88 hF => ?_)
   refine wC hF [.sh, .sh] zcy (fun z89 hF => ?_)
   refine wK [7, 14, 16, 19, 24, 25, 27, 31, 38] ?_
   refine wW ?_
   refine wJ hF (fun x92 => [(7, .bl [.int .i64 a0.P, .int .i64 a0.Q, .int .i64 a0.G]), (14, .bl [.sl true 1 [], .sl true 1 [], .sl true 1 [], .sl true 1 [], .sl true 1 []]), (16, .v (.int .i64 (a3.length : Int))), (25, .v (vC z8.1)), (27, .bl [vD x92.1, vC x92.2.1, vC x92.2.2.1, vD x92.2.2.2.1, vD x92.2.2.2.2]), (31, .v (vD z14)), (38, .v (.int .i64 z81.1))]) (fun x92 hF => ?_) fun _ hj90 hF => ?_
   ·refine wW ?_
    refine wJ hF (fun x119 => [(14, .bl [.sl true 1 [], .sl true 1 [], .sl true 1 [], .sl true 1 [], .sl true 1 []]), (27, .bl [vD x119.1, vC x119.2.1, vC x119.2.2.1, vD x119.2.2.2.1, vD x119.2.2.2.2])]) (fun x119 hF => ?_) fun _ hj117 hF => ?_
    ·cases hΦ _ (zaa hF)
     refine wW ?_
     try simp [go_sem, g]
    refine wB ?_
    obtain ⟨b140, hb141, hψ134⟩ := hF
    refine pR hb141 (fun i131 s130 => [(7, .bl [.int .i64 a0.P, .int .i64 a0.Q, .int .i64 a0.G]), (14, .bl [.sl true 1 [], .sl true 1 [], .sl true 1 [], .sl true 1 [], .sl true 1 []]), (25, .v (vC z8.1)), (27, .bl [vD s130.1, vC s130.2.1, vC s130.2.2.1, vD s130.2.2.2.1, vD s130.2.2.2.2]), (31, .v (vD z14)), (38, .v (.int .i64 z81.1)), (304, .v (.int .i64 (a3.length : Int))), (305, .v (.int .i64 i131))]) (fun s130 _ hN142 => ?_) (fun i131 s130 _ _ hi135 hi136 ho132 hg133 hF => ?_)
    ·subst hN142
     refine wW ?_
     refine wf ?_
     exact wT (hj117 _) hψ134
    refine wW ?_
    refine wt ?_ (hb := by simp [go_sem, g, hi135, hi136])
    refine wW ?_
    refine wB ?_
    refine wW ?_
    refine wX zwV follows ?_
    obtain ⟨x137, g, hF⟩ := Rx g hF
    obtain ⟨x138, g, hF⟩ := Rx g hF
    refine wC hF [.sh, .sh] zcy (fun z139 hF => ?_)
    obtain ⟨g, hF⟩ := Rg g hF
    refine wK [7, 14, 25, 27, 31, 38, 304, 305] ?_
    exact wT (hg133 (s130.1, s130.2.1, s130.2.2.1, s130.2.2.2.1, s130.2.2.2.2 ++ [z139])) (zaa hF) (a := by simp [go_sem, g, zbp hi135 hi136 (by assumption)])
   refine wB ?_
   obtain ⟨b113, hb114, hψ107⟩ := hF
   refine pR hb114 (fun i104 s103 => [(7, .bl [.int .i64 a0.P, .int .i64 a0.Q, .int .i64 a0.G]), (14, .bl [.sl true 1 [], .sl true 1 [], .sl true 1 [], .sl true 1 [], .sl true 1 []]), (16, .v (.int .i64 (a3.length : Int))), (19, .v (vC z2.1)), (24, .v (vC z7.1)), (25, .v (vC z8.1)), (27, .bl [vD s103.1, vC s103.2.1, vC s103.2.2.1, vD s103.2.2.2.1, vD s103.2.2.2.2]), (31, .v (vD z14)), (38, .v (.int .i64 z81.1)), (279, .v (.int .i64 (a3.length : Int))), (280, .v (.int .i64 i104))]) (fun s103 _ hN115 => ?_) (fun i104 s103 _ _ hi108 hi109 ho105 hg106 hF => ?_)
   ·subst hN115
    refine wW ?_
    refine wf ?_
    exact wT (hj90 _) hψ107
   refine wW ?_
   refine wt ?_ (hb := by simp [go_sem, g, hi108, hi109])
   refine wW ?_
   refine wB ?_
   refine wW ?_
   refine wX zw6 follows ?_
   obtain ⟨x110, g, hF⟩ := Rx g hF
   obtain ⟨x111, g, hF⟩ := Rx g hF
   refine wC hF [.sh, .sh] zcy (fun z112 hF => ?_)
   obtain ⟨g, hF⟩ := Rg g hF
   refine wK [7, 14, 16, 19, 24, 25, 27, 31, 38, 279, 280] ?_
   exact wT (hg106 (s103.1, s103.2.1, s103.2.2.1, s103.2.2.2.1, s103.2.2.2.2 ++ [z112])) (zaa hF) (a := by simp [go_sem, g, zbp hi108 hi109 (by assumption)])
  refine wB ?_
  obtain ⟨b76, hb77, hψ67⟩ := hF
  refine pR hb77 (fun i64 s63 => [(5, .v (vC a5)), (7, .bl [.int .i64 a0.P, .int .i64 a0.Q, .int .i64 a0.G]), (14, .bl [.sl true 1 [], .sl true 1 [], .sl true 1 [], .sl true 1 [], .sl true 1 []]), (16, .v (.int .i64 (a3.length : Int))), (18, .v (vC z1.1)), (19, .v (vC z2.1)), (20, .v (.int .i64 z3.1)), (21, .v (.int .i64 z4.1)), (22, .v (.int .i64 z5.1)), (23, .v (.int .i64 z6.1)), (24, .v (vC z7.1)), (25, .v (vC z8.1)), (27, .bl [vD s63.1, vD s63.2.1, vD s63.2.2.1, vD s63.2.2.2.1, vD s63.2.2.2.2]), (28, .v (vD z11)), (29, .v (vD z12.1)), (31, .v (vD z14)), (32, .v (.int .i64 x18)), (36, .v (vD x45)), (184, .v (.int .i64 (a3.length : Int))), (185, .v (.int .i64 i64))]) (fun s63 _ hN78 => ?_) (fun i64 s63 _ _ hi68 hi69 ho65 hg66 hF => ?_)
  ·subst hN78
   refine wW ?_
   refine wf ?_
   exact wT (hj47 _) hψ67
  refine wK [5, 7, 14, 16, 18, 19, 20, 21, 22, 23, 24, 25, 27, 28, 29, 31, 32, 36, 184, 185, 186] ?_
  refine wt ?_ (hb := by simp [go_sem, g, hi68, hi69])
  refine wW ?_
  refine wB ?_
  refine wW ?_
  refine wX zwS follows ?_
  obtain ⟨x70, g, hF⟩ := Rx g hF
  obtain ⟨x71, g, hF⟩ := Rx g hF
  obtain ⟨x72, g, hF⟩ := Rx g hF
  refine wD hF zaA (fun z73 hF => ?_)
  refine wC hF [.sh, .sh, .sh] zaA (fun z74 hF => ?_)
  refine wC hF [.sh, .sh] zaQ (fun z75 hF => ?_)
  obtain ⟨g, hF⟩ := Rg g hF
  refine wK [5, 7, 14, 16, 18, 19, 20, 21, 22, 23, 24, 25, 27, 28, 29, 31, 32, 36, 184, 185] ?_
  exact wT (hg66 (s63.1, s63.2.1, s63.2.2.1 ++ [z75], s63.2.2.2.1, s63.2.2.2.2)) (zaa hF) (a := by simp [go_sem, g, zbp hi68 hi69 (by assumption)])
 refine wB ?_
 obtain ⟨b29, hb30, hψ23⟩ := hF
 refine pR hb30 (fun i20 s19 => [(2, .v (.int .i64 a2)), (5, .v (vC a5)), (7, .bl [.int .i64 a0.P, .int .i64 a0.Q, .int .i64 a0.G]), (8, .bl [.int .i64 a1.H, vC a1.Hs]), (14, .bl [.sl true 1 [], .sl true 1 [], .sl true 1 [], .sl true 1 [], .sl true 1 []]), (16, .v (.int .i64 (a3.length : Int))), (18, .v (vC z1.1)), (19, .v (vC z2.1)), (20, .v (.int .i64 z3.1)), (21, .v (.int .i64 z4.1)), (22, .v (.int .i64 z5.1)), (23, .v (.int .i64 z6.1)), (24, .v (vC z7.1)), (25, .v (vC z8.1)), (26, .v (vG z9)), (27, .bl [vD z10, vD z15, .sl true 1 [], .sl true 1 [], .sl true 1 []]), (28, .v (vD z11)), (29, .v (vD z12.1)), (31, .v (vD z14)), (32, .v (.int .i64 s19)), (104, .v (.int .i64 (a3.length : Int))), (105, .v (.int .i64 i20))]) (fun s19 _ hN31 => ?_) (fun i20 s19 _ _ hi24 hi25 ho21 hg22 hF => ?_)
 ·subst hN31
  refine wW ?_
  refine wf ?_
  exact wT (hj16 _) hψ23
 refine wW ?_
 refine wt ?_ (hb := by simp [go_sem, g, hi24, hi25])
 refine wW ?_
 refine wB ?_
 refine wW ?_
 refine wX zxu follows ?_
 obtain ⟨x26, g, hF⟩ := Rx g hF
 obtain ⟨x27, g, hF⟩ := Rx g hF
 refine wC hF [.sh, .sh] zcy (fun z28 hF => ?_)
 refine wK [2, 5, 7, 8, 14, 16, 18, 19, 20, 21, 22, 23, 24, 25, 26, 27, 28, 29, 31, 32, 104, 105] ?_
 exact wT (hg22 z28) (zaa hF) (a := by simp [go_sem, g, zbp hi24 hi25 (by assumption)])
def zbS (a0 : Group) (a1 : Int) (a2 : List Cipher) (a3 : List Int) (a4 : List Int) (a5 : List Int) : Option (MatrixProof × Bool) :=
 (zb9 a0 a1 a2).bind fun z1 =>
 ((if (!z1.2) = true then (
 some true) else (
 (zb5 a0 a3 a4 (a2.length : Int)).bind fun z6 =>
 if (!z6) = true then (
 some true) else (
 if ((a5.length : Int) != (i64.wrap ((i64.wrap (4 * (a2.length : Int))) + 4))) = true then (
 some true) else (
 (zbm a0 a5).bind fun z9 =>
 some (!z9)))) : Option Bool).bind fun x4 =>
 if x4 = true then (
 some ((MatrixProof.mk [] [] (Proof.mk [] [] [])), false)) else (
 (zb1 a0 z1.1 a1 a2 a3 a4 a5).bind fun z11 =>
 some (z11.1, z11.2)))
theorem zkX : ∀ {a0} {a1} {a2} {a3} {a4} {a5} {r}, zbS a0 a1 a2 a3 a4 a5 = some r → PCalls Tryz.prog 19 [(.sh, vE a0), (.sh, .int .i64 a1), (.sh, vH a2), (.sh, vC a3), (.sh, vC a4), (.sh, vC a5)] (Eo (.tup [vL r.1, .bool r.2]) [.junk, .junk, .junk, .junk, .junk, .junk]) := by
 intro a0 a1 a2 a3 a4 a5 r hr
 apply pFz 60 [] [51] [] [.cell 12 59, .tmp 13] hr zDJ Tryz.func19
 intro Φ hΦ hF g
 unfold zbS at hF
 refine wW ?_
 refine wC hF [.sh, .sh, .sh] zfN (fun z1 hF => ?_)
 refine wK [1, 2, 3, 4, 5, 6, 12, 14, 15] ?_
 refine wJ hF (fun x4 => [(1, .v (.int .i64 a1)), (2, .v (vH a2)), (3, .v (vC a3)), (4, .v (vC a4)), (5, .v (vC a5)), (6, .bl [.int .i64 a0.P, .int .i64 a0.Q, .int .i64 a0.G]), (12, .bl [.sl true 1 [], .sl true 1 [], .sl true 1 [], .sl true 1 [], .sl true 1 []]), (14, .bl [.int .i64 z1.1.H, vD z1.1.Hs]), (48, .v (.bool x4))]) (fun x4 hF => ?_) fun _ hj2 hF => ?_
 ·refine wI hF (fun h10 hF => ?_) (fun h10 hF => ?_)
  ·cases hΦ _ (zaa hF)
   refine wW ?_
   try simp [go_sem, g]
  refine wW ?_
  refine wC hF [.sh, .sh, .sh, .sh, .sh, .sh, .sh] zik (fun z11 hF => ?_)
  refine wK [12, 13] ?_
  cases hΦ _ (zaa hF)
  try simp [go_sem, g]
 refine wG hF (fun h5 hF => ?_) fun h5 hF => ?_
 ·try simp [go_sem, g, h5]
  exact wT (hj2 _) (zaa hF)
 try simp [go_sem, g, h5]
 try intros
 refine wC hF [.sh, .sh, .sh, .sh] ze9 (fun z6 hF => ?_)
 try simp [go_sem, g, h5]
 refine wG hF (fun h7 hF => ?_) fun h7 hF => ?_
 ·try simp [go_sem, g, h7]
  exact wT (hj2 _) (zaa hF)
 try simp [go_sem, g, h7]
 try intros
 refine wG hF (fun h8 hF => ?_) fun h8 hF => ?_
 ·try simp [go_sem, g, h8]
  exact wT (hj2 _) (zaa hF)
 try simp [go_sem, g, h8]
 refine wC hF [.sh, .sh] zdu (fun z9 hF => ?_)
 try simp [go_sem, g, h8]
 exact wT (hj2 _) (zaa hF)
def zdF (a0 : Group) : Option Bool :=
 (((zb8 a0.P 3 2000000000).bind fun z4 =>
 if z4 = true then (
 (zb8 a0.Q 2 (i64.wrap (a0.P - 1))).bind fun z6 =>
 if z6 = true then (
 gd (a0.Q ≠ 0) <|
 if (((i64.wrap (a0.P - 1)).tmod a0.Q) == 0) = true then (
 (zb8 a0.G 2 (i64.wrap (a0.P - 1))).bind fun z9 =>
 if z9 = true then (
 (zbw a0.G a0.Q a0.P).bind fun z11 =>
 if (z11 == 1) = true then (
 (zdG a0.Q).bind fun z13 =>
 if z13 = true then (
 (zdG a0.P).bind fun z15 =>
 some z15) else (
 some false)) else (
 some false)) else (
 some false)) else (
 some false)) else (
 some false)) else (
 some false) : Option Bool).bind fun x3 =>
 some x3)
theorem zgy : ∀ {a0} {r}, zdF a0 = some r → PCalls Tryz.prog 93 [(.sh, vE a0)] (Eo (.bool r) [.junk]) := by
 intro a0 r hr
 apply pF 51 [] [] [] [.tmp 2] hr zHc Tryz.func93
 intro Φ hΦ hF g
 unfold zdF at hF
 refine wW ?_
 refine wJ hF (fun x3 => [(2, .v (.bool x3))]) (fun x3 hF => ?_) fun _ hj1 hF => ?_
 ·cases hΦ _ (zaa hF)
  try simp [go_sem, g]
 refine wC hF [.sh, .sh, .sh] zdr (fun z4 hF => ?_)
 refine wG hF (fun h5 hF => ?_) fun h5 hF => ?_
 ·try simp [go_sem, g, h5]
  refine wC hF [.sh, .sh, .sh] zdr (fun z6 hF => ?_)
  try simp [go_sem, g, h5]
  refine wG hF (fun h7 hF => ?_) fun h7 hF => ?_
  ·obtain ⟨g, hF⟩ := Rz g hF
   try simp [go_sem, g, h7]
   refine wG hF (fun h8 hF => ?_) fun h8 hF => ?_
   ·try simp [go_sem, g, h8]
    refine wC hF [.sh, .sh, .sh] zdr (fun z9 hF => ?_)
    try simp [go_sem, g, h8]
    refine wG hF (fun h10 hF => ?_) fun h10 hF => ?_
    ·try simp [go_sem, g, h10]
     refine wC hF [.sh, .sh, .sh] zea (fun z11 hF => ?_)
     try simp [go_sem, g, h10]
     refine wG hF (fun h12 hF => ?_) fun h12 hF => ?_
     ·try simp [go_sem, g, h12]
      refine wC hF [.sh] zgx (fun z13 hF => ?_)
      try simp [go_sem, g, h12]
      refine wG hF (fun h14 hF => ?_) fun h14 hF => ?_
      ·try simp [go_sem, g, h14]
       refine wC hF [.sh] zgx (fun z15 hF => ?_)
       try simp [go_sem, g, h14]
       exact wT (hj1 _) (zaa hF)
      try simp [go_sem, g, h14]
      exact wT (hj1 _) (zaa hF)
     try simp [go_sem, g, h12]
     exact wT (hj1 _) (zaa hF)
    try simp [go_sem, g, h10]
    exact wT (hj1 _) (zaa hF)
   try simp [go_sem, g, h8]
   exact wT (hj1 _) (zaa hF)
  try simp [go_sem, g, h7]
  exact wT (hj1 _) (zaa hF)
 try simp [go_sem, g, h5]
 exact wT (hj1 _) (zaa hF)
def zdZ (a0 : Group) (a1 : List Int) : Option Bool :=
 ((zar (σ := Unit) (fun i5 s4 =>
 (ix a1 i5).bind fun x11 =>
 (((zb8 x11 1 (i64.wrap (a0.P - 1))).bind fun z15 =>
 if (!z15) = true then (
 some true) else (
 (zbw x11 a0.Q a0.P).bind fun z17 =>
 some (z17 != 1)) : Option Bool).bind fun x14 =>
 if x14 = true then (
 some (.out (.inr false))) else (
 some (.go ())))) (fun s4 => .inl ()) (a1.length) 0 () : Option (Unit ⊕ Bool)).bind (Sum.elim (fun x3 =>
 some true) some))
theorem zgT : ∀ {a0} {a1} {r}, zdZ a0 a1 = some r → PCalls Tryz.prog 101 [(.sh, vE a0), (.sh, vC a1)] (Eo (.bool r) [.junk, .junk]) := by
 intro a0 a1 r hr
 apply pF 29 [] [] [] [.tmp 4] hr zAI Tryz.func101
 intro Φ hΦ hF g
 unfold zdZ at hF
 iterate 2 (try simp [go_sem, g]; try intros; refine zay ?_)
 refine wS hF (fun x3 => []) (fun x3 hF => ?_) fun _ hj1 hr2 hF => ?_
 ·cases hΦ _ (zaa hF)
  refine wW ?_
  try simp [go_sem, g]
 refine wB ?_
 obtain ⟨b19, hb20, hψ8⟩ := hF
 refine pR hb20 (fun i5 s4 => [(2, .bl [.int .i64 a0.P, .int .i64 a0.Q, .int .i64 a0.G]), (7, .v (vC a1)), (8, .v (.int .i64 (a1.length : Int))), (9, .v (.int .i64 i5))]) (fun s4 _ hN21 => ?_) (fun i5 s4 _ _ hi9 hi10 ho6 hg7 hF => ?_)
 ·subst hN21
  refine wW ?_
  refine wf ?_
  exact wT (hj1 _) hψ8
 refine wW ?_
 refine wt ?_ (hb := by simp [go_sem, g, hi9, hi10])
 refine wW ?_
 refine wB ?_
 obtain ⟨x11, g, hF⟩ := Rx g hF
 refine wW ?_
 refine wJ hF (fun x14 => [(2, .bl [.int .i64 a0.P, .int .i64 a0.Q, .int .i64 a0.G]), (7, .v (vC a1)), (8, .v (.int .i64 (a1.length : Int))), (9, .v (.int .i64 i5)), (27, .v (.bool x14))]) (fun x14 hF => ?_) fun _ hj12 hF => ?_
 ·refine wI hF (fun h18 hF => ?_) (fun h18 hF => ?_)
  ·refine wK [4] ?_
   cases ho6 _ (zaa hF)
   cases hΦ _ (hr2 _ hψ8)
   try simp [go_sem, g]
  refine wW ?_
  exact wT (hg7 ()) (zaa hF) (a := by simp [go_sem, g, zbp hi9 hi10 (by assumption)])
 refine wC hF [.sh, .sh, .sh] zdr (fun z15 hF => ?_)
 refine wG hF (fun h16 hF => ?_) fun h16 hF => ?_
 ·try simp [go_sem, g, h16]
  exact wT (hj12 _) (zaa hF)
 try simp [go_sem, g, h16]
 refine wC hF [.sh, .sh, .sh] zea (fun z17 hF => ?_)
 try simp [go_sem, g, h16]
 exact wT (hj12 _) (zaa hF)
def zgt (a0 : Group) (a1 : Int) : Option Bool :=
 (((zdF a0).bind fun z4 =>
 if z4 = true then (
 (zdZ a0 [a1]).bind fun z6 =>
 some z6) else (
 some false) : Option Bool).bind fun x3 =>
 some x3)
theorem zqd : ∀ {a0} {a1} {r}, zgt a0 a1 = some r → PCalls Tryz.prog 127 [(.sh, vE a0), (.sh, .int .i64 a1)] (Eo (.bool r) [.junk, .junk]) := by
 intro a0 a1 r hr
 apply pF 13 [] [] [] [.tmp 4] hr zzK Tryz.func127
 intro Φ hΦ hF g
 unfold zgt at hF
 refine wW ?_
 refine wJ hF (fun x3 => [(4, .v (.bool x3))]) (fun x3 hF => ?_) fun _ hj1 hF => ?_
 ·cases hΦ _ (zaa hF)
  try simp [go_sem, g]
 refine wC hF [.sh] zgy (fun z4 hF => ?_)
 refine wG hF (fun h5 hF => ?_) fun h5 hF => ?_
 ·try simp [go_sem, g, h5]
  refine wC hF [.sh, .sh] zgT (fun z6 hF => ?_)
  try simp [go_sem, g, h5]
  exact wT (hj1 _) (zaa hF)
 try simp [go_sem, g, h5]
 exact wT (hj1 _) (zaa hF)
def zfV (a0 : Group) (a1 : List Cipher) : Option Bool :=
 if decide (24 < (a1.length : Int)) = true then (
 some false) else (
 ((zar (σ := Unit) (fun i6 s5 =>
 (ix a1 i6).bind fun x12 =>
 (zdZ a0 [x12.A, x12.B]).bind fun z13 =>
 if (!z13) = true then (
 some (.out (.inr false))) else (
 some (.go ()))) (fun s5 => .inl ()) (a1.length) 0 () : Option (Unit ⊕ Bool)).bind (Sum.elim (fun x4 =>
 some true) some)))
theorem zo3 : ∀ {a0} {a1} {r}, zfV a0 a1 = some r → PCalls Tryz.prog 46 [(.sh, vE a0), (.sh, vH a1)] (Eo (.bool r) [.junk, .junk]) := by
 intro a0 a1 r hr
 apply pF 25 [] [] [] [.tmp 4] hr zEu Tryz.func46
 intro Φ hΦ hF g
 unfold zfV at hF
 iterate 2 (try simp [go_sem, g]; try intros; refine zay ?_)
 refine wI hF (fun h1 hF => ?_) (fun h1 hF => ?_)
 ·cases hΦ _ (zaa hF)
  refine wW ?_
  try simp [go_sem, g]
 iterate 2 (try simp [go_sem, g]; try intros; refine zay ?_)
 refine wS hF (fun x4 => []) (fun x4 hF => ?_) fun _ hj2 hr3 hF => ?_
 ·cases hΦ _ (zaa hF)
  refine wW ?_
  try simp [go_sem, g]
 refine wB ?_
 obtain ⟨b15, hb16, hψ9⟩ := hF
 refine pR hb16 (fun i6 s5 => [(2, .bl [.int .i64 a0.P, .int .i64 a0.Q, .int .i64 a0.G]), (10, .v (vH a1)), (11, .v (.int .i64 (a1.length : Int))), (12, .v (.int .i64 i6))]) (fun s5 _ hN17 => ?_) (fun i6 s5 _ _ hi10 hi11 ho7 hg8 hF => ?_)
 ·subst hN17
  refine wW ?_
  refine wf ?_
  exact wT (hj2 _) hψ9
 refine wW ?_
 refine wt ?_ (hb := by simp [go_sem, g, hi10, hi11])
 refine wW ?_
 refine wB ?_
 obtain ⟨x12, g, hF⟩ := Rx g hF
 refine wK [2, 6, 10, 11, 12] ?_
 refine wC hF [.sh, .sh] zgT (fun z13 hF => ?_)
 refine wW ?_
 refine wI hF (fun h14 hF => ?_) (fun h14 hF => ?_)
 ·cases ho7 _ (zaa hF)
  cases hΦ _ (hr3 _ hψ9)
  refine wW ?_
  try simp [go_sem, g]
 refine wW ?_
 exact wT (hg8 ()) (zaa hF) (a := by simp [go_sem, g, zbp hi10 hi11 (by assumption)])
def zc4 (a0 : Group) (a1 : Int) (a2 : List Cipher) : Option Bool :=
 (((zgt a0 a1).bind fun z4 =>
 if z4 = true then (
 (zb8 (a2.length : Int) 1 12).bind fun z6 =>
 if z6 = true then (
 (zfV a0 a2).bind fun z8 =>
 some z8) else (
 some false)) else (
 some false) : Option Bool).bind fun x3 =>
 some x3)
theorem zg4 : ∀ {a0} {a1} {a2} {r}, zc4 a0 a1 a2 = some r → PCalls Tryz.prog 69 [(.sh, vE a0), (.sh, .int .i64 a1), (.sh, vH a2)] (Eo (.bool r) [.junk, .junk, .junk]) := by
 intro a0 a1 a2 r hr
 apply pF 20 [] [] [] [.tmp 6] hr zEj Tryz.func69
 intro Φ hΦ hF g
 unfold zc4 at hF
 refine wW ?_
 refine wJ hF (fun x3 => [(6, .v (.bool x3))]) (fun x3 hF => ?_) fun _ hj1 hF => ?_
 ·cases hΦ _ (zaa hF)
  try simp [go_sem, g]
 refine wC hF [.sh, .sh] zqd (fun z4 hF => ?_)
 refine wG hF (fun h5 hF => ?_) fun h5 hF => ?_
 ·try simp [go_sem, g, h5]
  try intros
  refine wC hF [.sh, .sh, .sh] zdr (fun z6 hF => ?_)
  try simp [go_sem, g, h5]
  refine wG hF (fun h7 hF => ?_) fun h7 hF => ?_
  ·try simp [go_sem, g, h7]
   refine wC hF [.sh, .sh] zo3 (fun z8 hF => ?_)
   try simp [go_sem, g, h7]
   exact wT (hj1 _) (zaa hF)
  try simp [go_sem, g, h7]
  exact wT (hj1 _) (zaa hF)
 try simp [go_sem, g, h5]
 exact wT (hj1 _) (zaa hF)
def ze3 (a0 : List Int) (a1 : Int) (a2 : Int) : Option Bool :=
 ((zar (σ := Unit) (fun i5 s4 =>
 (ix a0 i5).bind fun x11 =>
 (zb8 x11 a1 a2).bind fun z12 =>
 if (!z12) = true then (
 some (.out (.inr false))) else (
 some (.go ()))) (fun s4 => .inl ()) (a0.length) 0 () : Option (Unit ⊕ Bool)).bind (Sum.elim (fun x3 =>
 some true) some))
theorem zkM : ∀ {a0} {a1} {a2} {r}, ze3 a0 a1 a2 = some r → PCalls Tryz.prog 94 [(.sh, vC a0), (.sh, .int .i64 a1), (.sh, .int .i64 a2)] (Eo (.bool r) [.junk, .junk, .junk]) := by
 intro a0 a1 a2 r hr
 apply pF 21 [] [] [] [.tmp 6] hr zGj Tryz.func94
 intro Φ hΦ hF g
 unfold ze3 at hF
 iterate 2 (try simp [go_sem, g]; try intros; refine zay ?_)
 refine wS hF (fun x3 => []) (fun x3 hF => ?_) fun _ hj1 hr2 hF => ?_
 ·cases hΦ _ (zaa hF)
  refine wW ?_
  try simp [go_sem, g]
 refine wB ?_
 obtain ⟨b14, hb15, hψ8⟩ := hF
 refine pR hb15 (fun i5 s4 => [(1, .v (.int .i64 a1)), (2, .v (.int .i64 a2)), (9, .v (vC a0)), (10, .v (.int .i64 (a0.length : Int))), (11, .v (.int .i64 i5))]) (fun s4 _ hN16 => ?_) (fun i5 s4 _ _ hi9 hi10 ho6 hg7 hF => ?_)
 ·subst hN16
  refine wW ?_
  refine wf ?_
  exact wT (hj1 _) hψ8
 refine wW ?_
 refine wt ?_ (hb := by simp [go_sem, g, hi9, hi10])
 refine wW ?_
 refine wB ?_
 obtain ⟨x11, g, hF⟩ := Rx g hF
 refine wW ?_
 refine wC hF [.sh, .sh, .sh] zdr (fun z12 hF => ?_)
 refine wK [1, 2, 9, 10, 11, 19] ?_
 refine wI hF (fun h13 hF => ?_) (fun h13 hF => ?_)
 ·cases ho6 _ (zaa hF)
  cases hΦ _ (hr2 _ hψ8)
  refine wW ?_
  try simp [go_sem, g]
 refine wW ?_
 exact wT (hg7 ()) (zaa hF) (a := by simp [go_sem, g, zbp hi9 hi10 (by assumption)])
def zf1 (a0 : List Int) (a1 : Int) : Option Bool :=
 ((zar (σ := Unit) (fun i5 s4 =>
 (ix a0 i5).bind fun x11 =>
 if (x11 == a1) = true then (
 some (.out (.inr true))) else (
 some (.go ()))) (fun s4 => .inl ()) (a0.length) 0 () : Option (Unit ⊕ Bool)).bind (Sum.elim (fun x3 =>
 some false) some))
theorem zpw : ∀ {a0} {a1} {r}, zf1 a0 a1 = some r → PCalls Tryz.prog 177 [(.sh, vC a0), (.sh, .int .i64 a1)] (Eo (.bool r) [.junk, .junk]) := by
 intro a0 a1 r hr
 apply pF 17 [] [] [] [.tmp 4] hr zAU Tryz.func177
 intro Φ hΦ hF g
 unfold zf1 at hF
 iterate 2 (try simp [go_sem, g]; try intros; refine zay ?_)
 refine wS hF (fun x3 => []) (fun x3 hF => ?_) fun _ hj1 hr2 hF => ?_
 ·cases hΦ _ (zaa hF)
  refine wW ?_
  try simp [go_sem, g]
 refine wB ?_
 obtain ⟨b13, hb14, hψ8⟩ := hF
 refine pR hb14 (fun i5 s4 => [(1, .v (.int .i64 a1)), (7, .v (vC a0)), (8, .v (.int .i64 (a0.length : Int))), (9, .v (.int .i64 i5))]) (fun s4 _ hN15 => ?_) (fun i5 s4 _ _ hi9 hi10 ho6 hg7 hF => ?_)
 ·subst hN15
  refine wW ?_
  refine wf ?_
  exact wT (hj1 _) hψ8
 refine wW ?_
 refine wt ?_ (hb := by simp [go_sem, g, hi9, hi10])
 refine wW ?_
 refine wB ?_
 obtain ⟨x11, g, hF⟩ := Rx g hF
 refine wW ?_
 refine wK [1, 7, 8, 9, 15] ?_
 refine wI hF (fun h12 hF => ?_) (fun h12 hF => ?_)
 ·cases ho6 _ (zaa hF)
  cases hΦ _ (hr2 _ hψ8)
  refine wW ?_
  try simp [go_sem, g]
 refine wW ?_
 exact wT (hg7 ()) (zaa hF) (a := by simp [go_sem, g, zbp hi9 hi10 (by assumption)])
def zeq (a0 : List Int) : Option Bool :=
 ((zar (σ := Unit) (fun i5 s4 =>
 (ix a0 i5).bind fun x11 =>
 gd (0 ≤ i5) <|
 gd (0 ≤ i5.toNat ∧ i5.toNat ≤ a0.length) <|
 (zf1 ((a0.take i5.toNat).drop 0) x11).bind fun z12 =>
 if z12 = true then (
 some (.out (.inr false))) else (
 some (.go ()))) (fun s4 => .inl ()) (a0.length) 0 () : Option (Unit ⊕ Bool)).bind (Sum.elim (fun x3 =>
 some true) some))
theorem zne : ∀ {a0} {r}, zeq a0 = some r → PCalls Tryz.prog 128 [(.sh, vC a0)] (Eo (.bool r) [.junk]) := by
 intro a0 r hr
 apply pF 18 [] [] [] [.tmp 2] hr zzq Tryz.func128
 intro Φ hΦ hF g
 unfold zeq at hF
 iterate 2 (try simp [go_sem, g]; try intros; refine zay ?_)
 refine wS hF (fun x3 => []) (fun x3 hF => ?_) fun _ hj1 hr2 hF => ?_
 ·cases hΦ _ (zaa hF)
  refine wW ?_
  try simp [go_sem, g]
 refine wB ?_
 obtain ⟨b14, hb15, hψ8⟩ := hF
 refine pR hb15 (fun i5 s4 => [(0, .v (vC a0)), (5, .v (vC a0)), (6, .v (.int .i64 (a0.length : Int))), (7, .v (.int .i64 i5))]) (fun s4 _ hN16 => ?_) (fun i5 s4 _ _ hi9 hi10 ho6 hg7 hF => ?_)
 ·subst hN16
  refine wW ?_
  refine wf ?_
  exact wT (hj1 _) hψ8
 refine wW ?_
 refine wt ?_ (hb := by simp [go_sem, g, hi9, hi10])
 refine wW ?_
 refine wB ?_
 obtain ⟨x11, g, hF⟩ := Rx g hF
 refine wK [0, 3, 4, 5, 6, 7] ?_
 obtain ⟨g, hF⟩ := Rg g hF
 obtain ⟨g, hF⟩ := Rg g hF
 refine wC hF [.sh, .sh] zpw (fun z12 hF => ?_)
 refine wW ?_
 refine wI hF (fun h13 hF => ?_) (fun h13 hF => ?_)
 ·cases ho6 _ (zaa hF)
  cases hΦ _ (hr2 _ hψ8)
  refine wW ?_
  try simp [go_sem, g]
 refine wW ?_
 exact wT (hg7 ()) (zaa hF) (a := by simp [go_sem, g, zbp hi9 hi10 (by assumption)])
def zfd (a0 : List Int) (a1 : Int) : Option Bool :=
 ((if ((a0.length : Int) == a1) = true then (
 (ze3 a0 0 (i64.wrap (a1 - 1))).bind fun z5 =>
 if z5 = true then (
 (zeq a0).bind fun z7 =>
 some z7) else (
 some false)) else (
 some false) : Option Bool).bind fun x3 =>
 some x3)
theorem zkr : ∀ {a0} {a1} {r}, zfd a0 a1 = some r → PCalls Tryz.prog 70 [(.sh, vC a0), (.sh, .int .i64 a1)] (Eo (.bool r) [.junk, .junk]) := by
 intro a0 a1 r hr
 apply pF 19 [] [] [] [.tmp 4] hr zFE Tryz.func70
 intro Φ hΦ hF g
 unfold zfd at hF
 refine wW ?_
 refine wJ hF (fun x3 => [(4, .v (.bool x3))]) (fun x3 hF => ?_) fun _ hj1 hF => ?_
 ·cases hΦ _ (zaa hF)
  try simp [go_sem, g]
 try simp [go_sem, g]
 try intros
 refine wG hF (fun h4 hF => ?_) fun h4 hF => ?_
 ·try simp [go_sem, g, h4]
  refine wC hF [.sh, .sh, .sh] zkM (fun z5 hF => ?_)
  try simp [go_sem, g, h4]
  refine wG hF (fun h6 hF => ?_) fun h6 hF => ?_
  ·try simp [go_sem, g, h6]
   refine wC hF [.sh] zne (fun z7 hF => ?_)
   try simp [go_sem, g, h6]
   exact wT (hj1 _) (zaa hF)
  try simp [go_sem, g, h6]
  exact wT (hj1 _) (zaa hF)
 try simp [go_sem, g, h4]
 exact wT (hj1 _) (zaa hF)
def zdw (a0 : Group) (a1 : List Int) : Option Bool :=
 (ze3 a1 0 (i64.wrap (a0.Q - 1))).bind fun z1 =>
 some z1
theorem zgZ : ∀ {a0} {a1} {r}, zdw a0 a1 = some r → PCalls Tryz.prog 40 [(.sh, vE a0), (.sh, vC a1)] (Eo (.bool r) [.junk, .junk]) := by
 intro a0 a1 r hr
 apply pF 10 [] [] [] [.tmp 4] hr zGk Tryz.func40
 intro Φ hΦ hF g
 unfold zdw at hF
 refine wW ?_
 refine wC hF [.sh, .sh, .sh] zkM (fun z1 hF => ?_)
 cases hΦ _ (zaa hF)
 refine wW ?_
 try simp [go_sem, g]
def zeQ (a0 : Int) : Option Bool :=
 (zb8 a0 0 4611686018427387903).bind fun z1 =>
 some z1
theorem zm1 : ∀ {a0} {r}, zeQ a0 = some r → PCalls Tryz.prog 178 [(.sh, .int .i64 a0)] (Eo (.bool r) [.junk]) := by
 intro a0 r hr
 apply pF 5 [] [] [] [.tmp 2] hr zAR Tryz.func178
 intro Φ hΦ hF g
 unfold zeQ at hF
 refine wW ?_
 refine wC hF [.sh, .sh, .sh] zdr (fun z1 hF => ?_)
 cases hΦ _ (zaa hF)
 refine wW ?_
 try simp [go_sem, g]
def zfx (a0 : ByteArray) (a1 : List Int) : Option ((List Int)) :=
 ((zbX (σ := (List Int) × Int) (fun s4 =>
 if decide (s4.2 < (a0.size : Int)) = true then (
 (ixs a0 s4.2).bind fun x10 =>
 gd ((s4.1.length + 1) * 8 ≤ 140737488355328 ∧ s4.1.length + 1 ≤ 4611686018427387904) <|
 some (.go (s4.1 ++ [i64.wrap x10], i64.wrap (s4.2 + 1)))) else (
 some (.out s4.1))) ([(a0.size : Int)], 0) : Option ((List Int))).bind fun x3 =>
 gd ((x3.length + a1.length) * 8 ≤ 140737488355328 ∧ x3.length + a1.length ≤ 4611686018427387904) <|
 some (x3 ++ a1))
theorem zof : ∀ {a0} {a1} {r}, zfx a0 a1 = some r → PCalls Tryz.prog 207 [(.sh, .str a0), (.sh, vC a1)] (Eo (vD r) [.junk, .junk]) := by
 intro a0 a1 r hr
 apply pF 26 [] [] [] [.tmp 4] hr zAT Tryz.func207
 intro Φ hΦ hF g
 unfold zfx at hF
 iterate 3 refine wW ?_
 refine wJ hF (fun x3 => [(1, .v (vC a1)), (5, .v (vD x3))]) (fun x3 hF => ?_) fun _ hj1 hF => ?_
 ·obtain ⟨g, hF⟩ := Rg g hF
  refine wK [4] ?_
  cases hΦ _ (zaa hF)
  try simp [go_sem, g]
 refine wB ?_
 obtain ⟨b11, hb12, hψ8⟩ := hF
 refine pL hb12 (fun s4 => [(0, .v (.str a0)), (1, .v (vC a1)), (5, .v (vD s4.1)), (6, .v (.int .i64 s4.2))]) (fun s4 _ _ ho6 hg7 hF => ?_)
 refine wK [0, 1, 5, 6, 13] ?_
 refine wI hF (fun h9 hF => ?_) (fun h9 hF => ?_)
 ·refine wW ?_
  refine wB ?_
  obtain ⟨x10, g, hF⟩ := Rxs g hF
  obtain ⟨g, hF⟩ := Rg g hF
  refine wW ?_
  exact wT (hg7 _) (zaa hF)
 cases ho6 _ (zaa hF)
 exact wT (hj1 _) hψ8
def zbR (a0c0 : Int) (a0c1 : Int) (a1 : Int) : Option ((Int × Int)) :=
 (some [a1.tmod 2147483648, i64.wrap (a1.tdiv 2147483648)]).bind fun x1 =>
 zbX (σ := (Int × Int) × Int) (fun s10 =>
 if decide (s10.2 < (x1.length : Int)) = true then (
 (ix x1 s10.2).bind fun x16 =>
 some (.go (((i64.wrap ((i64.wrap ((i64.wrap (48271 * s10.1.1)) + x16)) + 1)).tmod 2147483647, (i64.wrap ((i64.wrap ((i64.wrap (69621 * s10.1.2)) + x16)) + 1)).tmod 2147483647), i64.wrap (s10.2 + 1)))) else (
 some (.out (s10.1.1, s10.1.2)))) ((a0c0, a0c1), 0)
theorem zfA : ∀ {a0c0} {a0c1} {a1} {r}, zbR a0c0 a0c1 a1 = some r → PCalls Tryz.prog 210 [(.io, vM a0c0 a0c1), (.sh, .int .i64 a1)] (Eo (.junk) [vM r.1 r.2, .junk]) := by
 intro a0c0 a0c1 a1 r hr
 apply pF 41 [0] [] [] [] hr zz7 Tryz.func210
 intro Φ hΦ hF g
 unfold zbR at hF
 have g := Ld g 2147483648
 obtain ⟨x1, e2, hF⟩ := zep hF
 have g := And.intro g (show [[.int .i64 (a1.tmod 2147483648)], [.int .i64 (i64.wrap (a1.tdiv 2147483648))]] = x1.map zat by injection e2 with e2; rw [← e2]; simp [go_sem])
 try simp [go_sem, g]
 try intros
 refine zay ?_
 refine wB ?_
 obtain ⟨b17, hb18, hψ14⟩ := hF
 refine pL hb18 (fun s10 => [(0, .v (vM s10.1.1 s10.1.2)), (10, .v (vD x1)), (11, .v (.int .i64 (x1.length : Int))), (12, .v (.int .i64 s10.2))]) (fun s10 _ _ ho12 hg13 hF => ?_)
 refine wW ?_
 refine wI hF (fun h15 hF => ?_) (fun h15 hF => ?_)
 ·refine wW ?_
  refine wB ?_
  obtain ⟨x16, g, hF⟩ := Rx g hF
  refine wK [0, 5, 10, 11, 12] ?_
  have g := Ld g 2147483647
  refine wK [0, 5, 10, 11, 12] ?_
  refine wK [0, 10, 11, 12] ?_
  exact wT (hg13 _) (zaa hF)
 cases ho12 _ (zaa hF)
 cases hΦ _ hψ14
 try simp [go_sem, g]
@[go_sem] def zxf : List DE := [d0 0 [3], d0 1 [22], d0 2 [23], d0 3 [24], d0 4 [25], d0 5 [3], d0 6 [27], d0 7 [28], d0 8 [29], d0 9 [26, 30], d0 10 [31]]
def zf3 (a0 : List Int) : Option Int :=
 (zbR 1 2 (a0.length : Int)).bind fun z1 =>
 ((zar (σ := (Int × Int)) (fun i15 s14 =>
 (ix a0 i15).bind fun x21 =>
 (zbR s14.1 s14.2 x21).bind fun z22 =>
 some (.go (z22.1, z22.2))) (fun s14 => (s14.1, s14.2)) (a0.length) 0 (z1.1, z1.2) : Option ((Int × Int))).bind fun x4 =>
 some (i64.wrap ((i64.wrap (x4.1 * 2147483648)) + x4.2)))
theorem zpJ : ∀ {a0} {r}, zf3 a0 = some r → PCalls Tryz.prog 206 [(.sh, vC a0)] (Eo (.int .i64 r) [.junk]) := by
 intro a0 r hr
 apply pF 32 [] [] [7] [.tmp 2] hr zAm Tryz.func206
 intro Φ hΦ hF g
 unfold zf3 at hF
 iterate 2 (try simp [go_sem, g]; try intros; refine zay ?_)
 try simp [go_sem, g]
 try intros
 refine wC hF [.io, .sh] zfA (fun z1 hF => ?_)
 try simp [go_sem, g]
 try intros
 refine zay ?_
 try simp [go_sem, g]
 try intros
 refine wK [3, 12, 13, 14] ?_
 refine wJ hF (fun x4 => [(3, .v (vM x4.1 x4.2))]) (fun x4 hF => ?_) fun _ hj2 hF => ?_
 ·refine wX zxf follows ?_
  refine wK [2] ?_
  cases hΦ _ (zaa hF)
  try simp [go_sem, g]
 refine wB ?_
 obtain ⟨b23, hb24, hψ18⟩ := hF
 refine pR hb24 (fun i15 s14 => [(3, .v (vM s14.1 s14.2)), (12, .v (vC a0)), (13, .v (.int .i64 (a0.length : Int))), (14, .v (.int .i64 i15))]) (fun s14 _ hN25 => ?_) (fun i15 s14 _ _ hi19 hi20 ho16 hg17 hF => ?_)
 ·subst hN25
  refine wW ?_
  refine wf ?_
  exact wT (hj2 _) hψ18
 refine wW ?_
 refine wt ?_ (hb := by simp [go_sem, g, hi19, hi20])
 refine wW ?_
 refine wB ?_
 obtain ⟨x21, g, hF⟩ := Rx g hF
 refine wW ?_
 refine wC hF [.io, .sh] zfA (fun z22 hF => ?_)
 refine wW ?_
 exact wT (hg17 (z22.1, z22.2)) (zaa hF) (a := by simp [go_sem, g, zbp hi19 hi20 (by assumption)])
def zdP (a0 : ByteArray) (a1 : List Int) : Option Int :=
 (zfx a0 a1).bind fun z1 =>
 (zf3 z1).bind fun z2 =>
 some z2
theorem ziy : ∀ {a0} {a1} {r}, zdP a0 a1 = some r → PCalls Tryz.prog 196 [(.sh, .str a0), (.sh, vC a1)] (Eo (.int .i64 r) [.junk, .junk]) := by
 intro a0 a1 r hr
 apply pF 9 [] [] [] [.tmp 4] hr zBK Tryz.func196
 intro Φ hΦ hF g
 unfold zdP at hF
 refine wW ?_
 refine wC hF [.sh, .sh] zof (fun z1 hF => ?_)
 refine wC hF [.sh] zpJ (fun z2 hF => ?_)
 cases hΦ _ (zaa hF)
 refine wW ?_
 try simp [go_sem, g]
@[go_sem] def zx4 : List DE := [d0 0 [1], d1 1 [3] 3, d2 2 [15] 3 15, d1 3 [3] 3, d2 4 [17] 3 17, d1 5 [3] 3, d2 6 [19] 3 19, d0 7 [2], d0 8 [7], d0 9 [16, 18, 20, 21, 22], d1 11 [3] 3, d2 12 [25] 3 25, d0 13 [26], ⟨10, [14, 23], [], none, true, true, true⟩, d0 14 [24, 27], d0 15 [28], d0 16 [29]]
@[go_sem] def zwJ : List DE := [d0 0 [8], d1 1 [3] 3, d2 2 [31] 3 31, d0 3 [32], d1 4 [3] 3, d2 5 [34] 3 34, d0 6 [33, 35], d1 7 [3] 3, d2 8 [37] 3 37, d3 9 [30, 36, 38], d0 10 [39]]
def zcS (a0 : Group) (a1 : ByteArray) (a2 : Int) : Option Int :=
 ((zbX (σ := Int) (fun s4 =>
 if decide (s4 < 1000) = true then (
 (zdP a1 [a0.P, a0.Q, a0.G, a2, s4]).bind fun z10 =>
 gd (i64.wrap (a0.P - 1) ≠ 0) <|
 gd (a0.Q ≠ 0) <|
 (zbw (i64.wrap (1 + (z10.tmod (i64.wrap (a0.P - 1))))) (i64.wrap ((i64.wrap (a0.P - 1)).tdiv a0.Q)) a0.P).bind fun z11 =>
 if (z11 != 1) = true then (
 some (.out (.inr z11))) else (
 some (.go (i64.wrap (s4 + 1))))) else (
 some (.out (.inl ())))) 0 : Option (Unit ⊕ Int)).bind (Sum.elim (fun x3 =>
 some 0) some))
theorem ziP : ∀ {a0} {a1} {a2} {r}, zcS a0 a1 a2 = some r → PCalls Tryz.prog 179 [(.sh, vE a0), (.sh, .str a1), (.sh, .int .i64 a2)] (Eo (.int .i64 r) [.junk, .junk, .junk]) := by
 intro a0 a1 a2 r hr
 apply pF 43 [] [] [] [.tmp 6] hr zzy Tryz.func179
 intro Φ hΦ hF g
 unfold zcS at hF
 iterate 2 refine wW ?_
 refine wS hF (fun x3 => []) (fun x3 hF => ?_) fun _ hj1 hr2 hF => ?_
 ·cases hΦ _ (zaa hF)
  refine wW ?_
  try simp [go_sem, g]
 refine wB ?_
 obtain ⟨b13, hb14, hψ8⟩ := hF
 refine pL hb14 (fun s4 => [(1, .v (.str a1)), (2, .v (.int .i64 a2)), (3, .bl [.int .i64 a0.P, .int .i64 a0.Q, .int .i64 a0.G]), (7, .v (.int .i64 s4))]) (fun s4 _ _ ho6 hg7 hF => ?_)
 refine wW ?_
 refine wI hF (fun h9 hF => ?_) (fun h9 hF => ?_)
 ·refine wW ?_
  refine wB ?_
  refine wX zx4 follows ?_
  refine wC hF [.sh, .sh] ziy (fun z10 hF => ?_)
  obtain ⟨g, hF⟩ := Rz g hF
  refine wK [1, 2, 3, 7, 8] ?_
  refine wX zwJ follows ?_
  obtain ⟨g, hF⟩ := Rz g hF
  refine wC hF [.sh, .sh, .sh] zea (fun z11 hF => ?_)
  refine wK [1, 2, 3, 7, 9] ?_
  refine wW ?_
  refine wI hF (fun h12 hF => ?_) (fun h12 hF => ?_)
  ·cases ho6 _ (zaa hF)
   cases hΦ _ (hr2 _ hψ8)
   refine wW ?_
   try simp [go_sem, g]
  refine wW ?_
  exact wT (hg7 _) (zaa hF)
 cases ho6 _ (zaa hF)
 exact wT (hj1 _) hψ8
def zdt (a0 : Group) (a1 : ByteArray) (a2 : Int) : Option (Int × Bool) :=
 (((zdF a0).bind fun z4 =>
 if (!z4) = true then (
 some true) else (
 if decide (40 < (a1.size : Int)) = true then (
 some true) else (
 (zeQ a2).bind fun z7 =>
 some (!z7))) : Option Bool).bind fun x3 =>
 if x3 = true then (
 some (0, false)) else (
 (zcS a0 a1 a2).bind fun z9 =>
 some (z9, decide (0 < z9))))
theorem zjP : ∀ {a0} {a1} {a2} {r}, zdt a0 a1 a2 = some r → PCalls Tryz.prog 129 [(.sh, vE a0), (.sh, .str a1), (.sh, .int .i64 a2)] (Eo (.tup [.int .i64 r.1, .bool r.2]) [.junk, .junk, .junk]) := by
 intro a0 a1 a2 r hr
 apply pF 29 [] [] [] [.tmp 6, .tmp 7] hr zAe Tryz.func129
 intro Φ hΦ hF g
 unfold zdt at hF
 refine wW ?_
 refine wJ hF (fun x3 => [(1, .v (.str a1)), (2, .v (.int .i64 a2)), (3, .bl [.int .i64 a0.P, .int .i64 a0.Q, .int .i64 a0.G]), (21, .v (.bool x3))]) (fun x3 hF => ?_) fun _ hj1 hF => ?_
 ·refine wI hF (fun h8 hF => ?_) (fun h8 hF => ?_)
  ·cases hΦ _ (zaa hF)
   refine wW ?_
   try simp [go_sem, g]
  refine wW ?_
  refine wC hF [.sh, .sh, .sh] ziP (fun z9 hF => ?_)
  refine wW ?_
  refine wK [6, 7] ?_
  cases hΦ _ (zaa hF)
  try simp [go_sem, g]
 refine wC hF [.sh] zgy (fun z4 hF => ?_)
 refine wG hF (fun h5 hF => ?_) fun h5 hF => ?_
 ·try simp [go_sem, g, h5]
  exact wT (hj1 _) (zaa hF)
 try simp [go_sem, g, h5]
 refine wG hF (fun h6 hF => ?_) fun h6 hF => ?_
 ·try simp [go_sem, g, h6]
  exact wT (hj1 _) (zaa hF)
 try simp [go_sem, g, h6]
 refine wC hF [.sh] zm1 (fun z7 hF => ?_)
 try simp [go_sem, g, h6]
 exact wT (hj1 _) (zaa hF)
def zdk (a0 : Group) (a1 : ByteArray) (a2 : Int) : Option (List Int × Bool) :=
 (((zdF a0).bind fun z4 =>
 if (!z4) = true then (
 some true) else (
 if decide (40 < (a1.size : Int)) = true then (
 some true) else (
 (zb8 a2 0 100).bind fun z7 =>
 some (!z7))) : Option Bool).bind fun x3 =>
 if x3 = true then (
 some ([], false)) else (
 ((zbX (σ := (List Int) × Int) (fun s12 =>
 if decide (s12.2 < a2) = true then (
 (zcS a0 a1 s12.2).bind fun z18 =>
 if (z18 == 0) = true then (
 some (.out (.inr ([], false)))) else (
 gd ((s12.1.length + 1) * 8 ≤ 140737488355328 ∧ s12.1.length + 1 ≤ 4611686018427387904) <|
 some (.go (s12.1 ++ [z18], i64.wrap (s12.2 + 1))))) else (
 some (.out (.inl s12.1)))) ([], 0) : Option ((List Int) ⊕ (List Int × Bool))).bind (Sum.elim (fun x11 =>
 some (x11, true)) some))))
theorem zju : ∀ {a0} {a1} {a2} {r}, zdk a0 a1 a2 = some r → PCalls Tryz.prog 130 [(.sh, vE a0), (.sh, .str a1), (.sh, .int .i64 a2)] (Eo (.tup [vD r.1, .bool r.2]) [.junk, .junk, .junk]) := by
 intro a0 a1 a2 r hr
 apply pF 40 [] [] [] [.tmp 6, .tmp 7] hr zz1 Tryz.func130
 intro Φ hΦ hF g
 unfold zdk at hF
 refine wW ?_
 refine wJ hF (fun x3 => [(1, .v (.str a1)), (2, .v (.int .i64 a2)), (3, .bl [.int .i64 a0.P, .int .i64 a0.Q, .int .i64 a0.G]), (23, .v (.bool x3))]) (fun x3 hF => ?_) fun _ hj1 hF => ?_
 ·refine wI hF (fun h8 hF => ?_) (fun h8 hF => ?_)
  ·cases hΦ _ (zaa hF)
   refine wW ?_
   try simp [go_sem, g]
  iterate 3 refine wW ?_
  refine wS hF (fun x11 => [(8, .v (vD x11))]) (fun x11 hF => ?_) fun _ hj9 hr10 hF => ?_
  ·cases hΦ _ (zaa hF)
   refine wW ?_
   try simp [go_sem, g]
  refine wB ?_
  obtain ⟨b20, hb21, hψ16⟩ := hF
  refine pL hb21 (fun s12 => [(1, .v (.str a1)), (2, .v (.int .i64 a2)), (3, .bl [.int .i64 a0.P, .int .i64 a0.Q, .int .i64 a0.G]), (8, .v (vD s12.1)), (9, .v (.int .i64 s12.2))]) (fun s12 _ _ ho14 hg15 hF => ?_)
  refine wW ?_
  refine wI hF (fun h17 hF => ?_) (fun h17 hF => ?_)
  ·refine wW ?_
   refine wB ?_
   refine wC hF [.sh, .sh, .sh] ziP (fun z18 hF => ?_)
   refine wK [1, 2, 3, 8, 9, 10] ?_
   refine wW ?_
   refine wI hF (fun h19 hF => ?_) (fun h19 hF => ?_)
   ·cases ho14 _ (zaa hF)
    cases hΦ _ (hr10 _ hψ16)
    refine wW ?_
    try simp [go_sem, g]
   obtain ⟨g, hF⟩ := Rg g hF
   iterate 2 refine wW ?_
   exact wT (hg15 _) (zaa hF)
  cases ho14 _ (zaa hF)
  exact wT (hj9 _) hψ16
 refine wC hF [.sh] zgy (fun z4 hF => ?_)
 refine wG hF (fun h5 hF => ?_) fun h5 hF => ?_
 ·try simp [go_sem, g, h5]
  exact wT (hj1 _) (zaa hF)
 try simp [go_sem, g, h5]
 refine wG hF (fun h6 hF => ?_) fun h6 hF => ?_
 ·try simp [go_sem, g, h6]
  exact wT (hj1 _) (zaa hF)
 try simp [go_sem, g, h6]
 refine wC hF [.sh, .sh, .sh] zdr (fun z7 hF => ?_)
 try simp [go_sem, g, h6]
 exact wT (hj1 _) (zaa hF)
def zdn (a0 : Group) (a1 : Int) : Option (Bases × Bool) :=
 (((zdF a0).bind fun z4 =>
 if (!z4) = true then (
 some true) else (
 (zb8 a1 0 24).bind fun z6 =>
 some (!z6)) : Option Bool).bind fun x3 =>
 if x3 = true then (
 some ((Bases.mk 0 []), false)) else (
 (zdt a0 (⟨#[104]⟩ : ByteArray) 0).bind fun z8 =>
 (zdk a0 (⟨#[104, 115]⟩ : ByteArray) a1).bind fun z9 =>
 ((if (!z8.2) = true then (
 some true) else (
 some (!z9.2)) : Option Bool).bind fun x12 =>
 if x12 = true then (
 some ((Bases.mk 0 []), false)) else (
 some ((Bases.mk z8.1 z9.1), true)))))
theorem zjm : ∀ {a0} {a1} {r}, zdn a0 a1 = some r → PCalls Tryz.prog 71 [(.sh, vE a0), (.sh, .int .i64 a1)] (Eo (.tup [vI r.1, .bool r.2]) [.junk, .junk]) := by
 intro a0 a1 r hr
 apply pF 40 [] [] [] [.cell 4 103, .tmp 5] hr zDc Tryz.func71
 intro Φ hΦ hF g
 unfold zdn at hF
 refine wW ?_
 refine wJ hF (fun x3 => [(1, .v (.int .i64 a1)), (2, .bl [.int .i64 a0.P, .int .i64 a0.Q, .int .i64 a0.G]), (4, .bl [.int .i64 0, .sl true 1 []]), (17, .v (.bool x3))]) (fun x3 hF => ?_) fun _ hj1 hF => ?_
 ·refine wI hF (fun h7 hF => ?_) (fun h7 hF => ?_)
  ·cases hΦ _ (zaa hF)
   refine wW ?_
   try simp [go_sem, g]
  refine wW ?_
  refine wC hF [.sh, .sh, .sh] zjP (fun z8 hF => ?_)
  refine wK [1, 2, 4, 6, 7] ?_
  refine wC hF [.sh, .sh, .sh] zju (fun z9 hF => ?_)
  refine wW ?_
  refine wJ hF (fun x12 => [(4, .bl [.int .i64 0, .sl true 1 []]), (6, .v (.int .i64 z8.1)), (8, .v (vD z9.1)), (35, .v (.bool x12))]) (fun x12 hF => ?_) fun _ hj10 hF => ?_
  ·refine wI hF (fun h14 hF => ?_) (fun h14 hF => ?_)
   ·refine wK [4, 5] ?_
    cases hΦ _ (zaa hF)
    try simp [go_sem, g]
   refine wW ?_
   refine wK [4, 5] ?_
   cases hΦ _ (zaa hF)
   try simp [go_sem, g]
  refine wG hF (fun h13 hF => ?_) fun h13 hF => ?_
  ·try simp [go_sem, g, h13]
   exact wT (hj10 _) (zaa hF)
  try simp [go_sem, g, h13]
  exact wT (hj10 _) (zaa hF)
 refine wC hF [.sh] zgy (fun z4 hF => ?_)
 refine wG hF (fun h5 hF => ?_) fun h5 hF => ?_
 ·try simp [go_sem, g, h5]
  exact wT (hj1 _) (zaa hF)
 try simp [go_sem, g, h5]
 refine wC hF [.sh, .sh, .sh] zdr (fun z6 hF => ?_)
 try simp [go_sem, g, h5]
 exact wT (hj1 _) (zaa hF)
def zaP (a0 : Group) (a1 : List Int) : Option Int :=
 ((zar (σ := Int) (fun i5 s4 =>
 (ix a1 i5).bind fun x11 =>
 gd (a0.P ≠ 0) <|
 some (.go ((i64.wrap (s4 * x11)).tmod a0.P))) (fun s4 => s4) (a1.length) 0 1 : Option Int).bind fun x3 =>
 some x3)
theorem zbu : ∀ {a0} {a1} {r}, zaP a0 a1 = some r → PCalls Tryz.prog 136 [(.sh, vE a0), (.sh, vC a1)] (Eo (.int .i64 r) [.junk, .junk]) := by
 intro a0 a1 r hr
 apply pF 22 [] [] [] [.tmp 4] hr zz9 Tryz.func136
 intro Φ hΦ hF g
 unfold zaP at hF
 iterate 3 (try simp [go_sem, g]; try intros; refine zay ?_)
 refine wJ hF (fun x3 => [(5, .v (.int .i64 x3))]) (fun x3 hF => ?_) fun _ hj1 hF => ?_
 ·cases hΦ _ (zaa hF)
  refine wW ?_
  try simp [go_sem, g]
 refine wB ?_
 obtain ⟨b12, hb13, hψ8⟩ := hF
 refine pR hb13 (fun i5 s4 => [(2, .bl [.int .i64 a0.P, .int .i64 a0.Q, .int .i64 a0.G]), (5, .v (.int .i64 s4)), (8, .v (vC a1)), (9, .v (.int .i64 (a1.length : Int))), (10, .v (.int .i64 i5))]) (fun s4 _ hN14 => ?_) (fun i5 s4 _ _ hi9 hi10 ho6 hg7 hF => ?_)
 ·subst hN14
  refine wW ?_
  refine wf ?_
  exact wT (hj1 _) hψ8
 refine wW ?_
 refine wt ?_ (hb := by simp [go_sem, g, hi9, hi10])
 refine wW ?_
 refine wB ?_
 obtain ⟨x11, g, hF⟩ := Rx g hF
 refine wK [2, 5, 7, 8, 9, 10] ?_
 obtain ⟨g, hF⟩ := Rz g hF
 refine wW ?_
 exact wT (hg7 ((i64.wrap (s4 * x11)).tmod a0.P)) (zaa hF) (a := by simp [go_sem, g, zbp hi9 hi10 (by assumption)])
@[go_sem] def zwI : List DE := [d2 0 [4] 4 4, d1 1 [4] 4, d2 2 [10] 4 10, d0 3 [3], d2 5 [4] 4 4, d0 6 [2], d2 7 [4] 4 4, d0 8 [1], d0 9 [3], d3 4 [9, 11, 12], d3 10 [16, 17, 18], d0 11 [15, 19], ⟨12, [14, 20], [], none, true, true, true⟩, d0 13 [13, 21], d2 14 [8, 22] 8 8]
def zgn (a0 : Group) (a1 : Int) (a2 : Int) (a3 : Int) : Option Cipher :=
 (zaq a0 a0.G a3).bind fun z1 =>
 (zaq a0 a1 a3).bind fun z2 =>
 (zaP a0 [a2, z2]).bind fun z3 =>
 some (Cipher.mk z1 z3)
theorem zqj : ∀ {a0} {a1} {a2} {a3} {r}, zgn a0 a1 a2 a3 = some r → PCalls Tryz.prog 160 [(.sh, vE a0), (.sh, .int .i64 a1), (.sh, .int .i64 a2), (.sh, .int .i64 a3)] (Eo (vF r) [.junk, .junk, .junk, .junk]) := by
 intro a0 a1 a2 a3 r hr
 apply pF 23 [] [] [] [.cell 8 41] hr zzB Tryz.func160
 intro Φ hΦ hF g
 unfold zgn at hF
 refine wW ?_
 refine wX zwI follows ?_
 refine wC hF [.sh, .sh, .sh] zaY (fun z1 hF => ?_)
 refine wC hF [.sh, .sh, .sh] zaY (fun z2 hF => ?_)
 refine wC hF [.sh, .sh] zbu (fun z3 hF => ?_)
 refine wK [8] ?_
 cases hΦ _ (zaa hF)
 try simp [go_sem, g]
@[go_sem] def zxd : List DE := [d2 0 [2] 2 2, d1 1 [5] 5, d2 2 [16] 5 16, d1 3 [7] 7, d2 4 [18] 7 18, d0 5 [17, 19], d2 7 [2] 2 2, d1 8 [5] 5, d2 9 [23] 5 23, d1 10 [7] 7, d2 11 [25] 7 25, d0 12 [24, 26], ⟨6, [15, 20], [], none, true, true, true⟩, ⟨13, [22, 27], [], none, true, true, true⟩, d0 14 [21, 28], d2 15 [5, 29] 5 5]
def zhy (a0 : Group) (a1 : List Cipher) : Option Cipher :=
 ((zar (σ := Int × Int) (fun i15 s14 =>
 (ix a1 i15).bind fun x21 =>
 (zaP a0 [s14.1, x21.A]).bind fun z22 =>
 (zaP a0 [s14.2, x21.B]).bind fun z23 =>
 some (.go (z22, z23))) (fun s14 => (s14.1, s14.2)) (a1.length) 0 (1, 1) : Option ((Int × Int))).bind fun x3 =>
 some (Cipher.mk x3.1 x3.2))
theorem zpO : ∀ {a0} {a1} {r}, zhy a0 a1 = some r → PCalls Tryz.prog 197 [(.sh, vE a0), (.sh, vH a1)] (Eo (vF r) [.junk, .junk]) := by
 intro a0 a1 r hr
 apply pF 32 [] [] [] [.cell 4 41] hr zAw Tryz.func197
 intro Φ hΦ hF g
 unfold zhy at hF
 iterate 3 (try simp [go_sem, g]; try intros; refine zay ?_)
 refine wJ hF (fun x3 => [(4, .bl [.int .i64 0, .int .i64 0]), (5, .bl [.int .i64 x3.1, .int .i64 x3.2])]) (fun x3 hF => ?_) fun _ hj1 hF => ?_
 ·refine wK [4] ?_
  cases hΦ _ (zaa hF)
  try simp [go_sem, g]
 refine wB ?_
 obtain ⟨b24, hb25, hψ18⟩ := hF
 refine pR hb25 (fun i15 s14 => [(2, .bl [.int .i64 a0.P, .int .i64 a0.Q, .int .i64 a0.G]), (4, .bl [.int .i64 0, .int .i64 0]), (5, .bl [.int .i64 s14.1, .int .i64 s14.2]), (9, .v (vH a1)), (10, .v (.int .i64 (a1.length : Int))), (11, .v (.int .i64 i15))]) (fun s14 _ hN26 => ?_) (fun i15 s14 _ _ hi19 hi20 ho16 hg17 hF => ?_)
 ·subst hN26
  refine wW ?_
  refine wf ?_
  exact wT (hj1 _) hψ18
 refine wW ?_
 refine wt ?_ (hb := by simp [go_sem, g, hi19, hi20])
 refine wW ?_
 refine wB ?_
 obtain ⟨x21, g, hF⟩ := Rx g hF
 refine wK [2, 4, 5, 7, 9, 10, 11] ?_
 refine wX zxd follows ?_
 refine wC hF [.sh, .sh] zbu (fun z22 hF => ?_)
 refine wC hF [.sh, .sh] zbu (fun z23 hF => ?_)
 refine wK [2, 4, 5, 9, 10, 11] ?_
 exact wT (hg17 (z22, z23)) (zaa hF) (a := by simp [go_sem, g, zbp hi19 hi20 (by assumption)])
@[go_sem] def zxW : List DE := [d2 0 [4] 4 4, d2 1 [6] 6 6, d2 2 [4] 4 4, d0 3 [1], d0 4 [3], d3 5 [11, 12, 13], d0 6 [10, 14], ⟨7, [9, 15], [], none, true, true, true⟩, d2 8 [8, 16] 8 8]
def zgd (a0 : Group) (a1 : Int) (a2 : Cipher) (a3 : Int) : Option Cipher :=
 (zgn a0 a1 1 a3).bind fun z1 =>
 (zhy a0 [a2, z1]).bind fun z2 =>
 some z2
theorem zr1 : ∀ {a0} {a1} {a2} {a3} {r}, zgd a0 a1 a2 a3 = some r → PCalls Tryz.prog 180 [(.sh, vE a0), (.sh, .int .i64 a1), (.sh, vF a2), (.sh, .int .i64 a3)] (Eo (vF r) [.junk, .junk, .junk, .junk]) := by
 intro a0 a1 a2 a3 r hr
 apply pF 17 [] [] [] [.cell 8 41] hr zBy Tryz.func180
 intro Φ hΦ hF g
 unfold zgd at hF
 refine wW ?_
 refine wX zxW follows ?_
 refine wC hF [.sh, .sh, .sh, .sh] zqj (fun z1 hF => ?_)
 refine wC hF [.sh, .sh] zpO (fun z2 hF => ?_)
 refine wK [8] ?_
 cases hΦ _ (zaa hF)
 try simp [go_sem, g]
@[go_sem] def zxn : List DE := [d0 0 [11], d2 1 [5] 5 5, d0 2 [1], d0 3 [2], d0 4 [13], d0 5 [24, 25], d0 6 [26], d0 7 [4], d0 8 [12], d0 9 [28, 29], d0 10 [30], d3 11 [22, 23, 27, 31], d0 12 [32], ⟨13, [21, 33], [], none, true, false, false⟩, d0 14 [34]]
def zfF (a0 : Group) (a1 : Int) (a2 : List Cipher) (a3 : List Int) (a4 : List Int) : Option ((List Cipher)) :=
 ((zar (σ := (List Cipher)) (fun i5 s4 =>
 (ix a3 i5).bind fun x11 =>
 (ix a2 x11).bind fun x12 =>
 (ix a4 i5).bind fun x13 =>
 (zgd a0 a1 x12 x13).bind fun z14 =>
 gd ((s4.length + 1) * 16 ≤ 140737488355328 ∧ s4.length + 1 ≤ 4611686018427387904) <|
 some (.go (s4 ++ [z14]))) (fun s4 => s4) (a3.length) 0 [] : Option ((List Cipher))).bind fun x3 =>
 some x3)
theorem zlO : ∀ {a0} {a1} {a2} {a3} {a4} {r}, zfF a0 a1 a2 a3 a4 = some r → PCalls Tryz.prog 131 [(.sh, vE a0), (.sh, .int .i64 a1), (.sh, vH a2), (.sh, vC a3), (.sh, vC a4)] (Eo (vG r) [.junk, .junk, .junk, .junk, .junk]) := by
 intro a0 a1 a2 a3 a4 r hr
 apply pF 37 [] [] [] [.tmp 10] hr zyQ Tryz.func131
 intro Φ hΦ hF g
 unfold zfF at hF
 iterate 3 (try simp [go_sem, g]; try intros; refine zay ?_)
 refine wJ hF (fun x3 => [(11, .v (vG x3))]) (fun x3 hF => ?_) fun _ hj1 hF => ?_
 ·cases hΦ _ (zaa hF)
  refine wW ?_
  try simp [go_sem, g]
 refine wB ?_
 obtain ⟨b15, hb16, hψ8⟩ := hF
 refine pR hb16 (fun i5 s4 => [(1, .v (.int .i64 a1)), (2, .v (vH a2)), (4, .v (vC a4)), (5, .bl [.int .i64 a0.P, .int .i64 a0.Q, .int .i64 a0.G]), (11, .v (vG s4)), (14, .v (vC a3)), (15, .v (.int .i64 (a3.length : Int))), (16, .v (.int .i64 i5))]) (fun s4 _ hN17 => ?_) (fun i5 s4 _ _ hi9 hi10 ho6 hg7 hF => ?_)
 ·subst hN17
  refine wW ?_
  refine wf ?_
  exact wT (hj1 _) hψ8
 refine wW ?_
 refine wt ?_ (hb := by simp [go_sem, g, hi9, hi10])
 refine wW ?_
 refine wB ?_
 obtain ⟨x11, g, hF⟩ := Rx g hF
 refine wK [1, 2, 4, 5, 11, 12, 13, 14, 15, 16] ?_
 refine wX zxn follows ?_
 obtain ⟨x12, g, hF⟩ := Rx g hF
 obtain ⟨x13, g, hF⟩ := Rx g hF
 refine wC hF [.sh, .sh, .sh, .sh] zr1 (fun z14 hF => ?_)
 obtain ⟨g, hF⟩ := Rg g hF
 refine wK [1, 2, 4, 5, 11, 14, 15, 16] ?_
 exact wT (hg7 (s4 ++ [z14])) (zaa hF) (a := by simp [go_sem, g, zbp hi9 hi10 (by assumption)])
@[go_sem] def zxm : List DE := [d0 0 [9], d0 1 [11], d2 2 [4] 4 4, d2 3 [4] 4 4, d1 4 [4] 4, d2 5 [26] 4 26, d0 6 [3], d0 7 [11], d0 8 [28, 29], d0 9 [30], d1 11 [5] 5, d2 12 [33] 5 33, d0 13 [10], d0 14 [34, 35], d0 15 [36], ⟨10, [25, 27, 31], [], none, false, true, false⟩, d0 16 [32, 37], ⟨17, [24, 38], [], none, true, true, true⟩, d0 18 [22, 23], d0 19 [40, 39]]
def zeP (a0 : Group) (a1 : Bases) (a2 : List Int) (a3 : List Int) : Option ((List Int)) :=
 gd (0 ≤ (a2.length : Int) ∧ (a2.length : Int) ≤ (a2.length : Int) ∧ 8 * (a2.length : Int) ≤ 140737488355328 ∧ (a2.length : Int) ≤ 4611686018427387904) <|
 (some (List.replicate a2.length 0)).bind fun x1 =>
 ((zar (σ := (List Int)) (fun i21 s20 =>
 (ix a2 i21).bind fun x27 =>
 (ix a3 x27).bind fun x28 =>
 (ix a1.Hs i21).bind fun x29 =>
 (zaq a0 a0.G x28).bind fun z30 =>
 (zaP a0 [z30, x29]).bind fun z31 =>
 (ix s20 x27).bind fun x32 =>
 some (.go (s20.set x27.toNat z31))) (fun s20 => s20) (a2.length) 0 x1 : Option ((List Int))).bind fun x6 =>
 some x6)
theorem zmF : ∀ {a0} {a1} {a2} {a3} {r}, zeP a0 a1 a2 a3 = some r → PCalls Tryz.prog 132 [(.sh, vE a0), (.sh, vJ a1), (.sh, vC a2), (.sh, vC a3)] (Eo (vD r) [.junk, .junk, .junk, .junk]) := by
 intro a0 a1 a2 a3 r hr
 apply pF 43 [] [] [] [.tmp 8] hr zzp Tryz.func132
 intro Φ hΦ hF g
 unfold zeP at hF
 obtain ⟨g, hF⟩ := Rg g hF
 obtain ⟨x1, e2, hF⟩ := zep hF
 have g3 : List.replicate a2.length ([.int .i64 0] : List PV) = x1.map zat := by injection e2 with e2; rw [← e2]; simp [go_sem]
 iterate 2 (try simp [go_sem, g, g3]; try intros; refine zay ?_)
 try simp [go_sem, g, g3]
 try intros
 refine wK [3, 4, 5, 9, 15, 16, 17] ?_
 refine wJ hF (fun x6 => [(9, .v (vD x6))]) (fun x6 hF => ?_) fun _ hj4 hF => ?_
 ·cases hΦ _ (zaa hF)
  refine wW ?_
  try simp [go_sem, g]
 refine wB ?_
 obtain ⟨b33, hb34, hψ24⟩ := hF
 refine pR hb34 (fun i21 s20 => [(3, .v (vC a3)), (4, .bl [.int .i64 a0.P, .int .i64 a0.Q, .int .i64 a0.G]), (5, .bl [.int .i64 a1.H, vC a1.Hs]), (9, .v (vD s20)), (15, .v (vC a2)), (16, .v (.int .i64 (a2.length : Int))), (17, .v (.int .i64 i21))]) (fun s20 _ hN35 => ?_) (fun i21 s20 _ _ hi25 hi26 ho22 hg23 hF => ?_)
 ·subst hN35
  refine wW ?_
  refine wf ?_
  exact wT (hj4 _) hψ24
 refine wW ?_
 refine wt ?_ (hb := by simp [go_sem, g, hi25, hi26])
 refine wW ?_
 refine wB ?_
 obtain ⟨x27, g, hF⟩ := Rx g hF
 refine wW ?_
 refine wX zxm follows ?_
 obtain ⟨x28, g, hF⟩ := Rx g hF
 obtain ⟨x29, g, hF⟩ := Rx g hF
 refine wD hF zaY (fun z30 hF => ?_)
 refine wC hF [.sh, .sh] zbu (fun z31 hF => ?_)
 obtain ⟨x32, g, hF⟩ := Rx g hF
 refine wK [3, 4, 5, 9, 15, 16, 17] ?_
 exact wT (hg23 (s20.set x27.toNat z31)) (zaa hF) (a := by simp [go_sem, g, zbp hi25 hi26 (by assumption)])
def zdm (a0 : Int) (a1 : List Cipher) (a2 : List Cipher) (a3 : List Int) : Option ((List Int)) :=
 ((zar (σ := (List Int)) (fun i5 s4 =>
 (ix a1 i5).bind fun x11 =>
 gd ((s4.length + 2) * 8 ≤ 140737488355328 ∧ s4.length + 2 ≤ 4611686018427387904) <|
 some (.go (s4 ++ [x11.A, x11.B]))) (fun s4 => s4) (a1.length) 0 [a0] : Option ((List Int))).bind fun x3 =>
 ((zar (σ := (List Int)) (fun i20 s19 =>
 (ix a2 i20).bind fun x26 =>
 gd ((s19.length + 2) * 8 ≤ 140737488355328 ∧ s19.length + 2 ≤ 4611686018427387904) <|
 some (.go (s19 ++ [x26.A, x26.B]))) (fun s19 => s19) (a2.length) 0 x3 : Option ((List Int))).bind fun x18 =>
 gd ((x18.length + a3.length) * 8 ≤ 140737488355328 ∧ x18.length + a3.length ≤ 4611686018427387904) <|
 some (x18 ++ a3)))
theorem zjy : ∀ {a0} {a1} {a2} {a3} {r}, zdm a0 a1 a2 a3 = some r → PCalls Tryz.prog 182 [(.sh, .int .i64 a0), (.sh, vH a1), (.sh, vH a2), (.sh, vC a3)] (Eo (vD r) [.junk, .junk, .junk, .junk]) := by
 intro a0 a1 a2 a3 r hr
 apply pF 47 [] [] [] [.tmp 8] hr zzm Tryz.func182
 intro Φ hΦ hF g
 unfold zdm at hF
 iterate 3 (try simp [go_sem, g]; try intros; refine zay ?_)
 refine wJ hF (fun x3 => [(2, .v (vH a2)), (3, .v (vC a3)), (9, .v (vD x3))]) (fun x3 hF => ?_) fun _ hj1 hF => ?_
 ·try simp [go_sem, g]
  try intros
  refine wK [3, 9, 30, 31, 32] ?_
  refine wJ hF (fun x18 => [(3, .v (vC a3)), (9, .v (vD x18))]) (fun x18 hF => ?_) fun _ hj16 hF => ?_
  ·obtain ⟨g, hF⟩ := Rg g hF
   cases hΦ _ (zaa hF)
   refine wW ?_
   try simp [go_sem, g]
  refine wB ?_
  obtain ⟨b27, hb28, hψ23⟩ := hF
  refine pR hb28 (fun i20 s19 => [(3, .v (vC a3)), (9, .v (vD s19)), (30, .v (vH a2)), (31, .v (.int .i64 (a2.length : Int))), (32, .v (.int .i64 i20))]) (fun s19 _ hN29 => ?_) (fun i20 s19 _ _ hi24 hi25 ho21 hg22 hF => ?_)
  ·subst hN29
   refine wW ?_
   refine wf ?_
   exact wT (hj16 _) hψ23
  refine wW ?_
  refine wt ?_ (hb := by simp [go_sem, g, hi24, hi25])
  refine wW ?_
  refine wB ?_
  obtain ⟨x26, g, hF⟩ := Rx g hF
  obtain ⟨g, hF⟩ := Rg g hF
  refine wW ?_
  refine wK [3, 9, 30, 31, 32] ?_
  exact wT (hg22 (s19 ++ [x26.A, x26.B])) (zaa hF) (a := by simp [go_sem, g, zbp hi24 hi25 (by assumption)])
 refine wB ?_
 obtain ⟨b12, hb13, hψ8⟩ := hF
 refine pR hb13 (fun i5 s4 => [(2, .v (vH a2)), (3, .v (vC a3)), (9, .v (vD s4)), (16, .v (vH a1)), (17, .v (.int .i64 (a1.length : Int))), (18, .v (.int .i64 i5))]) (fun s4 _ hN14 => ?_) (fun i5 s4 _ _ hi9 hi10 ho6 hg7 hF => ?_)
 ·subst hN14
  refine wW ?_
  refine wf ?_
  exact wT (hj1 _) hψ8
 refine wW ?_
 refine wt ?_ (hb := by simp [go_sem, g, hi9, hi10])
 refine wW ?_
 refine wB ?_
 obtain ⟨x11, g, hF⟩ := Rx g hF
 refine wK [2, 3, 9, 11, 16, 17, 18] ?_
 obtain ⟨g, hF⟩ := Rg g hF
 refine wW ?_
 exact wT (hg7 (s4 ++ [x11.A, x11.B])) (zaa hF) (a := by simp [go_sem, g, zbp hi9 hi10 (by assumption)])
def zdy (a0 : List Int) : Option ((List Int)) :=
 gd (a0.length * 8 ≤ 140737488355328 ∧ a0.length ≤ 4611686018427387904) <|
 some a0
theorem zfc : ∀ {a0} {r}, zdy a0 = some r → PCalls Tryz.prog 141 [(.sh, vC a0)] (Eo (vD r) [.junk]) := by
 intro a0 r hr
 apply pF 6 [] [] [] [.tmp 2] hr zBI Tryz.func141
 intro Φ hΦ hF g
 unfold zdy at hF
 obtain ⟨g, hF⟩ := Rg g hF
 cases hΦ _ (zaa hF)
 iterate 2 refine wW ?_
 try simp [go_sem, g]
@[go_sem] def zxU : List DE := [d0 0 [1], d1 1 [3] 3, d2 2 [8] 3 8, d1 3 [3] 3, d2 4 [10] 3 10, d1 5 [3] 3, d2 6 [12] 3 12, d0 7 [9, 11, 13], d0 8 [2], d1 11 [3] 3, d2 12 [18] 3 18, ⟨9, [14, 15], [], none, true, false, false⟩, d3 10 [7, 16], d0 13 [17, 19], d0 14 [20]]
def zcQ (a0 : Group) (a1 : ByteArray) (a2 : List Int) : Option Int :=
 gd (([a0.P, a0.Q, a0.G].length + a2.length) * 8 ≤ 140737488355328 ∧ [a0.P, a0.Q, a0.G].length + a2.length ≤ 4611686018427387904) <|
 (zdP a1 ([a0.P, a0.Q, a0.G] ++ a2)).bind fun z1 =>
 gd (a0.Q ≠ 0) <|
 some (z1.tmod a0.Q)
theorem zhU : ∀ {a0} {a1} {a2} {r}, zcQ a0 a1 a2 = some r → PCalls Tryz.prog 183 [(.sh, vE a0), (.sh, .str a1), (.sh, vC a2)] (Eo (.int .i64 r) [.junk, .junk, .junk]) := by
 intro a0 a1 a2 r hr
 apply pF 21 [] [] [] [.tmp 6] hr zAz Tryz.func183
 intro Φ hΦ hF g
 unfold zcQ at hF
 refine wW ?_
 refine wX zxU follows ?_
 obtain ⟨g, hF⟩ := Rg g hF
 refine wC hF [.sh, .sh] ziy (fun z1 hF => ?_)
 obtain ⟨g, hF⟩ := Rz g hF
 refine wK [6] ?_
 cases hΦ _ (zaa hF)
 try simp [go_sem, g]
@[go_sem] def zxl : List DE := [d0 0 [9], d2 1 [4] 4 4, d0 2 [1], d0 3 [2], d0 5 [10], d0 6 [21], d3 4 [19], ⟨7, [20, 22], [], none, true, false, false⟩, d3 8 [17, 18, 23], d0 9 [24], ⟨10, [16, 25], [], none, true, false, false⟩, d0 11 [26]]
def zdf (a0 : Group) (a1 : ByteArray) (a2 : List Int) (a3 : Int) : Option ((List Int)) :=
 ((zbX (σ := (List Int) × Int) (fun s4 =>
 if decide (s4.2 < a3) = true then (
 (zdy a2).bind fun z10 =>
 gd ((z10.length + 1) * 8 ≤ 140737488355328 ∧ z10.length + 1 ≤ 4611686018427387904) <|
 (zcQ a0 a1 (z10 ++ [s4.2])).bind fun z11 =>
 gd ((s4.1.length + 1) * 8 ≤ 140737488355328 ∧ s4.1.length + 1 ≤ 4611686018427387904) <|
 some (.go (s4.1 ++ [z11], i64.wrap (s4.2 + 1)))) else (
 some (.out s4.1))) ([], 0) : Option ((List Int))).bind fun x3 =>
 some x3)
theorem zkW : ∀ {a0} {a1} {a2} {a3} {r}, zdf a0 a1 a2 a3 = some r → PCalls Tryz.prog 181 [(.sh, vE a0), (.sh, .str a1), (.sh, vC a2), (.sh, .int .i64 a3)] (Eo (vD r) [.junk, .junk, .junk, .junk]) := by
 intro a0 a1 a2 a3 r hr
 apply pF 28 [] [] [] [.tmp 8] hr zy5 Tryz.func181
 intro Φ hΦ hF g
 unfold zdf at hF
 iterate 3 refine wW ?_
 refine wJ hF (fun x3 => [(9, .v (vD x3))]) (fun x3 hF => ?_) fun _ hj1 hF => ?_
 ·cases hΦ _ (zaa hF)
  refine wW ?_
  try simp [go_sem, g]
 refine wB ?_
 obtain ⟨b12, hb13, hψ8⟩ := hF
 refine pL hb13 (fun s4 => [(1, .v (.str a1)), (2, .v (vC a2)), (3, .v (.int .i64 a3)), (4, .bl [.int .i64 a0.P, .int .i64 a0.Q, .int .i64 a0.G]), (9, .v (vD s4.1)), (10, .v (.int .i64 s4.2))]) (fun s4 _ _ ho6 hg7 hF => ?_)
 refine wW ?_
 refine wI hF (fun h9 hF => ?_) (fun h9 hF => ?_)
 ·refine wW ?_
  refine wB ?_
  refine wX zxl follows ?_
  refine wC hF [.sh] zfc (fun z10 hF => ?_)
  obtain ⟨g, hF⟩ := Rg g hF
  refine wC hF [.sh, .sh, .sh] zhU (fun z11 hF => ?_)
  obtain ⟨g, hF⟩ := Rg g hF
  refine wK [1, 2, 3, 4, 9, 10] ?_
  exact wT (hg7 _) (zaa hF)
 cases ho6 _ (zaa hF)
 exact wT (hj1 _) hψ8
@[go_sem] def zw8 : List DE := [d2 0 [5] 5 5, d0 1 [1], d0 2 [2], d0 3 [3], d0 4 [4], d0 6 [2], d0 7 [17], d3 5 [12, 13, 14, 15], d3 8 [11, 16, 18], d0 9 [19]]
def zca (a0 : Group) (a1 : Int) (a2 : List Cipher) (a3 : List Cipher) (a4 : List Int) : Option ((List Int)) :=
 (zdm a1 a2 a3 a4).bind fun z1 =>
 (zdf a0 (⟨#[109, 105, 120, 32, 99, 111, 108, 117, 109, 110, 115]⟩ : ByteArray) z1 (a2.length : Int)).bind fun z2 =>
 some z2
theorem zhG : ∀ {a0} {a1} {a2} {a3} {a4} {r}, zca a0 a1 a2 a3 a4 = some r → PCalls Tryz.prog 133 [(.sh, vE a0), (.sh, .int .i64 a1), (.sh, vH a2), (.sh, vH a3), (.sh, vC a4)] (Eo (vD r) [.junk, .junk, .junk, .junk, .junk]) := by
 intro a0 a1 a2 a3 a4 r hr
 apply pF 20 [] [] [] [.tmp 10] hr zBf Tryz.func133
 intro Φ hΦ hF g
 unfold zca at hF
 refine wW ?_
 refine wX zw8 follows ?_
 try simp [go_sem, g]
 try intros
 refine wC hF [.sh, .sh, .sh, .sh] zjy (fun z1 hF => ?_)
 refine wC hF [.sh, .sh, .sh, .sh] zkW (fun z2 hF => ?_)
 refine wK [10] ?_
 cases hΦ _ (zaa hF)
 try simp [go_sem, g]
@[go_sem] def zxA : List DE := [d2 0 [4] 4 4, d2 1 [4] 4 4, d1 2 [4] 4, d2 3 [24] 4 24, d0 4 [3], d0 5 [11], d0 6 [26, 27], d0 7 [28], d2 9 [4] 4 4, d0 10 [10], d0 11 [12], d3 8 [23, 25, 29], d3 12 [31, 32, 33], d0 13 [30, 34], ⟨14, [22, 35], [], none, true, true, true⟩, d0 15 [36]]
def zfv (a0 : Group) (a1 : Bases) (a2 : List Int) (a3 : List Int) : Option ((List Int)) :=
 ((zar (σ := (List Int) × Int) (fun i5 s4 =>
 (ix a2 i5).bind fun x11 =>
 (ix a3 i5).bind fun x12 =>
 (zaq a0 a0.G x12).bind fun z13 =>
 (zaq a0 s4.2 x11).bind fun z14 =>
 (zaP a0 [z13, z14]).bind fun z15 =>
 gd ((s4.1.length + 1) * 8 ≤ 140737488355328 ∧ s4.1.length + 1 ≤ 4611686018427387904) <|
 some (.go (s4.1 ++ [z15], z15))) (fun s4 => s4.1) (a2.length) 0 ([], a1.H) : Option ((List Int))).bind fun x3 =>
 some x3)
theorem zoe : ∀ {a0} {a1} {a2} {a3} {r}, zfv a0 a1 a2 a3 = some r → PCalls Tryz.prog 134 [(.sh, vE a0), (.sh, vJ a1), (.sh, vC a2), (.sh, vC a3)] (Eo (vD r) [.junk, .junk, .junk, .junk]) := by
 intro a0 a1 a2 a3 r hr
 apply pF 43 [] [] [] [.tmp 8] hr zy4 Tryz.func134
 intro Φ hΦ hF g
 unfold zfv at hF
 iterate 3 (try simp [go_sem, g]; try intros; refine zay ?_)
 try simp [go_sem, g]
 try intros
 refine wK [3, 4, 9, 10, 15, 16, 17] ?_
 refine wJ hF (fun x3 => [(9, .v (vD x3))]) (fun x3 hF => ?_) fun _ hj1 hF => ?_
 ·cases hΦ _ (zaa hF)
  refine wW ?_
  try simp [go_sem, g]
 refine wB ?_
 obtain ⟨b16, hb17, hψ8⟩ := hF
 refine pR hb17 (fun i5 s4 => [(3, .v (vC a3)), (4, .bl [.int .i64 a0.P, .int .i64 a0.Q, .int .i64 a0.G]), (9, .v (vD s4.1)), (10, .v (.int .i64 s4.2)), (15, .v (vC a2)), (16, .v (.int .i64 (a2.length : Int))), (17, .v (.int .i64 i5))]) (fun s4 _ hN18 => ?_) (fun i5 s4 _ _ hi9 hi10 ho6 hg7 hF => ?_)
 ·subst hN18
  refine wW ?_
  refine wf ?_
  exact wT (hj1 _) hψ8
 refine wW ?_
 refine wt ?_ (hb := by simp [go_sem, g, hi9, hi10])
 refine wW ?_
 refine wB ?_
 obtain ⟨x11, g, hF⟩ := Rx g hF
 refine wW ?_
 refine wX zxA follows ?_
 obtain ⟨x12, g, hF⟩ := Rx g hF
 refine wC hF [.sh, .sh, .sh] zaY (fun z13 hF => ?_)
 refine wC hF [.sh, .sh, .sh] zaY (fun z14 hF => ?_)
 refine wC hF [.sh, .sh] zbu (fun z15 hF => ?_)
 refine wK [3, 4, 9, 10, 15, 16, 17] ?_
 obtain ⟨g, hF⟩ := Rg g hF
 refine wW ?_
 exact wT (hg7 (s4.1 ++ [z15], z15)) (zaa hF) (a := by simp [go_sem, g, zbp hi9 hi10 (by assumption)])
def zd8 (a0 : List Cipher) : Option (List Int × List Int) :=
 ((zar (σ := (List Int) × List Int) (fun i5 s4 =>
 (ix a0 i5).bind fun x11 =>
 gd ((s4.1.length + 1) * 8 ≤ 140737488355328 ∧ s4.1.length + 1 ≤ 4611686018427387904) <|
 gd ((s4.2.length + 1) * 8 ≤ 140737488355328 ∧ s4.2.length + 1 ≤ 4611686018427387904) <|
 some (.go (s4.1 ++ [x11.A], s4.2 ++ [x11.B]))) (fun s4 => (s4.1, s4.2)) (a0.length) 0 ([], []) : Option ((List Int × List Int))).bind fun x3 =>
 some (x3.1, x3.2))
theorem zhR : ∀ {a0} {r}, zd8 a0 = some r → PCalls Tryz.prog 135 [(.sh, vH a0)] (Eo (.tup [vD r.1, vD r.2]) [.junk]) := by
 intro a0 r hr
 apply pF 27 [] [] [] [.tmp 2, .tmp 3] hr zzx Tryz.func135
 intro Φ hΦ hF g
 unfold zd8 at hF
 iterate 3 (try simp [go_sem, g]; try intros; refine zay ?_)
 refine wJ hF (fun x3 => [(4, .v (vD x3.1)), (5, .v (vD x3.2))]) (fun x3 hF => ?_) fun _ hj1 hF => ?_
 ·refine wK [2, 3] ?_
  cases hΦ _ (zaa hF)
  try simp [go_sem, g]
 refine wB ?_
 obtain ⟨b12, hb13, hψ8⟩ := hF
 refine pR hb13 (fun i5 s4 => [(4, .v (vD s4.1)), (5, .v (vD s4.2)), (8, .v (vH a0)), (9, .v (.int .i64 (a0.length : Int))), (10, .v (.int .i64 i5))]) (fun s4 _ hN14 => ?_) (fun i5 s4 _ _ hi9 hi10 ho6 hg7 hF => ?_)
 ·subst hN14
  refine wW ?_
  refine wf ?_
  exact wT (hj1 _) hψ8
 refine wW ?_
 refine wt ?_ (hb := by simp [go_sem, g, hi9, hi10])
 refine wW ?_
 refine wB ?_
 obtain ⟨x11, g, hF⟩ := Rx g hF
 refine wK [4, 5, 7, 8, 9, 10] ?_
 obtain ⟨g, hF⟩ := Rg g hF
 obtain ⟨g, hF⟩ := Rg g hF
 refine wW ?_
 refine wK [4, 5, 8, 9, 10] ?_
 exact wT (hg7 (s4.1 ++ [x11.A], s4.2 ++ [x11.B])) (zaa hF) (a := by simp [go_sem, g, zbp hi9 hi10 (by assumption)])
@[go_sem] def zx1 : List DE := [d0 0 [7], d2 1 [3] 3 3, d0 2 [9], d0 3 [2], d0 4 [8], d0 5 [20, 21], d0 6 [22], d1 9 [3] 3, d2 10 [26] 3 26, d3 7 [18, 19, 23], d0 8 [17, 24], d0 11 [25, 27], d0 12 [28]]
def zbZ (a0 : Group) (a1 : List Int) (a2 : List Int) : Option Int :=
 ((zar (σ := Int) (fun i5 s4 =>
 (ix a1 i5).bind fun x11 =>
 (ix a2 i5).bind fun x12 =>
 (zaq a0 x11 x12).bind fun z13 =>
 gd (a0.P ≠ 0) <|
 some (.go ((i64.wrap (s4 * z13)).tmod a0.P))) (fun s4 => s4) (a1.length) 0 1 : Option Int).bind fun x3 =>
 some x3)
theorem zdA : ∀ {a0} {a1} {a2} {r}, zbZ a0 a1 a2 = some r → PCalls Tryz.prog 137 [(.sh, vE a0), (.sh, vC a1), (.sh, vC a2)] (Eo (.int .i64 r) [.junk, .junk, .junk]) := by
 intro a0 a1 a2 r hr
 apply pF 31 [] [] [] [.tmp 6] hr zAQ Tryz.func137
 intro Φ hΦ hF g
 unfold zbZ at hF
 iterate 3 (try simp [go_sem, g]; try intros; refine zay ?_)
 refine wJ hF (fun x3 => [(7, .v (.int .i64 x3))]) (fun x3 hF => ?_) fun _ hj1 hF => ?_
 ·cases hΦ _ (zaa hF)
  refine wW ?_
  try simp [go_sem, g]
 refine wB ?_
 obtain ⟨b14, hb15, hψ8⟩ := hF
 refine pR hb15 (fun i5 s4 => [(2, .v (vC a2)), (3, .bl [.int .i64 a0.P, .int .i64 a0.Q, .int .i64 a0.G]), (7, .v (.int .i64 s4)), (10, .v (vC a1)), (11, .v (.int .i64 (a1.length : Int))), (12, .v (.int .i64 i5))]) (fun s4 _ hN16 => ?_) (fun i5 s4 _ _ hi9 hi10 ho6 hg7 hF => ?_)
 ·subst hN16
  refine wW ?_
  refine wf ?_
  exact wT (hj1 _) hψ8
 refine wW ?_
 refine wt ?_ (hb := by simp [go_sem, g, hi9, hi10])
 refine wW ?_
 refine wB ?_
 obtain ⟨x11, g, hF⟩ := Rx g hF
 refine wK [2, 3, 7, 8, 9, 10, 11, 12] ?_
 refine wX zx1 follows ?_
 obtain ⟨x12, g, hF⟩ := Rx g hF
 refine wC hF [.sh, .sh, .sh] zaY (fun z13 hF => ?_)
 obtain ⟨g, hF⟩ := Rz g hF
 refine wK [2, 3, 7, 10, 11, 12] ?_
 exact wT (hg7 ((i64.wrap (s4 * z13)).tmod a0.P)) (zaa hF) (a := by simp [go_sem, g, zbp hi9 hi10 (by assumption)])
@[go_sem] def zwY : List DE := [d0 0 [1], d0 1 [2], d0 2 [3], d1 3 [9] 9, d2 4 [15] 9 15, d1 6 [9] 9, d2 7 [18] 9 18, d3 5 [12, 13, 14, 16], d0 8 [17, 19], d0 9 [20]]
@[go_sem] def zxj : List DE := [d2 0 [5] 5 5, d0 1 [11], d1 2 [9] 9, d1 3 [23] 9, d2 4 [24] 9 24, d0 5 [22, 25], d3 6 [21, 26], d0 7 [27]]
def zco (a0 : Group) (a1 : Int) (a2 : List Cipher) (a3 : List Cipher) (a4 : MatrixProof) : Option Int :=
 (zdm a1 a2 a3 a4.Columns).bind fun z1 =>
 gd ((z1.length + a4.Chain.length) * 8 ≤ 140737488355328 ∧ z1.length + a4.Chain.length ≤ 4611686018427387904) <|
 gd (((z1 ++ a4.Chain).length + a4.Pi.Commits.length) * 8 ≤ 140737488355328 ∧ (z1 ++ a4.Chain).length + a4.Pi.Commits.length ≤ 4611686018427387904) <|
 (zcQ a0 (⟨#[109, 105, 120, 32, 112, 114, 111, 111, 102]⟩ : ByteArray) (z1 ++ a4.Chain ++ a4.Pi.Commits)).bind fun z2 =>
 some z2
theorem zhS : ∀ {a0} {a1} {a2} {a3} {a4} {r}, zco a0 a1 a2 a3 a4 = some r → PCalls Tryz.prog 138 [(.sh, vE a0), (.sh, .int .i64 a1), (.sh, vH a2), (.sh, vH a3), (.sh, vL a4)] (Eo (.int .i64 r) [.junk, .junk, .junk, .junk, .junk]) := by
 intro a0 a1 a2 a3 a4 r hr
 apply pF 28 [] [] [] [.tmp 10] hr zAE Tryz.func138
 intro Φ hΦ hF g
 unfold zco at hF
 refine wW ?_
 refine wX zwY follows ?_
 refine wC hF [.sh, .sh, .sh, .sh] zjy (fun z1 hF => ?_)
 obtain ⟨g, hF⟩ := Rg g hF
 refine wK [5, 9, 11] ?_
 refine wX zxj follows ?_
 obtain ⟨g, hF⟩ := Rg g hF
 refine wC hF [.sh, .sh, .sh] zhU (fun z2 hF => ?_)
 cases hΦ _ (zaa hF)
 refine wW ?_
 try simp [go_sem, g]
def zfE (a0 : List Int) (a1 : Int) : Option Int :=
 ((zar (σ := Int) (fun i5 s4 =>
 (ix a0 i5).bind fun x11 =>
 gd (a1 ≠ 0) <|
 some (.go ((i64.wrap (s4 + x11)).tmod a1))) (fun s4 => s4) (a0.length) 0 0 : Option Int).bind fun x3 =>
 some x3)
theorem zp4 : ∀ {a0} {a1} {r}, zfE a0 a1 = some r → PCalls Tryz.prog 139 [(.sh, vC a0), (.sh, .int .i64 a1)] (Eo (.int .i64 r) [.junk, .junk]) := by
 intro a0 a1 r hr
 apply pF 21 [] [] [] [.tmp 4] hr zBa Tryz.func139
 intro Φ hΦ hF g
 unfold zfE at hF
 iterate 3 (try simp [go_sem, g]; try intros; refine zay ?_)
 refine wJ hF (fun x3 => [(5, .v (.int .i64 x3))]) (fun x3 hF => ?_) fun _ hj1 hF => ?_
 ·cases hΦ _ (zaa hF)
  refine wW ?_
  try simp [go_sem, g]
 refine wB ?_
 obtain ⟨b12, hb13, hψ8⟩ := hF
 refine pR hb13 (fun i5 s4 => [(1, .v (.int .i64 a1)), (5, .v (.int .i64 s4)), (8, .v (vC a0)), (9, .v (.int .i64 (a0.length : Int))), (10, .v (.int .i64 i5))]) (fun s4 _ hN14 => ?_) (fun i5 s4 _ _ hi9 hi10 ho6 hg7 hF => ?_)
 ·subst hN14
  refine wW ?_
  refine wf ?_
  exact wT (hj1 _) hψ8
 refine wW ?_
 refine wt ?_ (hb := by simp [go_sem, g, hi9, hi10])
 refine wW ?_
 refine wB ?_
 obtain ⟨x11, g, hF⟩ := Rx g hF
 obtain ⟨g, hF⟩ := Rz g hF
 refine wW ?_
 refine wK [1, 5, 8, 9, 10] ?_
 exact wT (hg7 ((i64.wrap (s4 + x11)).tmod a1)) (zaa hF) (a := by simp [go_sem, g, zbp hi9 hi10 (by assumption)])
def zeo (a0 : List Int) (a1 : List Int) (a2 : Int) : Option Int :=
 ((zar (σ := Int) (fun i5 s4 =>
 (ix a0 i5).bind fun x11 =>
 (ix a1 i5).bind fun x12 =>
 gd (a2 ≠ 0) <|
 some (.go ((i64.wrap (s4 + (i64.wrap (x11 * x12)))).tmod a2))) (fun s4 => s4) (a0.length) 0 0 : Option Int).bind fun x3 =>
 some x3)
theorem zlK : ∀ {a0} {a1} {a2} {r}, zeo a0 a1 a2 = some r → PCalls Tryz.prog 140 [(.sh, vC a0), (.sh, vC a1), (.sh, .int .i64 a2)] (Eo (.int .i64 r) [.junk, .junk, .junk]) := by
 intro a0 a1 a2 r hr
 apply pF 29 [] [] [] [.tmp 6] hr zBz Tryz.func140
 intro Φ hΦ hF g
 unfold zeo at hF
 iterate 3 (try simp [go_sem, g]; try intros; refine zay ?_)
 refine wJ hF (fun x3 => [(7, .v (.int .i64 x3))]) (fun x3 hF => ?_) fun _ hj1 hF => ?_
 ·cases hΦ _ (zaa hF)
  refine wW ?_
  try simp [go_sem, g]
 refine wB ?_
 obtain ⟨b13, hb14, hψ8⟩ := hF
 refine pR hb14 (fun i5 s4 => [(1, .v (vC a1)), (2, .v (.int .i64 a2)), (7, .v (.int .i64 s4)), (10, .v (vC a0)), (11, .v (.int .i64 (a0.length : Int))), (12, .v (.int .i64 i5))]) (fun s4 _ hN15 => ?_) (fun i5 s4 _ _ hi9 hi10 ho6 hg7 hF => ?_)
 ·subst hN15
  refine wW ?_
  refine wf ?_
  exact wT (hj1 _) hψ8
 refine wW ?_
 refine wt ?_ (hb := by simp [go_sem, g, hi9, hi10])
 refine wW ?_
 refine wB ?_
 obtain ⟨x11, g, hF⟩ := Rx g hF
 refine wK [1, 2, 7, 8, 9, 10, 11, 12] ?_
 obtain ⟨x12, g, hF⟩ := Rx g hF
 obtain ⟨g, hF⟩ := Rz g hF
 refine wK [1, 2, 7, 10, 11, 12] ?_
 exact wT (hg7 ((i64.wrap (s4 + (i64.wrap (x11 * x12)))).tmod a2)) (zaa hF) (a := by simp [go_sem, g, zbp hi9 hi10 (by assumption)])
@[go_sem] def zwU : List DE := [d0 0 [18], d0 1 [29], d0 2 [117, 118], d0 3 [119], d0 4 [26], d0 5 [30], d0 6 [121, 122], d0 7 [123], d0 8 [28], d0 9 [124, 125], d0 10 [120, 126], d1 11 [7] 7, d2 12 [128] 7 128, d0 13 [127, 129], d0 14 [130]]
@[go_sem] def zxR : List DE := [d2 0 [7] 7 7, d1 1 [7] 7, d2 2 [144] 7 144, d0 3 [19], d2 5 [7] 7 7, d2 6 [7] 7 7, d1 7 [7] 7, d2 8 [150] 7 150, d0 9 [20], d2 11 [7] 7 7, d1 12 [9] 9, d2 13 [155] 9 155, d0 14 [24], d2 18 [7] 7 7, d1 19 [7] 7, d2 20 [162] 7 162, d0 21 [21], d2 23 [7] 7 7, d2 24 [7] 7 7, d1 25 [7] 7, d2 26 [168] 7 168, d0 27 [22], d0 28 [170], d2 30 [7] 7 7, d0 31 [31], d0 32 [24], d2 36 [7] 7 7, d2 37 [7] 7 7, d0 38 [1], d0 39 [22], d0 40 [182], d2 42 [7] 7 7, d0 43 [32], d0 44 [24], d3 4 [143, 145, 146], d3 10 [149, 151, 152], d3 15 [154, 156, 157], d0 16 [153, 158], ⟨17, [148, 159], [], none, true, true, true⟩, d3 22 [161, 163, 164], d3 29 [167, 169, 171], d3 33 [173, 174, 175], d0 34 [172, 176], ⟨35, [166, 177], [], none, true, true, true⟩, d3 41 [180, 181, 183], d3 45 [185, 186, 187], d0 46 [184, 188], ⟨47, [179, 189], [], none, true, true, true⟩, d0 48 [147, 160, 165, 178, 190], d1 49 [25] 25, d1 50 [192] 25, ⟨51, [193, 191], [25], some 193, true, true, true⟩]
end
end Go.Pm
