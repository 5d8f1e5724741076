/-
  Plain functions and their walks. Written by wip/tools/lift.py.
-/
import Derived.Test.YtnghbnplpfnpaaaGreatPS
namespace Go.Pm
open Go.Am IntKind
open Go.Proofs
set_option maxRecDepth 100000
attribute [local irreducible] pw pwx pw1 pwg qv qz qf
attribute [-simp] List.map_set
set_option linter.unusedSimpArgs false
set_option linter.unusedVariables false
structure Proof where
 Commits : (List Int)
 Challenges : (List Int)
 Responses : (List Int)
structure Head where
 Author : Int
 Size : Int
 Root : Int
 Sign : Proof
structure Reader where
 Heads : (List Head)
structure l1Cur where
 code : (List Int)
 at_ : Int
 seed : Int
structure Group where
 P : Int
 Q : Int
 G : Int
structure l3State where
 s : Int
 t : Int
structure ForkEvidence where
 First : Head
 Second : Head
def zag (x : Int) : List PV := [.int .u8 x]
@[go_sem] theorem zkR {x : Int} : zag x = [.int .u8 x] := (rfl)
@[go_sem] theorem zhi {l : List Int} : List.map (List.map drop ∘ zag) l = l.map zag := by refine List.map_congr_left fun x _ => ?_; simp [go_sem]
@[go_sem] theorem zks {l : List Int} : List.map (List.map drop) (l.map zag) = l.map zag := by rw [List.map_map]; exact zhi
@[go_sem] theorem zkJ {l : List Int} {i : Nat} {a : Int} : (l.map zag).set i [.int .u8 a] = (l.set i a).map zag := by rw [List.map_set]; rfl
def zaa (x : Int) : List PV := [.int .i64 x]
@[go_sem] theorem zkL {x : Int} : zaa x = [.int .i64 x] := (rfl)
@[go_sem] theorem zgQ {l : List Int} : List.map (List.map drop ∘ zaa) l = l.map zaa := by refine List.map_congr_left fun x _ => ?_; simp [go_sem]
@[go_sem] theorem zkc {l : List Int} : List.map (List.map drop) (l.map zaa) = l.map zaa := by rw [List.map_map]; exact zgQ
@[go_sem] theorem zkA {l : List Int} {i : Nat} {a : Int} : (l.map zaa).set i [.int .i64 a] = (l.set i a).map zaa := by rw [List.map_set]; rfl
def zaf (x : (List Int)) : List PV := [.sl false 1 (x.map zaa)]
@[go_sem] theorem zky {x : (List Int)} : zaf x = [.sl false 1 (x.map zaa)] := (rfl)
@[go_sem] theorem zgE {l : List (List Int)} : List.map (List.map drop ∘ zaf) l = l.map zaf := by refine List.map_congr_left fun x _ => ?_; simp [go_sem]
@[go_sem] theorem zj2 {l : List (List Int)} : List.map (List.map drop) (l.map zaf) = l.map zaf := by rw [List.map_map]; exact zgE
@[go_sem] theorem zkq {l : List (List Int)} {i : Nat} {a : (List Int)} : (l.map zaf).set i [.sl false 1 (a.map zaa)] = (l.set i a).map zaf := by rw [List.map_set]; rfl
def zad (x : Head) : List PV := [.int .i64 x.Author, .int .i64 x.Size, .int .i64 x.Root, .sl false 1 (x.Sign.Commits.map zaa), .sl false 1 (x.Sign.Challenges.map zaa), .sl false 1 (x.Sign.Responses.map zaa)]
@[go_sem] theorem zkB {x : Head} : zad x = [.int .i64 x.Author, .int .i64 x.Size, .int .i64 x.Root, .sl false 1 (x.Sign.Commits.map zaa), .sl false 1 (x.Sign.Challenges.map zaa), .sl false 1 (x.Sign.Responses.map zaa)] := (rfl)
@[go_sem] theorem zgJ {l : List Head} : List.map (List.map drop ∘ zad) l = l.map zad := by refine List.map_congr_left fun x _ => ?_; simp [go_sem]
@[go_sem] theorem zj8 {l : List Head} : List.map (List.map drop) (l.map zad) = l.map zad := by rw [List.map_map]; exact zgJ
@[go_sem] theorem zkd {l : List Head} {i : Nat} {Author : Int} {Size : Int} {Root : Int} {SignCommits : (List Int)} {SignChallenges : (List Int)} {SignResponses : (List Int)} : (l.map zad).set i [.int .i64 Author, .int .i64 Size, .int .i64 Root, .sl false 1 (SignCommits.map zaa), .sl false 1 (SignChallenges.map zaa), .sl false 1 (SignResponses.map zaa)] = (l.set i (Head.mk Author Size Root (Proof.mk SignCommits SignChallenges SignResponses))).map zad := by rw [List.map_set]; rfl
@[go_sem] theorem zkr {l : List Head} {i : Nat} {Author : Int} {Size : Int} {Root : Int} {Sign : Proof} : (l.map zad).set i [.int .i64 Author, .int .i64 Size, .int .i64 Root, .sl false 1 (Sign.Commits.map zaa), .sl false 1 (Sign.Challenges.map zaa), .sl false 1 (Sign.Responses.map zaa)] = (l.set i (Head.mk Author Size Root Sign)).map zad := by rw [List.map_set]; rfl
def zae (x : Reader) : List PV := [.sl false 6 (x.Heads.map zad)]
@[go_sem] theorem zjg {x : Reader} : zae x = [.sl false 6 (x.Heads.map zad)] := (rfl)
@[go_sem] theorem zfD {l : List Reader} : List.map (List.map drop ∘ zae) l = l.map zae := by refine List.map_congr_left fun x _ => ?_; simp [go_sem]
@[go_sem] theorem zh5 {l : List Reader} : List.map (List.map drop) (l.map zae) = l.map zae := by rw [List.map_map]; exact zfD
@[go_sem] theorem ziX {l : List Reader} {i : Nat} {Heads : (List Head)} : (l.map zae).set i [.sl false 6 (Heads.map zad)] = (l.set i (Reader.mk Heads)).map zae := by rw [List.map_set]; rfl
def zaB (x : Reader) : List PV := [.sl true 6 (x.Heads.map zad)]
@[go_sem] theorem zjA {x : Reader} : zaB x = [.sl true 6 (x.Heads.map zad)] := (rfl)
@[go_sem] theorem zfI {l : List Reader} : List.map (List.map drop ∘ zaB) l = l.map zae := by refine List.map_congr_left fun x _ => ?_; simp [go_sem]
@[go_sem] theorem zh8 {l : List Reader} : List.map (List.map drop) (l.map zaB) = l.map zae := by rw [List.map_map]; exact zfI
@[go_sem] theorem ziO {l : List Reader} {i : Nat} {Heads : (List Head)} : (l.map zaB).set i [.sl true 6 (Heads.map zad)] = (l.set i (Reader.mk Heads)).map zaB := by rw [List.map_set]; rfl
def zbz (x : (List Int)) : List PV := [.sl true 1 (x.map zaa)]
@[go_sem] theorem zkz {x : (List Int)} : zbz x = [.sl true 1 (x.map zaa)] := (rfl)
@[go_sem] theorem zgG {l : List (List Int)} : List.map (List.map drop ∘ zbz) l = l.map zaf := by refine List.map_congr_left fun x _ => ?_; simp [go_sem]
@[go_sem] theorem zjQ {l : List (List Int)} : List.map (List.map drop) (l.map zbz) = l.map zaf := by rw [List.map_map]; exact zgG
@[go_sem] theorem zku {l : List (List Int)} {i : Nat} {a : (List Int)} : (l.map zbz).set i [.sl true 1 (a.map zaa)] = (l.set i a).map zbz := by rw [List.map_set]; rfl
def zay (x : Head) : List PV := [.int .i64 x.Author, .int .i64 x.Size, .int .i64 x.Root, .sl true 1 (x.Sign.Commits.map zaa), .sl true 1 (x.Sign.Challenges.map zaa), .sl true 1 (x.Sign.Responses.map zaa)]
@[go_sem] theorem zjf {x : Head} : zay x = [.int .i64 x.Author, .int .i64 x.Size, .int .i64 x.Root, .sl true 1 (x.Sign.Commits.map zaa), .sl true 1 (x.Sign.Challenges.map zaa), .sl true 1 (x.Sign.Responses.map zaa)] := (rfl)
@[go_sem] theorem zfC {l : List Head} : List.map (List.map drop ∘ zay) l = l.map zad := by refine List.map_congr_left fun x _ => ?_; simp [go_sem]
@[go_sem] theorem zih {l : List Head} : List.map (List.map drop) (l.map zay) = l.map zad := by rw [List.map_map]; exact zfC
@[go_sem] theorem ziN {l : List Head} {i : Nat} {Author : Int} {Size : Int} {Root : Int} {SignCommits : (List Int)} {SignChallenges : (List Int)} {SignResponses : (List Int)} : (l.map zay).set i [.int .i64 Author, .int .i64 Size, .int .i64 Root, .sl true 1 (SignCommits.map zaa), .sl true 1 (SignChallenges.map zaa), .sl true 1 (SignResponses.map zaa)] = (l.set i (Head.mk Author Size Root (Proof.mk SignCommits SignChallenges SignResponses))).map zay := by rw [List.map_set]; rfl
@[go_sem] theorem ziP {l : List Head} {i : Nat} {Author : Int} {Size : Int} {Root : Int} {Sign : Proof} : (l.map zay).set i [.int .i64 Author, .int .i64 Size, .int .i64 Root, .sl true 1 (Sign.Commits.map zaa), .sl true 1 (Sign.Challenges.map zaa), .sl true 1 (Sign.Responses.map zaa)] = (l.set i (Head.mk Author Size Root Sign)).map zay := by rw [List.map_set]; rfl
def zaq (x : Reader) : List PV := [.sl true 6 (x.Heads.map zay)]
@[go_sem] theorem zhT {x : Reader} : zaq x = [.sl true 6 (x.Heads.map zay)] := (rfl)
@[go_sem] theorem zeR {l : List Reader} : List.map (List.map drop ∘ zaq) l = l.map zae := by refine List.map_congr_left fun x _ => ?_; simp [go_sem]
@[go_sem] theorem zhk {l : List Reader} : List.map (List.map drop) (l.map zaq) = l.map zae := by rw [List.map_map]; exact zeR
@[go_sem] theorem zhF {l : List Reader} {i : Nat} {Heads : (List Head)} : (l.map zaq).set i [.sl true 6 (Heads.map zay)] = (l.set i (Reader.mk Heads)).map zaq := by rw [List.map_set]; rfl
def zdo (x : Bool) : List PV := [.bool x]
@[go_sem] theorem zkV {x : Bool} : zdo x = [.bool x] := (rfl)
@[go_sem] theorem zhR {l : List Bool} : List.map (List.map drop ∘ zdo) l = l.map zdo := by refine List.map_congr_left fun x _ => ?_; simp [go_sem]
@[go_sem] theorem zkC {l : List Bool} : List.map (List.map drop) (l.map zdo) = l.map zdo := by rw [List.map_map]; exact zhR
@[go_sem] theorem zkQ {l : List Bool} {i : Nat} {a : Bool} : (l.map zdo).set i [.bool a] = (l.set i a).map zdo := by rw [List.map_set]; rfl
noncomputable def zem (a0 : (List Int)) (a1 : (List Int)) : Option (Bool) :=
 ((if decide (1048576 < (a0.length : Int)) = true then (
 some true) else (
 some (decide ((i64.wrap (1048576 - (a0.length : Int))) < (a1.length : Int)))) : Option (Bool)).bind fun x3 =>
 some x3)
theorem zhP : ∀ {a0} {a1} {r}, zem a0 a1 = some r → PCalls Tryz.prog 5 [(.sh, .sl false 1 (a0.map zag)), (.sh, .sl false 1 (a1.map zag))] (Eo (.bool r) [.junk, .junk]) := by
 intro a0 a1 r hr
 apply pF 16 [] [] [] [.tmp 4] hr cl5 Tryz.func5
 intro Φ hΦ hF g
 unfold zem at hF
 try simp [go_sem, g]
 refine pw_wk ?_
 repeat rw [sq]
 refine pJ hF (fun x3 => [(4, .v (.bool x3))]) (fun x3 hF => ?_) fun _ hj1 hF => ?_
 ·cases hΦ _ (Rn_some hF)
  try simp [go_sem, g]
 ·try simp [go_sem, g]
  try intros
  refine pwg_F hF (fun h4 hF => ?_) fun h4 hF => ?_
  ·try simp [go_sem, g, h4]
   exact pT (hj1 true) (Rn_some hF)
  ·try simp [go_sem, g, h4]
   try intros
   exact pT (hj1 (decide ((i64.wrap (1048576 - (a0.length : Int))) < (a1.length : Int)))) (Rn_some hF)
def zji : List DE := [d0 0 [0], d0 1 [4], d0 2 [5], d0 3 [6], d0 4 [0], d0 5 [8], d0 6 [9], d0 7 [10], d0 8 [11], d0 9 [7, 12]]
def zjr : List DE := [d0 0 [0], d0 1 [14], d0 2 [15], d0 3 [16], d0 4 [0], d0 5 [18], d0 6 [19], d0 7 [20], d0 8 [17, 21], d0 9 [22], d0 10 [23], d0 11 [24]]
def zjy : List DE := [d0 0 [0], d0 1 [44], d0 2 [45], d0 3 [46], d0 4 [0], d0 5 [48], d0 6 [49], d0 7 [50], d0 8 [51], d0 9 [47, 52]]
noncomputable def za3 (a0c0 : (List Int)) (a0c1 : Int) (a0c2 : Int) : Option (Int × ((List Int) × Int × Int)) :=
 ((if decide (a0c1 < (a0c0.length : Int)) = true then (
 (ix a0c0 a0c1).bind fun x5 =>
 some (i64.wrap x5)) else (
 some 0) : Option (Int)).bind fun x3 =>
 if decide ((i64.wrap (a0c1 + 1)) ≤ (a0c0.length : Int)) = true then (
 some (x3, (a0c0, i64.wrap (a0c1 + 1), u64.wrap ((u64.wrap ((u64.wrap (a0c2 * 6364136223846793005)) + (u64.wrap x3))) + 1442695040888963407)))) else (
 some (i64.wrap (u64.wrap ((BitVec.ofInt u64.bits ((u64.wrap ((u64.wrap ((u64.wrap (a0c2 * 6364136223846793005)) + (u64.wrap x3))) + 1442695040888963407)).fdiv 1099511627776) &&& BitVec.ofInt u64.bits 255).toNat)), (a0c0, i64.wrap (a0c1 + 1), u64.wrap ((u64.wrap ((u64.wrap (a0c2 * 6364136223846793005)) + (u64.wrap x3))) + 1442695040888963407)))))
theorem zdy : ∀ {a0c0} {a0c1} {a0c2} {r}, za3 a0c0 a0c1 a0c2 = some r → PCalls Tryz.prog 73 [(.io, .bx [.sl false 1 (a0c0.map zag), .int .i64 a0c1, .int .u64 a0c2])] (Eo (.int .i64 r.1) [.bx [.sl false 1 (r.2.1.map zag), .int .i64 r.2.2.1, .int .u64 r.2.2.2]]) := by
 intro a0c0 a0c1 a0c2 r hr
 apply pF 62 [0] [] [] [.tmp 2] hr cl73 Tryz.func73
 intro Φ hΦ hF g
 unfold za3 at hF
 iterate 2 (try simp [go_sem, g]; refine pw_wk ?_)
 repeat rw [sq]
 refine pw_draw zji follows (by kernel_rfl) rfl ?_
 try simp only [go_sem, zji]
 try simp [go_sem, g]
 try intros
 refine pw_wkK [0, 3, 13] (by simp [go_sem, g]; rfl) ?_
 repeat rw [sq]
 refine pJ hF (fun x3 => [(0, .v (.bx [.sl false 1 (a0c0.map zag), .int .i64 a0c1, .int .u64 a0c2])), (3, .v (.int .i64 x3))]) (fun x3 hF => ?_) fun _ hj1 hF => ?_
 ·try simp [go_sem, g]
  refine pw_wk ?_
  try simp [go_sem, g]
  refine pw_wkK [0, 3] (by simp [go_sem, g]; rfl) ?_
  repeat rw [sq]
  refine pw_draw zjy follows (by kernel_rfl) rfl ?_
  try simp only [go_sem, zjy]
  try simp [go_sem, g]
  try intros
  refine pw_wkK [0, 3, 53] (by simp [go_sem, g]; rfl) ?_
  repeat rw [sq]
  refine pI hF (fun h6 hF => ?_) (fun h6 hF => ?_)
  ·cases hΦ _ (Rn_some hF)
   try simp [go_sem, g]
   refine pw_wk ?_
   try simp [go_sem, g]
  ·have g := Ls g 40
   cases hΦ _ (Rn_some hF)
   iterate 2 (try simp [go_sem, g]; refine pw_wk ?_)
   try simp [go_sem, g]
 ·repeat rw [sq]
  refine pI hF (fun h4 hF => ?_) (fun h4 hF => ?_)
  ·repeat rw [sq]
   refine pw_draw zjr follows (by kernel_rfl) rfl ?_
   try simp only [go_sem, zjr]
   obtain ⟨x5, g, hF⟩ := Rx g hF
   try simp [go_sem, g]
   exact pT (hj1 (i64.wrap x5)) (Rn_some hF)
  ·try simp [go_sem, g]
   exact pT (hj1 0) (Rn_some hF)
noncomputable def zac (a0c0 : (List Int)) (a0c1 : Int) (a0c2 : Int) (a1 : Int) : Option (Int × ((List Int) × Int × Int)) :=
 if decide (a1 ≤ 1) = true then (
 some (0, (a0c0, a0c1, a0c2))) else (
 (za3 a0c0 a0c1 a0c2).bind fun z2 =>
 ((if decide (200 < a1) = true then (
 (za3 z2.2.1 z2.2.2.1 z2.2.2.2).bind fun z7 =>
 some ((z7.2.1, z7.2.2.1, z7.2.2.2), i64.wrap ((i64.wrap (z2.1 * 256)) + z7.1))) else (
 some ((z2.2.1, z2.2.2.1, z2.2.2.2), z2.1)) : Option ((((List Int) × Int × Int) × Int))).bind fun x5 =>
 gd (a1 ≠ 0) <|
 some (x5.2.tmod a1, (x5.1.1, x5.1.2.1, x5.1.2.2))))
theorem zab : ∀ {a0c0} {a0c1} {a0c2} {a1} {r}, zac a0c0 a0c1 a0c2 a1 = some r → PCalls Tryz.prog 37 [(.io, .bx [.sl false 1 (a0c0.map zag), .int .i64 a0c1, .int .u64 a0c2]), (.sh, .int .i64 a1)] (Eo (.int .i64 r.1) [.bx [.sl false 1 (r.2.1.map zag), .int .i64 r.2.2.1, .int .u64 r.2.2.2], .junk]) := by
 intro a0c0 a0c1 a0c2 a1 r hr
 apply pF 20 [0] [] [] [.tmp 4] hr cl37 Tryz.func37
 intro Φ hΦ hF g
 unfold zac at hF
 iterate 2 (try simp [go_sem, g]; refine pw_wk ?_)
 repeat rw [sq]
 refine pI hF (fun h1 hF => ?_) (fun h1 hF => ?_)
 ·cases hΦ _ (Rn_some hF)
  try simp [go_sem, g]
  refine pw_wk ?_
  try simp [go_sem, g]
 ·try simp [go_sem, g]
  refine pw_wk ?_
  try simp [go_sem, g]
  refine pC hF [.io] zdy (fun z2 hF => ?_)
  iterate 2 (try simp [go_sem, g]; refine pw_wk ?_)
  repeat rw [sq]
  refine pJ hF (fun x5 => [(0, .v (.bx [.sl false 1 (x5.1.1.map zag), .int .i64 x5.1.2.1, .int .u64 x5.1.2.2])), (1, .v (.int .i64 a1)), (5, .v (.int .i64 x5.2))]) (fun x5 hF => ?_) fun _ hj3 hF => ?_
  ·obtain ⟨g, hF⟩ := Rz g hF
   try simp [go_sem, g]
   refine pw_wkK [0, 4] (by simp [go_sem, g]; rfl) ?_
   cases hΦ _ (Rn_some hF)
   try simp [go_sem, g]
  ·repeat rw [sq]
   refine pI hF (fun h6 hF => ?_) (fun h6 hF => ?_)
   ·try simp [go_sem, g]
    refine pC hF [.io] zdy (fun z7 hF => ?_)
    try simp [go_sem, g]
    exact pT (hj3 ((z7.2.1, z7.2.2.1, z7.2.2.2), i64.wrap ((i64.wrap (z2.1 * 256)) + z7.1))) (Rn_some hF)
   ·try simp [go_sem, g]
    exact pT (hj3 ((z2.2.1, z2.2.2.1, z2.2.2.2), z2.1)) (Rn_some hF)
noncomputable def zdq (a0c0 : (List Int)) (a0c1 : Int) (a0c2 : Int) (a1 : (List Int)) : Option (Int × ((List Int) × Int × Int)) :=
 (zac a0c0 a0c1 a0c2 (a1.length : Int)).bind fun z1 =>
 (ix a1 z1.1).bind fun x2 =>
 some (x2, (z1.2.1, z1.2.2.1, z1.2.2.2))
theorem zhf : ∀ {a0c0} {a0c1} {a0c2} {a1} {r}, zdq a0c0 a0c1 a0c2 a1 = some r → PCalls Tryz.prog 48 [(.io, .bx [.sl false 1 (a0c0.map zag), .int .i64 a0c1, .int .u64 a0c2]), (.sh, .sl false 1 (a1.map zaa))] (Eo (.int .i64 r.1) [.bx [.sl false 1 (r.2.1.map zag), .int .i64 r.2.2.1, .int .u64 r.2.2.2], .junk]) := by
 intro a0c0 a0c1 a0c2 a1 r hr
 apply pF 12 [0] [] [] [.tmp 4] hr cl48 Tryz.func48
 intro Φ hΦ hF g
 unfold zdq at hF
 try simp [go_sem, g]
 try intros
 refine pw_wk ?_
 try simp [go_sem, g]
 try intros
 refine pC hF [.io, .sh] zab (fun z1 hF => ?_)
 obtain ⟨x2, g, hF⟩ := Rx g hF
 cases hΦ _ (Rn_some hF)
 try simp [go_sem, g]
 refine pw_wk ?_
 try simp [go_sem, g]
noncomputable def zah (a0c0 : (List Int)) (a0c1 : Int) (a0c2 : Int) (a1 : (List Int)) : Option (Int × ((List Int) × Int × Int)) :=
 (zac a0c0 a0c1 a0c2 (a1.length : Int)).bind fun z1 =>
 (ix a1 z1.1).bind fun x2 =>
 some (x2, (z1.2.1, z1.2.2.1, z1.2.2.2))
theorem zao : ∀ {a0c0} {a0c1} {a0c2} {a1} {r}, zah a0c0 a0c1 a0c2 a1 = some r → PCalls Tryz.prog 48 [(.io, .bx [.sl false 1 (a0c0.map zag), .int .i64 a0c1, .int .u64 a0c2]), (.mv, .sl true 1 (a1.map zaa))] (Eo (.int .i64 r.1) [.bx [.sl false 1 (r.2.1.map zag), .int .i64 r.2.2.1, .int .u64 r.2.2.2], .junk]) := by
 intro a0c0 a0c1 a0c2 a1 r hr
 apply pF 12 [0] [] [] [.tmp 4] hr cl48 Tryz.func48
 intro Φ hΦ hF g
 unfold zah at hF
 try simp [go_sem, g]
 try intros
 refine pw_wk ?_
 try simp [go_sem, g]
 try intros
 refine pC hF [.io, .sh] zab (fun z1 hF => ?_)
 obtain ⟨x2, g, hF⟩ := Rx g hF
 cases hΦ _ (Rn_some hF)
 try simp [go_sem, g]
 refine pw_wk ?_
 try simp [go_sem, g]
noncomputable def zaC (a0 : Int) (a1 : Int) (a2 : Int) : Option (Bool) :=
 ((if decide (a1 ≤ a0) = true then (
 some (decide (a0 ≤ a2))) else (
 some false) : Option (Bool)).bind fun x3 =>
 some x3)
theorem za5 : ∀ {a0} {a1} {a2} {r}, zaC a0 a1 a2 = some r → PCalls Tryz.prog 50 [(.sh, .int .i64 a0), (.sh, .int .i64 a1), (.sh, .int .i64 a2)] (Eo (.bool r) [.junk, .junk, .junk]) := by
 intro a0 a1 a2 r hr
 apply pF 15 [] [] [] [.tmp 6] hr cl50 Tryz.func50
 intro Φ hΦ hF g
 unfold zaC at hF
 try simp [go_sem, g]
 refine pw_wk ?_
 repeat rw [sq]
 refine pJ hF (fun x3 => [(6, .v (.bool x3))]) (fun x3 hF => ?_) fun _ hj1 hF => ?_
 ·cases hΦ _ (Rn_some hF)
  try simp [go_sem, g]
 ·try simp [go_sem, g]
  refine pwg_F hF (fun h4 hF => ?_) fun h4 hF => ?_
  ·try simp [go_sem, g, h4]
   exact pT (hj1 (decide (a0 ≤ a2))) (Rn_some hF)
  ·try simp [go_sem, g, h4]
   exact pT (hj1 false) (Rn_some hF)
noncomputable def zbS (a0 : Int) : Option (Bool) :=
 if decide (a0 < 2) = true then (
 some false) else (
 ((wloop (σ := Int) (fun s5 =>
 if decide ((i64.wrap (s5 * s5)) ≤ a0) = true then (
 gd (s5 ≠ 0) <|
 if ((a0.tmod s5) == 0) = true then (
 some (.out (.inr false))) else (
 some (.go (i64.wrap (s5 + 1))))) else (
 some (.out (.inl ())))) 2 : Option (Unit ⊕ Bool)).bind (Sum.elim (fun x4 =>
 some true) some)))
theorem zdA : ∀ {a0} {r}, zbS a0 = some r → PCalls Tryz.prog 85 [(.sh, .int .i64 a0)] (Eo (.bool r) [.junk]) := by
 intro a0 r hr
 apply pF 17 [] [] [] [.tmp 2] hr cl85 Tryz.func85
 intro Φ hΦ hF g
 unfold zbS at hF
 iterate 2 (try simp [go_sem, g]; refine pw_wk ?_)
 repeat rw [sq]
 refine pI hF (fun h1 hF => ?_) (fun h1 hF => ?_)
 ·cases hΦ _ (Rn_some hF)
  try simp [go_sem, g]
  refine pw_wk ?_
  try simp [go_sem, g]
 ·iterate 2 (try simp [go_sem, g]; refine pw_wk ?_)
  repeat rw [sq]
  refine pJs hF (fun x4 => []) (fun x4 hF => ?_) fun _ hj2 hr3 hF => ?_
  ·cases hΦ _ (Rn_some hF)
   try simp [go_sem, g]
   refine pw_wk ?_
   try simp [go_sem, g]
  ·repeat rw [sq]
   rw [pw_block]
   obtain ⟨b12, hb13, hψ9⟩ := hF
   refine pL hb13 (fun s5 => [(0, .v (.int .i64 a0)), (3, .v (.int .i64 s5))]) (fun s5 _ _ ho7 hg8 hF => ?_)
   try simp [go_sem, g]
   refine pw_wk ?_
   repeat rw [sq]
   refine pI hF (fun h10 hF => ?_) (fun h10 hF => ?_)
   ·try simp [go_sem, g]
    refine pw_wk ?_
    repeat rw [sq]
    rw [pw_block]
    obtain ⟨g, hF⟩ := Rz g hF
    try simp [go_sem, g]
    refine pw_wkK [0, 3, 16] (by simp [go_sem, g]; rfl) ?_
    repeat rw [sq]
    refine pI hF (fun h11 hF => ?_) (fun h11 hF => ?_)
    ·cases ho7 _ (Rn_some hF)
     cases hΦ _ (hr3 _ hψ9)
     try simp [go_sem, g]
     refine pw_wk ?_
     try simp [go_sem, g]
    ·try simp [go_sem, g]
     refine pw_wk ?_
     try simp [go_sem, g]
     exact pT (hg8 (i64.wrap (s5 + 1))) (Rn_some hF)
   ·try simp [go_sem, g]
    cases ho7 _ (Rn_some hF)
    exact pT (hj2 ()) hψ9
noncomputable def zaW (a0 : Int) (a1 : Int) (a2 : Int) : Option (Int) :=
 gd (a2 ≠ 0) <|
 ((wloop (σ := Int × Int × Int) (fun s4 =>
 if decide (0 < s4.2.1) = true then (
 ((if ((s4.2.1.tmod 2) == 1) = true then (
 gd (a2 ≠ 0) <|
 some ((i64.wrap (s4.2.2 * s4.1)).tmod a2)) else (
 some s4.2.2) : Option (Int)).bind fun x12 =>
 gd (a2 ≠ 0) <|
 some (.go ((i64.wrap (s4.1 * s4.1)).tmod a2, i64.wrap (s4.2.1.tdiv 2), x12)))) else (
 some (.out s4.2.2))) (a0, a1, (1 : Int).tmod a2) : Option (Int)).bind fun x3 =>
 some x3)
theorem zc7 : ∀ {a0} {a1} {a2} {r}, zaW a0 a1 a2 = some r → PCalls Tryz.prog 84 [(.sh, .int .i64 a0), (.sh, .int .i64 a1), (.sh, .int .i64 a2)] (Eo (.int .i64 r) [.junk, .junk, .junk]) := by
 intro a0 a1 a2 r hr
 apply pF 28 [] [] [] [.tmp 6] hr cl84 Tryz.func84
 intro Φ hΦ hF g
 unfold zaW at hF
 obtain ⟨g, hF⟩ := Rz g hF
 iterate 2 (try simp [go_sem, g]; refine pw_wk ?_)
 repeat rw [sq]
 refine pJ hF (fun x3 => [(7, .v (.int .i64 x3))]) (fun x3 hF => ?_) fun _ hj1 hF => ?_
 ·cases hΦ _ (Rn_some hF)
  try simp [go_sem, g]
  refine pw_wk ?_
  try simp [go_sem, g]
 ·repeat rw [sq]
  rw [pw_block]
  obtain ⟨b14, hb15, hψ8⟩ := hF
  refine pL hb15 (fun s4 => [(0, .v (.int .i64 s4.1)), (1, .v (.int .i64 s4.2.1)), (2, .v (.int .i64 a2)), (7, .v (.int .i64 s4.2.2))]) (fun s4 _ _ ho6 hg7 hF => ?_)
  try simp [go_sem, g]
  refine pw_wk ?_
  repeat rw [sq]
  refine pI hF (fun h9 hF => ?_) (fun h9 hF => ?_)
  ·try simp [go_sem, g]
   refine pw_wk ?_
   repeat rw [sq]
   rw [pw_block]
   have g := Ld g 2
   try simp [go_sem, g]
   refine pw_wk ?_
   repeat rw [sq]
   refine pJ hF (fun x12 => [(0, .v (.int .i64 s4.1)), (1, .v (.int .i64 s4.2.1)), (2, .v (.int .i64 a2)), (7, .v (.int .i64 x12))]) (fun x12 hF => ?_) fun _ hj10 hF => ?_
   ·obtain ⟨g, hF⟩ := Rz g hF
    try simp [go_sem, g]
    refine pw_wkK [0, 1, 2, 7] (by simp [go_sem, g]; rfl) ?_
    try simp [go_sem, g]
    exact pT (hg7 ((i64.wrap (s4.1 * s4.1)).tmod a2, i64.wrap (s4.2.1.tdiv 2), x12)) (Rn_some hF)
   ·repeat rw [sq]
    refine pI hF (fun h13 hF => ?_) (fun h13 hF => ?_)
    ·obtain ⟨g, hF⟩ := Rz g hF
     try simp [go_sem, g]
     exact pT (hj10 ((i64.wrap (s4.2.2 * s4.1)).tmod a2)) (Rn_some hF)
    ·try simp [go_sem, g]
     exact pT (hj10 s4.2.2) (Rn_some hF)
  ·try simp [go_sem, g]
   cases ho6 _ (Rn_some hF)
   exact pT (hj1 s4.2.2) hψ8
noncomputable def zb6 (a0 : Int) : Option (Group × Bool) :=
 (((zaC a0 2 1000000).bind fun z4 =>
 if (!z4) = true then (
 some true) else (
 (zbS a0).bind fun z6 =>
 some (!z6)) : Option (Bool)).bind fun x3 =>
 if x3 = true then (
 some ((Group.mk 0 0 0), false)) else (
 ((wloop (σ := Int) (fun s11 =>
 if decide (s11 ≤ 2000000000) = true then (
 (zbS s11).bind fun z17 =>
 if (!z17) = true then (
 some (.go (i64.wrap (s11 + a0)))) else (
 ((wloop (σ := Int) (fun s22 =>
 gd (a0 ≠ 0) <|
 (zaW s22 (i64.wrap ((i64.wrap (s11 - 1)).tdiv a0)) s11).bind fun z27 =>
 if (z27 == 1) = true then (
 some (.go (i64.wrap (s22 + 1)))) else (
 some (.out s22))) 2 : Option (Int)).bind fun x21 =>
 gd (a0 ≠ 0) <|
 (zaW x21 (i64.wrap ((i64.wrap (s11 - 1)).tdiv a0)) s11).bind fun z31 =>
 some (.out (.inr ((Group.mk s11 a0 z31), true)))))) else (
 some (.out (.inl ())))) (i64.wrap (a0 + 1)) : Option (Unit ⊕ (Group × Bool))).bind (Sum.elim (fun x10 =>
 some ((Group.mk 0 0 0), false)) some))))
theorem zex : ∀ {a0} {r}, zb6 a0 = some r → PCalls Tryz.prog 109 [(.sh, .int .i64 a0)] (Eo (.tup [.agg [.int .i64 r.1.P, .int .i64 r.1.Q, .int .i64 r.1.G], .bool r.2]) [.junk]) := by
 intro a0 r hr
 apply pF 46 [] [] [] [.cell 2 25, .tmp 3] hr cl109 Tryz.func109
 intro Φ hΦ hF g
 unfold zb6 at hF
 try simp [go_sem, g]
 refine pw_wk ?_
 repeat rw [sq]
 refine pJ hF (fun x3 => [(0, .v (.int .i64 a0)), (2, .bl [.int .i64 0, .int .i64 0, .int .i64 0]), (13, .v (.bool x3))]) (fun x3 hF => ?_) fun _ hj1 hF => ?_
 ·repeat rw [sq]
  refine pI hF (fun h7 hF => ?_) (fun h7 hF => ?_)
  ·cases hΦ _ (Rn_some hF)
   try simp [go_sem, g]
   refine pw_wk ?_
   try simp [go_sem, g]
  ·iterate 2 (try simp [go_sem, g]; refine pw_wk ?_)
   repeat rw [sq]
   refine pJs hF (fun x10 => [(2, .bl [.int .i64 0, .int .i64 0, .int .i64 0])]) (fun x10 hF => ?_) fun _ hj8 hr9 hF => ?_
   ·cases hΦ _ (Rn_some hF)
    try simp [go_sem, g]
    refine pw_wk ?_
    try simp [go_sem, g]
   ·repeat rw [sq]
    rw [pw_block]
    obtain ⟨b32, hb33, hψ15⟩ := hF
    refine pL hb33 (fun s11 => [(0, .v (.int .i64 a0)), (2, .bl [.int .i64 0, .int .i64 0, .int .i64 0]), (4, .v (.int .i64 s11))]) (fun s11 _ _ ho13 hg14 hF => ?_)
    try simp [go_sem, g]
    refine pw_wk ?_
    repeat rw [sq]
    refine pI hF (fun h16 hF => ?_) (fun h16 hF => ?_)
    ·try simp [go_sem, g]
     refine pw_wk ?_
     repeat rw [sq]
     rw [pw_block]
     try simp [go_sem, g]
     refine pC hF [.sh] zdA (fun z17 hF => ?_)
     try simp [go_sem, g]
     refine pw_wkK [0, 2, 4, 24] (by simp [go_sem, g]; rfl) ?_
     repeat rw [sq]
     refine pI hF (fun h18 hF => ?_) (fun h18 hF => ?_)
     ·try simp [go_sem, g]
      refine pw_wk ?_
      try simp [go_sem, g]
      exact pT (hg14 (i64.wrap (s11 + a0))) (Rn_some hF)
     ·iterate 2 (try simp [go_sem, g]; refine pw_wk ?_)
      repeat rw [sq]
      refine pJ hF (fun x21 => [(0, .v (.int .i64 a0)), (2, .bl [.int .i64 0, .int .i64 0, .int .i64 0]), (4, .v (.int .i64 s11)), (5, .v (.int .i64 x21))]) (fun x21 hF => ?_) fun _ hj19 hF => ?_
      ·obtain ⟨g, hF⟩ := Rz g hF
       try simp [go_sem, g]
       refine pC hF [.sh, .sh, .sh] zc7 (fun z31 hF => ?_)
       try simp [go_sem, g]
       refine pw_wkK [2, 3] (by simp [go_sem, g]; rfl) ?_
       cases ho13 _ (Rn_some hF)
       cases hΦ _ (hr9 _ hψ15)
       try simp [go_sem, g]
      ·repeat rw [sq]
       rw [pw_block]
       obtain ⟨b29, hb30, hψ26⟩ := hF
       refine pL hb30 (fun s22 => [(0, .v (.int .i64 a0)), (2, .bl [.int .i64 0, .int .i64 0, .int .i64 0]), (4, .v (.int .i64 s11)), (5, .v (.int .i64 s22))]) (fun s22 _ _ ho24 hg25 hF => ?_)
       obtain ⟨g, hF⟩ := Rz g hF
       try simp [go_sem, g]
       refine pC hF [.sh, .sh, .sh] zc7 (fun z27 hF => ?_)
       try simp [go_sem, g]
       refine pw_wk ?_
       repeat rw [sq]
       refine pI hF (fun h28 hF => ?_) (fun h28 hF => ?_)
       ·try simp [go_sem, g]
        refine pw_wk ?_
        repeat rw [sq]
        rw [pw_block]
        try simp [go_sem, g]
        exact pT (hg25 (i64.wrap (s22 + 1))) (Rn_some hF)
       ·try simp [go_sem, g]
        cases ho24 _ (Rn_some hF)
        first | exact pT (hj19 s22) hψ26 | exact pT (hj19 _) hψ26
    ·try simp [go_sem, g]
     cases ho13 _ (Rn_some hF)
     exact pT (hj8 ()) hψ15
 ·try simp [go_sem, g]
  refine pC hF [.sh, .sh, .sh] za5 (fun z4 hF => ?_)
  try simp [go_sem, g]
  refine pwg_F hF (fun h5 hF => ?_) fun h5 hF => ?_
  ·try simp [go_sem, g, h5]
   exact pT (hj1 true) (Rn_some hF)
  ·try simp [go_sem, g, h5]
   refine pC hF [.sh] zdA (fun z6 hF => ?_)
   try simp [go_sem, g, h5]
   exact pT (hj1 (!z6)) (Rn_some hF)
noncomputable def zbu (a0c0 : (List Int)) (a0c1 : Int) (a0c2 : Int) : Option (Group × ((List Int) × Int × Int)) :=
 (zah a0c0 a0c1 a0c2 [3, 5, 5, 7, 11, 11, 13, 23]).bind fun z1 =>
 (zb6 z1.1).bind fun z2 =>
 some (z2.1, (z1.2.1, z1.2.2.1, z1.2.2.2))
theorem zeI : ∀ {a0c0} {a0c1} {a0c2} {r}, zbu a0c0 a0c1 a0c2 = some r → PCalls Tryz.prog 110 [(.io, .bx [.sl false 1 (a0c0.map zag), .int .i64 a0c1, .int .u64 a0c2])] (Eo (.agg [.int .i64 r.1.P, .int .i64 r.1.Q, .int .i64 r.1.G]) [.bx [.sl false 1 (r.2.1.map zag), .int .i64 r.2.2.1, .int .u64 r.2.2.2]]) := by
 intro a0c0 a0c1 a0c2 r hr
 apply pF 13 [0] [] [] [.cell 2 25] hr cl110 Tryz.func110
 intro Φ hΦ hF g
 unfold zbu at hF
 try simp [go_sem, g]
 refine pw_wk ?_
 try simp [go_sem, g]
 refine pC hF [.io, .mv] zao (fun z1 hF => ?_)
 try simp [go_sem, g]
 refine pC hF [.sh] zex (fun z2 hF => ?_)
 try simp [go_sem, g]
 refine pw_wkK [0, 2, 3] (by simp [go_sem, g]; rfl) ?_
 cases hΦ _ (Rn_some hF)
 try simp [go_sem, g]
 refine pw_wk ?_
 try simp [go_sem, g]
noncomputable def zcv (a0 : Int) (a1 : Int) : Option (Int) :=
 gd (a1 ≠ 0) <|
 gd (a1 ≠ 0) <|
 some ((i64.wrap ((a0.tmod a1) + a1)).tmod a1)
theorem zfK : ∀ {a0} {a1} {r}, zcv a0 a1 = some r → PCalls Tryz.prog 112 [(.sh, .int .i64 a0), (.sh, .int .i64 a1)] (Eo (.int .i64 r) [.junk, .junk]) := by
 intro a0 a1 r hr
 apply pF 12 [] [] [] [.tmp 4] hr cl112 Tryz.func112
 intro Φ hΦ hF g
 unfold zcv at hF
 obtain ⟨g, hF⟩ := Rz g hF
 obtain ⟨g, hF⟩ := Rz g hF
 cases hΦ _ (Rn_some hF)
 iterate 2 (try simp [go_sem, g]; refine pw_wk ?_)
 try simp [go_sem, g]
def zjC : List DE := [d0 0 [1], d0 1 [2], d1 2 [3] 3, d2 3 [9] 3 9, d1 5 [3] 3, d2 6 [12] 3 12, d3 4 [8, 10], d3 7 [7, 11, 13], d0 8 [14]]
noncomputable def zaE (a0 : Group) (a1 : Int) (a2 : Int) : Option (Int) :=
 (zcv a2 a0.Q).bind fun z1 =>
 (zaW a1 z1 a0.P).bind fun z2 =>
 some z2
theorem zdw : ∀ {a0} {a1} {a2} {r}, zaE a0 a1 a2 = some r → PCalls Tryz.prog 87 [(.sh, .agg [.int .i64 a0.P, .int .i64 a0.Q, .int .i64 a0.G]), (.sh, .int .i64 a1), (.sh, .int .i64 a2)] (Eo (.int .i64 r) [.junk, .junk, .junk]) := by
 intro a0 a1 a2 r hr
 apply pF 15 [] [] [] [.tmp 6] hr cl87 Tryz.func87
 intro Φ hΦ hF g
 unfold zaE at hF
 try simp [go_sem, g]
 refine pw_wk ?_
 repeat rw [sq]
 refine pw_draw zjC follows (by kernel_rfl) rfl ?_
 try simp only [go_sem, zjC]
 try simp [go_sem, g]
 refine pC hF [.sh, .sh] zfK (fun z1 hF => ?_)
 try simp [go_sem, g]
 refine pC hF [.sh, .sh, .sh] zc7 (fun z2 hF => ?_)
 try simp [go_sem, g]
 refine pw_wkK [6] (by simp [go_sem, g]; rfl) ?_
 cases hΦ _ (Rn_some hF)
 try simp [go_sem, g]
def zjw : List DE := [d2 0 [5] 5 5, d1 1 [5] 5, d2 2 [24] 5 24, d0 3 [0], d1 4 [5] 5, d2 5 [27] 5 27, d0 6 [28], d3 7 [26, 29], d0 8 [30], d3 9 [23, 25, 31], d1 10 [5] 5, d2 11 [33, 32] 5 33]
noncomputable def zbl (a0c0 : (List Int)) (a0c1 : Int) (a0c2 : Int) : Option (Group × ((List Int) × Int × Int)) :=
 (zac a0c0 a0c1 a0c2 6).bind fun z1 =>
 if (z1.1 == 0) = true then (
 some ((Group.mk 1000000007 500000003 4), (z1.2.1, z1.2.2.1, z1.2.2.2))) else (
 if (z1.1 == 1) = true then (
 (zah z1.2.1 z1.2.2.1 z1.2.2.2 [101, 1009, 1019, 65537, 999983]).bind fun z4 =>
 (zb6 z4.1).bind fun z5 =>
 some (z5.1, (z4.2.1, z4.2.2.1, z4.2.2.2))) else (
 (zbu z1.2.1 z1.2.2.1 z1.2.2.2).bind fun z6 =>
 (zac z6.2.1 z6.2.2.1 z6.2.2.2 (i64.wrap (z6.1.Q - 1))).bind fun z7 =>
 (zaE z6.1 z6.1.G (i64.wrap (1 + z7.1))).bind fun z8 =>
 some ((Group.mk z6.1.P z6.1.Q z8), (z7.2.1, z7.2.2.1, z7.2.2.2))))
theorem zeD : ∀ {a0c0} {a0c1} {a0c2} {r}, zbl a0c0 a0c1 a0c2 = some r → PCalls Tryz.prog 83 [(.io, .bx [.sl false 1 (a0c0.map zag), .int .i64 a0c1, .int .u64 a0c2])] (Eo (.agg [.int .i64 r.1.P, .int .i64 r.1.Q, .int .i64 r.1.G]) [.bx [.sl false 1 (r.2.1.map zag), .int .i64 r.2.2.1, .int .u64 r.2.2.2]]) := by
 intro a0c0 a0c1 a0c2 r hr
 apply pF 35 [0] [] [] [.cell 2 25] hr cl83 Tryz.func83
 intro Φ hΦ hF g
 unfold zbl at hF
 try simp [go_sem, g]
 refine pw_wk ?_
 try simp [go_sem, g]
 refine pC hF [.io, .sh] zab (fun z1 hF => ?_)
 try simp [go_sem, g]
 refine pw_wk ?_
 repeat rw [sq]
 rw [pw_block]
 try simp [go_sem, g]
 refine pw_wk ?_
 repeat rw [sq]
 refine pI hF (fun h2 hF => ?_) (fun h2 hF => ?_)
 ·cases hΦ _ (Rn_some hF)
  try simp [go_sem, g]
  refine pw_wk ?_
  try simp [go_sem, g]
 ·try simp [go_sem, g]
  refine pw_wk ?_
  repeat rw [sq]
  refine pI hF (fun h3 hF => ?_) (fun h3 hF => ?_)
  ·try simp [go_sem, g]
   refine pC hF [.io, .mv] zao (fun z4 hF => ?_)
   try simp [go_sem, g]
   refine pC hF [.sh] zex (fun z5 hF => ?_)
   try simp [go_sem, g]
   refine pw_wkK [0, 2, 3] (by simp [go_sem, g]; rfl) ?_
   cases hΦ _ (Rn_some hF)
   try simp [go_sem, g]
   refine pw_wk ?_
   try simp [go_sem, g]
  ·try simp [go_sem, g]
   refine pw_wk ?_
   try simp [go_sem, g]
   refine pC hF [.io] zeI (fun z6 hF => ?_)
   try simp [go_sem, g]
   refine pw_wkK [0, 2, 5] (by simp [go_sem, g]; rfl) ?_
   repeat rw [sq]
   refine pw_draw zjw follows (by kernel_rfl) rfl ?_
   try simp only [go_sem, zjw]
   try simp [go_sem, g]
   refine pC hF [.io, .sh] zab (fun z7 hF => ?_)
   try simp [go_sem, g]
   refine pC hF [.sh, .sh, .sh] zdw (fun z8 hF => ?_)
   try simp [go_sem, g]
   refine pw_wkK [0, 2, 5] (by simp [go_sem, g]; rfl) ?_
   cases hΦ _ (Rn_some hF)
   try simp [go_sem, g]
   refine pw_wk ?_
   try simp [go_sem, g]
noncomputable def za0 (a0c0 : (List Int)) (a0c1 : Int) (a0c2 : Int) : Option (Group × ((List Int) × Int × Int)) :=
 (zbl a0c0 a0c1 a0c2).bind fun z1 =>
 (zac z1.2.1 z1.2.2.1 z1.2.2.2 24).bind fun z2 =>
 ((if (z2.1 == 0) = true then (
 (zah z2.2.1 z2.2.2.1 z2.2.2.2 [0, i64.wrap (z1.1.P + 2), 4, (-7)]).bind fun z7 =>
 some ((z7.2.1, z7.2.2.1, z7.2.2.2), z7.1, z1.1.Q, z1.1.G)) else (
 if (z2.1 == 1) = true then (
 (zah z2.2.1 z2.2.2.1 z2.2.2.2 [0, 1, i64.wrap (z1.1.Q + 1), i64.wrap (z1.1.P - 1)]).bind fun z9 =>
 some ((z9.2.1, z9.2.2.1, z9.2.2.2), z1.1.P, z9.1, z1.1.G)) else (
 if (z2.1 == 2) = true then (
 (zah z2.2.1 z2.2.2.1 z2.2.2.2 [0, 1, i64.wrap (z1.1.P - 1), z1.1.P, i64.wrap (z1.1.G + 1)]).bind fun z11 =>
 some ((z11.2.1, z11.2.2.1, z11.2.2.2), z1.1.P, z1.1.Q, z11.1)) else (
 some ((z2.2.1, z2.2.2.1, z2.2.2.2), z1.1.P, z1.1.Q, z1.1.G)))) : Option ((((List Int) × Int × Int) × Int × Int × Int))).bind fun x5 =>
 some ((Group.mk x5.2.1 x5.2.2.1 x5.2.2.2), (x5.1.1, x5.1.2.1, x5.1.2.2)))
theorem zd7 : ∀ {a0c0} {a0c1} {a0c2} {r}, za0 a0c0 a0c1 a0c2 = some r → PCalls Tryz.prog 54 [(.io, .bx [.sl false 1 (a0c0.map zag), .int .i64 a0c1, .int .u64 a0c2])] (Eo (.agg [.int .i64 r.1.P, .int .i64 r.1.Q, .int .i64 r.1.G]) [.bx [.sl false 1 (r.2.1.map zag), .int .i64 r.2.2.1, .int .u64 r.2.2.2]]) := by
 intro a0c0 a0c1 a0c2 r hr
 apply pF 44 [0] [] [] [.cell 2 25] hr cl54 Tryz.func54
 intro Φ hΦ hF g
 unfold za0 at hF
 try simp [go_sem, g]
 refine pw_wk ?_
 try simp [go_sem, g]
 refine pC hF [.io] zeD (fun z1 hF => ?_)
 try simp [go_sem, g]
 refine pw_wk ?_
 try simp [go_sem, g]
 refine pC hF [.io, .sh] zab (fun z2 hF => ?_)
 try simp [go_sem, g]
 refine pw_wk ?_
 repeat rw [sq]
 refine pJ hF (fun x5 => [(0, .v (.bx [.sl false 1 (x5.1.1.map zag), .int .i64 x5.1.2.1, .int .u64 x5.1.2.2])), (2, .bl [.int .i64 0, .int .i64 0, .int .i64 0]), (3, .bl [.int .i64 x5.2.1, .int .i64 x5.2.2.1, .int .i64 x5.2.2.2])]) (fun x5 hF => ?_) fun _ hj3 hF => ?_
 ·cases hΦ _ (Rn_some hF)
  try simp [go_sem, g]
  refine pw_wk ?_
  try simp [go_sem, g]
 ·repeat rw [sq]
  rw [pw_block]
  try simp [go_sem, g]
  refine pw_wk ?_
  repeat rw [sq]
  refine pI hF (fun h6 hF => ?_) (fun h6 hF => ?_)
  ·try simp [go_sem, g]
   refine pC hF [.io, .mv] zao (fun z7 hF => ?_)
   try simp [go_sem, g]
   exact pT (hj3 ((z7.2.1, z7.2.2.1, z7.2.2.2), z7.1, z1.1.Q, z1.1.G)) (Rn_some hF)
  ·try simp [go_sem, g]
   refine pw_wkK [0, 2, 3, 7, 17] (by simp [go_sem, g]; rfl) ?_
   repeat rw [sq]
   refine pI hF (fun h8 hF => ?_) (fun h8 hF => ?_)
   ·try simp [go_sem, g]
    refine pC hF [.io, .mv] zao (fun z9 hF => ?_)
    try simp [go_sem, g]
    exact pT (hj3 ((z9.2.1, z9.2.2.1, z9.2.2.2), z1.1.P, z9.1, z1.1.G)) (Rn_some hF)
   ·try simp [go_sem, g]
    refine pw_wk ?_
    repeat rw [sq]
    refine pI hF (fun h10 hF => ?_) (fun h10 hF => ?_)
    ·try simp [go_sem, g]
     refine pC hF [.io, .mv] zao (fun z11 hF => ?_)
     try simp [go_sem, g]
     exact pT (hj3 ((z11.2.1, z11.2.2.1, z11.2.2.2), z1.1.P, z1.1.Q, z11.1)) (Rn_some hF)
    ·try simp [go_sem, g]
     exact pT (hj3 ((z2.2.1, z2.2.2.1, z2.2.2.2), z1.1.P, z1.1.Q, z1.1.G)) (Rn_some hF)
noncomputable def zcm (a0 : Group) : Option (Bool) :=
 (((zaC a0.P 3 2000000000).bind fun z4 =>
 if z4 = true then (
 (zaC a0.Q 2 (i64.wrap (a0.P - 1))).bind fun z6 =>
 if z6 = true then (
 gd (a0.Q ≠ 0) <|
 if (((i64.wrap (a0.P - 1)).tmod a0.Q) == 0) = true then (
 (zaC a0.G 2 (i64.wrap (a0.P - 1))).bind fun z9 =>
 if z9 = true then (
 (zaW a0.G a0.Q a0.P).bind fun z11 =>
 if (z11 == 1) = true then (
 (zbS a0.Q).bind fun z13 =>
 if z13 = true then (
 (zbS a0.P).bind fun z15 =>
 some z15) else (
 some false)) else (
 some false)) else (
 some false)) else (
 some false)) else (
 some false)) else (
 some false) : Option (Bool)).bind fun x3 =>
 some x3)
theorem zea : ∀ {a0} {r}, zcm a0 = some r → PCalls Tryz.prog 55 [(.sh, .agg [.int .i64 a0.P, .int .i64 a0.Q, .int .i64 a0.G])] (Eo (.bool r) [.junk]) := by
 intro a0 r hr
 apply pF 51 [] [] [] [.tmp 2] hr cl55 Tryz.func55
 intro Φ hΦ hF g
 unfold zcm at hF
 try simp [go_sem, g]
 refine pw_wk ?_
 repeat rw [sq]
 refine pJ hF (fun x3 => [(2, .v (.bool x3))]) (fun x3 hF => ?_) fun _ hj1 hF => ?_
 ·cases hΦ _ (Rn_some hF)
  try simp [go_sem, g]
 ·try simp [go_sem, g]
  refine pC hF [.sh, .sh, .sh] za5 (fun z4 hF => ?_)
  try simp [go_sem, g]
  refine pwg_F hF (fun h5 hF => ?_) fun h5 hF => ?_
  ·try simp [go_sem, g, h5]
   refine pC hF [.sh, .sh, .sh] za5 (fun z6 hF => ?_)
   try simp [go_sem, g, h5]
   refine pwg_F hF (fun h7 hF => ?_) fun h7 hF => ?_
   ·obtain ⟨g, hF⟩ := Rz g hF
    try simp [go_sem, g, h7]
    refine pwg_F hF (fun h8 hF => ?_) fun h8 hF => ?_
    ·try simp [go_sem, g, h8]
     refine pC hF [.sh, .sh, .sh] za5 (fun z9 hF => ?_)
     try simp [go_sem, g, h8]
     refine pwg_F hF (fun h10 hF => ?_) fun h10 hF => ?_
     ·try simp [go_sem, g, h10]
      refine pC hF [.sh, .sh, .sh] zc7 (fun z11 hF => ?_)
      try simp [go_sem, g, h10]
      refine pwg_F hF (fun h12 hF => ?_) fun h12 hF => ?_
      ·try simp [go_sem, g, h12]
       refine pC hF [.sh] zdA (fun z13 hF => ?_)
       try simp [go_sem, g, h12]
       refine pwg_F hF (fun h14 hF => ?_) fun h14 hF => ?_
       ·try simp [go_sem, g, h14]
        refine pC hF [.sh] zdA (fun z15 hF => ?_)
        try simp [go_sem, g, h14]
        exact pT (hj1 z15) (Rn_some hF)
       ·try simp [go_sem, g, h14]
        exact pT (hj1 false) (Rn_some hF)
      ·try simp [go_sem, g, h12]
       exact pT (hj1 false) (Rn_some hF)
     ·try simp [go_sem, g, h10]
      exact pT (hj1 false) (Rn_some hF)
    ·try simp [go_sem, g, h8]
     exact pT (hj1 false) (Rn_some hF)
   ·try simp [go_sem, g, h7]
    exact pT (hj1 false) (Rn_some hF)
  ·try simp [go_sem, g, h5]
   exact pT (hj1 false) (Rn_some hF)
def zis : List DE := [d0 0 [0], d0 3 [0], d1 6 [3] 3, d2 7 [14] 3 14, d3 1 [8], d0 2 [9], d3 4 [11], d0 5 [10, 12], d0 8 [13, 15], d0 9 [16]]
noncomputable def zaQ (a0c0 : (List Int)) (a0c1 : Int) (a0c2 : Int) (a1 : Group) : Option (Int × ((List Int) × Int × Int)) :=
 if decide (a1.Q < 2) = true then (
 some (0, (a0c0, a0c1, a0c2))) else (
 (zac a0c0 a0c1 a0c2 60000).bind fun z2 =>
 (zac z2.2.1 z2.2.2.1 z2.2.2.2 60000).bind fun z3 =>
 gd (a1.Q ≠ 0) <|
 some ((i64.wrap ((i64.wrap (z2.1 * 60000)) + z3.1)).tmod a1.Q, (z3.2.1, z3.2.2.1, z3.2.2.2)))
theorem zcW : ∀ {a0c0} {a0c1} {a0c2} {a1} {r}, zaQ a0c0 a0c1 a0c2 a1 = some r → PCalls Tryz.prog 111 [(.io, .bx [.sl false 1 (a0c0.map zag), .int .i64 a0c1, .int .u64 a0c2]), (.sh, .agg [.int .i64 a1.P, .int .i64 a1.Q, .int .i64 a1.G])] (Eo (.int .i64 r.1) [.bx [.sl false 1 (r.2.1.map zag), .int .i64 r.2.2.1, .int .u64 r.2.2.2], .junk]) := by
 intro a0c0 a0c1 a0c2 a1 r hr
 apply pF 17 [0] [] [] [.tmp 4] hr cl111 Tryz.func111
 intro Φ hΦ hF g
 unfold zaQ at hF
 iterate 2 (try simp [go_sem, g]; refine pw_wk ?_)
 repeat rw [sq]
 refine pI hF (fun h1 hF => ?_) (fun h1 hF => ?_)
 ·cases hΦ _ (Rn_some hF)
  try simp [go_sem, g]
  refine pw_wk ?_
  try simp [go_sem, g]
 ·try simp [go_sem, g]
  refine pw_wk ?_
  repeat rw [sq]
  refine pw_draw zis follows (by kernel_rfl) rfl ?_
  try simp only [go_sem, zis]
  try simp [go_sem, g]
  refine pC hF [.io, .sh] zab (fun z2 hF => ?_)
  try simp [go_sem, g]
  refine pC hF [.io, .sh] zab (fun z3 hF => ?_)
  obtain ⟨g, hF⟩ := Rz g hF
  try simp [go_sem, g]
  refine pw_wkK [0, 4] (by simp [go_sem, g]; rfl) ?_
  cases hΦ _ (Rn_some hF)
  try simp [go_sem, g]
noncomputable def zbk (a0c0 : (List Int)) (a0c1 : Int) (a0c2 : Int) (a1 : Group) (a2 : Int) : Option ((List Int) × ((List Int) × Int × Int)) :=
 ((wloop (σ := ((List Int) × Int × Int) × Int × (List Int)) (fun s11 =>
 if decide (0 < s11.2.1) = true then (
 (zaQ s11.1.1 s11.1.2.1 s11.1.2.2 a1).bind fun z17 =>
 gd ((s11.2.2.length + 1) * 8 ≤ 140737488355328 ∧ s11.2.2.length + 1 ≤ 4611686018427387904) <|
 some (.go ((z17.2.1, z17.2.2.1, z17.2.2.2), i64.wrap (s11.2.1 - 1), s11.2.2 ++ [z17.1]))) else (
 some (.out ((s11.1.1, s11.1.2.1, s11.1.2.2), s11.2.2)))) ((a0c0, a0c1, a0c2), a2, []) : Option ((((List Int) × Int × Int) × (List Int)))).bind fun x3 =>
 some (x3.2, (x3.1.1, x3.1.2.1, x3.1.2.2)))
theorem zeC : ∀ {a0c0} {a0c1} {a0c2} {a1} {a2} {r}, zbk a0c0 a0c1 a0c2 a1 a2 = some r → PCalls Tryz.prog 86 [(.io, .bx [.sl false 1 (a0c0.map zag), .int .i64 a0c1, .int .u64 a0c2]), (.sh, .agg [.int .i64 a1.P, .int .i64 a1.Q, .int .i64 a1.G]), (.sh, .int .i64 a2)] (Eo (.sl true 1 (r.1.map zaa)) [.bx [.sl false 1 (r.2.1.map zag), .int .i64 r.2.2.1, .int .u64 r.2.2.2], .junk, .junk]) := by
 intro a0c0 a0c1 a0c2 a1 a2 r hr
 apply pF 19 [0] [] [] [.tmp 6] hr cl86 Tryz.func86
 intro Φ hΦ hF g
 unfold zbk at hF
 iterate 2 (try simp [go_sem, g]; refine pw_wk ?_)
 repeat rw [sq]
 refine pJ hF (fun x3 => [(0, .v (.bx [.sl false 1 (x3.1.1.map zag), .int .i64 x3.1.2.1, .int .u64 x3.1.2.2])), (7, .v (.sl true 1 (x3.2.map zaa)))]) (fun x3 hF => ?_) fun _ hj1 hF => ?_
 ·cases hΦ _ (Rn_some hF)
  try simp [go_sem, g]
  refine pw_wk ?_
  try simp [go_sem, g]
 ·repeat rw [sq]
  rw [pw_block]
  obtain ⟨b18, hb19, hψ15⟩ := hF
  refine pL hb19 (fun s11 => [(0, .v (.bx [.sl false 1 (s11.1.1.map zag), .int .i64 s11.1.2.1, .int .u64 s11.1.2.2])), (2, .v (.int .i64 s11.2.1)), (4, .bl [.int .i64 a1.P, .int .i64 a1.Q, .int .i64 a1.G]), (7, .v (.sl true 1 (s11.2.2.map zaa)))]) (fun s11 _ _ ho13 hg14 hF => ?_)
  try simp [go_sem, g]
  refine pw_wk ?_
  repeat rw [sq]
  refine pI hF (fun h16 hF => ?_) (fun h16 hF => ?_)
  ·try simp [go_sem, g]
   refine pw_wk ?_
   repeat rw [sq]
   rw [pw_block]
   try simp [go_sem, g]
   refine pC hF [.io, .sh] zcW (fun z17 hF => ?_)
   obtain ⟨g, hF⟩ := Rg g hF
   try simp [go_sem, g]
   refine pw_wkK [0, 2, 4, 7] (by simp [go_sem, g]; rfl) ?_
   try simp [go_sem, g]
   exact pT (hg14 ((z17.2.1, z17.2.2.1, z17.2.2.2), i64.wrap (s11.2.1 - 1), s11.2.2 ++ [z17.1])) (Rn_some hF)
  ·try simp [go_sem, g]
   cases ho13 _ (Rn_some hF)
   exact pT (hj1 ((s11.1.1, s11.1.2.1, s11.1.2.2), s11.2.2)) hψ15
noncomputable def zcF (a0 : (List Int)) (a1 : Int) (a2 : Int) : Option (Bool) :=
 ((rloop (σ := Unit) (fun i5 s4 =>
 (ix a0 i5).bind fun x11 =>
 (zaC x11 a1 a2).bind fun z12 =>
 if (!z12) = true then (
 some (.out (.inr false))) else (
 some (.go ()))) (fun s4 => .inl ()) (a0.length) 0 () : Option (Unit ⊕ Bool)).bind (Sum.elim (fun x3 =>
 some true) some))
theorem zfs : ∀ {a0} {a1} {a2} {r}, zcF a0 a1 a2 = some r → PCalls Tryz.prog 82 [(.sh, .sl false 1 (a0.map zaa)), (.sh, .int .i64 a1), (.sh, .int .i64 a2)] (Eo (.bool r) [.junk, .junk, .junk]) := by
 intro a0 a1 a2 r hr
 apply pF 21 [] [] [] [.tmp 6] hr cl82 Tryz.func82
 intro Φ hΦ hF g
 unfold zcF at hF
 iterate 2 (try simp [go_sem, g]; try intros; refine pw_wk ?_)
 repeat rw [sq]
 refine pJs hF (fun x3 => []) (fun x3 hF => ?_) fun _ hj1 hr2 hF => ?_
 ·cases hΦ _ (Rn_some hF)
  try simp [go_sem, g]
  refine pw_wk ?_
  try simp [go_sem, g]
 ·repeat rw [sq]
  rw [pw_block]
  obtain ⟨b14, hb15, hψ8⟩ := hF
  refine pR hb15 (fun i5 s4 => [(1, .v (.int .i64 a1)), (2, .v (.int .i64 a2)), (9, .v (.sl false 1 (a0.map zaa))), (10, .v (.int .i64 (a0.length : Int))), (11, .v (.int .i64 i5))]) (fun s4 _ hN16 => ?_) (fun i5 s4 _ _ hi9 hi10 ho6 hg7 hF => ?_)
  ·subst hN16
   try simp [go_sem]
   refine pw_wk ?_
   repeat rw [sq]
   refine pw_cond_f (by simp [go_sem]) ?_
   try simp [go_sem]
   exact pT (hj1 ()) hψ8 (by simp [go_sem])
  ·try simp [go_sem, g]
   refine pw_wk ?_
   repeat rw [sq]
   refine pw_cond_t (by simp [go_sem, g, hi9, hi10]) ?_
   try simp [go_sem, g]
   refine pw_wk ?_
   repeat rw [sq]
   rw [pw_block]
   obtain ⟨x11, g, hF⟩ := Rx g hF
   try simp [go_sem, g]
   refine pw_wk ?_
   try simp [go_sem, g]
   refine pC hF [.sh, .sh, .sh] za5 (fun z12 hF => ?_)
   try simp [go_sem, g]
   refine pw_wkK [1, 2, 9, 10, 11, 19] (by simp [go_sem, g]; rfl) ?_
   repeat rw [sq]
   refine pI hF (fun h13 hF => ?_) (fun h13 hF => ?_)
   ·cases ho6 _ (Rn_some hF)
    cases hΦ _ (hr2 _ hψ8)
    try simp [go_sem, g]
    refine pw_wk ?_
    try simp [go_sem, g]
   ·try simp [go_sem, g]
    refine pw_wk ?_
    try simp [go_sem, g]
    exact pT (hg7 ()) (Rn_some hF) (by simp [go_sem, g, wr_i hi9 hi10 (by assumption)])
noncomputable def zcB (a0 : Group) (a1 : (List Int)) : Option (Bool) :=
 (zcF a1 0 (i64.wrap (a0.Q - 1))).bind fun z1 =>
 some z1
theorem zft : ∀ {a0} {a1} {r}, zcB a0 a1 = some r → PCalls Tryz.prog 113 [(.sh, .agg [.int .i64 a0.P, .int .i64 a0.Q, .int .i64 a0.G]), (.sh, .sl false 1 (a1.map zaa))] (Eo (.bool r) [.junk, .junk]) := by
 intro a0 a1 r hr
 apply pF 10 [] [] [] [.tmp 4] hr cl113 Tryz.func113
 intro Φ hΦ hF g
 unfold zcB at hF
 try simp [go_sem, g]
 refine pw_wk ?_
 try simp [go_sem, g]
 refine pC hF [.sh, .sh, .sh] zfs (fun z1 hF => ?_)
 cases hΦ _ (Rn_some hF)
 try simp [go_sem, g]
 refine pw_wk ?_
 try simp [go_sem, g]
noncomputable def zck (a0 : Int) : Option (Bool) :=
 (zaC a0 0 4611686018427387903).bind fun z1 =>
 some z1
theorem zeF : ∀ {a0} {r}, zck a0 = some r → PCalls Tryz.prog 96 [(.sh, .int .i64 a0)] (Eo (.bool r) [.junk]) := by
 intro a0 r hr
 apply pF 5 [] [] [] [.tmp 2] hr cl96 Tryz.func96
 intro Φ hΦ hF g
 unfold zck at hF
 try simp [go_sem, g]
 refine pw_wk ?_
 try simp [go_sem, g]
 refine pC hF [.sh, .sh, .sh] za5 (fun z1 hF => ?_)
 cases hΦ _ (Rn_some hF)
 try simp [go_sem, g]
 refine pw_wk ?_
 try simp [go_sem, g]
noncomputable def zcz (a0 : Head) : Option (Bool) :=
 (((zaC a0.Author 0 39).bind fun z4 =>
 if z4 = true then (
 (zaC a0.Size 0 64).bind fun z6 =>
 if z6 = true then (
 (zck a0.Root).bind fun z8 =>
 some z8) else (
 some false)) else (
 some false) : Option (Bool)).bind fun x3 =>
 some x3)
theorem zeu : ∀ {a0} {r}, zcz a0 = some r → PCalls Tryz.prog 65 [(.sh, .agg [.int .i64 a0.Author, .int .i64 a0.Size, .int .i64 a0.Root, .sl false 1 (a0.Sign.Commits.map zaa), .sl false 1 (a0.Sign.Challenges.map zaa), .sl false 1 (a0.Sign.Responses.map zaa)])] (Eo (.bool r) [.junk]) := by
 intro a0 r hr
 apply pF 16 [] [] [] [.tmp 2] hr cl65 Tryz.func65
 intro Φ hΦ hF g
 unfold zcz at hF
 try simp [go_sem, g]
 refine pw_wk ?_
 repeat rw [sq]
 refine pJ hF (fun x3 => [(2, .v (.bool x3))]) (fun x3 hF => ?_) fun _ hj1 hF => ?_
 ·cases hΦ _ (Rn_some hF)
  try simp [go_sem, g]
 ·try simp [go_sem, g]
  refine pC hF [.sh, .sh, .sh] za5 (fun z4 hF => ?_)
  try simp [go_sem, g]
  refine pwg_F hF (fun h5 hF => ?_) fun h5 hF => ?_
  ·try simp [go_sem, g, h5]
   refine pC hF [.sh, .sh, .sh] za5 (fun z6 hF => ?_)
   try simp [go_sem, g, h5]
   refine pwg_F hF (fun h7 hF => ?_) fun h7 hF => ?_
   ·try simp [go_sem, g, h7]
    refine pC hF [.sh] zeF (fun z8 hF => ?_)
    try simp [go_sem, g, h7]
    exact pT (hj1 z8) (Rn_some hF)
   ·try simp [go_sem, g, h7]
    exact pT (hj1 false) (Rn_some hF)
  ·try simp [go_sem, g, h5]
   exact pT (hj1 false) (Rn_some hF)
noncomputable def zc8 (a0 : ByteArray) (a1 : (List Int)) : Option ((List Int)) :=
 ((wloop (σ := (List Int) × Int) (fun s4 =>
 if decide (s4.2 < (a0.size : Int)) = true then (
 (ixs a0 s4.2).bind fun x10 =>
 gd ((s4.1.length + 1) * 8 ≤ 140737488355328 ∧ s4.1.length + 1 ≤ 4611686018427387904) <|
 some (.go (s4.1 ++ [i64.wrap x10], i64.wrap (s4.2 + 1)))) else (
 some (.out s4.1))) ([(a0.size : Int)], 0) : Option ((List Int))).bind fun x3 =>
 gd ((x3.length + a1.length) * 8 ≤ 140737488355328 ∧ x3.length + a1.length ≤ 4611686018427387904) <|
 some (x3 ++ a1))
theorem zgF : ∀ {a0} {a1} {r}, zc8 a0 a1 = some r → PCalls Tryz.prog 148 [(.sh, .str a0), (.sh, .sl false 1 (a1.map zaa))] (Eo (.sl true 1 (r.map zaa)) [.junk, .junk]) := by
 intro a0 a1 r hr
 apply pF 26 [] [] [] [.tmp 4] hr cl148 Tryz.func148
 intro Φ hΦ hF g
 unfold zc8 at hF
 iterate 3 (try simp [go_sem, g]; refine pw_wk ?_)
 repeat rw [sq]
 refine pJ hF (fun x3 => [(1, .v (.sl false 1 (a1.map zaa))), (5, .v (.sl true 1 (x3.map zaa)))]) (fun x3 hF => ?_) fun _ hj1 hF => ?_
 ·obtain ⟨g, hF⟩ := Rg g hF
  try simp [go_sem, g]
  refine pw_wkK [4] (by simp [go_sem, g]; rfl) ?_
  cases hΦ _ (Rn_some hF)
  try simp [go_sem, g]
 ·repeat rw [sq]
  rw [pw_block]
  obtain ⟨b11, hb12, hψ8⟩ := hF
  refine pL hb12 (fun s4 => [(0, .v (.str a0)), (1, .v (.sl false 1 (a1.map zaa))), (5, .v (.sl true 1 (s4.1.map zaa))), (6, .v (.int .i64 s4.2))]) (fun s4 _ _ ho6 hg7 hF => ?_)
  try simp [go_sem, g]
  refine pw_wkK [0, 1, 5, 6, 13] (by simp [go_sem, g]; rfl) ?_
  repeat rw [sq]
  refine pI hF (fun h9 hF => ?_) (fun h9 hF => ?_)
  ·try simp [go_sem, g]
   refine pw_wk ?_
   repeat rw [sq]
   rw [pw_block]
   obtain ⟨x10, g, hF⟩ := Rxs g hF
   obtain ⟨g, hF⟩ := Rg g hF
   try simp [go_sem, g]
   refine pw_wk ?_
   try simp [go_sem, g]
   exact pT (hg7 (s4.1 ++ [i64.wrap x10], i64.wrap (s4.2 + 1))) (Rn_some hF)
  ·try simp [go_sem, g]
   cases ho6 _ (Rn_some hF)
   exact pT (hj1 s4.1) hψ8
noncomputable def zaL (a0c0 : Int) (a0c1 : Int) (a1 : Int) : Option ((Int × Int)) :=
 (some [a1.tmod 2147483648, i64.wrap (a1.tdiv 2147483648)]).bind fun x1 =>
 wloop (σ := (Int × Int) × Int) (fun s10 =>
 if decide (s10.2 < (x1.length : Int)) = true then (
 (ix x1 s10.2).bind fun x16 =>
 some (.go (((i64.wrap ((i64.wrap ((i64.wrap (48271 * s10.1.1)) + x16)) + 1)).tmod 2147483647, (i64.wrap ((i64.wrap ((i64.wrap (69621 * s10.1.2)) + x16)) + 1)).tmod 2147483647), i64.wrap (s10.2 + 1)))) else (
 some (.out (s10.1.1, s10.1.2)))) ((a0c0, a0c1), 0)
theorem zc9 : ∀ {a0c0} {a0c1} {a1} {r}, zaL a0c0 a0c1 a1 = some r → PCalls Tryz.prog 149 [(.io, .bx [.int .i64 a0c0, .int .i64 a0c1]), (.sh, .int .i64 a1)] (Eo (.junk) [.bx [.int .i64 r.1, .int .i64 r.2], .junk]) := by
 intro a0c0 a0c1 a1 r hr
 apply pF 41 [0] [] [] [] hr cl149 Tryz.func149
 intro Φ hΦ hF g
 unfold zaL at hF
 have g := Ld g 2147483648
 obtain ⟨x1, e2, hF⟩ := Rn_bind hF
 have g := And.intro g (show [[.int .i64 (a1.tmod 2147483648)], [.int .i64 (i64.wrap (a1.tdiv 2147483648))]] = x1.map zaa by injection e2 with e2; rw [← e2]; simp [go_sem])
 try simp [go_sem, g]
 try intros
 refine pw_wk ?_
 repeat rw [sq]
 rw [pw_block]
 obtain ⟨b17, hb18, hψ14⟩ := hF
 refine pL hb18 (fun s10 => [(0, .v (.bx [.int .i64 s10.1.1, .int .i64 s10.1.2])), (10, .v (.sl true 1 (x1.map zaa))), (11, .v (.int .i64 (x1.length : Int))), (12, .v (.int .i64 s10.2))]) (fun s10 _ _ ho12 hg13 hF => ?_)
 try simp [go_sem, g]
 refine pw_wk ?_
 repeat rw [sq]
 refine pI hF (fun h15 hF => ?_) (fun h15 hF => ?_)
 ·try simp [go_sem, g]
  refine pw_wk ?_
  repeat rw [sq]
  rw [pw_block]
  obtain ⟨x16, g, hF⟩ := Rx g hF
  try simp [go_sem, g]
  refine pw_wkK [0, 5, 10, 11, 12] (by simp [go_sem, g]; rfl) ?_
  have g := Ld g 2147483647
  try simp [go_sem, g]
  refine pw_wkK [0, 5, 10, 11, 12] (by simp [go_sem, g]; rfl) ?_
  try simp [go_sem, g]
  refine pw_wkK [0, 10, 11, 12] (by simp [go_sem, g]; rfl) ?_
  try simp [go_sem, g]
  exact pT (hg13 (((i64.wrap ((i64.wrap ((i64.wrap (48271 * s10.1.1)) + x16)) + 1)).tmod 2147483647, (i64.wrap ((i64.wrap ((i64.wrap (69621 * s10.1.2)) + x16)) + 1)).tmod 2147483647), i64.wrap (s10.2 + 1))) (Rn_some hF)
 ·cases ho12 _ (Rn_some hF)
  cases hΦ _ hψ14
  try simp [go_sem, g]
def zik : List DE := [d0 0 [3], d0 1 [22], d0 2 [23], d0 3 [24], d0 4 [25], d0 5 [3], d0 6 [27], d0 7 [28], d0 8 [29], d0 9 [26, 30], d0 10 [31]]
noncomputable def zc4 (a0 : (List Int)) : Option (Int) :=
 (zaL 1 2 (a0.length : Int)).bind fun z1 =>
 ((rloop (σ := (Int × Int)) (fun i15 s14 =>
 (ix a0 i15).bind fun x21 =>
 (zaL s14.1 s14.2 x21).bind fun z22 =>
 some (.go (z22.1, z22.2))) (fun s14 => (s14.1, s14.2)) (a0.length) 0 (z1.1, z1.2) : Option ((Int × Int))).bind fun x4 =>
 some (i64.wrap ((i64.wrap (x4.1 * 2147483648)) + x4.2)))
theorem zff : ∀ {a0} {r}, zc4 a0 = some r → PCalls Tryz.prog 130 [(.sh, .sl false 1 (a0.map zaa))] (Eo (.int .i64 r) [.junk]) := by
 intro a0 r hr
 apply pF 32 [] [] [7] [.tmp 2] hr cl130 Tryz.func130
 intro Φ hΦ hF g
 unfold zc4 at hF
 iterate 2 (try simp [go_sem, g]; try intros; refine pw_wk ?_)
 try simp [go_sem, g]
 try intros
 refine pC hF [.io, .sh] zc9 (fun z1 hF => ?_)
 try simp [go_sem, g]
 try intros
 refine pw_wk ?_
 try simp [go_sem, g]
 try intros
 refine pw_wkK [3, 12, 13, 14] (by simp [go_sem, g]; rfl) ?_
 repeat rw [sq]
 refine pJ hF (fun x4 => [(3, .v (.bx [.int .i64 x4.1, .int .i64 x4.2]))]) (fun x4 hF => ?_) fun _ hj2 hF => ?_
 ·repeat rw [sq]
  refine pw_draw zik follows (by kernel_rfl) rfl ?_
  try simp only [go_sem, zik]
  try simp [go_sem, g]
  refine pw_wkK [2] (by simp [go_sem, g]; rfl) ?_
  cases hΦ _ (Rn_some hF)
  try simp [go_sem, g]
 ·repeat rw [sq]
  rw [pw_block]
  obtain ⟨b23, hb24, hψ18⟩ := hF
  refine pR hb24 (fun i15 s14 => [(3, .v (.bx [.int .i64 s14.1, .int .i64 s14.2])), (12, .v (.sl false 1 (a0.map zaa))), (13, .v (.int .i64 (a0.length : Int))), (14, .v (.int .i64 i15))]) (fun s14 _ hN25 => ?_) (fun i15 s14 _ _ hi19 hi20 ho16 hg17 hF => ?_)
  ·subst hN25
   try simp [go_sem]
   refine pw_wk ?_
   repeat rw [sq]
   refine pw_cond_f (by simp [go_sem]) ?_
   try simp [go_sem]
   exact pT (hj2 (s14.1, s14.2)) hψ18 (by simp [go_sem])
  ·try simp [go_sem, g]
   refine pw_wk ?_
   repeat rw [sq]
   refine pw_cond_t (by simp [go_sem, g, hi19, hi20]) ?_
   try simp [go_sem, g]
   refine pw_wk ?_
   repeat rw [sq]
   rw [pw_block]
   obtain ⟨x21, g, hF⟩ := Rx g hF
   try simp [go_sem, g]
   refine pw_wk ?_
   try simp [go_sem, g]
   refine pC hF [.io, .sh] zc9 (fun z22 hF => ?_)
   try simp [go_sem, g]
   refine pw_wk ?_
   try simp [go_sem, g]
   exact pT (hg17 (z22.1, z22.2)) (Rn_some hF) (by simp [go_sem, g, wr_i hi19 hi20 (by assumption)])
noncomputable def zb4 (a0 : ByteArray) (a1 : (List Int)) : Option (Int) :=
 (zc8 a0 a1).bind fun z1 =>
 (zc4 z1).bind fun z2 =>
 some z2
theorem zey : ∀ {a0} {a1} {r}, zb4 a0 a1 = some r → PCalls Tryz.prog 129 [(.sh, .str a0), (.sh, .sl false 1 (a1.map zaa))] (Eo (.int .i64 r) [.junk, .junk]) := by
 intro a0 a1 r hr
 apply pF 9 [] [] [] [.tmp 4] hr cl129 Tryz.func129
 intro Φ hΦ hF g
 unfold zb4 at hF
 try simp [go_sem, g]
 refine pw_wk ?_
 try simp [go_sem, g]
 refine pC hF [.sh, .sh] zgF (fun z1 hF => ?_)
 try simp [go_sem, g]
 refine pC hF [.sh] zff (fun z2 hF => ?_)
 cases hΦ _ (Rn_some hF)
 try simp [go_sem, g]
 refine pw_wk ?_
 try simp [go_sem, g]
noncomputable def zcr (a0 : Int) : Option (ByteArray × Bool) :=
 (zck a0).bind fun z1 =>
 if (!z1) = true then (
 some ((⟨#[]⟩ : ByteArray), false)) else (
 gd (0 ≤ 16 ∧ 16 ≤ 16 ∧ 1 * 16 ≤ 140737488355328 ∧ 16 ≤ 4611686018427387904) <|
 (some (List.replicate 16 0)).bind fun x3 =>
 ((wloop (σ := Int × (List Int) × Int) (fun s17 =>
 if decide (0 ≤ s17.2.2) = true then (
 (ixs (⟨#[48, 49, 50, 51, 52, 53, 54, 55, 56, 57, 97, 98, 99, 100, 101, 102]⟩ : ByteArray) (s17.1.tmod 16)).bind fun x23 =>
 (ix s17.2.1 s17.2.2).bind fun x24 =>
 some (.go (i64.wrap (s17.1.tdiv 16), s17.2.1.set s17.2.2.toNat x23, i64.wrap (s17.2.2 - 1)))) else (
 some (.out s17.2.1))) (a0, x3, 15) : Option ((List Int))).bind fun x8 =>
 some ((bytesOf x8), true)))
theorem zfH : ∀ {a0} {r}, zcr a0 = some r → PCalls Tryz.prog 147 [(.sh, .int .i64 a0)] (Eo (.tup [.str r.1, .bool r.2]) [.junk]) := by
 intro a0 r hr
 apply pF 24 [] [] [1000000] [.tmp 2, .tmp 3] hr cl147 Tryz.func147
 intro Φ hΦ hF g
 unfold zcr at hF
 try simp [go_sem, g]
 refine pw_wk ?_
 try simp [go_sem, g]
 refine pC hF [.sh] zeF (fun z1 hF => ?_)
 try simp [go_sem, g]
 refine pw_wk ?_
 repeat rw [sq]
 refine pI hF (fun h2 hF => ?_) (fun h2 hF => ?_)
 ·cases hΦ _ (Rn_some hF)
  try simp [go_sem, g]
  refine pw_wk ?_
  try simp [go_sem, g]
 ·obtain ⟨g, hF⟩ := Rg g hF
  obtain ⟨x3, e4, hF⟩ := Rn_bind hF
  have g5 : List.replicate 16 ([.int .u8 0] : List PV) = x3.map zag := by injection e4 with e4; rw [← e4]; simp [go_sem]
  have g5b := g5
  try simp at g5b
  iterate 3 (try simp [go_sem, g, g5, g5b]; refine pw_wk ?_)
  repeat rw [sq]
  refine pJ hF (fun x8 => [(4, .v (.sl true 1 (x8.map zag)))]) (fun x8 hF => ?_) fun _ hj6 hF => ?_
  ·try simp [go_sem, g]
   refine pw_wkK [2, 3] (by simp [go_sem, g]; rfl) ?_
   cases hΦ _ (Rn_some hF)
   try simp [go_sem, g]
  ·repeat rw [sq]
   rw [pw_block]
   obtain ⟨b25, hb26, hψ21⟩ := hF
   refine pL hb26 (fun s17 => [(0, .v (.int .i64 s17.1)), (4, .v (.sl true 1 (s17.2.1.map zag))), (5, .v (.int .i64 s17.2.2))]) (fun s17 _ _ ho19 hg20 hF => ?_)
   try simp [go_sem, g]
   refine pw_wkK [0, 4, 5, 11] (by simp [go_sem, g]; rfl) ?_
   repeat rw [sq]
   refine pI hF (fun h22 hF => ?_) (fun h22 hF => ?_)
   ·try simp [go_sem, g]
    refine pw_wk ?_
    repeat rw [sq]
    rw [pw_block]
    have g := Ld g 16
    obtain ⟨x23, g, hF⟩ := Rxs g hF
    obtain ⟨x24, g, hF⟩ := Rx g hF
    try simp [go_sem, g]
    refine pw_wk ?_
    try simp [go_sem, g]
    refine pw_wkK [0, 4, 5] (by simp [go_sem, g]; rfl) ?_
    try simp [go_sem, g]
    exact pT (hg20 (i64.wrap (s17.1.tdiv 16), s17.2.1.set s17.2.2.toNat x23, i64.wrap (s17.2.2 - 1))) (Rn_some hF)
   ·try simp [go_sem, g]
    cases ho19 _ (Rn_some hF)
    exact pT (hj6 s17.2.1) hψ21
noncomputable def zdk (a0 : Int) : Option (ByteArray) :=
 (zcr a0).bind fun z1 =>
 some z1.1
theorem zgY : ∀ {a0} {r}, zdk a0 = some r → PCalls Tryz.prog 128 [(.sh, .int .i64 a0)] (Eo (.str r) [.junk]) := by
 intro a0 r hr
 apply pF 11 [] [] [] [.tmp 2] hr cl128 Tryz.func128
 intro Φ hΦ hF g
 unfold zdk at hF
 try simp [go_sem, g]
 refine pw_wk ?_
 try simp [go_sem, g]
 refine pC hF [.sh] zfH (fun z1 hF => ?_)
 try simp [go_sem, g]
 refine pw_wk ?_
 try simp [go_sem, g]
 refine pw_wkK [2] (by simp [go_sem, g]; rfl) ?_
 cases hΦ _ (Rn_some hF)
 try simp [go_sem, g]
noncomputable def za6 (a0 : Head) : Option (ByteArray) :=
 (zb4 (⟨#[104, 101, 97, 100]⟩ : ByteArray) [a0.Author, a0.Size, a0.Root]).bind fun z1 =>
 (zdk z1).bind fun z2 =>
 gd ((⟨#[104, 101, 97, 100, 32]⟩ : ByteArray).size + z2.size ≤ 9223372036854775807) <|
 some ((⟨#[104, 101, 97, 100, 32]⟩ : ByteArray) ++ z2)
theorem zef : ∀ {a0} {r}, za6 a0 = some r → PCalls Tryz.prog 115 [(.sh, .agg [.int .i64 a0.Author, .int .i64 a0.Size, .int .i64 a0.Root, .sl false 1 (a0.Sign.Commits.map zaa), .sl false 1 (a0.Sign.Challenges.map zaa), .sl false 1 (a0.Sign.Responses.map zaa)])] (Eo (.str r) [.junk]) := by
 intro a0 r hr
 apply pF 13 [] [] [] [.tmp 2] hr cl115 Tryz.func115
 intro Φ hΦ hF g
 unfold za6 at hF
 try simp [go_sem, g]
 refine pw_wk ?_
 try simp [go_sem, g]
 refine pC hF [.sh, .sh] zey (fun z1 hF => ?_)
 try simp [go_sem, g]
 refine pC hF [.sh] zgY (fun z2 hF => ?_)
 obtain ⟨g, hF⟩ := Rsa g hF
 try simp [go_sem, g]
 refine pw_wkK [2] (by simp [go_sem, g]; rfl) ?_
 cases hΦ _ (Rn_some hF)
 try simp [go_sem, g]
def ziz : List DE := [d0 0 [7], d2 1 [3] 3 3, d0 2 [9], d0 3 [2], d0 4 [8], d0 5 [20, 21], d0 6 [22], d1 9 [3] 3, d2 10 [26] 3 26, d3 7 [18, 19, 23], d0 8 [17, 24], d0 11 [25, 27], d0 12 [28]]
noncomputable def zbP (a0 : Group) (a1 : (List Int)) (a2 : (List Int)) : Option (Int) :=
 ((rloop (σ := Int) (fun i5 s4 =>
 (ix a1 i5).bind fun x11 =>
 (ix a2 i5).bind fun x12 =>
 (zaE a0 x11 x12).bind fun z13 =>
 gd (a0.P ≠ 0) <|
 some (.go ((i64.wrap (s4 * z13)).tmod a0.P))) (fun s4 => s4) (a1.length) 0 1 : Option (Int)).bind fun x3 =>
 some x3)
theorem zfq : ∀ {a0} {a1} {a2} {r}, zbP a0 a1 a2 = some r → PCalls Tryz.prog 150 [(.sh, .agg [.int .i64 a0.P, .int .i64 a0.Q, .int .i64 a0.G]), (.sh, .sl false 1 (a1.map zaa)), (.sh, .sl false 1 (a2.map zaa))] (Eo (.int .i64 r) [.junk, .junk, .junk]) := by
 intro a0 a1 a2 r hr
 apply pF 31 [] [] [] [.tmp 6] hr cl150 Tryz.func150
 intro Φ hΦ hF g
 unfold zbP at hF
 iterate 3 (try simp [go_sem, g]; try intros; refine pw_wk ?_)
 repeat rw [sq]
 refine pJ hF (fun x3 => [(7, .v (.int .i64 x3))]) (fun x3 hF => ?_) fun _ hj1 hF => ?_
 ·cases hΦ _ (Rn_some hF)
  try simp [go_sem, g]
  refine pw_wk ?_
  try simp [go_sem, g]
 ·repeat rw [sq]
  rw [pw_block]
  obtain ⟨b14, hb15, hψ8⟩ := hF
  refine pR hb15 (fun i5 s4 => [(2, .v (.sl false 1 (a2.map zaa))), (3, .bl [.int .i64 a0.P, .int .i64 a0.Q, .int .i64 a0.G]), (7, .v (.int .i64 s4)), (10, .v (.sl false 1 (a1.map zaa))), (11, .v (.int .i64 (a1.length : Int))), (12, .v (.int .i64 i5))]) (fun s4 _ hN16 => ?_) (fun i5 s4 _ _ hi9 hi10 ho6 hg7 hF => ?_)
  ·subst hN16
   try simp [go_sem]
   refine pw_wk ?_
   repeat rw [sq]
   refine pw_cond_f (by simp [go_sem]) ?_
   try simp [go_sem]
   exact pT (hj1 s4) hψ8 (by simp [go_sem])
  ·try simp [go_sem, g]
   refine pw_wk ?_
   repeat rw [sq]
   refine pw_cond_t (by simp [go_sem, g, hi9, hi10]) ?_
   try simp [go_sem, g]
   refine pw_wk ?_
   repeat rw [sq]
   rw [pw_block]
   obtain ⟨x11, g, hF⟩ := Rx g hF
   try simp [go_sem, g]
   refine pw_wkK [2, 3, 7, 8, 9, 10, 11, 12] (by simp [go_sem, g]; rfl) ?_
   repeat rw [sq]
   refine pw_draw ziz follows (by kernel_rfl) rfl ?_
   try simp only [go_sem, ziz]
   obtain ⟨x12, g, hF⟩ := Rx g hF
   try simp [go_sem, g]
   refine pC hF [.sh, .sh, .sh] zdw (fun z13 hF => ?_)
   obtain ⟨g, hF⟩ := Rz g hF
   try simp [go_sem, g]
   refine pw_wkK [2, 3, 7, 10, 11, 12] (by simp [go_sem, g]; rfl) ?_
   try simp [go_sem, g]
   exact pT (hg7 ((i64.wrap (s4 * z13)).tmod a0.P)) (Rn_some hF) (by simp [go_sem, g, wr_i hi9 hi10 (by assumption)])
noncomputable def zcy (a0 : Group) (a1 : (List (List Int))) (a2 : (List Int)) : Option ((List Int)) :=
 ((rloop (σ := (List Int)) (fun i5 s4 =>
 (ix a1 i5).bind fun x11 =>
 (zbP a0 x11 a2).bind fun z12 =>
 gd ((s4.length + 1) * 8 ≤ 140737488355328 ∧ s4.length + 1 ≤ 4611686018427387904) <|
 some (.go (s4 ++ [z12]))) (fun s4 => s4) (a1.length) 0 [] : Option ((List Int))).bind fun x3 =>
 some x3)
theorem zeN : ∀ {a0} {a1} {a2} {r}, zcy a0 a1 a2 = some r → PCalls Tryz.prog 144 [(.sh, .agg [.int .i64 a0.P, .int .i64 a0.Q, .int .i64 a0.G]), (.sh, .sl false 1 (a1.map zaf)), (.sh, .sl false 1 (a2.map zaa))] (Eo (.sl true 1 (r.map zaa)) [.junk, .junk, .junk]) := by
 intro a0 a1 a2 r hr
 apply pF 25 [] [] [] [.tmp 6] hr cl144 Tryz.func144
 intro Φ hΦ hF g
 unfold zcy at hF
 iterate 3 (try simp [go_sem, g]; try intros; refine pw_wk ?_)
 repeat rw [sq]
 refine pJ hF (fun x3 => [(7, .v (.sl true 1 (x3.map zaa)))]) (fun x3 hF => ?_) fun _ hj1 hF => ?_
 ·cases hΦ _ (Rn_some hF)
  try simp [go_sem, g]
  refine pw_wk ?_
  try simp [go_sem, g]
 ·repeat rw [sq]
  rw [pw_block]
  obtain ⟨b13, hb14, hψ8⟩ := hF
  refine pR hb14 (fun i5 s4 => [(2, .v (.sl false 1 (a2.map zaa))), (3, .bl [.int .i64 a0.P, .int .i64 a0.Q, .int .i64 a0.G]), (7, .v (.sl true 1 (s4.map zaa))), (10, .v (.sl false 1 (a1.map zaf))), (11, .v (.int .i64 (a1.length : Int))), (12, .v (.int .i64 i5))]) (fun s4 _ hN15 => ?_) (fun i5 s4 _ _ hi9 hi10 ho6 hg7 hF => ?_)
  ·subst hN15
   try simp [go_sem]
   refine pw_wk ?_
   repeat rw [sq]
   refine pw_cond_f (by simp [go_sem]) ?_
   try simp [go_sem]
   exact pT (hj1 s4) hψ8 (by simp [go_sem])
  ·try simp [go_sem, g]
   refine pw_wk ?_
   repeat rw [sq]
   refine pw_cond_t (by simp [go_sem, g, hi9, hi10]) ?_
   try simp [go_sem, g]
   refine pw_wk ?_
   repeat rw [sq]
   rw [pw_block]
   obtain ⟨x11, g, hF⟩ := Rx g hF
   try simp [go_sem, g]
   refine pw_wkK [2, 3, 7, 9, 10, 11, 12] (by simp [go_sem, g]; rfl) ?_
   try simp [go_sem, g]
   refine pC hF [.sh, .sh, .sh] zfq (fun z12 hF => ?_)
   obtain ⟨g, hF⟩ := Rg g hF
   try simp [go_sem, g]
   refine pw_wk ?_
   try simp [go_sem, g]
   exact pT (hg7 (s4 ++ [z12])) (Rn_some hF) (by simp [go_sem, g, wr_i hi9 hi10 (by assumption)])
noncomputable def zbQ (a0 : (List (List Int))) (a1 : (List Int)) (a2 : (List Int)) : Option ((List Int)) :=
 ((rloop (σ := (List Int)) (fun i5 s4 =>
 (ix a0 i5).bind fun x11 =>
 gd ((s4.length + x11.length) * 8 ≤ 140737488355328 ∧ s4.length + x11.length ≤ 4611686018427387904) <|
 some (.go (s4 ++ x11))) (fun s4 => s4) (a0.length) 0 [] : Option ((List Int))).bind fun x3 =>
 gd ((x3.length + a1.length) * 8 ≤ 140737488355328 ∧ x3.length + a1.length ≤ 4611686018427387904) <|
 gd (((x3 ++ a1).length + a2.length) * 8 ≤ 140737488355328 ∧ (x3 ++ a1).length + a2.length ≤ 4611686018427387904) <|
 some (x3 ++ a1 ++ a2))
theorem zee : ∀ {a0} {a1} {a2} {r}, zbQ a0 a1 a2 = some r → PCalls Tryz.prog 146 [(.sh, .sl false 1 (a0.map zaf)), (.sh, .sl false 1 (a1.map zaa)), (.sh, .sl false 1 (a2.map zaa))] (Eo (.sl true 1 (r.map zaa)) [.junk, .junk, .junk]) := by
 intro a0 a1 a2 r hr
 apply pF 25 [] [] [] [.tmp 6] hr cl146 Tryz.func146
 intro Φ hΦ hF g
 unfold zbQ at hF
 iterate 3 (try simp [go_sem, g]; try intros; refine pw_wk ?_)
 repeat rw [sq]
 refine pJ hF (fun x3 => [(1, .v (.sl false 1 (a1.map zaa))), (2, .v (.sl false 1 (a2.map zaa))), (7, .v (.sl true 1 (x3.map zaa)))]) (fun x3 hF => ?_) fun _ hj1 hF => ?_
 ·obtain ⟨g, hF⟩ := Rg g hF
  obtain ⟨g, hF⟩ := Rg g hF
  try simp [go_sem, g]
  refine pw_wkK [6] (by simp [go_sem, g]; rfl) ?_
  cases hΦ _ (Rn_some hF)
  try simp [go_sem, g]
 ·repeat rw [sq]
  rw [pw_block]
  obtain ⟨b12, hb13, hψ8⟩ := hF
  refine pR hb13 (fun i5 s4 => [(1, .v (.sl false 1 (a1.map zaa))), (2, .v (.sl false 1 (a2.map zaa))), (7, .v (.sl true 1 (s4.map zaa))), (10, .v (.sl false 1 (a0.map zaf))), (11, .v (.int .i64 (a0.length : Int))), (12, .v (.int .i64 i5))]) (fun s4 _ hN14 => ?_) (fun i5 s4 _ _ hi9 hi10 ho6 hg7 hF => ?_)
  ·subst hN14
   try simp [go_sem]
   refine pw_wk ?_
   repeat rw [sq]
   refine pw_cond_f (by simp [go_sem]) ?_
   try simp [go_sem]
   exact pT (hj1 s4) hψ8 (by simp [go_sem])
  ·try simp [go_sem, g]
   refine pw_wk ?_
   repeat rw [sq]
   refine pw_cond_t (by simp [go_sem, g, hi9, hi10]) ?_
   try simp [go_sem, g]
   refine pw_wk ?_
   repeat rw [sq]
   rw [pw_block]
   obtain ⟨x11, g, hF⟩ := Rx g hF
   obtain ⟨g, hF⟩ := Rg g hF
   try simp [go_sem, g]
   refine pw_wk ?_
   try simp [go_sem, g]
   refine pw_wkK [1, 2, 7, 10, 11, 12] (by simp [go_sem, g]; rfl) ?_
   try simp [go_sem, g]
   exact pT (hg7 (s4 ++ x11)) (Rn_some hF) (by simp [go_sem, g, wr_i hi9 hi10 (by assumption)])
def zhU : List DE := [d0 0 [1], d1 1 [3] 3, d2 2 [8] 3 8, d1 3 [3] 3, d2 4 [10] 3 10, d1 5 [3] 3, d2 6 [12] 3 12, d0 7 [9, 11, 13], d0 8 [2], d1 11 [3] 3, d2 12 [18] 3 18, ⟨9, [14, 15], [], none, true, false, false⟩, d3 10 [7, 16], d0 13 [17, 19], d0 14 [20]]
noncomputable def za7 (a0 : Group) (a1 : ByteArray) (a2 : (List Int)) : Option (Int) :=
 gd (([a0.P, a0.Q, a0.G].length + a2.length) * 8 ≤ 140737488355328 ∧ [a0.P, a0.Q, a0.G].length + a2.length ≤ 4611686018427387904) <|
 (zb4 a1 ([a0.P, a0.Q, a0.G] ++ a2)).bind fun z1 =>
 gd (a0.Q ≠ 0) <|
 some (z1.tmod a0.Q)
theorem zeh : ∀ {a0} {a1} {a2} {r}, za7 a0 a1 a2 = some r → PCalls Tryz.prog 145 [(.sh, .agg [.int .i64 a0.P, .int .i64 a0.Q, .int .i64 a0.G]), (.sh, .str a1), (.sh, .sl false 1 (a2.map zaa))] (Eo (.int .i64 r) [.junk, .junk, .junk]) := by
 intro a0 a1 a2 r hr
 apply pF 21 [] [] [] [.tmp 6] hr cl145 Tryz.func145
 intro Φ hΦ hF g
 unfold za7 at hF
 try simp [go_sem, g]
 refine pw_wk ?_
 repeat rw [sq]
 refine pw_draw zhU follows (by kernel_rfl) rfl ?_
 try simp only [go_sem, zhU]
 obtain ⟨g, hF⟩ := Rg g hF
 try simp [go_sem, g]
 refine pC hF [.sh, .sh] zey (fun z1 hF => ?_)
 obtain ⟨g, hF⟩ := Rz g hF
 try simp [go_sem, g]
 refine pw_wkK [6] (by simp [go_sem, g]; rfl) ?_
 cases hΦ _ (Rn_some hF)
 try simp [go_sem, g]
def zib : List DE := [d2 0 [5] 5 5, d0 1 [1], d0 2 [2], d2 3 [5] 5 5, d0 4 [2], d0 5 [3], d1 7 [11] 11, d2 8 [27] 11 27, d3 6 [23, 24, 25], d3 9 [22, 26, 28], d3 10 [20, 21, 29], d0 11 [30]]
def zix : List DE := [d1 0 [11] 11, d2 1 [41] 11 41, d0 2 [4], d0 3 [13], d0 4 [43, 44], d0 5 [45], d0 6 [12], d0 7 [14], d0 8 [47, 48], d0 9 [46, 49], d1 10 [5] 5, d2 11 [51] 5 51, d0 12 [50, 52], d0 13 [53], ⟨14, [42, 54], [], none, true, false, false⟩, d1 15 [11] 11, d2 16 [56, 55] 11 56]
noncomputable def zdB (a0 : Group) (a1 : ByteArray) (a2 : (List (List Int))) (a3 : (List Int)) (a4 : (List Int)) : Option (Proof) :=
 (zcy a0 a2 a4).bind fun z1 =>
 (zcy a0 a2 a3).bind fun z2 =>
 (zbQ a2 z2 z1).bind fun z3 =>
 (za7 a0 a1 z3).bind fun z4 =>
 ((rloop (σ := (List Int) × (List Int) × (List Int)) (fun i18 s17 =>
 (ix a3 i18).bind fun x24 =>
 (ix a4 i18).bind fun x25 =>
 gd (a0.Q ≠ 0) <|
 gd ((s17.2.2.length + 1) * 8 ≤ 140737488355328 ∧ s17.2.2.length + 1 ≤ 4611686018427387904) <|
 some (.go (s17.1, s17.2.1, s17.2.2 ++ [(i64.wrap (x25 + (i64.wrap (z4 * x24)))).tmod a0.Q]))) (fun s17 => (s17.1, s17.2.1, s17.2.2)) (a3.length) 0 (z1, [z4], []) : Option (((List Int) × (List Int) × (List Int)))).bind fun x7 =>
 some (Proof.mk x7.1 x7.2.1 x7.2.2))
theorem zgI : ∀ {a0} {a1} {a2} {a3} {a4} {r}, zdB a0 a1 a2 a3 a4 = some r → PCalls Tryz.prog 127 [(.sh, .agg [.int .i64 a0.P, .int .i64 a0.Q, .int .i64 a0.G]), (.sh, .str a1), (.sh, .sl false 1 (a2.map zaf)), (.sh, .sl false 1 (a3.map zaa)), (.sh, .sl false 1 (a4.map zaa))] (Eo (.agg [.sl true 1 (r.Commits.map zaa), .sl true 1 (r.Challenges.map zaa), .sl true 1 (r.Responses.map zaa)]) [.junk, .junk, .junk, .junk, .junk]) := by
 intro a0 a1 a2 a3 a4 r hr
 apply pF 59 [] [] [] [.cell 10 31] hr cl127 Tryz.func127
 intro Φ hΦ hF g
 unfold zdB at hF
 try simp [go_sem, g]
 refine pw_wk ?_
 try simp [go_sem, g]
 refine pC hF [.sh, .sh, .sh] zeN (fun z1 hF => ?_)
 try simp [go_sem, g]
 refine pw_wk ?_
 repeat rw [sq]
 refine pw_draw zib follows (by kernel_rfl) rfl ?_
 try simp only [go_sem, zib]
 try simp [go_sem, g]
 refine pC hF [.sh, .sh, .sh] zeN (fun z2 hF => ?_)
 try simp [go_sem, g]
 refine pC hF [.sh, .sh, .sh] zee (fun z3 hF => ?_)
 try simp [go_sem, g]
 refine pC hF [.sh, .sh, .sh] zeh (fun z4 hF => ?_)
 try simp [go_sem, g]
 refine pw_wkK [3, 4, 5, 10, 11, 12] (by simp [go_sem, g]; rfl) ?_
 iterate 2 (try simp [go_sem, g]; try intros; refine pw_wk ?_)
 repeat rw [sq]
 refine pJ hF (fun x7 => [(10, .bl [.sl true 1 [], .sl true 1 [], .sl true 1 []]), (11, .bl [.sl true 1 (x7.1.map zaa), .sl true 1 (x7.2.1.map zaa), .sl true 1 (x7.2.2.map zaa)])]) (fun x7 hF => ?_) fun _ hj5 hF => ?_
 ·cases hΦ _ (Rn_some hF)
  try simp [go_sem, g]
  refine pw_wk ?_
  try simp [go_sem, g]
 ·repeat rw [sq]
  rw [pw_block]
  obtain ⟨b26, hb27, hψ21⟩ := hF
  refine pR hb27 (fun i18 s17 => [(4, .v (.sl false 1 (a4.map zaa))), (5, .bl [.int .i64 a0.P, .int .i64 a0.Q, .int .i64 a0.G]), (10, .bl [.sl true 1 [], .sl true 1 [], .sl true 1 []]), (11, .bl [.sl true 1 (s17.1.map zaa), .sl true 1 (s17.2.1.map zaa), .sl true 1 (s17.2.2.map zaa)]), (12, .v (.int .i64 z4)), (34, .v (.sl false 1 (a3.map zaa))), (35, .v (.int .i64 (a3.length : Int))), (36, .v (.int .i64 i18))]) (fun s17 _ hN28 => ?_) (fun i18 s17 _ _ hi22 hi23 ho19 hg20 hF => ?_)
  ·subst hN28
   try simp [go_sem]
   refine pw_wk ?_
   repeat rw [sq]
   refine pw_cond_f (by simp [go_sem]) ?_
   try simp [go_sem]
   exact pT (hj5 (s17.1, s17.2.1, s17.2.2)) hψ21 (by simp [go_sem])
  ·try simp [go_sem, g]
   refine pw_wk ?_
   repeat rw [sq]
   refine pw_cond_t (by simp [go_sem, g, hi22, hi23]) ?_
   try simp [go_sem, g]
   refine pw_wk ?_
   repeat rw [sq]
   rw [pw_block]
   obtain ⟨x24, g, hF⟩ := Rx g hF
   try simp [go_sem, g]
   refine pw_wkK [4, 5, 10, 11, 12, 13, 14, 34, 35, 36] (by simp [go_sem, g]; rfl) ?_
   repeat rw [sq]
   refine pw_draw zix follows (by kernel_rfl) rfl ?_
   try simp only [go_sem, zix]
   obtain ⟨x25, g, hF⟩ := Rx g hF
   obtain ⟨g, hF⟩ := Rz g hF
   obtain ⟨g, hF⟩ := Rg g hF
   try simp [go_sem, g]
   refine pw_wkK [4, 5, 10, 11, 12, 34, 35, 36] (by simp [go_sem, g]; rfl) ?_
   try simp [go_sem, g]
   exact pT (hg20 (s17.1, s17.2.1, s17.2.2 ++ [(i64.wrap (x25 + (i64.wrap (z4 * x24)))).tmod a0.Q])) (Rn_some hF) (by simp [go_sem, g, wr_i hi22 hi23 (by assumption)])
noncomputable def zdh (a0 : Group) (a1 : ByteArray) (a2 : Int) (a3 : Int) : Option (Proof) :=
 (zdB a0 a1 [[a0.G]] [a2] [a3]).bind fun z1 =>
 some z1
theorem zg2 : ∀ {a0} {a1} {a2} {a3} {r}, zdh a0 a1 a2 a3 = some r → PCalls Tryz.prog 114 [(.sh, .agg [.int .i64 a0.P, .int .i64 a0.Q, .int .i64 a0.G]), (.sh, .str a1), (.sh, .int .i64 a2), (.sh, .int .i64 a3)] (Eo (.agg [.sl true 1 (r.Commits.map zaa), .sl true 1 (r.Challenges.map zaa), .sl true 1 (r.Responses.map zaa)]) [.junk, .junk, .junk, .junk]) := by
 intro a0 a1 a2 a3 r hr
 apply pF 20 [] [] [] [.cell 8 31] hr cl114 Tryz.func114
 intro Φ hΦ hF g
 unfold zdh at hF
 try simp [go_sem, g]
 refine pw_wk ?_
 try simp [go_sem, g]
 refine pC hF [.sh, .sh, .sh, .sh, .sh] zgI (fun z1 hF => ?_)
 try simp [go_sem, g]
 refine pw_wkK [8] (by simp [go_sem, g]; rfl) ?_
 cases hΦ _ (Rn_some hF)
 try simp [go_sem, g]
def zjk : List DE := [d2 0 [6] 6 6, d2 1 [14] 14 14, d0 3 [1], d0 4 [5], d3 2 [37], d3 5 [36, 38, 39, 40], d1 6 [14] 14, d2 7 [42, 41] 14 42]
noncomputable def zcQ (a0 : Group) (a1 : Int) (a2 : Int) (a3 : Int) (a4 : Int) (a5 : Int) : Option (Head × Bool) :=
 (((zcm a0).bind fun z4 =>
 if (!z4) = true then (
 some true) else (
 (zcB a0 [a1, a5]).bind fun z6 =>
 if (!z6) = true then (
 some true) else (
 (zcz (Head.mk a2 a3 a4 (Proof.mk [] [] []))).bind fun z8 =>
 some (!z8))) : Option (Bool)).bind fun x3 =>
 if x3 = true then (
 some ((Head.mk 0 0 0 (Proof.mk [] [] [])), false)) else (
 (za6 (Head.mk a2 a3 a4 (Proof.mk [] [] []))).bind fun z10 =>
 (zdh a0 z10 a1 a5).bind fun z11 =>
 some ((Head.mk a2 a3 a4 z11), true)))
theorem zdd : ∀ {a0} {a1} {a2} {a3} {a4} {a5} {r}, zcQ a0 a1 a2 a3 a4 a5 = some r → PCalls Tryz.prog 88 [(.sh, .agg [.int .i64 a0.P, .int .i64 a0.Q, .int .i64 a0.G]), (.sh, .int .i64 a1), (.sh, .int .i64 a2), (.sh, .int .i64 a3), (.sh, .int .i64 a4), (.sh, .int .i64 a5)] (Eo (.tup [.agg [.int .i64 r.1.Author, .int .i64 r.1.Size, .int .i64 r.1.Root, .sl true 1 (r.1.Sign.Commits.map zaa), .sl true 1 (r.1.Sign.Challenges.map zaa), .sl true 1 (r.1.Sign.Responses.map zaa)], .bool r.2]) [.junk, .junk, .junk, .junk, .junk, .junk]) := by
 intro a0 a1 a2 a3 a4 a5 r hr
 apply pF 44 [] [] [] [.cell 12 33, .tmp 13] hr cl88 Tryz.func88
 intro Φ hΦ hF g
 unfold zcQ at hF
 iterate 2 (try simp [go_sem, g]; refine pw_wk ?_)
 repeat rw [sq]
 refine pJ hF (fun x3 => [(1, .v (.int .i64 a1)), (5, .v (.int .i64 a5)), (6, .bl [.int .i64 a0.P, .int .i64 a0.Q, .int .i64 a0.G]), (12, .bl [.int .i64 0, .int .i64 0, .int .i64 0, .sl true 1 [], .sl true 1 [], .sl true 1 []]), (14, .bl [.int .i64 a2, .int .i64 a3, .int .i64 a4, .sl true 1 [], .sl true 1 [], .sl true 1 []]), (34, .v (.bool x3))]) (fun x3 hF => ?_) fun _ hj1 hF => ?_
 ·repeat rw [sq]
  refine pI hF (fun h9 hF => ?_) (fun h9 hF => ?_)
  ·try simp [go_sem, g]
   refine pw_wkK [12, 13] (by simp [go_sem, g]; rfl) ?_
   cases hΦ _ (Rn_some hF)
   try simp [go_sem, g]
  ·try simp [go_sem, g]
   refine pw_wk ?_
   repeat rw [sq]
   refine pw_draw zjk follows (by kernel_rfl) rfl ?_
   try simp only [go_sem, zjk]
   try simp [go_sem, g]
   refine pC hF [.sh] zef (fun z10 hF => ?_)
   try simp [go_sem, g]
   refine pC hF [.sh, .sh, .sh, .sh] zg2 (fun z11 hF => ?_)
   try simp [go_sem, g]
   refine pw_wkK [12, 14] (by simp [go_sem, g]; rfl) ?_
   cases hΦ _ (Rn_some hF)
   try simp [go_sem, g]
   refine pw_wk ?_
   try simp [go_sem, g]
 ·try simp [go_sem, g]
  refine pC hF [.sh] zea (fun z4 hF => ?_)
  try simp [go_sem, g]
  refine pwg_F hF (fun h5 hF => ?_) fun h5 hF => ?_
  ·try simp [go_sem, g, h5]
   exact pT (hj1 true) (Rn_some hF)
  ·try simp [go_sem, g, h5]
   refine pC hF [.sh, .sh] zft (fun z6 hF => ?_)
   try simp [go_sem, g, h5]
   refine pwg_F hF (fun h7 hF => ?_) fun h7 hF => ?_
   ·try simp [go_sem, g, h7]
    exact pT (hj1 true) (Rn_some hF)
   ·try simp [go_sem, g, h7]
    refine pC hF [.sh] zeu (fun z8 hF => ?_)
    try simp [go_sem, g, h7]
    exact pT (hj1 (!z8)) (Rn_some hF)
noncomputable def zaX (a0c0 : (List Int)) (a0c1 : Int) (a0c2 : Int) (a1 : Int) : Option (Bool × ((List Int) × Int × Int)) :=
 (zac a0c0 a0c1 a0c2 a1).bind fun z1 =>
 some ((z1.1 == 0), (z1.2.1, z1.2.2.1, z1.2.2.2))
theorem zbe : ∀ {a0c0} {a0c1} {a0c2} {a1} {r}, zaX a0c0 a0c1 a0c2 a1 = some r → PCalls Tryz.prog 89 [(.io, .bx [.sl false 1 (a0c0.map zag), .int .i64 a0c1, .int .u64 a0c2]), (.sh, .int .i64 a1)] (Eo (.bool r.1) [.bx [.sl false 1 (r.2.1.map zag), .int .i64 r.2.2.1, .int .u64 r.2.2.2], .junk]) := by
 intro a0c0 a0c1 a0c2 a1 r hr
 apply pF 9 [0] [] [] [.tmp 4] hr cl89 Tryz.func89
 intro Φ hΦ hF g
 unfold zaX at hF
 try simp [go_sem, g]
 refine pw_wk ?_
 try simp [go_sem, g]
 refine pC hF [.io, .sh] zab (fun z1 hF => ?_)
 cases hΦ _ (Rn_some hF)
 try simp [go_sem, g]
 refine pw_wk ?_
 try simp [go_sem, g]
noncomputable def zbh (a0c0 : (List Int)) (a0c1 : Int) (a0c2 : Int) : Option (Int × ((List Int) × Int × Int)) :=
 (zac a0c0 a0c1 a0c2 16).bind fun z1 =>
 if (z1.1 == 0) = true then (
 (zah z1.2.1 z1.2.2.1 z1.2.2.2 [(-1), 4611686018427387903, 4611686018427387904, 2147483648, 2147483647, 2147483647]).bind fun z3 =>
 some (z3.1, (z3.2.1, z3.2.2.1, z3.2.2.2))) else (
 ((if (z1.1 == 1) = true then (
 some (z1.1 == 1)) else (
 if (z1.1 == 2) = true then (
 some (z1.1 == 2)) else (
 some (z1.1 == 3))) : Option (Bool)).bind fun x6 =>
 if x6 = true then (
 (zac z1.2.1 z1.2.2.1 z1.2.2.2 60000).bind fun z10 =>
 (zc4 [z10.1]).bind fun z11 =>
 some (z11, (z10.2.1, z10.2.2.1, z10.2.2.2))) else (
 (zac z1.2.1 z1.2.2.1 z1.2.2.2 200).bind fun z12 =>
 some (z12.1, (z12.2.1, z12.2.2.1, z12.2.2.2)))))
theorem zev : ∀ {a0c0} {a0c1} {a0c2} {r}, zbh a0c0 a0c1 a0c2 = some r → PCalls Tryz.prog 116 [(.io, .bx [.sl false 1 (a0c0.map zag), .int .i64 a0c1, .int .u64 a0c2])] (Eo (.int .i64 r.1) [.bx [.sl false 1 (r.2.1.map zag), .int .i64 r.2.2.1, .int .u64 r.2.2.2]]) := by
 intro a0c0 a0c1 a0c2 r hr
 apply pF 20 [0] [] [] [.tmp 2] hr cl116 Tryz.func116
 intro Φ hΦ hF g
 unfold zbh at hF
 try simp [go_sem, g]
 refine pw_wk ?_
 try simp [go_sem, g]
 refine pC hF [.io, .sh] zab (fun z1 hF => ?_)
 try simp [go_sem, g]
 refine pw_wk ?_
 repeat rw [sq]
 rw [pw_block]
 try simp [go_sem, g]
 refine pw_wk ?_
 repeat rw [sq]
 refine pI hF (fun h2 hF => ?_) (fun h2 hF => ?_)
 ·try simp [go_sem, g]
  refine pC hF [.io, .mv] zao (fun z3 hF => ?_)
  cases hΦ _ (Rn_some hF)
  try simp [go_sem, g]
  refine pw_wk ?_
  try simp [go_sem, g]
 ·try simp [go_sem, g]
  refine pw_wk ?_
  repeat rw [sq]
  refine pJ hF (fun x6 => [(0, .v (.bx [.sl false 1 (z1.2.1.map zag), .int .i64 z1.2.2.1, .int .u64 z1.2.2.2])), (10, .v (.bool x6))]) (fun x6 hF => ?_) fun _ hj4 hF => ?_
  ·repeat rw [sq]
   refine pI hF (fun h9 hF => ?_) (fun h9 hF => ?_)
   ·try simp [go_sem, g]
    refine pC hF [.io, .sh] zab (fun z10 hF => ?_)
    try simp [go_sem, g]
    refine pC hF [.sh] zff (fun z11 hF => ?_)
    try simp [go_sem, g]
    refine pw_wkK [0, 2] (by simp [go_sem, g]; rfl) ?_
    cases hΦ _ (Rn_some hF)
    try simp [go_sem, g]
   ·try simp [go_sem, g]
    refine pw_wk ?_
    try simp [go_sem, g]
    refine pC hF [.io, .sh] zab (fun z12 hF => ?_)
    try simp [go_sem, g]
    refine pw_wkK [0, 2] (by simp [go_sem, g]; rfl) ?_
    cases hΦ _ (Rn_some hF)
    try simp [go_sem, g]
  ·repeat rw [sq]
   refine pI hF (fun h7 hF => ?_) (fun h7 hF => ?_)
   ·try simp [go_sem, g]
    exact pT (hj4 (z1.1 == 1)) (Rn_some hF)
   ·try simp [go_sem, g]
    refine pw_wk ?_
    repeat rw [sq]
    refine pI hF (fun h8 hF => ?_) (fun h8 hF => ?_)
    ·try simp [go_sem, g]
     exact pT (hj4 (z1.1 == 2)) (Rn_some hF)
    ·try simp [go_sem, g]
     exact pT (hj4 (z1.1 == 3)) (Rn_some hF)
noncomputable def zbK (a0 : (List Int)) : Option ((List Int)) :=
 gd (a0.length * 8 ≤ 140737488355328 ∧ a0.length ≤ 4611686018427387904) <|
 some a0
theorem zc3 : ∀ {a0} {r}, zbK a0 = some r → PCalls Tryz.prog 120 [(.sh, .sl false 1 (a0.map zaa))] (Eo (.sl true 1 (r.map zaa)) [.junk]) := by
 intro a0 r hr
 apply pF 6 [] [] [] [.tmp 2] hr cl120 Tryz.func120
 intro Φ hΦ hF g
 unfold zbK at hF
 obtain ⟨g, hF⟩ := Rg g hF
 cases hΦ _ (Rn_some hF)
 iterate 2 (try simp [go_sem, g]; refine pw_wk ?_)
 try simp [go_sem, g]
noncomputable def zaR (a0c0 : (List Int)) (a0c1 : Int) (a0c2 : Int) (a1 : Group) : Option (Int × ((List Int) × Int × Int)) :=
 (zaX a0c0 a0c1 a0c2 24).bind fun z1 =>
 if z1.1 = true then (
 (zah z1.2.1 z1.2.2.1 z1.2.2.2 [a1.Q, (-1), i64.wrap (a1.Q - 1)]).bind fun z3 =>
 some (z3.1, (z3.2.1, z3.2.2.1, z3.2.2.2))) else (
 (zaQ z1.2.1 z1.2.2.1 z1.2.2.2 a1).bind fun z4 =>
 some (z4.1, (z4.2.1, z4.2.2.1, z4.2.2.2)))
theorem zdg : ∀ {a0c0} {a0c1} {a0c2} {a1} {r}, zaR a0c0 a0c1 a0c2 a1 = some r → PCalls Tryz.prog 131 [(.io, .bx [.sl false 1 (a0c0.map zag), .int .i64 a0c1, .int .u64 a0c2]), (.sh, .agg [.int .i64 a1.P, .int .i64 a1.Q, .int .i64 a1.G])] (Eo (.int .i64 r.1) [.bx [.sl false 1 (r.2.1.map zag), .int .i64 r.2.2.1, .int .u64 r.2.2.2], .junk]) := by
 intro a0c0 a0c1 a0c2 a1 r hr
 apply pF 18 [0] [] [] [.tmp 4] hr cl131 Tryz.func131
 intro Φ hΦ hF g
 unfold zaR at hF
 try simp [go_sem, g]
 refine pw_wk ?_
 try simp [go_sem, g]
 refine pC hF [.io, .sh] zbe (fun z1 hF => ?_)
 try simp [go_sem, g]
 refine pw_wk ?_
 repeat rw [sq]
 refine pI hF (fun h2 hF => ?_) (fun h2 hF => ?_)
 ·try simp [go_sem, g]
  refine pC hF [.io, .mv] zao (fun z3 hF => ?_)
  try simp [go_sem, g]
  refine pw_wkK [0, 4] (by simp [go_sem, g]; rfl) ?_
  cases hΦ _ (Rn_some hF)
  try simp [go_sem, g]
 ·try simp [go_sem, g]
  refine pw_wk ?_
  try simp [go_sem, g]
  refine pC hF [.io, .sh] zcW (fun z4 hF => ?_)
  cases hΦ _ (Rn_some hF)
  try simp [go_sem, g]
  refine pw_wk ?_
  try simp [go_sem, g]
def zju : List DE := [d2 0 [3] 3 3, d1 1 [3] 3, d2 2 [14] 3 14, d1 3 [3] 3, d2 4 [16] 3 16, d0 6 [0], d2 7 [3] 3 3, d3 5 [15, 17], d3 8 [19, 20], d3 9 [13, 18, 21], d0 10 [22]]
noncomputable def zba (a0c0 : (List Int)) (a0c1 : Int) (a0c2 : Int) (a1 : Group) : Option (Int × ((List Int) × Int × Int)) :=
 ((if decide (a1.P < 3) = true then (
 some true) else (
 some (decide (a1.Q < 1))) : Option (Bool)).bind fun x3 =>
 if x3 = true then (
 some (1, (a0c0, a0c1, a0c2))) else (
 (zcv a1.G a1.P).bind fun z6 =>
 (zaQ a0c0 a0c1 a0c2 a1).bind fun z7 =>
 (zaE a1 z6 z7.1).bind fun z8 =>
 some (z8, (z7.2.1, z7.2.2.1, z7.2.2.2))))
theorem zej : ∀ {a0c0} {a0c1} {a0c2} {a1} {r}, zba a0c0 a0c1 a0c2 a1 = some r → PCalls Tryz.prog 91 [(.io, .bx [.sl false 1 (a0c0.map zag), .int .i64 a0c1, .int .u64 a0c2]), (.sh, .agg [.int .i64 a1.P, .int .i64 a1.Q, .int .i64 a1.G])] (Eo (.int .i64 r.1) [.bx [.sl false 1 (r.2.1.map zag), .int .i64 r.2.2.1, .int .u64 r.2.2.2], .junk]) := by
 intro a0c0 a0c1 a0c2 a1 r hr
 apply pF 23 [0] [] [] [.tmp 4] hr cl91 Tryz.func91
 intro Φ hΦ hF g
 unfold zba at hF
 try simp [go_sem, g]
 refine pw_wk ?_
 repeat rw [sq]
 refine pJ hF (fun x3 => [(0, .v (.bx [.sl false 1 (a0c0.map zag), .int .i64 a0c1, .int .u64 a0c2])), (3, .bl [.int .i64 a1.P, .int .i64 a1.Q, .int .i64 a1.G]), (12, .v (.bool x3))]) (fun x3 hF => ?_) fun _ hj1 hF => ?_
 ·repeat rw [sq]
  refine pI hF (fun h5 hF => ?_) (fun h5 hF => ?_)
  ·cases hΦ _ (Rn_some hF)
   try simp [go_sem, g]
   refine pw_wk ?_
   try simp [go_sem, g]
  ·try simp [go_sem, g]
   refine pw_wk ?_
   repeat rw [sq]
   refine pw_draw zju follows (by kernel_rfl) rfl ?_
   try simp only [go_sem, zju]
   try simp [go_sem, g]
   refine pC hF [.sh, .sh] zfK (fun z6 hF => ?_)
   try simp [go_sem, g]
   refine pC hF [.io, .sh] zcW (fun z7 hF => ?_)
   try simp [go_sem, g]
   refine pC hF [.sh, .sh, .sh] zdw (fun z8 hF => ?_)
   try simp [go_sem, g]
   refine pw_wkK [0, 4] (by simp [go_sem, g]; rfl) ?_
   cases hΦ _ (Rn_some hF)
   try simp [go_sem, g]
 ·try simp [go_sem, g]
  refine pwg_F hF (fun h4 hF => ?_) fun h4 hF => ?_
  ·try simp [go_sem, g, h4]
   exact pT (hj1 true) (Rn_some hF)
  ·try simp [go_sem, g, h4]
   exact pT (hj1 (decide (a1.Q < 1))) (Rn_some hF)
noncomputable def zaG (a0c0 : (List Int)) (a0c1 : Int) (a0c2 : Int) (a1 : Group) : Option (Int × ((List Int) × Int × Int)) :=
 (zaX a0c0 a0c1 a0c2 20).bind fun z1 =>
 if z1.1 = true then (
 (zah z1.2.1 z1.2.2.1 z1.2.2.2 [0, 1, i64.wrap (a1.P - 1), a1.P, (-1), 5]).bind fun z3 =>
 some (z3.1, (z3.2.1, z3.2.2.1, z3.2.2.2))) else (
 (zba z1.2.1 z1.2.2.1 z1.2.2.2 a1).bind fun z4 =>
 some (z4.1, (z4.2.1, z4.2.2.1, z4.2.2.2)))
theorem zc1 : ∀ {a0c0} {a0c1} {a0c2} {a1} {r}, zaG a0c0 a0c1 a0c2 a1 = some r → PCalls Tryz.prog 57 [(.io, .bx [.sl false 1 (a0c0.map zag), .int .i64 a0c1, .int .u64 a0c2]), (.sh, .agg [.int .i64 a1.P, .int .i64 a1.Q, .int .i64 a1.G])] (Eo (.int .i64 r.1) [.bx [.sl false 1 (r.2.1.map zag), .int .i64 r.2.2.1, .int .u64 r.2.2.2], .junk]) := by
 intro a0c0 a0c1 a0c2 a1 r hr
 apply pF 18 [0] [] [] [.tmp 4] hr cl57 Tryz.func57
 intro Φ hΦ hF g
 unfold zaG at hF
 try simp [go_sem, g]
 refine pw_wk ?_
 try simp [go_sem, g]
 refine pC hF [.io, .sh] zbe (fun z1 hF => ?_)
 try simp [go_sem, g]
 refine pw_wk ?_
 repeat rw [sq]
 refine pI hF (fun h2 hF => ?_) (fun h2 hF => ?_)
 ·try simp [go_sem, g]
  refine pC hF [.io, .mv] zao (fun z3 hF => ?_)
  try simp [go_sem, g]
  refine pw_wkK [0, 4] (by simp [go_sem, g]; rfl) ?_
  cases hΦ _ (Rn_some hF)
  try simp [go_sem, g]
 ·try simp [go_sem, g]
  refine pw_wk ?_
  try simp [go_sem, g]
  refine pC hF [.io, .sh] zej (fun z4 hF => ?_)
  cases hΦ _ (Rn_some hF)
  try simp [go_sem, g]
  refine pw_wk ?_
  try simp [go_sem, g]
def zh2 : List DE := [d1 0 [5] 5, d2 1 [10] 5 10, d1 3 [5] 5, d2 4 [13] 5 13, d1 6 [5] 5, d2 7 [16] 5 16, d3 2 [11], d3 5 [14], d3 8 [17], d0 9 [12, 15, 18], d2 10 [5, 19] 5 5]
def zhy : List DE := [d1 0 [5] 5, d2 1 [45] 5 45, d0 2 [0], d0 3 [8], d0 5 [0], d2 6 [4] 4 4, d3 4 [47, 48], d3 7 [50, 51], d0 8 [46, 49], d0 9 [53, 52]]
def zhu : List DE := [d1 0 [5] 5, d2 1 [61] 5 61, d0 2 [0], d0 3 [9], d0 5 [0], d2 6 [4] 4 4, d3 4 [63, 64], d3 7 [66, 67], d0 8 [62, 65], d0 9 [69, 68]]
def zia : List DE := [d1 0 [5] 5, d2 1 [29] 5 29, d0 2 [0], d0 3 [7], d0 5 [0], d2 6 [4] 4 4, d3 4 [31, 32], d3 7 [34, 35], d0 8 [30, 33], d0 9 [37, 36]]
noncomputable def zaS (a0c0 : (List Int)) (a0c1 : Int) (a0c2 : Int) (a1 : Group) (a2 : Proof) : Option (Proof × ((List Int) × Int × Int)) :=
 (zbK a2.Commits).bind fun z1 =>
 (zbK a2.Challenges).bind fun z2 =>
 (zbK a2.Responses).bind fun z3 =>
 (zac a0c0 a0c1 a0c2 12).bind fun z4 =>
 ((if (z4.1 == 0) = true then (
 if decide (0 < (z3.length : Int)) = true then (
 (zac z4.2.1 z4.2.2.1 z4.2.2.2 (z3.length : Int)).bind fun z10 =>
 (zaR z10.2.1 z10.2.2.1 z10.2.2.2 a1).bind fun z11 =>
 (ix z3 z10.1).bind fun x12 =>
 some (.inl ((z11.2.1, z11.2.2.1, z11.2.2.2), z1, z2, z3.set z10.1.toNat z11.1))) else (
 some (.inl ((z4.2.1, z4.2.2.1, z4.2.2.2), z1, z2, z3)))) else (
 if (z4.1 == 1) = true then (
 if decide (0 < (z1.length : Int)) = true then (
 (zac z4.2.1 z4.2.2.1 z4.2.2.2 (z1.length : Int)).bind fun z15 =>
 (zaG z15.2.1 z15.2.2.1 z15.2.2.2 a1).bind fun z16 =>
 (ix z1 z15.1).bind fun x17 =>
 some (.inl ((z16.2.1, z16.2.2.1, z16.2.2.2), z1.set z15.1.toNat z16.1, z2, z3))) else (
 some (.inl ((z4.2.1, z4.2.2.1, z4.2.2.2), z1, z2, z3)))) else (
 if (z4.1 == 2) = true then (
 if decide (0 < (z2.length : Int)) = true then (
 (zac z4.2.1 z4.2.2.1 z4.2.2.2 (z2.length : Int)).bind fun z20 =>
 (zaR z20.2.1 z20.2.2.1 z20.2.2.2 a1).bind fun z21 =>
 (ix z2 z20.1).bind fun x22 =>
 some (.inl ((z21.2.1, z21.2.2.1, z21.2.2.2), z1, z2.set z20.1.toNat z21.1, z3))) else (
 some (.inl ((z4.2.1, z4.2.2.1, z4.2.2.2), z1, z2, z3)))) else (
 if (z4.1 == 3) = true then (
 gd ((z3.length + 1) * 8 ≤ 140737488355328 ∧ z3.length + 1 ≤ 4611686018427387904) <|
 some (.inl ((z4.2.1, z4.2.2.1, z4.2.2.2), z1, z2, z3 ++ [0]))) else (
 if (z4.1 == 4) = true then (
 some (.inr ((Proof.mk [] [] []), (z4.2.1, z4.2.2.1, z4.2.2.2)))) else (
 some (.inl ((z4.2.1, z4.2.2.1, z4.2.2.2), z1, z2, z3))))))) : Option ((((List Int) × Int × Int) × (List Int) × (List Int) × (List Int)) ⊕ (Proof × ((List Int) × Int × Int)))).bind (Sum.elim (fun x7 =>
 some ((Proof.mk x7.2.1 x7.2.2.1 x7.2.2.2), (x7.1.1, x7.1.2.1, x7.1.2.2))) some))
theorem zdT : ∀ {a0c0} {a0c1} {a0c2} {a1} {a2} {r}, zaS a0c0 a0c1 a0c2 a1 a2 = some r → PCalls Tryz.prog 117 [(.io, .bx [.sl false 1 (a0c0.map zag), .int .i64 a0c1, .int .u64 a0c2]), (.sh, .agg [.int .i64 a1.P, .int .i64 a1.Q, .int .i64 a1.G]), (.sh, .agg [.sl false 1 (a2.Commits.map zaa), .sl false 1 (a2.Challenges.map zaa), .sl false 1 (a2.Responses.map zaa)])] (Eo (.agg [.sl true 1 (r.1.Commits.map zaa), .sl true 1 (r.1.Challenges.map zaa), .sl true 1 (r.1.Responses.map zaa)]) [.bx [.sl false 1 (r.2.1.map zag), .int .i64 r.2.2.1, .int .u64 r.2.2.2], .junk, .junk]) := by
 intro a0c0 a0c1 a0c2 a1 a2 r hr
 apply pF 81 [0] [] [] [.cell 6 31] hr cl117 Tryz.func117
 intro Φ hΦ hF g
 unfold zaS at hF
 try simp [go_sem, g]
 refine pw_wk ?_
 repeat rw [sq]
 refine pw_draw zh2 follows (by kernel_rfl) rfl ?_
 try simp only [go_sem, zh2]
 try simp [go_sem, g]
 refine pC hF [.sh] zc3 (fun z1 hF => ?_)
 try simp [go_sem, g]
 refine pC hF [.sh] zc3 (fun z2 hF => ?_)
 try simp [go_sem, g]
 refine pC hF [.sh] zc3 (fun z3 hF => ?_)
 try simp [go_sem, g]
 refine pw_wkK [0, 4, 5, 6] (by simp [go_sem, g]; rfl) ?_
 try simp [go_sem, g]
 refine pC hF [.io, .sh] zab (fun z4 hF => ?_)
 try simp [go_sem, g]
 refine pw_wk ?_
 repeat rw [sq]
 refine pJs hF (fun x7 => [(0, .v (.bx [.sl false 1 (x7.1.1.map zag), .int .i64 x7.1.2.1, .int .u64 x7.1.2.2])), (5, .bl [.sl true 1 (x7.2.1.map zaa), .sl true 1 (x7.2.2.1.map zaa), .sl true 1 (x7.2.2.2.map zaa)]), (6, .bl [.sl true 1 [], .sl true 1 [], .sl true 1 []])]) (fun x7 hF => ?_) fun _ hj5 hr6 hF => ?_
 ·cases hΦ _ (Rn_some hF)
  try simp [go_sem, g]
  refine pw_wk ?_
  try simp [go_sem, g]
 ·repeat rw [sq]
  rw [pw_block]
  try simp [go_sem, g]
  refine pw_wk ?_
  repeat rw [sq]
  refine pI hF (fun h8 hF => ?_) (fun h8 hF => ?_)
  ·try simp [go_sem, g]
   try intros
   refine pw_wk ?_
   try simp [go_sem, g]
   try intros
   refine pw_wkK [0, 4, 5, 6, 7, 28] (by simp [go_sem, g]; rfl) ?_
   repeat rw [sq]
   refine pI hF (fun h9 hF => ?_) (fun h9 hF => ?_)
   ·repeat rw [sq]
    refine pw_draw zia follows (by kernel_rfl) rfl ?_
    try simp only [go_sem, zia]
    try simp [go_sem, g]
    refine pC hF [.io, .sh] zab (fun z10 hF => ?_)
    try simp [go_sem, g]
    refine pC hF [.io, .sh] zdg (fun z11 hF => ?_)
    obtain ⟨x12, g, hF⟩ := Rx g hF
    try simp [go_sem, g]
    exact pT (hj5 ((z11.2.1, z11.2.2.1, z11.2.2.2), z1, z2, z3.set z10.1.toNat z11.1)) (Rn_some hF)
   ·try simp [go_sem, g]
    exact pT (hj5 ((z4.2.1, z4.2.2.1, z4.2.2.2), z1, z2, z3)) (Rn_some hF)
  ·try simp [go_sem, g]
   refine pw_wk ?_
   repeat rw [sq]
   refine pI hF (fun h13 hF => ?_) (fun h13 hF => ?_)
   ·try simp [go_sem, g]
    try intros
    refine pw_wkK [0, 4, 5, 6, 8] (by simp [go_sem, g]; rfl) ?_
    try simp [go_sem, g]
    refine pw_wk ?_
    repeat rw [sq]
    refine pI hF (fun h14 hF => ?_) (fun h14 hF => ?_)
    ·repeat rw [sq]
     refine pw_draw zhy follows (by kernel_rfl) rfl ?_
     try simp only [go_sem, zhy]
     try simp [go_sem, g]
     refine pC hF [.io, .sh] zab (fun z15 hF => ?_)
     try simp [go_sem, g]
     refine pC hF [.io, .sh] zc1 (fun z16 hF => ?_)
     obtain ⟨x17, g, hF⟩ := Rx g hF
     try simp [go_sem, g]
     exact pT (hj5 ((z16.2.1, z16.2.2.1, z16.2.2.2), z1.set z15.1.toNat z16.1, z2, z3)) (Rn_some hF)
    ·try simp [go_sem, g]
     exact pT (hj5 ((z4.2.1, z4.2.2.1, z4.2.2.2), z1, z2, z3)) (Rn_some hF)
   ·try simp [go_sem, g]
    refine pw_wk ?_
    repeat rw [sq]
    refine pI hF (fun h18 hF => ?_) (fun h18 hF => ?_)
    ·try simp [go_sem, g]
     try intros
     refine pw_wkK [0, 4, 5, 6, 9] (by simp [go_sem, g]; rfl) ?_
     try simp [go_sem, g]
     refine pw_wk ?_
     repeat rw [sq]
     refine pI hF (fun h19 hF => ?_) (fun h19 hF => ?_)
     ·repeat rw [sq]
      refine pw_draw zhu follows (by kernel_rfl) rfl ?_
      try simp only [go_sem, zhu]
      try simp [go_sem, g]
      refine pC hF [.io, .sh] zab (fun z20 hF => ?_)
      try simp [go_sem, g]
      refine pC hF [.io, .sh] zdg (fun z21 hF => ?_)
      obtain ⟨x22, g, hF⟩ := Rx g hF
      try simp [go_sem, g]
      exact pT (hj5 ((z21.2.1, z21.2.2.1, z21.2.2.2), z1, z2.set z20.1.toNat z21.1, z3)) (Rn_some hF)
     ·try simp [go_sem, g]
      exact pT (hj5 ((z4.2.1, z4.2.2.1, z4.2.2.2), z1, z2, z3)) (Rn_some hF)
    ·try simp [go_sem, g]
     refine pw_wkK [0, 5, 6, 21, 70] (by simp [go_sem, g]; rfl) ?_
     repeat rw [sq]
     refine pI hF (fun h23 hF => ?_) (fun h23 hF => ?_)
     ·obtain ⟨g, hF⟩ := Rg g hF
      try simp [go_sem, g]
      exact pT (hj5 ((z4.2.1, z4.2.2.1, z4.2.2.2), z1, z2, z3 ++ [0])) (Rn_some hF)
     ·try simp [go_sem, g]
      refine pw_wk ?_
      repeat rw [sq]
      refine pI hF (fun h24 hF => ?_) (fun h24 hF => ?_)
      ·cases hΦ _ (hr6 _ (Rn_some hF))
       try simp [go_sem, g]
       refine pw_wk ?_
       try simp [go_sem, g]
      ·try simp [go_sem, g]
       exact pT (hj5 ((z4.2.1, z4.2.2.1, z4.2.2.2), z1, z2, z3)) (Rn_some hF)
noncomputable def zaY (a0c0 : (List Int)) (a0c1 : Int) (a0c2 : Int) (a1 : Group) (a2 : Head) : Option (Head × ((List Int) × Int × Int)) :=
 (zac a0c0 a0c1 a0c2 8).bind fun z1 =>
 ((if (z1.1 == 0) = true then (
 some ((z1.2.1, z1.2.2.1, z1.2.2.2), a2.Author, i64.wrap (a2.Size + 1), a2.Root, a2.Sign.Commits, a2.Sign.Challenges, a2.Sign.Responses)) else (
 if (z1.1 == 1) = true then (
 (zbh z1.2.1 z1.2.2.1 z1.2.2.2).bind fun z7 =>
 some ((z7.2.1, z7.2.2.1, z7.2.2.2), a2.Author, a2.Size, z7.1, a2.Sign.Commits, a2.Sign.Challenges, a2.Sign.Responses)) else (
 if (z1.1 == 2) = true then (
 (zaS z1.2.1 z1.2.2.1 z1.2.2.2 a1 a2.Sign).bind fun z9 =>
 some ((z9.2.1, z9.2.2.1, z9.2.2.2), a2.Author, a2.Size, a2.Root, z9.1.Commits, z9.1.Challenges, z9.1.Responses)) else (
 if (z1.1 == 3) = true then (
 (zac z1.2.1 z1.2.2.1 z1.2.2.2 4).bind fun z11 =>
 some ((z11.2.1, z11.2.2.1, z11.2.2.2), i64.wrap (z11.1 - 1), a2.Size, a2.Root, a2.Sign.Commits, a2.Sign.Challenges, a2.Sign.Responses)) else (
 some ((z1.2.1, z1.2.2.1, z1.2.2.2), a2.Author, a2.Size, a2.Root, a2.Sign.Commits, a2.Sign.Challenges, a2.Sign.Responses))))) : Option ((((List Int) × Int × Int) × Int × Int × Int × (List Int) × (List Int) × (List Int)))).bind fun x4 =>
 some ((Head.mk x4.2.1 x4.2.2.1 x4.2.2.2.1 (Proof.mk x4.2.2.2.2.1 x4.2.2.2.2.2.1 x4.2.2.2.2.2.2)), (x4.1.1, x4.1.2.1, x4.1.2.2)))
theorem zbi : ∀ {a0c0} {a0c1} {a0c2} {a1} {a2} {r}, zaY a0c0 a0c1 a0c2 a1 a2 = some r → PCalls Tryz.prog 90 [(.io, .bx [.sl false 1 (a0c0.map zag), .int .i64 a0c1, .int .u64 a0c2]), (.sh, .agg [.int .i64 a1.P, .int .i64 a1.Q, .int .i64 a1.G]), (.sh, .agg [.int .i64 a2.Author, .int .i64 a2.Size, .int .i64 a2.Root, .sl false 1 (a2.Sign.Commits.map zaa), .sl false 1 (a2.Sign.Challenges.map zaa), .sl false 1 (a2.Sign.Responses.map zaa)])] (Eo (.agg [.int .i64 r.1.Author, .int .i64 r.1.Size, .int .i64 r.1.Root, .sl false 1 (r.1.Sign.Commits.map zaa), .sl false 1 (r.1.Sign.Challenges.map zaa), .sl false 1 (r.1.Sign.Responses.map zaa)]) [.bx [.sl false 1 (r.2.1.map zag), .int .i64 r.2.2.1, .int .u64 r.2.2.2], .junk, .junk]) := by
 intro a0c0 a0c1 a0c2 a1 a2 r hr
 apply pF 35 [0] [] [] [.cell 6 33] hr cl90 Tryz.func90
 intro Φ hΦ hF g
 unfold zaY at hF
 try simp [go_sem, g]
 refine pw_wk ?_
 try simp [go_sem, g]
 refine pC hF [.io, .sh] zab (fun z1 hF => ?_)
 try simp [go_sem, g]
 refine pw_wk ?_
 repeat rw [sq]
 refine pJ hF (fun x4 => [(0, .v (.bx [.sl false 1 (x4.1.1.map zag), .int .i64 x4.1.2.1, .int .u64 x4.1.2.2])), (5, .bl [.int .i64 x4.2.1, .int .i64 x4.2.2.1, .int .i64 x4.2.2.2.1, .sl false 1 (x4.2.2.2.2.1.map zaa), .sl false 1 (x4.2.2.2.2.2.1.map zaa), .sl false 1 (x4.2.2.2.2.2.2.map zaa)]), (6, .bl [.int .i64 0, .int .i64 0, .int .i64 0, .sl true 1 [], .sl true 1 [], .sl true 1 []])]) (fun x4 hF => ?_) fun _ hj2 hF => ?_
 ·cases hΦ _ (Rn_some hF)
  try simp [go_sem, g]
  refine pw_wk ?_
  try simp [go_sem, g]
 ·repeat rw [sq]
  rw [pw_block]
  try simp [go_sem, g]
  refine pw_wk ?_
  repeat rw [sq]
  refine pI hF (fun h5 hF => ?_) (fun h5 hF => ?_)
  ·try simp [go_sem, g]
   exact pT (hj2 ((z1.2.1, z1.2.2.1, z1.2.2.2), a2.Author, i64.wrap (a2.Size + 1), a2.Root, a2.Sign.Commits, a2.Sign.Challenges, a2.Sign.Responses)) (Rn_some hF)
  ·try simp [go_sem, g]
   refine pw_wk ?_
   repeat rw [sq]
   refine pI hF (fun h6 hF => ?_) (fun h6 hF => ?_)
   ·try simp [go_sem, g]
    refine pC hF [.io] zev (fun z7 hF => ?_)
    try simp [go_sem, g]
    exact pT (hj2 ((z7.2.1, z7.2.2.1, z7.2.2.2), a2.Author, a2.Size, z7.1, a2.Sign.Commits, a2.Sign.Challenges, a2.Sign.Responses)) (Rn_some hF)
   ·try simp [go_sem, g]
    refine pw_wkK [0, 4, 5, 6, 8, 20] (by simp [go_sem, g]; rfl) ?_
    repeat rw [sq]
    refine pI hF (fun h8 hF => ?_) (fun h8 hF => ?_)
    ·try simp [go_sem, g]
     refine pC hF [.io, .sh, .sh] zdT (fun z9 hF => ?_)
     try simp [go_sem, g]
     refine pw_frzB 5 3 (by simp [go_sem, g]; rfl) rfl (by simp [go_sem]) ?_
     refine pw_frzB 5 4 (by simp [go_sem, g]; rfl) rfl (by simp [go_sem]) ?_
     refine pw_frzB 5 5 (by simp [go_sem, g]; rfl) rfl (by simp [go_sem]) ?_
     exact pT (hj2 ((z9.2.1, z9.2.2.1, z9.2.2.2), a2.Author, a2.Size, a2.Root, z9.1.Commits, z9.1.Challenges, z9.1.Responses)) (Rn_some hF)
    ·try simp [go_sem, g]
     refine pw_wk ?_
     repeat rw [sq]
     refine pI hF (fun h10 hF => ?_) (fun h10 hF => ?_)
     ·try simp [go_sem, g]
      refine pC hF [.io, .sh] zab (fun z11 hF => ?_)
      try simp [go_sem, g]
      exact pT (hj2 ((z11.2.1, z11.2.2.1, z11.2.2.2), i64.wrap (z11.1 - 1), a2.Size, a2.Root, a2.Sign.Commits, a2.Sign.Challenges, a2.Sign.Responses)) (Rn_some hF)
     ·try simp [go_sem, g]
      exact pT (hj2 ((z1.2.1, z1.2.2.1, z1.2.2.2), a2.Author, a2.Size, a2.Root, a2.Sign.Commits, a2.Sign.Challenges, a2.Sign.Responses)) (Rn_some hF)
def zjB : List DE := [d0 0 [0], d2 1 [3] 3 3, d0 2 [0], d3 3 [17], d0 4 [18], d3 5 [15, 16, 19], d0 6 [20]]
def zgL : List DE := [d2 0 [3] 3 3, d0 1 [6], d0 2 [12], d0 3 [48, 49], d0 4 [50], d0 5 [12], d0 6 [0], d0 8 [0], d0 10 [0], d1 12 [3] 3, d2 13 [59] 3 59, d0 19 [], d3 7 [53], d3 9 [55], d3 11 [57], d0 14 [58, 60], d3 15 [47, 51, 52, 54, 56, 61], d0 16 [62], d0 17 [46], d0 18 [46], d2 20 [13, 63] 13 13, d0 21 [64]]
def zgS : List DE := [d2 0 [3] 3 3, d0 1 [6], d0 2 [12], d0 3 [48, 49], d0 5 [12], d0 6 [0], d0 8 [0], d0 10 [0], d1 12 [3] 3, d2 13 [59] 3 59, d0 19 [], d3 7 [53], d0 4 [50], d3 9 [55], d3 11 [57], d0 14 [58, 60], d3 15 [47, 51, 52, 54, 56, 61], d0 16 [62], d0 17 [46], d0 18 [46], d2 20 [13, 63] 13 13, d0 21 [64]]
def zg7 : List DE := [d2 0 [3] 3 3, d0 1 [6], d0 2 [12], d0 3 [48, 49], d0 5 [12], d0 6 [0], d0 8 [0], d0 10 [0], d1 12 [3] 3, d2 13 [59] 3 59, d0 19 [], d3 7 [53], d3 9 [55], d0 4 [50], d3 11 [57], d0 14 [58, 60], d3 15 [47, 51, 52, 54, 56, 61], d0 16 [62], d0 17 [46], d0 18 [46], d2 20 [13, 63] 13 13, d0 21 [64]]
def zhb : List DE := [d2 0 [3] 3 3, d0 1 [6], d0 2 [12], d0 3 [48, 49], d0 5 [12], d0 6 [0], d0 8 [0], d0 10 [0], d1 12 [3] 3, d2 13 [59] 3 59, d0 19 [], d3 7 [53], d3 9 [55], d3 11 [57], d0 4 [50], d0 14 [58, 60], d3 15 [47, 51, 52, 54, 56, 61], d0 16 [62], d0 17 [46], d0 18 [46], d2 20 [13, 63] 13 13, d0 21 [64]]
noncomputable def zbm (a0c0 : (List Int)) (a0c1 : Int) (a0c2 : Int) (a1 : Group) : Option ((List Int) × (List Head) × ((List Int) × Int × Int)) :=
 (zac a0c0 a0c1 a0c2 3).bind fun z1 =>
 (zbk z1.2.1 z1.2.2.1 z1.2.2.2 a1 (i64.wrap (1 + z1.1))).bind fun z2 =>
 ((rloop (σ := (List Int)) (fun i7 s6 =>
 (ix z2.1 i7).bind fun x13 =>
 (zaE a1 a1.G x13).bind fun z14 =>
 gd ((s6.length + 1) * 8 ≤ 140737488355328 ∧ s6.length + 1 ≤ 4611686018427387904) <|
 some (.go (s6 ++ [z14]))) (fun s6 => s6) (z2.1.length) 0 [] : Option ((List Int))).bind fun x5 =>
 (zac z2.2.1 z2.2.2.1 z2.2.2.2 6).bind fun z19 =>
 ((wloop (σ := ((List Int) × Int × Int) × (List Head) × Int) (fun s41 =>
 if decide (0 < s41.2.2) = true then (
 (zac s41.1.1 s41.1.2.1 s41.1.2.2 (x5.length : Int)).bind fun z47 =>
 (ix z2.1 z47.1).bind fun x48 =>
 (zac z47.2.1 z47.2.2.1 z47.2.2.2 4).bind fun z49 =>
 (zac z49.2.1 z49.2.2.1 z49.2.2.2 3).bind fun z50 =>
 (zac z50.2.1 z50.2.2.1 z50.2.2.2 2).bind fun z51 =>
 gd (a1.Q ≠ 0) <|
 (zcQ a1 x48 z47.1 z49.1 z50.1 (z51.1.tmod a1.Q)).bind fun z52 =>
 (zaX z51.2.1 z51.2.2.1 z51.2.2.2 8).bind fun z53 =>
 ((if z53.1 = true then (
 (zaY z53.2.1 z53.2.2.1 z53.2.2.2 a1 z52.1).bind fun z58 =>
 some ((z58.2.1, z58.2.2.1, z58.2.2.2), z58.1.Author, z58.1.Size, z58.1.Root, z58.1.Sign.Commits, z58.1.Sign.Challenges, z58.1.Sign.Responses)) else (
 some ((z53.2.1, z53.2.2.1, z53.2.2.2), z52.1.Author, z52.1.Size, z52.1.Root, z52.1.Sign.Commits, z52.1.Sign.Challenges, z52.1.Sign.Responses)) : Option ((((List Int) × Int × Int) × Int × Int × Int × (List Int) × (List Int) × (List Int)))).bind fun x56 =>
 gd ((s41.2.1.length + 1) * 96 ≤ 140737488355328 ∧ s41.2.1.length + 1 ≤ 4611686018427387904) <|
 some (.go ((x56.1.1, x56.1.2.1, x56.1.2.2), s41.2.1 ++ [(Head.mk x56.2.1 x56.2.2.1 x56.2.2.2.1 (Proof.mk x56.2.2.2.2.1 x56.2.2.2.2.2.1 x56.2.2.2.2.2.2))], i64.wrap (s41.2.2 - 1))))) else (
 some (.out ((s41.1.1, s41.1.2.1, s41.1.2.2), s41.2.1)))) ((z19.2.1, z19.2.2.1, z19.2.2.2), [], z19.1) : Option ((((List Int) × Int × Int) × (List Head)))).bind fun x22 =>
 some (x5, x22.2, (x22.1.1, x22.1.2.1, x22.1.2.2))))
theorem zeB : ∀ {a0c0} {a0c1} {a0c2} {a1} {r}, zbm a0c0 a0c1 a0c2 a1 = some r → PCalls Tryz.prog 56 [(.io, .bx [.sl false 1 (a0c0.map zag), .int .i64 a0c1, .int .u64 a0c2]), (.sh, .agg [.int .i64 a1.P, .int .i64 a1.Q, .int .i64 a1.G])] (Eo (.tup [.sl true 1 (r.1.map zaa), .sl true 6 (r.2.1.map zad)]) [.bx [.sl false 1 (r.2.2.1.map zag), .int .i64 r.2.2.2.1, .int .u64 r.2.2.2.2], .junk]) := by
 intro a0c0 a0c1 a0c2 a1 r hr
 apply pF 77 [0] [69] [] [.tmp 4, .tmp 5] hr cl56 Tryz.func56
 intro Φ hΦ hF g
 unfold zbm at hF
 try simp [go_sem, g]
 refine pw_wk ?_
 repeat rw [sq]
 refine pw_draw zjB follows (by kernel_rfl) rfl ?_
 try simp only [go_sem, zjB]
 try simp [go_sem, g]
 refine pC hF [.io, .sh] zab (fun z1 hF => ?_)
 try simp [go_sem, g]
 refine pC hF [.io, .sh, .sh] zeC (fun z2 hF => ?_)
 try simp [go_sem, g]
 refine pw_wkK [0, 3, 6] (by simp [go_sem, g]; rfl) ?_
 iterate 2 (try simp [go_sem, g]; try intros; refine pw_wk ?_)
 repeat rw [sq]
 refine pJ hF (fun x5 => [(0, .v (.bx [.sl false 1 (z2.2.1.map zag), .int .i64 z2.2.2.1, .int .u64 z2.2.2.2])), (3, .bl [.int .i64 a1.P, .int .i64 a1.Q, .int .i64 a1.G]), (6, .v (.sl true 1 (z2.1.map zaa))), (7, .v (.sl true 1 (x5.map zaa)))]) (fun x5 hF => ?_) fun _ hj3 hF => ?_
 ·try simp [go_sem, g]
  refine pw_wk ?_
  try simp [go_sem, g]
  refine pC hF [.io, .sh] zab (fun z19 hF => ?_)
  try simp [go_sem, g]
  refine pw_wk ?_
  repeat rw [sq]
  refine pJ hF (fun x22 => [(0, .v (.bx [.sl false 1 (x22.1.1.map zag), .int .i64 x22.1.2.1, .int .u64 x22.1.2.2])), (7, .v (.sl true 1 (x5.map zaa))), (10, .v (.sl true 6 (x22.2.map zad)))]) (fun x22 hF => ?_) fun _ hj20 hF => ?_
  ·try simp [go_sem, g]
   refine pw_wkK [0, 4, 5] (by simp [go_sem, g]; rfl) ?_
   cases hΦ _ (Rn_some hF)
   try simp [go_sem, g]
  ·repeat rw [sq]
   rw [pw_block]
   obtain ⟨b59, hb60, hψ45⟩ := hF
   refine pL hb60 (fun s41 => [(0, .v (.bx [.sl false 1 (s41.1.1.map zag), .int .i64 s41.1.2.1, .int .u64 s41.1.2.2])), (3, .bl [.int .i64 a1.P, .int .i64 a1.Q, .int .i64 a1.G]), (6, .v (.sl true 1 (z2.1.map zaa))), (7, .v (.sl true 1 (x5.map zaa))), (10, .v (.sl true 6 (s41.2.1.map zad))), (11, .v (.int .i64 s41.2.2))]) (fun s41 _ _ ho43 hg44 hF => ?_)
   try simp [go_sem, g]
   refine pw_wkK [0, 3, 6, 7, 10, 11, 39] (by simp [go_sem, g]; rfl) ?_
   repeat rw [sq]
   refine pI hF (fun h46 hF => ?_) (fun h46 hF => ?_)
   ·try simp [go_sem, g]
    refine pw_wk ?_
    repeat rw [sq]
    rw [pw_block]
    try simp [go_sem, g]
    try intros
    refine pC hF [.io, .sh] zab (fun z47 hF => ?_)
    try simp [go_sem, g]
    refine pw_wk ?_
    repeat rw [sq]
    refine pw_draw4 4 7 4 9 4 11 18 19 17 19 zgL zgS zg7 zhb follows (by decide) (by kernel_rfl) (by kernel_rfl) (by kernel_rfl) (by kernel_rfl) rfl rfl rfl rfl ?_ ?_ ?_ ?_
    ·try simp only [go_sem, zgL]
     obtain ⟨x48, g, hF⟩ := Rx g hF
     try simp [go_sem, g]
     refine pC hF [.io, .sh] zab (fun z49 hF => ?_)
     try simp [go_sem, g]
     refine pC hF [.io, .sh] zab (fun z50 hF => ?_)
     try simp [go_sem, g]
     refine pC hF [.io, .sh] zab (fun z51 hF => ?_)
     obtain ⟨g, hF⟩ := Rz g hF
     try simp [go_sem, g]
     refine pC hF [.sh, .sh, .sh, .sh, .sh, .sh] zdd (fun z52 hF => ?_)
     try simp [go_sem, g]
     refine pw_wkK [0, 3, 6, 7, 10, 11, 13] (by simp [go_sem, g]; rfl) ?_
     try simp [go_sem, g]
     refine pC hF [.io, .sh] zbe (fun z53 hF => ?_)
     try simp [go_sem, g]
     refine pw_wk ?_
     repeat rw [sq]
     refine pJ hF (fun x56 => [(0, .v (.bx [.sl false 1 (x56.1.1.map zag), .int .i64 x56.1.2.1, .int .u64 x56.1.2.2])), (3, .bl [.int .i64 a1.P, .int .i64 a1.Q, .int .i64 a1.G]), (6, .v (.sl true 1 (z2.1.map zaa))), (7, .v (.sl true 1 (x5.map zaa))), (10, .v (.sl true 6 (s41.2.1.map zad))), (11, .v (.int .i64 s41.2.2)), (13, .bl [.int .i64 x56.2.1, .int .i64 x56.2.2.1, .int .i64 x56.2.2.2.1, .sl false 1 (x56.2.2.2.2.1.map zaa), .sl false 1 (x56.2.2.2.2.2.1.map zaa), .sl false 1 (x56.2.2.2.2.2.2.map zaa)])]) (fun x56 hF => ?_) fun _ hj54 hF => ?_
     ·obtain ⟨g, hF⟩ := Rg g hF
      try simp [go_sem, g]
      refine pw_wk ?_
      try simp [go_sem, g]
      exact pT (hg44 ((x56.1.1, x56.1.2.1, x56.1.2.2), s41.2.1 ++ [(Head.mk x56.2.1 x56.2.2.1 x56.2.2.2.1 (Proof.mk x56.2.2.2.2.1 x56.2.2.2.2.2.1 x56.2.2.2.2.2.2))], i64.wrap (s41.2.2 - 1))) (Rn_some hF)
     ·repeat rw [sq]
      refine pI hF (fun h57 hF => ?_) (fun h57 hF => ?_)
      ·try simp [go_sem, g]
       refine pC hF [.io, .sh, .sh] zbi (fun z58 hF => ?_)
       try simp [go_sem, g]
       exact pT (hj54 ((z58.2.1, z58.2.2.1, z58.2.2.2), z58.1.Author, z58.1.Size, z58.1.Root, z58.1.Sign.Commits, z58.1.Sign.Challenges, z58.1.Sign.Responses)) (Rn_some hF)
      ·try simp [go_sem, g]
       refine pw_frzB 13 3 (by simp [go_sem, g]; rfl) rfl (by simp [go_sem]) ?_
       refine pw_frzB 13 4 (by simp [go_sem, g]; rfl) rfl (by simp [go_sem]) ?_
       refine pw_frzB 13 5 (by simp [go_sem, g]; rfl) rfl (by simp [go_sem]) ?_
       exact pT (hj54 ((z53.2.1, z53.2.2.1, z53.2.2.2), z52.1.Author, z52.1.Size, z52.1.Root, z52.1.Sign.Commits, z52.1.Sign.Challenges, z52.1.Sign.Responses)) (Rn_some hF)
    ·try simp only [go_sem, zgS]
     obtain ⟨x48, g, hF⟩ := Rx g hF
     try simp [go_sem, g]
     refine pC hF [.io, .sh] zab (fun z49 hF => ?_)
     try simp [go_sem, g]
     refine pC hF [.io, .sh] zab (fun z50 hF => ?_)
     try simp [go_sem, g]
     refine pC hF [.io, .sh] zab (fun z51 hF => ?_)
     obtain ⟨g, hF⟩ := Rz g hF
     try simp [go_sem, g]
     refine pC hF [.sh, .sh, .sh, .sh, .sh, .sh] zdd (fun z52 hF => ?_)
     try simp [go_sem, g]
     refine pw_wkK [0, 3, 6, 7, 10, 11, 13] (by simp [go_sem, g]; rfl) ?_
     try simp [go_sem, g]
     refine pC hF [.io, .sh] zbe (fun z53 hF => ?_)
     try simp [go_sem, g]
     refine pw_wk ?_
     repeat rw [sq]
     refine pJ hF (fun x56 => [(0, .v (.bx [.sl false 1 (x56.1.1.map zag), .int .i64 x56.1.2.1, .int .u64 x56.1.2.2])), (3, .bl [.int .i64 a1.P, .int .i64 a1.Q, .int .i64 a1.G]), (6, .v (.sl true 1 (z2.1.map zaa))), (7, .v (.sl true 1 (x5.map zaa))), (10, .v (.sl true 6 (s41.2.1.map zad))), (11, .v (.int .i64 s41.2.2)), (13, .bl [.int .i64 x56.2.1, .int .i64 x56.2.2.1, .int .i64 x56.2.2.2.1, .sl false 1 (x56.2.2.2.2.1.map zaa), .sl false 1 (x56.2.2.2.2.2.1.map zaa), .sl false 1 (x56.2.2.2.2.2.2.map zaa)])]) (fun x56 hF => ?_) fun _ hj54 hF => ?_
     ·obtain ⟨g, hF⟩ := Rg g hF
      try simp [go_sem, g]
      refine pw_wk ?_
      try simp [go_sem, g]
      exact pT (hg44 ((x56.1.1, x56.1.2.1, x56.1.2.2), s41.2.1 ++ [(Head.mk x56.2.1 x56.2.2.1 x56.2.2.2.1 (Proof.mk x56.2.2.2.2.1 x56.2.2.2.2.2.1 x56.2.2.2.2.2.2))], i64.wrap (s41.2.2 - 1))) (Rn_some hF)
     ·repeat rw [sq]
      refine pI hF (fun h57 hF => ?_) (fun h57 hF => ?_)
      ·try simp [go_sem, g]
       refine pC hF [.io, .sh, .sh] zbi (fun z58 hF => ?_)
       try simp [go_sem, g]
       exact pT (hj54 ((z58.2.1, z58.2.2.1, z58.2.2.2), z58.1.Author, z58.1.Size, z58.1.Root, z58.1.Sign.Commits, z58.1.Sign.Challenges, z58.1.Sign.Responses)) (Rn_some hF)
      ·try simp [go_sem, g]
       refine pw_frzB 13 3 (by simp [go_sem, g]; rfl) rfl (by simp [go_sem]) ?_
       refine pw_frzB 13 4 (by simp [go_sem, g]; rfl) rfl (by simp [go_sem]) ?_
       refine pw_frzB 13 5 (by simp [go_sem, g]; rfl) rfl (by simp [go_sem]) ?_
       exact pT (hj54 ((z53.2.1, z53.2.2.1, z53.2.2.2), z52.1.Author, z52.1.Size, z52.1.Root, z52.1.Sign.Commits, z52.1.Sign.Challenges, z52.1.Sign.Responses)) (Rn_some hF)
    ·try simp only [go_sem, zg7]
     obtain ⟨x48, g, hF⟩ := Rx g hF
     try simp [go_sem, g]
     refine pC hF [.io, .sh] zab (fun z49 hF => ?_)
     try simp [go_sem, g]
     refine pC hF [.io, .sh] zab (fun z50 hF => ?_)
     try simp [go_sem, g]
     refine pC hF [.io, .sh] zab (fun z51 hF => ?_)
     obtain ⟨g, hF⟩ := Rz g hF
     try simp [go_sem, g]
     refine pC hF [.sh, .sh, .sh, .sh, .sh, .sh] zdd (fun z52 hF => ?_)
     try simp [go_sem, g]
     refine pw_wkK [0, 3, 6, 7, 10, 11, 13] (by simp [go_sem, g]; rfl) ?_
     try simp [go_sem, g]
     refine pC hF [.io, .sh] zbe (fun z53 hF => ?_)
     try simp [go_sem, g]
     refine pw_wk ?_
     repeat rw [sq]
     refine pJ hF (fun x56 => [(0, .v (.bx [.sl false 1 (x56.1.1.map zag), .int .i64 x56.1.2.1, .int .u64 x56.1.2.2])), (3, .bl [.int .i64 a1.P, .int .i64 a1.Q, .int .i64 a1.G]), (6, .v (.sl true 1 (z2.1.map zaa))), (7, .v (.sl true 1 (x5.map zaa))), (10, .v (.sl true 6 (s41.2.1.map zad))), (11, .v (.int .i64 s41.2.2)), (13, .bl [.int .i64 x56.2.1, .int .i64 x56.2.2.1, .int .i64 x56.2.2.2.1, .sl false 1 (x56.2.2.2.2.1.map zaa), .sl false 1 (x56.2.2.2.2.2.1.map zaa), .sl false 1 (x56.2.2.2.2.2.2.map zaa)])]) (fun x56 hF => ?_) fun _ hj54 hF => ?_
     ·obtain ⟨g, hF⟩ := Rg g hF
      try simp [go_sem, g]
      refine pw_wk ?_
      try simp [go_sem, g]
      exact pT (hg44 ((x56.1.1, x56.1.2.1, x56.1.2.2), s41.2.1 ++ [(Head.mk x56.2.1 x56.2.2.1 x56.2.2.2.1 (Proof.mk x56.2.2.2.2.1 x56.2.2.2.2.2.1 x56.2.2.2.2.2.2))], i64.wrap (s41.2.2 - 1))) (Rn_some hF)
     ·repeat rw [sq]
      refine pI hF (fun h57 hF => ?_) (fun h57 hF => ?_)
      ·try simp [go_sem, g]
       refine pC hF [.io, .sh, .sh] zbi (fun z58 hF => ?_)
       try simp [go_sem, g]
       exact pT (hj54 ((z58.2.1, z58.2.2.1, z58.2.2.2), z58.1.Author, z58.1.Size, z58.1.Root, z58.1.Sign.Commits, z58.1.Sign.Challenges, z58.1.Sign.Responses)) (Rn_some hF)
      ·try simp [go_sem, g]
       refine pw_frzB 13 3 (by simp [go_sem, g]; rfl) rfl (by simp [go_sem]) ?_
       refine pw_frzB 13 4 (by simp [go_sem, g]; rfl) rfl (by simp [go_sem]) ?_
       refine pw_frzB 13 5 (by simp [go_sem, g]; rfl) rfl (by simp [go_sem]) ?_
       exact pT (hj54 ((z53.2.1, z53.2.2.1, z53.2.2.2), z52.1.Author, z52.1.Size, z52.1.Root, z52.1.Sign.Commits, z52.1.Sign.Challenges, z52.1.Sign.Responses)) (Rn_some hF)
    ·try simp only [go_sem, zhb]
     obtain ⟨x48, g, hF⟩ := Rx g hF
     try simp [go_sem, g]
     refine pC hF [.io, .sh] zab (fun z49 hF => ?_)
     try simp [go_sem, g]
     refine pC hF [.io, .sh] zab (fun z50 hF => ?_)
     try simp [go_sem, g]
     refine pC hF [.io, .sh] zab (fun z51 hF => ?_)
     obtain ⟨g, hF⟩ := Rz g hF
     try simp [go_sem, g]
     refine pC hF [.sh, .sh, .sh, .sh, .sh, .sh] zdd (fun z52 hF => ?_)
     try simp [go_sem, g]
     refine pw_wkK [0, 3, 6, 7, 10, 11, 13] (by simp [go_sem, g]; rfl) ?_
     try simp [go_sem, g]
     refine pC hF [.io, .sh] zbe (fun z53 hF => ?_)
     try simp [go_sem, g]
     refine pw_wk ?_
     repeat rw [sq]
     refine pJ hF (fun x56 => [(0, .v (.bx [.sl false 1 (x56.1.1.map zag), .int .i64 x56.1.2.1, .int .u64 x56.1.2.2])), (3, .bl [.int .i64 a1.P, .int .i64 a1.Q, .int .i64 a1.G]), (6, .v (.sl true 1 (z2.1.map zaa))), (7, .v (.sl true 1 (x5.map zaa))), (10, .v (.sl true 6 (s41.2.1.map zad))), (11, .v (.int .i64 s41.2.2)), (13, .bl [.int .i64 x56.2.1, .int .i64 x56.2.2.1, .int .i64 x56.2.2.2.1, .sl false 1 (x56.2.2.2.2.1.map zaa), .sl false 1 (x56.2.2.2.2.2.1.map zaa), .sl false 1 (x56.2.2.2.2.2.2.map zaa)])]) (fun x56 hF => ?_) fun _ hj54 hF => ?_
     ·obtain ⟨g, hF⟩ := Rg g hF
      try simp [go_sem, g]
      refine pw_wk ?_
      try simp [go_sem, g]
      exact pT (hg44 ((x56.1.1, x56.1.2.1, x56.1.2.2), s41.2.1 ++ [(Head.mk x56.2.1 x56.2.2.1 x56.2.2.2.1 (Proof.mk x56.2.2.2.2.1 x56.2.2.2.2.2.1 x56.2.2.2.2.2.2))], i64.wrap (s41.2.2 - 1))) (Rn_some hF)
     ·repeat rw [sq]
      refine pI hF (fun h57 hF => ?_) (fun h57 hF => ?_)
      ·try simp [go_sem, g]
       refine pC hF [.io, .sh, .sh] zbi (fun z58 hF => ?_)
       try simp [go_sem, g]
       exact pT (hj54 ((z58.2.1, z58.2.2.1, z58.2.2.2), z58.1.Author, z58.1.Size, z58.1.Root, z58.1.Sign.Commits, z58.1.Sign.Challenges, z58.1.Sign.Responses)) (Rn_some hF)
      ·try simp [go_sem, g]
       refine pw_frzB 13 3 (by simp [go_sem, g]; rfl) rfl (by simp [go_sem]) ?_
       refine pw_frzB 13 4 (by simp [go_sem, g]; rfl) rfl (by simp [go_sem]) ?_
       refine pw_frzB 13 5 (by simp [go_sem, g]; rfl) rfl (by simp [go_sem]) ?_
       exact pT (hj54 ((z53.2.1, z53.2.2.1, z53.2.2.2), z52.1.Author, z52.1.Size, z52.1.Root, z52.1.Sign.Commits, z52.1.Sign.Challenges, z52.1.Sign.Responses)) (Rn_some hF)
   ·try simp [go_sem, g]
    cases ho43 _ (Rn_some hF)
    exact pT (hj20 ((s41.1.1, s41.1.2.1, s41.1.2.2), s41.2.1)) hψ45
 ·repeat rw [sq]
  rw [pw_block]
  obtain ⟨b15, hb16, hψ10⟩ := hF
  refine pR hb16 (fun i7 s6 => [(0, .v (.bx [.sl false 1 (z2.2.1.map zag), .int .i64 z2.2.2.1, .int .u64 z2.2.2.2])), (3, .bl [.int .i64 a1.P, .int .i64 a1.Q, .int .i64 a1.G]), (6, .v (.sl true 1 (z2.1.map zaa))), (7, .v (.sl true 1 (s6.map zaa))), (21, .rf 6 []), (22, .v (.int .i64 (z2.1.length : Int))), (23, .v (.int .i64 i7))]) (fun s6 _ hN17 => ?_) (fun i7 s6 _ _ hi11 hi12 ho8 hg9 hF => ?_)
  ·subst hN17
   try simp [go_sem]
   refine pw_wk ?_
   repeat rw [sq]
   refine pw_cond_f (by simp [go_sem]) ?_
   try simp [go_sem]
   exact pT (hj3 s6) hψ10 (by simp [go_sem])
  ·try simp [go_sem, g]
   refine pw_wk ?_
   repeat rw [sq]
   refine pw_cond_t (by simp [go_sem, g, hi11, hi12]) ?_
   try simp [go_sem, g]
   refine pw_wk ?_
   repeat rw [sq]
   rw [pw_block]
   obtain ⟨x13, g, hF⟩ := Rx g hF
   try simp [go_sem, g]
   refine pw_wk ?_
   try simp [go_sem, g]
   refine pC hF [.sh, .sh, .sh] zdw (fun z14 hF => ?_)
   obtain ⟨g, hF⟩ := Rg g hF
   try simp [go_sem, g]
   refine pw_wkK [0, 3, 6, 7, 21, 22, 23] (by simp [go_sem, g]; rfl) ?_
   try simp [go_sem, g]
   exact pT (hg9 (s6 ++ [z14])) (Rn_some hF) (by simp [go_sem, g, wr_i hi11 hi12 (by assumption)])
noncomputable def za1 (a0c0 : (List Int)) (a0c1 : Int) (a0c2 : Int) : Option (Group × (List Int) × (List Head) × ((List Int) × Int × Int)) :=
 (za0 a0c0 a0c1 a0c2).bind fun z1 =>
 (zcm z1.1).bind fun z2 =>
 if (!z2) = true then (
 some (z1.1, [1], [], (z1.2.1, z1.2.2.1, z1.2.2.2))) else (
 (zbm z1.2.1 z1.2.2.1 z1.2.2.2 z1.1).bind fun z4 =>
 (zac z4.2.2.1 z4.2.2.2.1 z4.2.2.2.2 20).bind fun z5 =>
 ((if (z5.1 == 0) = true then (
 (zaG z5.2.1 z5.2.2.1 z5.2.2.2 z1.1).bind fun z10 =>
 gd ((z4.1.length + 1) * 8 ≤ 140737488355328 ∧ z4.1.length + 1 ≤ 4611686018427387904) <|
 some ((z10.2.1, z10.2.2.1, z10.2.2.2), z4.1 ++ [z10.1], z4.2.1)) else (
 if (z5.1 == 1) = true then (
 (zac z5.2.1 z5.2.2.1 z5.2.2.2 2).bind fun z12 =>
 wloop (σ := (List Head)) (fun s13 =>
 if decide ((s13.length : Int) < (i64.wrap (20 + z12.1))) = true then (
 gd ((s13.length + 1) * 96 ≤ 140737488355328 ∧ s13.length + 1 ≤ 4611686018427387904) <|
 some (.go (s13 ++ [(Head.mk 0 (s13.length : Int) 1 (Proof.mk [] [] []))]))) else (
 some (.out ((z12.2.1, z12.2.2.1, z12.2.2.2), z4.1, s13)))) z4.2.1) else (
 some ((z5.2.1, z5.2.2.1, z5.2.2.2), z4.1, z4.2.1))) : Option ((((List Int) × Int × Int) × (List Int) × (List Head)))).bind fun x8 =>
 some (z1.1, x8.2.1, x8.2.2, (x8.1.1, x8.1.2.1, x8.1.2.2))))
theorem zeb : ∀ {a0c0} {a0c1} {a0c2} {r}, za1 a0c0 a0c1 a0c2 = some r → PCalls Tryz.prog 24 [(.io, .bx [.sl false 1 (a0c0.map zag), .int .i64 a0c1, .int .u64 a0c2])] (Eo (.tup [.agg [.int .i64 r.1.P, .int .i64 r.1.Q, .int .i64 r.1.G], .sl true 1 (r.2.1.map zaa), .sl true 6 (r.2.2.1.map zad)]) [.bx [.sl false 1 (r.2.2.2.1.map zag), .int .i64 r.2.2.2.2.1, .int .u64 r.2.2.2.2.2]]) := by
 intro a0c0 a0c1 a0c2 r hr
 apply pF 50 [0] [44] [] [.cell 2 25, .tmp 3, .tmp 4] hr cl24 Tryz.func24
 intro Φ hΦ hF g
 unfold za1 at hF
 try simp [go_sem, g]
 refine pw_wk ?_
 try simp [go_sem, g]
 refine pC hF [.io] zd7 (fun z1 hF => ?_)
 try simp [go_sem, g]
 refine pw_wk ?_
 try simp [go_sem, g]
 refine pC hF [.sh] zea (fun z2 hF => ?_)
 try simp [go_sem, g]
 refine pw_wkK [0, 2, 5, 13] (by simp [go_sem, g]; rfl) ?_
 repeat rw [sq]
 refine pI hF (fun h3 hF => ?_) (fun h3 hF => ?_)
 ·cases hΦ _ (Rn_some hF)
  try simp [go_sem, g]
  refine pw_wk ?_
  try simp [go_sem, g]
 ·try simp [go_sem, g]
  refine pw_wk ?_
  try simp [go_sem, g]
  refine pC hF [.io, .sh] zeB (fun z4 hF => ?_)
  try simp [go_sem, g]
  refine pw_wk ?_
  try simp [go_sem, g]
  refine pC hF [.io, .sh] zab (fun z5 hF => ?_)
  try simp [go_sem, g]
  refine pw_wkK [0, 2, 5, 6, 7, 23] (by simp [go_sem, g]; rfl) ?_
  repeat rw [sq]
  refine pJ hF (fun x8 => [(0, .v (.bx [.sl false 1 (x8.1.1.map zag), .int .i64 x8.1.2.1, .int .u64 x8.1.2.2])), (2, .bl [.int .i64 0, .int .i64 0, .int .i64 0]), (5, .bl [.int .i64 z1.1.P, .int .i64 z1.1.Q, .int .i64 z1.1.G]), (6, .v (.sl true 1 (x8.2.1.map zaa))), (7, .v (.sl true 6 (x8.2.2.map zad)))]) (fun x8 hF => ?_) fun _ hj6 hF => ?_
  ·cases hΦ _ (Rn_some hF)
   try simp [go_sem, g]
   refine pw_wk ?_
   try simp [go_sem, g]
  ·repeat rw [sq]
   rw [pw_block]
   try simp [go_sem, g]
   refine pw_wk ?_
   repeat rw [sq]
   refine pI hF (fun h9 hF => ?_) (fun h9 hF => ?_)
   ·try simp [go_sem, g]
    refine pC hF [.io, .sh] zc1 (fun z10 hF => ?_)
    obtain ⟨g, hF⟩ := Rg g hF
    try simp [go_sem, g]
    exact pT (hj6 ((z10.2.1, z10.2.2.1, z10.2.2.2), z4.1 ++ [z10.1], z4.2.1)) (Rn_some hF)
   ·try simp [go_sem, g]
    refine pw_wk ?_
    repeat rw [sq]
    refine pI hF (fun h11 hF => ?_) (fun h11 hF => ?_)
    ·try simp [go_sem, g]
     refine pC hF [.io, .sh] zab (fun z12 hF => ?_)
     try simp [go_sem, g]
     refine pw_wk ?_
     repeat rw [sq]
     rw [pw_block]
     obtain ⟨b19, hb20, hψ17⟩ := hF
     refine pL hb20 (fun s13 => [(0, .v (.bx [.sl false 1 (z12.2.1.map zag), .int .i64 z12.2.2.1, .int .u64 z12.2.2.2])), (2, .bl [.int .i64 0, .int .i64 0, .int .i64 0]), (5, .bl [.int .i64 z1.1.P, .int .i64 z1.1.Q, .int .i64 z1.1.G]), (6, .v (.sl true 1 (z4.1.map zaa))), (7, .v (.sl true 6 (s13.map zad))), (8, .v (.int .i64 (i64.wrap (20 + z12.1))))]) (fun s13 _ _ ho15 hg16 hF => ?_)
     try simp [go_sem, g]
     try intros
     refine pw_wkK [0, 2, 5, 6, 7, 8, 40] (by simp [go_sem, g]; rfl) ?_
     repeat rw [sq]
     refine pI hF (fun h18 hF => ?_) (fun h18 hF => ?_)
     ·try simp [go_sem, g]
      refine pw_wk ?_
      repeat rw [sq]
      rw [pw_block]
      obtain ⟨g, hF⟩ := Rg g hF
      try simp [go_sem, g]
      try intros
      exact pT (hg16 (s13 ++ [(Head.mk 0 (s13.length : Int) 1 (Proof.mk [] [] []))])) (Rn_some hF)
     ·try simp [go_sem, g]
      cases ho15 _ (Rn_some hF)
      exact pT (hj6 ((z12.2.1, z12.2.2.1, z12.2.2.2), z4.1, s13)) hψ17
    ·try simp [go_sem, g]
     exact pT (hj6 ((z5.2.1, z5.2.2.1, z5.2.2.2), z4.1, z4.2.1)) (Rn_some hF)
def zjq : List DE := [d0 0 [10], d0 1 [13], d0 2 [10], d0 3 [13], d0 4 [39, 40], d0 5 [41], d0 6 [42], d2 7 [12] 12 12, d0 8 [44], ⟨9, [43, 45], [], none, true, false, false⟩, d0 10 [37, 38], d0 11 [47], d0 12 [48, 46]]
noncomputable def zaJ (a0c0 : (List Int)) (a0c1 : Int) (a0c2 : Int) : Option (Group × (List Int) × (List Reader) × (List (List Int)) × ((List Int) × Int × Int)) :=
 (za1 a0c0 a0c1 a0c2).bind fun z1 =>
 (zac z1.2.2.2.1 z1.2.2.2.2.1 z1.2.2.2.2.2 5).bind fun z2 =>
 gd (0 ≤ (i64.wrap (1 + z2.1)) ∧ (i64.wrap (1 + z2.1)) ≤ (i64.wrap (1 + z2.1)) ∧ 24 * (i64.wrap (1 + z2.1)) ≤ 140737488355328 ∧ (i64.wrap (1 + z2.1)) ≤ 4611686018427387904) <|
 (some (List.replicate ((i64.wrap (1 + z2.1)).toNat) (Reader.mk []))).bind fun x3 =>
 ((rloop (σ := ((List Int) × Int × Int) × (List Reader)) (fun i20 s19 =>
 (ix z1.2.2.1 i20).bind fun x26 =>
 (zac s19.1.1 s19.1.2.1 s19.1.2.2 (i64.wrap (1 + z2.1))).bind fun z27 =>
 (ix s19.2 z27.1).bind fun x28 =>
 gd ((x28.Heads.length + 1) * 96 ≤ 140737488355328 ∧ x28.Heads.length + 1 ≤ 4611686018427387904) <|
 some (.go ((z27.2.1, z27.2.2.1, z27.2.2.2), s19.2.set z27.1.toNat (Reader.mk (x28.Heads ++ [x26]))))) (fun s19 => ((s19.1.1, s19.1.2.1, s19.1.2.2), s19.2)) (z1.2.2.1.length) 0 ((z2.2.1, z2.2.2.1, z2.2.2.2), x3) : Option ((((List Int) × Int × Int) × (List Reader)))).bind fun x8 =>
 (zac x8.1.1 x8.1.2.1 x8.1.2.2 6).bind fun z33 =>
 ((wloop (σ := ((List Int) × Int × Int) × (List (List Int)) × Int) (fun s61 =>
 ((if decide (0 < s61.2.2) = true then (
 some (decide (1 < (i64.wrap (1 + z2.1))))) else (
 some false) : Option (Bool)).bind fun x68 =>
 if x68 = true then (
 (zac s61.1.1 s61.1.2.1 s61.1.2.2 (i64.wrap (1 + z2.1))).bind fun z71 =>
 (zac z71.2.1 z71.2.2.1 z71.2.2.2 (i64.wrap ((i64.wrap (1 + z2.1)) - 1))).bind fun z72 =>
 gd (i64.wrap (1 + z2.1) ≠ 0) <|
 gd ((s61.2.1.length + 1) * 24 ≤ 140737488355328 ∧ s61.2.1.length + 1 ≤ 4611686018427387904) <|
 some (.go ((z72.2.1, z72.2.2.1, z72.2.2.2), s61.2.1 ++ [[z71.1, (i64.wrap ((i64.wrap (z71.1 + 1)) + z72.1)).tmod (i64.wrap (1 + z2.1))]], i64.wrap (s61.2.2 - 1)))) else (
 some (.out ((s61.1.1, s61.1.2.1, s61.1.2.2), s61.2.1))))) ((z33.2.1, z33.2.2.1, z33.2.2.2), [], z33.1) : Option ((((List Int) × Int × Int) × (List (List Int))))).bind fun x36 =>
 (zac x36.1.1 x36.1.2.1 x36.1.2.2 20).bind fun z75 =>
 ((if (z75.1 == 0) = true then (
 (zac z75.2.1 z75.2.2.1 z75.2.2.2 (i64.wrap ((i64.wrap (1 + z2.1)) + 1))).bind fun z80 =>
 gd ((x36.2.length + 1) * 24 ≤ 140737488355328 ∧ x36.2.length + 1 ≤ 4611686018427387904) <|
 some ((z80.2.1, z80.2.2.1, z80.2.2.2), x8.2, x36.2 ++ [[0, z80.1]])) else (
 if (z75.1 == 1) = true then (
 (zac z75.2.1 z75.2.2.1 z75.2.2.2 2).bind fun z82 =>
 gd (0 < (i64.wrap ((i64.wrap (8 - (i64.wrap (1 + z2.1)))) + z82.1)) ∧ 24 * (i64.wrap ((i64.wrap (8 - (i64.wrap (1 + z2.1)))) + z82.1)) ≤ 140737488355328 ∧ (i64.wrap ((i64.wrap (8 - (i64.wrap (1 + z2.1)))) + z82.1)) ≤ 4611686018427387904) <|
 gd ((x8.2.length + ((i64.wrap ((i64.wrap (8 - (i64.wrap (1 + z2.1)))) + z82.1)).toNat)) * 24 ≤ 140737488355328 ∧ x8.2.length + ((i64.wrap ((i64.wrap (8 - (i64.wrap (1 + z2.1)))) + z82.1)).toNat) ≤ 4611686018427387904) <|
 some ((z82.2.1, z82.2.2.1, z82.2.2.2), x8.2 ++ List.replicate ((i64.wrap ((i64.wrap (8 - (i64.wrap (1 + z2.1)))) + z82.1)).toNat) (Reader.mk []), x36.2)) else (
 some ((z75.2.1, z75.2.2.1, z75.2.2.2), x8.2, x36.2))) : Option ((((List Int) × Int × Int) × (List Reader) × (List (List Int))))).bind fun x78 =>
 some (z1.1, z1.2.1, x78.2.1, x78.2.2, (x78.1.1, x78.1.2.1, x78.1.2.2)))))
theorem zcG : ∀ {a0c0} {a0c1} {a0c2} {r}, zaJ a0c0 a0c1 a0c2 = some r → PCalls Tryz.prog 42 [(.io, .bx [.sl false 1 (a0c0.map zag), .int .i64 a0c1, .int .u64 a0c2])] (Eo (.tup [.agg [.int .i64 r.1.P, .int .i64 r.1.Q, .int .i64 r.1.G], .sl true 1 (r.2.1.map zaa), .sl true 1 (r.2.2.1.map zaB), .sl true 1 (r.2.2.2.1.map zbz)]) [.bx [.sl false 1 (r.2.2.2.2.1.map zag), .int .i64 r.2.2.2.2.2.1, .int .u64 r.2.2.2.2.2.2]]) := by
 intro a0c0 a0c1 a0c2 r hr
 apply pF 102 [0] [129, 199] [1000000] [.cell 2 25, .tmp 3, .tmp 4, .tmp 5] hr cl42 Tryz.func42
 intro Φ hΦ hF g
 unfold zaJ at hF
 try simp [go_sem, g]
 refine pw_wk ?_
 try simp [go_sem, g]
 refine pC hF [.io] zeb (fun z1 hF => ?_)
 try simp [go_sem, g]
 refine pw_wkK [0, 2, 6, 7, 8] (by simp [go_sem, g]; rfl) ?_
 try simp [go_sem, g]
 refine pC hF [.io, .sh] zab (fun z2 hF => ?_)
 obtain ⟨g, hF⟩ := Rg g hF
 obtain ⟨x3, e4, hF⟩ := Rn_bind hF
 have g5 : List.replicate ((i64.wrap (1 + z2.1)).toNat) ([.sl true 6 []] : List PV) = x3.map zaB := by injection e4 with e4; rw [← e4]; simp [go_sem]
 iterate 2 (try simp [go_sem, g, g5]; try intros; refine pw_wk ?_)
 try simp [go_sem, g, g5]
 try intros
 refine pw_wkK [0, 2, 6, 7, 8, 9, 10, 28, 29, 30] (by simp [go_sem, g]; rfl) ?_
 repeat rw [sq]
 refine pJ hF (fun x8 => [(0, .v (.bx [.sl false 1 (x8.1.1.map zag), .int .i64 x8.1.2.1, .int .u64 x8.1.2.2])), (2, .bl [.int .i64 0, .int .i64 0, .int .i64 0]), (6, .bl [.int .i64 z1.1.P, .int .i64 z1.1.Q, .int .i64 z1.1.G]), (7, .v (.sl true 1 (z1.2.1.map zaa))), (9, .v (.int .i64 (i64.wrap (1 + z2.1)))), (10, .v (.sl true 1 (x8.2.map zaB)))]) (fun x8 hF => ?_) fun _ hj6 hF => ?_
 ·try simp [go_sem, g]
  refine pw_wk ?_
  try simp [go_sem, g]
  refine pC hF [.io, .sh] zab (fun z33 hF => ?_)
  try simp [go_sem, g]
  refine pw_wk ?_
  repeat rw [sq]
  refine pJ hF (fun x36 => [(0, .v (.bx [.sl false 1 (x36.1.1.map zag), .int .i64 x36.1.2.1, .int .u64 x36.1.2.2])), (2, .bl [.int .i64 0, .int .i64 0, .int .i64 0]), (6, .bl [.int .i64 z1.1.P, .int .i64 z1.1.Q, .int .i64 z1.1.G]), (7, .v (.sl true 1 (z1.2.1.map zaa))), (9, .v (.int .i64 (i64.wrap (1 + z2.1)))), (10, .v (.sl true 1 (x8.2.map zaB))), (14, .v (.sl true 1 (x36.2.map zbz)))]) (fun x36 hF => ?_) fun _ hj34 hF => ?_
  ·try simp [go_sem, g]
   refine pC hF [.io, .sh] zab (fun z75 hF => ?_)
   try simp [go_sem, g]
   refine pw_wk ?_
   repeat rw [sq]
   refine pJ hF (fun x78 => [(0, .v (.bx [.sl false 1 (x78.1.1.map zag), .int .i64 x78.1.2.1, .int .u64 x78.1.2.2])), (2, .bl [.int .i64 0, .int .i64 0, .int .i64 0]), (6, .bl [.int .i64 z1.1.P, .int .i64 z1.1.Q, .int .i64 z1.1.G]), (7, .v (.sl true 1 (z1.2.1.map zaa))), (10, .v (.sl true 1 (x78.2.1.map zaB))), (14, .v (.sl true 1 (x78.2.2.map zbz)))]) (fun x78 hF => ?_) fun _ hj76 hF => ?_
   ·try simp [go_sem, g]
    refine pw_wkK [0, 2, 3, 4, 5] (by simp [go_sem, g]; rfl) ?_
    cases hΦ _ (Rn_some hF)
    try simp [go_sem, g]
   ·repeat rw [sq]
    rw [pw_block]
    try simp [go_sem, g]
    refine pw_wk ?_
    repeat rw [sq]
    refine pI hF (fun h79 hF => ?_) (fun h79 hF => ?_)
    ·try simp [go_sem, g]
     refine pC hF [.io, .sh] zab (fun z80 hF => ?_)
     obtain ⟨g, hF⟩ := Rg g hF
     try simp [go_sem, g]
     exact pT (hj76 ((z80.2.1, z80.2.2.1, z80.2.2.2), x8.2, x36.2 ++ [[0, z80.1]])) (Rn_some hF)
    ·try simp [go_sem, g]
     refine pw_wkK [0, 2, 6, 7, 9, 10, 14, 89] (by simp [go_sem, g]; rfl) ?_
     repeat rw [sq]
     refine pI hF (fun h81 hF => ?_) (fun h81 hF => ?_)
     ·try simp [go_sem, g]
      refine pC hF [.io, .sh] zab (fun z82 hF => ?_)
      try simp [go_sem, g]
      obtain ⟨g, hF⟩ := Rg g hF
      obtain ⟨g, hF⟩ := Rg g hF
      refine pw_apz (by decide) (by simp [go_sem]) (by simp [go_sem]; rfl) (by simp) (by simp [go_sem, g]; rfl) (by simp [go_sem, g] <;> rfl) (by simp [go_sem, g]; first | rfl | exact ⟨rfl, rfl⟩) (by simp [go_sem, g]; rfl) (by simp [go_sem, g]; rfl) (by simp [go_sem, g]) (by simp [go_sem, g]) (by simp [go_sem, g]) ?_
      try simp [go_sem, g]
      exact pT (hj76 ((z82.2.1, z82.2.2.1, z82.2.2.2), x8.2 ++ List.replicate ((i64.wrap ((i64.wrap (8 - (i64.wrap (1 + z2.1)))) + z82.1)).toNat) (Reader.mk []), x36.2)) (Rn_some hF)
     ·try simp [go_sem, g]
      exact pT (hj76 ((z75.2.1, z75.2.2.1, z75.2.2.2), x8.2, x36.2)) (Rn_some hF)
  ·repeat rw [sq]
   rw [pw_block]
   obtain ⟨b73, hb74, hψ65⟩ := hF
   refine pL hb74 (fun s61 => [(0, .v (.bx [.sl false 1 (s61.1.1.map zag), .int .i64 s61.1.2.1, .int .u64 s61.1.2.2])), (2, .bl [.int .i64 0, .int .i64 0, .int .i64 0]), (6, .bl [.int .i64 z1.1.P, .int .i64 z1.1.Q, .int .i64 z1.1.G]), (7, .v (.sl true 1 (z1.2.1.map zaa))), (9, .v (.int .i64 (i64.wrap (1 + z2.1)))), (10, .v (.sl true 1 (x8.2.map zaB))), (14, .v (.sl true 1 (s61.2.1.map zbz))), (15, .v (.int .i64 s61.2.2))]) (fun s61 _ _ ho63 hg64 hF => ?_)
   repeat rw [sq]
   refine pJ hF (fun x68 => [(0, .v (.bx [.sl false 1 (s61.1.1.map zag), .int .i64 s61.1.2.1, .int .u64 s61.1.2.2])), (2, .bl [.int .i64 0, .int .i64 0, .int .i64 0]), (6, .bl [.int .i64 z1.1.P, .int .i64 z1.1.Q, .int .i64 z1.1.G]), (7, .v (.sl true 1 (z1.2.1.map zaa))), (9, .v (.int .i64 (i64.wrap (1 + z2.1)))), (10, .v (.sl true 1 (x8.2.map zaB))), (14, .v (.sl true 1 (s61.2.1.map zbz))), (15, .v (.int .i64 s61.2.2)), (57, .v (.bool x68))]) (fun x68 hF => ?_) fun _ hj66 hF => ?_
   ·repeat rw [sq]
    refine pI hF (fun h70 hF => ?_) (fun h70 hF => ?_)
    ·try simp [go_sem, g]
     refine pw_wk ?_
     repeat rw [sq]
     rw [pw_block]
     try simp [go_sem, g]
     refine pC hF [.io, .sh] zab (fun z71 hF => ?_)
     try simp [go_sem, g]
     refine pw_wk ?_
     try simp [go_sem, g]
     refine pC hF [.io, .sh] zab (fun z72 hF => ?_)
     obtain ⟨g, hF⟩ := Rz g hF
     obtain ⟨g, hF⟩ := Rg g hF
     try simp [go_sem, g]
     refine pw_wkK [0, 2, 6, 7, 9, 10, 14, 15] (by simp [go_sem, g]; rfl) ?_
     try simp [go_sem, g]
     exact pT (hg64 ((z72.2.1, z72.2.2.1, z72.2.2.2), s61.2.1 ++ [[z71.1, (i64.wrap ((i64.wrap (z71.1 + 1)) + z72.1)).tmod (i64.wrap (1 + z2.1))]], i64.wrap (s61.2.2 - 1))) (Rn_some hF)
    ·try simp [go_sem, g]
     cases ho63 _ (Rn_some hF)
     exact pT (hj34 ((s61.1.1, s61.1.2.1, s61.1.2.2), s61.2.1)) hψ65
   ·try simp [go_sem, g]
    refine pwg_F hF (fun h69 hF => ?_) fun h69 hF => ?_
    ·try simp [go_sem, g, h69]
     exact pT (hj66 (decide (1 < (i64.wrap (1 + z2.1))))) (Rn_some hF)
    ·try simp [go_sem, g, h69]
     exact pT (hj66 false) (Rn_some hF)
 ·repeat rw [sq]
  rw [pw_block]
  obtain ⟨b29, hb30, hψ23⟩ := hF
  refine pR hb30 (fun i20 s19 => [(0, .v (.bx [.sl false 1 (s19.1.1.map zag), .int .i64 s19.1.2.1, .int .u64 s19.1.2.2])), (2, .bl [.int .i64 0, .int .i64 0, .int .i64 0]), (6, .bl [.int .i64 z1.1.P, .int .i64 z1.1.Q, .int .i64 z1.1.G]), (7, .v (.sl true 1 (z1.2.1.map zaa))), (8, .v (.sl true 6 (z1.2.2.1.map zad))), (9, .v (.int .i64 (i64.wrap (1 + z2.1)))), (10, .v (.sl true 1 (s19.2.map zaB))), (28, .rf 8 []), (29, .v (.int .i64 (z1.2.2.1.length : Int))), (30, .v (.int .i64 i20))]) (fun s19 _ hN31 => ?_) (fun i20 s19 _ _ hi24 hi25 ho21 hg22 hF => ?_)
  ·subst hN31
   try simp [go_sem]
   refine pw_wk ?_
   repeat rw [sq]
   refine pw_cond_f (by simp [go_sem]) ?_
   try simp [go_sem]
   exact pT (hj6 ((s19.1.1, s19.1.2.1, s19.1.2.2), s19.2)) hψ23 (by simp [go_sem])
  ·try simp [go_sem, g]
   refine pw_wk ?_
   repeat rw [sq]
   refine pw_cond_t (by simp [go_sem, g, hi24, hi25]) ?_
   try simp [go_sem, g]
   refine pw_wk ?_
   repeat rw [sq]
   rw [pw_block]
   obtain ⟨x26, g, hF⟩ := Rx g hF
   try simp [go_sem, g]
   refine pw_wk ?_
   try simp [go_sem, g]
   refine pC hF [.io, .sh] zab (fun z27 hF => ?_)
   try simp [go_sem, g]
   refine pw_wk ?_
   repeat rw [sq]
   refine pw_draw zjq follows (by kernel_rfl) rfl ?_
   try simp only [go_sem, zjq]
   obtain ⟨x28, g, hF⟩ := Rx g hF
   obtain ⟨g, hF⟩ := Rg g hF
   try simp [go_sem, g]
   refine pw_wkK [0, 2, 6, 7, 8, 9, 10, 28, 29, 30] (by simp [go_sem, g]; rfl) ?_
   try simp [go_sem, g]
   exact pT (hg22 ((z27.2.1, z27.2.2.1, z27.2.2.2), s19.2.set z27.1.toNat (Reader.mk (x28.Heads ++ [x26])))) (Rn_some hF) (by first | (simp [go_sem, g, wr_i hi24 hi25 (by assumption)]; done) | (simp [go_sem, g, wr_i hi24 hi25 (by assumption)]; rw [List.map_set]; simp [go_sem]))
noncomputable def zbx (a0 : (List Int)) : Option ((List Reader) × (List (List Int))) :=
 (zaJ a0 0 0).bind fun z1 =>
 some (z1.2.2.1, z1.2.2.2.1)
theorem zeK : ∀ {a0} {r}, zbx a0 = some r → PCalls Tryz.prog 14 [(.sh, .sl false 1 (a0.map zag))] (Eo (.tup [.sl true 1 (r.1.map zaB), .sl true 1 (r.2.map zbz)]) [.junk]) := by
 intro a0 r hr
 apply pF 21 [] [] [11] [.tmp 2, .tmp 3] hr cl14 Tryz.func14
 intro Φ hΦ hF g
 unfold zbx at hF
 iterate 2 (try simp [go_sem, g]; refine pw_wk ?_)
 try simp [go_sem, g]
 refine pC hF [.io] zcG (fun z1 hF => ?_)
 try simp [go_sem, g]
 refine pw_wkK [7, 8] (by simp [go_sem, g]; rfl) ?_
 cases hΦ _ (Rn_some hF)
 try simp [go_sem, g]
 refine pw_wk ?_
 try simp [go_sem, g]
noncomputable def zap (a0 : Int) (a1 : Int) (a2 : Int) : Option (Bool) :=
 ((if decide (a1 ≤ a0) = true then (
 some (decide (a0 ≤ a2))) else (
 some false) : Option (Bool)).bind fun x3 =>
 some x3)
theorem zaH : ∀ {a0} {a1} {a2} {r}, zap a0 a1 a2 = some r → PCalls Tryz.prog 49 [(.sh, .int .i64 a0), (.sh, .int .i64 a1), (.sh, .int .i64 a2)] (Eo (.bool r) [.junk, .junk, .junk]) := by
 intro a0 a1 a2 r hr
 apply pF 15 [] [] [] [.tmp 6] hr cl49 Tryz.func49
 intro Φ hΦ hF g
 unfold zap at hF
 try simp [go_sem, g]
 refine pw_wk ?_
 repeat rw [sq]
 refine pJ hF (fun x3 => [(6, .v (.bool x3))]) (fun x3 hF => ?_) fun _ hj1 hF => ?_
 ·cases hΦ _ (Rn_some hF)
  try simp [go_sem, g]
 ·try simp [go_sem, g]
  refine pwg_F hF (fun h4 hF => ?_) fun h4 hF => ?_
  ·try simp [go_sem, g, h4]
   exact pT (hj1 (decide (a0 ≤ a2))) (Rn_some hF)
  ·try simp [go_sem, g, h4]
   exact pT (hj1 false) (Rn_some hF)
noncomputable def zbI (a0 : Int) : Option (Bool) :=
 (zap a0 0 4611686018427387903).bind fun z1 =>
 some z1
theorem zdN : ∀ {a0} {r}, zbI a0 = some r → PCalls Tryz.prog 35 [(.sh, .int .i64 a0)] (Eo (.bool r) [.junk]) := by
 intro a0 r hr
 apply pF 5 [] [] [] [.tmp 2] hr cl35 Tryz.func35
 intro Φ hΦ hF g
 unfold zbI at hF
 try simp [go_sem, g]
 refine pw_wk ?_
 try simp [go_sem, g]
 refine pC hF [.sh, .sh, .sh] zaH (fun z1 hF => ?_)
 cases hΦ _ (Rn_some hF)
 try simp [go_sem, g]
 refine pw_wk ?_
 try simp [go_sem, g]
noncomputable def zbD (a0 : Int) (a1 : Int) (a2 : Int) : Option (Bool) :=
 (((zap a0 0 39).bind fun z4 =>
 if z4 = true then (
 (zap a1 0 64).bind fun z6 =>
 if z6 = true then (
 (zbI a2).bind fun z8 =>
 some z8) else (
 some false)) else (
 some false) : Option (Bool)).bind fun x3 =>
 some x3)
theorem zd6 : ∀ {a0} {a1} {a2} {r}, zbD a0 a1 a2 = some r → PCalls Tryz.prog 69 [(.sh, .int .i64 a0), (.sh, .int .i64 a1), (.sh, .int .i64 a2)] (Eo (.bool r) [.junk, .junk, .junk]) := by
 intro a0 a1 a2 r hr
 apply pF 17 [] [] [] [.tmp 6] hr cl69 Tryz.func69
 intro Φ hΦ hF g
 unfold zbD at hF
 try simp [go_sem, g]
 refine pw_wk ?_
 repeat rw [sq]
 refine pJ hF (fun x3 => [(6, .v (.bool x3))]) (fun x3 hF => ?_) fun _ hj1 hF => ?_
 ·cases hΦ _ (Rn_some hF)
  try simp [go_sem, g]
 ·try simp [go_sem, g]
  refine pC hF [.sh, .sh, .sh] zaH (fun z4 hF => ?_)
  try simp [go_sem, g]
  refine pwg_F hF (fun h5 hF => ?_) fun h5 hF => ?_
  ·try simp [go_sem, g, h5]
   refine pC hF [.sh, .sh, .sh] zaH (fun z6 hF => ?_)
   try simp [go_sem, g, h5]
   refine pwg_F hF (fun h7 hF => ?_) fun h7 hF => ?_
   ·try simp [go_sem, g, h7]
    refine pC hF [.sh] zdN (fun z8 hF => ?_)
    try simp [go_sem, g, h7]
    exact pT (hj1 z8) (Rn_some hF)
   ·try simp [go_sem, g, h7]
    exact pT (hj1 false) (Rn_some hF)
  ·try simp [go_sem, g, h5]
   exact pT (hj1 false) (Rn_some hF)
noncomputable def zaU (a0 : Head) : Option (Bool) :=
 (zbD a0.Author a0.Size a0.Root).bind fun z1 =>
 some z1
theorem zda : ∀ {a0} {r}, zaU a0 = some r → PCalls Tryz.prog 33 [(.sh, .agg [.int .i64 a0.Author, .int .i64 a0.Size, .int .i64 a0.Root, .sl false 1 (a0.Sign.Commits.map zaa), .sl false 1 (a0.Sign.Challenges.map zaa), .sl false 1 (a0.Sign.Responses.map zaa)])] (Eo (.bool r) [.junk]) := by
 intro a0 r hr
 apply pF 10 [] [] [] [.tmp 2] hr cl33 Tryz.func33
 intro Φ hΦ hF g
 unfold zaU at hF
 try simp [go_sem, g]
 refine pw_wk ?_
 try simp [go_sem, g]
 refine pC hF [.sh, .sh, .sh] zd6 (fun z1 hF => ?_)
 try simp [go_sem, g]
 refine pw_wkK [2] (by simp [go_sem, g]; rfl) ?_
 cases hΦ _ (Rn_some hF)
 try simp [go_sem, g]
noncomputable def zcs (a0 : Head) : Option (Bool) :=
 (zaU a0).bind fun z1 =>
 some (!z1)
theorem zfG : ∀ {a0} {r}, zcs a0 = some r → PCalls Tryz.prog 62 [(.sh, .agg [.int .i64 a0.Author, .int .i64 a0.Size, .int .i64 a0.Root, .sl false 1 (a0.Sign.Commits.map zaa), .sl false 1 (a0.Sign.Challenges.map zaa), .sl false 1 (a0.Sign.Responses.map zaa)])] (Eo (.bool r) [.junk]) := by
 intro a0 r hr
 apply pF 6 [] [] [] [.tmp 2] hr cl62 Tryz.func62
 intro Φ hΦ hF g
 unfold zcs at hF
 try simp [go_sem, g]
 refine pw_wk ?_
 try simp [go_sem, g]
 refine pC hF [.sh] zda (fun z1 hF => ?_)
 cases hΦ _ (Rn_some hF)
 try simp [go_sem, g]
 refine pw_wk ?_
 try simp [go_sem, g]
noncomputable def zan (a0 : (List Head)) : Option (Int) :=
 ((rloop (σ := Unit) (fun i5 s4 =>
 (ix a0 i5).bind fun x11 =>
 (zcs x11).bind fun z12 =>
 if z12 = true then (
 some (.out (.inr i5))) else (
 some (.go ()))) (fun s4 => .inl ()) (a0.length) 0 () : Option (Unit ⊕ Int)).bind (Sum.elim (fun x3 =>
 some (-1)) some))
theorem zb9 : ∀ {a0} {r}, zan a0 = some r → PCalls Tryz.prog 94 [(.sh, .sl false 6 (a0.map zad)), (.sh, .func (.func 62) [] [])] (Eo (.int .i64 r) [.junk, .junk]) := by
 intro a0 r hr
 apply pF 19 [] [] [] [.tmp 4] hr cl94 Tryz.func94
 intro Φ hΦ hF g
 unfold zan at hF
 iterate 2 (try simp [go_sem, g]; try intros; refine pw_wk ?_)
 repeat rw [sq]
 refine pJs hF (fun x3 => []) (fun x3 hF => ?_) fun _ hj1 hr2 hF => ?_
 ·cases hΦ _ (Rn_some hF)
  try simp [go_sem, g]
  refine pw_wk ?_
  try simp [go_sem, g]
 ·repeat rw [sq]
  rw [pw_block]
  obtain ⟨b14, hb15, hψ8⟩ := hF
  refine pR hb15 (fun i5 s4 => [(0, .v (.sl false 6 (a0.map zad))), (1, .v (.func (.func 62) [] [])), (7, .v (.int .i64 (a0.length : Int))), (8, .v (.int .i64 i5))]) (fun s4 _ hN16 => ?_) (fun i5 s4 _ _ hi9 hi10 ho6 hg7 hF => ?_)
  ·subst hN16
   try simp [go_sem]
   refine pw_wk ?_
   repeat rw [sq]
   refine pw_cond_f (by simp [go_sem]) ?_
   try simp [go_sem]
   exact pT (hj1 ()) hψ8 (by simp [go_sem])
  ·try simp [go_sem, g]
   refine pw_wk ?_
   repeat rw [sq]
   refine pw_cond_t (by simp [go_sem, g, hi9, hi10]) ?_
   try simp [go_sem, g]
   refine pw_wk ?_
   repeat rw [sq]
   rw [pw_block]
   obtain ⟨x11, g, hF⟩ := Rx g hF
   try simp [go_sem, g]
   refine pw_wk ?_
   try simp [go_sem, g]
   refine pC hF [.sh] zfG (fun z12 hF => ?_)
   try simp [go_sem, g]
   refine pw_wkK [0, 1, 5, 7, 8, 16] (by simp [go_sem, g]; rfl) ?_
   repeat rw [sq]
   refine pI hF (fun h13 hF => ?_) (fun h13 hF => ?_)
   ·cases ho6 _ (Rn_some hF)
    cases hΦ _ (hr2 _ hψ8)
    try simp [go_sem, g]
    refine pw_wk ?_
    try simp [go_sem, g]
   ·try simp [go_sem, g]
    refine pw_wk ?_
    try simp [go_sem, g]
    exact pT (hg7 ()) (Rn_some hF) (by simp [go_sem, g, wr_i hi9 hi10 (by assumption)])
noncomputable def zal (a0 : (List Head)) : Option (Bool) :=
 (zan a0).bind fun z1 =>
 some (decide (0 ≤ z1))
theorem zbT : ∀ {a0} {r}, zal a0 = some r → PCalls Tryz.prog 61 [(.sh, .sl false 6 (a0.map zad)), (.sh, .func (.func 62) [] [])] (Eo (.bool r) [.junk, .junk]) := by
 intro a0 r hr
 apply pF 9 [] [] [] [.tmp 4] hr cl61 Tryz.func61
 intro Φ hΦ hF g
 unfold zal at hF
 try simp [go_sem, g]
 refine pw_wk ?_
 try simp [go_sem, g]
 refine pC hF [.sh, .sh] zb9 (fun z1 hF => ?_)
 cases hΦ _ (Rn_some hF)
 try simp [go_sem, g]
 refine pw_wk ?_
 try simp [go_sem, g]
noncomputable def zcP (a0 : (List Head)) : Option (Bool) :=
 ((if decide ((a0.length : Int) ≤ 20) = true then (
 (zal a0).bind fun z5 =>
 some (!z5)) else (
 some false) : Option (Bool)).bind fun x3 =>
 some x3)
theorem zgd : ∀ {a0} {r}, zcP a0 = some r → PCalls Tryz.prog 27 [(.sh, .sl false 6 (a0.map zad))] (Eo (.bool r) [.junk]) := by
 intro a0 r hr
 apply pF 11 [] [] [] [.tmp 2] hr cl27 Tryz.func27
 intro Φ hΦ hF g
 unfold zcP at hF
 try simp [go_sem, g]
 refine pw_wk ?_
 repeat rw [sq]
 refine pJ hF (fun x3 => [(2, .v (.bool x3))]) (fun x3 hF => ?_) fun _ hj1 hF => ?_
 ·cases hΦ _ (Rn_some hF)
  try simp [go_sem, g]
 ·try simp [go_sem, g]
  try intros
  refine pwg_F hF (fun h4 hF => ?_) fun h4 hF => ?_
  ·try simp [go_sem, g, h4]
   refine pC hF [.sh, .sh] zbT (fun z5 hF => ?_)
   try simp [go_sem, g, h4]
   exact pT (hj1 (!z5)) (Rn_some hF)
  ·try simp [go_sem, g, h4]
   exact pT (hj1 false) (Rn_some hF)
noncomputable def zbZ (a0 : Reader) : Option (Bool) :=
 (zcP a0.Heads).bind fun z1 =>
 some (!z1)
theorem zfc : ∀ {a0} {r}, zbZ a0 = some r → PCalls Tryz.prog 78 [(.sh, .agg [.sl false 6 (a0.Heads.map zad)])] (Eo (.bool r) [.junk]) := by
 intro a0 r hr
 apply pF 7 [] [] [] [.tmp 2] hr cl78 Tryz.func78
 intro Φ hΦ hF g
 unfold zbZ at hF
 try simp [go_sem, g]
 refine pw_wk ?_
 try simp [go_sem, g]
 refine pC hF [.sh] zgd (fun z1 hF => ?_)
 cases hΦ _ (Rn_some hF)
 try simp [go_sem, g]
 refine pw_wk ?_
 try simp [go_sem, g]
noncomputable def zas (a0 : (List Reader)) : Option (Int) :=
 ((rloop (σ := Unit) (fun i5 s4 =>
 (ix a0 i5).bind fun x11 =>
 (zbZ x11).bind fun z12 =>
 if z12 = true then (
 some (.out (.inr i5))) else (
 some (.go ()))) (fun s4 => .inl ()) (a0.length) 0 () : Option (Unit ⊕ Int)).bind (Sum.elim (fun x3 =>
 some (-1)) some))
theorem zbH : ∀ {a0} {r}, zas a0 = some r → PCalls Tryz.prog 106 [(.sh, .sl false 1 (a0.map zae)), (.sh, .func (.func 78) [] [])] (Eo (.int .i64 r) [.junk, .junk]) := by
 intro a0 r hr
 apply pF 19 [] [] [] [.tmp 4] hr cl106 Tryz.func106
 intro Φ hΦ hF g
 unfold zas at hF
 iterate 2 (try simp [go_sem, g]; try intros; refine pw_wk ?_)
 repeat rw [sq]
 refine pJs hF (fun x3 => []) (fun x3 hF => ?_) fun _ hj1 hr2 hF => ?_
 ·cases hΦ _ (Rn_some hF)
  try simp [go_sem, g]
  refine pw_wk ?_
  try simp [go_sem, g]
 ·repeat rw [sq]
  rw [pw_block]
  obtain ⟨b14, hb15, hψ8⟩ := hF
  refine pR hb15 (fun i5 s4 => [(0, .v (.sl false 1 (a0.map zae))), (1, .v (.func (.func 78) [] [])), (7, .v (.int .i64 (a0.length : Int))), (8, .v (.int .i64 i5))]) (fun s4 _ hN16 => ?_) (fun i5 s4 _ _ hi9 hi10 ho6 hg7 hF => ?_)
  ·subst hN16
   try simp [go_sem]
   refine pw_wk ?_
   repeat rw [sq]
   refine pw_cond_f (by simp [go_sem]) ?_
   try simp [go_sem]
   exact pT (hj1 ()) hψ8 (by simp [go_sem])
  ·try simp [go_sem, g]
   refine pw_wk ?_
   repeat rw [sq]
   refine pw_cond_t (by simp [go_sem, g, hi9, hi10]) ?_
   try simp [go_sem, g]
   refine pw_wk ?_
   repeat rw [sq]
   rw [pw_block]
   obtain ⟨x11, g, hF⟩ := Rx g hF
   try simp [go_sem, g]
   refine pw_wk ?_
   try simp [go_sem, g]
   refine pC hF [.sh] zfc (fun z12 hF => ?_)
   try simp [go_sem, g]
   refine pw_wkK [0, 1, 5, 7, 8, 16] (by simp [go_sem, g]; rfl) ?_
   repeat rw [sq]
   refine pI hF (fun h13 hF => ?_) (fun h13 hF => ?_)
   ·cases ho6 _ (Rn_some hF)
    cases hΦ _ (hr2 _ hψ8)
    try simp [go_sem, g]
    refine pw_wk ?_
    try simp [go_sem, g]
   ·try simp [go_sem, g]
    refine pw_wk ?_
    try simp [go_sem, g]
    exact pT (hg7 ()) (Rn_some hF) (by simp [go_sem, g, wr_i hi9 hi10 (by assumption)])
noncomputable def zai (a0 : (List Reader)) : Option (Bool) :=
 (zas a0).bind fun z1 =>
 some (decide (0 ≤ z1))
theorem zbC : ∀ {a0} {r}, zai a0 = some r → PCalls Tryz.prog 77 [(.sh, .sl false 1 (a0.map zae)), (.sh, .func (.func 78) [] [])] (Eo (.bool r) [.junk, .junk]) := by
 intro a0 r hr
 apply pF 9 [] [] [] [.tmp 4] hr cl77 Tryz.func77
 intro Φ hΦ hF g
 unfold zai at hF
 try simp [go_sem, g]
 refine pw_wk ?_
 try simp [go_sem, g]
 refine pC hF [.sh, .sh] zbH (fun z1 hF => ?_)
 cases hΦ _ (Rn_some hF)
 try simp [go_sem, g]
 refine pw_wk ?_
 try simp [go_sem, g]
noncomputable def zbo (a0 : (List Reader)) : Option (Bool) :=
 ((if decide ((a0.length : Int) ≤ 8) = true then (
 (zai a0).bind fun z5 =>
 some (!z5)) else (
 some false) : Option (Bool)).bind fun x3 =>
 some x3)
theorem zeg : ∀ {a0} {r}, zbo a0 = some r → PCalls Tryz.prog 43 [(.sh, .sl false 1 (a0.map zae))] (Eo (.bool r) [.junk]) := by
 intro a0 r hr
 apply pF 11 [] [] [] [.tmp 2] hr cl43 Tryz.func43
 intro Φ hΦ hF g
 unfold zbo at hF
 try simp [go_sem, g]
 refine pw_wk ?_
 repeat rw [sq]
 refine pJ hF (fun x3 => [(2, .v (.bool x3))]) (fun x3 hF => ?_) fun _ hj1 hF => ?_
 ·cases hΦ _ (Rn_some hF)
  try simp [go_sem, g]
 ·try simp [go_sem, g]
  try intros
  refine pwg_F hF (fun h4 hF => ?_) fun h4 hF => ?_
  ·try simp [go_sem, g, h4]
   refine pC hF [.sh, .sh] zbC (fun z5 hF => ?_)
   try simp [go_sem, g, h4]
   exact pT (hj1 (!z5)) (Rn_some hF)
  ·try simp [go_sem, g, h4]
   exact pT (hj1 false) (Rn_some hF)
noncomputable def zcN (a0 : Int) (a1c0 : Int) : Option (Bool) :=
 (zap a0 0 (i64.wrap (a1c0 - 1))).bind fun z1 =>
 some z1
theorem zfk : ∀ {a0} {a1c0} {r}, zcN a0 a1c0 = some r → PCalls Tryz.prog 108 [(.sh, .int .i64 a0), (.sh, .fp [.int .i64 a1c0])] (Eo (.bool r) [.junk, .junk]) := by
 intro a0 a1c0 r hr
 apply pF 8 [] [] [] [.tmp 3] hr cl108 Tryz.func108
 intro Φ hΦ hF g
 unfold zcN at hF
 try simp [go_sem, g]
 refine pw_wk ?_
 try simp [go_sem, g]
 refine pC hF [.sh, .sh, .sh] zaH (fun z1 hF => ?_)
 cases hΦ _ (Rn_some hF)
 try simp [go_sem, g]
 refine pw_wk ?_
 try simp [go_sem, g]
noncomputable def zaI (a0 : Int) (a1c0u0c0 : Int) : Option (Bool) :=
 (zcN a0 a1c0u0c0).bind fun z1 =>
 some (!z1)
theorem zdD : ∀ {a0} {a1c0u0c0} {r}, zaI a0 a1c0u0c0 = some r → PCalls Tryz.prog 71 [(.sh, .int .i64 a0), (.sh, .fp [.func (.func 108) [] [.fp [.int .i64 a1c0u0c0]]])] (Eo (.bool r) [.junk, .junk]) := by
 intro a0 a1c0u0c0 r hr
 apply pF 8 [] [] [] [.tmp 3] hr cl71 Tryz.func71
 intro Φ hΦ hF g
 unfold zaI at hF
 try simp [go_sem, g]
 refine pw_wk ?_
 try simp [go_sem, g]
 refine pC hF [.sh] zfk (fun z1 hF => ?_)
 cases hΦ _ (Rn_some hF)
 try simp [go_sem, g]
 refine pw_wk ?_
 try simp [go_sem, g]
noncomputable def zax (a0 : (List Int)) (a1u0c0u0c0 : Int) : Option (Int) :=
 ((rloop (σ := Unit) (fun i5 s4 =>
 (ix a0 i5).bind fun x11 =>
 (zaI x11 a1u0c0u0c0).bind fun z12 =>
 if z12 = true then (
 some (.out (.inr i5))) else (
 some (.go ()))) (fun s4 => .inl ()) (a0.length) 0 () : Option (Unit ⊕ Int)).bind (Sum.elim (fun x3 =>
 some (-1)) some))
theorem zb2 : ∀ {a0} {a1u0c0u0c0} {r}, zax a0 a1u0c0u0c0 = some r → PCalls Tryz.prog 101 [(.sh, .sl false 1 (a0.map zaa)), (.sh, .func (.func 71) [] [.fp [.func (.func 108) [] [.fp [.int .i64 a1u0c0u0c0]]]])] (Eo (.int .i64 r) [.junk, .junk]) := by
 intro a0 a1u0c0u0c0 r hr
 apply pF 19 [] [] [] [.tmp 4] hr cl101 Tryz.func101
 intro Φ hΦ hF g
 unfold zax at hF
 iterate 2 (try simp [go_sem, g]; try intros; refine pw_wk ?_)
 repeat rw [sq]
 refine pJs hF (fun x3 => []) (fun x3 hF => ?_) fun _ hj1 hr2 hF => ?_
 ·cases hΦ _ (Rn_some hF)
  try simp [go_sem, g]
  refine pw_wk ?_
  try simp [go_sem, g]
 ·repeat rw [sq]
  rw [pw_block]
  obtain ⟨b14, hb15, hψ8⟩ := hF
  refine pR hb15 (fun i5 s4 => [(0, .v (.sl false 1 (a0.map zaa))), (1, .v (.func (.func 71) [] [.fp [.func (.func 108) [] [.fp [.int .i64 a1u0c0u0c0]]]])), (7, .v (.int .i64 (a0.length : Int))), (8, .v (.int .i64 i5))]) (fun s4 _ hN16 => ?_) (fun i5 s4 _ _ hi9 hi10 ho6 hg7 hF => ?_)
  ·subst hN16
   try simp [go_sem]
   refine pw_wk ?_
   repeat rw [sq]
   refine pw_cond_f (by simp [go_sem]) ?_
   try simp [go_sem]
   exact pT (hj1 ()) hψ8 (by simp [go_sem])
  ·try simp [go_sem, g]
   refine pw_wk ?_
   repeat rw [sq]
   refine pw_cond_t (by simp [go_sem, g, hi9, hi10]) ?_
   try simp [go_sem, g]
   refine pw_wk ?_
   repeat rw [sq]
   rw [pw_block]
   obtain ⟨x11, g, hF⟩ := Rx g hF
   try simp [go_sem, g]
   refine pw_wk ?_
   try simp [go_sem, g]
   refine pC hF [.sh] zdD (fun z12 hF => ?_)
   try simp [go_sem, g]
   refine pw_wkK [0, 1, 5, 7, 8, 16] (by simp [go_sem, g]; rfl) ?_
   repeat rw [sq]
   refine pI hF (fun h13 hF => ?_) (fun h13 hF => ?_)
   ·cases ho6 _ (Rn_some hF)
    cases hΦ _ (hr2 _ hψ8)
    try simp [go_sem, g]
    refine pw_wk ?_
    try simp [go_sem, g]
   ·try simp [go_sem, g]
    refine pw_wk ?_
    try simp [go_sem, g]
    exact pT (hg7 ()) (Rn_some hF) (by simp [go_sem, g, wr_i hi9 hi10 (by assumption)])
noncomputable def zat (a0 : (List Int)) (a1u0c0u0c0 : Int) : Option (Bool) :=
 (zax a0 a1u0c0u0c0).bind fun z1 =>
 some (decide (0 ≤ z1))
theorem zbO : ∀ {a0} {a1u0c0u0c0} {r}, zat a0 a1u0c0u0c0 = some r → PCalls Tryz.prog 70 [(.sh, .sl false 1 (a0.map zaa)), (.sh, .func (.func 71) [] [.fp [.func (.func 108) [] [.fp [.int .i64 a1u0c0u0c0]]]])] (Eo (.bool r) [.junk, .junk]) := by
 intro a0 a1u0c0u0c0 r hr
 apply pF 9 [] [] [] [.tmp 4] hr cl70 Tryz.func70
 intro Φ hΦ hF g
 unfold zat at hF
 try simp [go_sem, g]
 refine pw_wk ?_
 try simp [go_sem, g]
 refine pC hF [.sh, .sh] zb2 (fun z1 hF => ?_)
 cases hΦ _ (Rn_some hF)
 try simp [go_sem, g]
 refine pw_wk ?_
 try simp [go_sem, g]
noncomputable def za8 (a0 : (List Int)) (a1u0c0 : Int) : Option (Bool) :=
 (zat a0 a1u0c0).bind fun z1 =>
 some (!z1)
theorem zdK : ∀ {a0} {a1u0c0} {r}, za8 a0 a1u0c0 = some r → PCalls Tryz.prog 34 [(.sh, .sl false 1 (a0.map zaa)), (.sh, .func (.func 108) [] [.fp [.int .i64 a1u0c0]])] (Eo (.bool r) [.junk, .junk]) := by
 intro a0 a1u0c0 r hr
 apply pF 9 [] [] [1000000] [.tmp 4] hr cl34 Tryz.func34
 intro Φ hΦ hF g
 unfold za8 at hF
 try simp [go_sem, g]
 refine pw_wk ?_
 try simp [go_sem, g]
 refine pC hF [.sh, .sh] zbO (fun z1 hF => ?_)
 cases hΦ _ (Rn_some hF)
 try simp [go_sem, g]
 refine pw_wk ?_
 try simp [go_sem, g]
noncomputable def zcS (a0 : (List Int)) (a1 : Int) : Option (Bool) :=
 (za8 a0 a1).bind fun z1 =>
 some z1
theorem zf6 : ∀ {a0} {a1} {r}, zcS a0 a1 = some r → PCalls Tryz.prog 81 [(.sh, .sl false 1 (a0.map zaa)), (.sh, .int .i64 a1)] (Eo (.bool r) [.junk, .junk]) := by
 intro a0 a1 r hr
 apply pF 8 [] [] [1000000] [.tmp 4] hr cl81 Tryz.func81
 intro Φ hΦ hF g
 unfold zcS at hF
 try simp [go_sem, g]
 refine pw_wk ?_
 try simp [go_sem, g]
 refine pC hF [.sh, .sh] zdK (fun z1 hF => ?_)
 cases hΦ _ (Rn_some hF)
 try simp [go_sem, g]
 refine pw_wk ?_
 try simp [go_sem, g]
def zje : List DE := [d0 0 [0], d0 1 [4], d0 2 [5], d0 3 [6], d0 4 [0, 7], d0 5 [1, 7], d3 6 [8, 9, 7], d0 7 [10, 7], d0 8 [7, 11], d0 9 [12], d0 10 [0, 13], d0 11 [14, 13], d0 12 [15, 13], d0 13 [0, 13], d0 14 [17, 13], d0 15 [18, 13], d0 16 [16, 19, 13], d0 17 [13, 20], d0 18 [21]]
noncomputable def zcc (a0 : (List Int)) (a1c0 : Int) : Option (Bool) :=
 ((if ((a0.length : Int) != 2) = true then (
 some true) else (
 (zcS a0 a1c0).bind fun z5 =>
 if (!z5) = true then (
 some true) else (
 (ix a0 0).bind fun x7 =>
 (ix a0 1).bind fun x8 =>
 some (x7 == x8))) : Option (Bool)).bind fun x3 =>
 some x3)
theorem zfj : ∀ {a0} {a1c0} {r}, zcc a0 a1c0 = some r → PCalls Tryz.prog 80 [(.sh, .sl false 1 (a0.map zaa)), (.sh, .fp [.int .i64 a1c0])] (Eo (.bool r) [.junk, .junk]) := by
 intro a0 a1c0 r hr
 apply pF 22 [] [] [] [.tmp 3] hr cl80 Tryz.func80
 intro Φ hΦ hF g
 unfold zcc at hF
 try simp [go_sem, g]
 refine pw_wk ?_
 repeat rw [sq]
 refine pJ hF (fun x3 => [(3, .v (.bool x3))]) (fun x3 hF => ?_) fun _ hj1 hF => ?_
 ·cases hΦ _ (Rn_some hF)
  try simp [go_sem, g]
 ·repeat rw [sq]
  refine pw_draw zje follows (by kernel_rfl) rfl ?_
  try simp only [go_sem, zje]
  try simp [go_sem, g]
  try intros
  refine pwgD_F hF (fun h4 hF => ?_) fun h4 hF => ?_
  ·try simp [go_sem, g, h4]
   exact pT (hj1 true) (Rn_some hF)
  ·try simp [go_sem, g, h4]
   refine pC hF [.sh, .sh] zf6 (fun z5 hF => ?_)
   try simp [go_sem, g, h4]
   refine pwgD_F hF (fun h6 hF => ?_) fun h6 hF => ?_
   ·try simp [go_sem, g, h6]
    exact pT (hj1 true) (Rn_some hF)
   ·obtain ⟨x7, g, hF⟩ := Rxn g 0 hF
    obtain ⟨x8, g, hF⟩ := Rxn g 1 hF
    try simp [go_sem, g, h6]
    exact pT (hj1 (x7 == x8)) (Rn_some hF)
noncomputable def zaT (a0 : (List (List Int))) (a1u0c0 : Int) : Option (Int) :=
 ((rloop (σ := Unit) (fun i5 s4 =>
 (ix a0 i5).bind fun x11 =>
 (zcc x11 a1u0c0).bind fun z12 =>
 if z12 = true then (
 some (.out (.inr i5))) else (
 some (.go ()))) (fun s4 => .inl ()) (a0.length) 0 () : Option (Unit ⊕ Int)).bind (Sum.elim (fun x3 =>
 some (-1)) some))
theorem zcX : ∀ {a0} {a1u0c0} {r}, zaT a0 a1u0c0 = some r → PCalls Tryz.prog 107 [(.sh, .sl false 1 (a0.map zaf)), (.sh, .func (.func 80) [] [.fp [.int .i64 a1u0c0]])] (Eo (.int .i64 r) [.junk, .junk]) := by
 intro a0 a1u0c0 r hr
 apply pF 19 [] [] [] [.tmp 4] hr cl107 Tryz.func107
 intro Φ hΦ hF g
 unfold zaT at hF
 iterate 2 (try simp [go_sem, g]; try intros; refine pw_wk ?_)
 repeat rw [sq]
 refine pJs hF (fun x3 => []) (fun x3 hF => ?_) fun _ hj1 hr2 hF => ?_
 ·cases hΦ _ (Rn_some hF)
  try simp [go_sem, g]
  refine pw_wk ?_
  try simp [go_sem, g]
 ·repeat rw [sq]
  rw [pw_block]
  obtain ⟨b14, hb15, hψ8⟩ := hF
  refine pR hb15 (fun i5 s4 => [(0, .v (.sl false 1 (a0.map zaf))), (1, .v (.func (.func 80) [] [.fp [.int .i64 a1u0c0]])), (7, .v (.int .i64 (a0.length : Int))), (8, .v (.int .i64 i5))]) (fun s4 _ hN16 => ?_) (fun i5 s4 _ _ hi9 hi10 ho6 hg7 hF => ?_)
  ·subst hN16
   try simp [go_sem]
   refine pw_wk ?_
   repeat rw [sq]
   refine pw_cond_f (by simp [go_sem]) ?_
   try simp [go_sem]
   exact pT (hj1 ()) hψ8 (by simp [go_sem])
  ·try simp [go_sem, g]
   refine pw_wk ?_
   repeat rw [sq]
   refine pw_cond_t (by simp [go_sem, g, hi9, hi10]) ?_
   try simp [go_sem, g]
   refine pw_wk ?_
   repeat rw [sq]
   rw [pw_block]
   obtain ⟨x11, g, hF⟩ := Rx g hF
   try simp [go_sem, g]
   refine pw_wk ?_
   try simp [go_sem, g]
   refine pC hF [.sh] zfj (fun z12 hF => ?_)
   try simp [go_sem, g]
   refine pw_wkK [0, 1, 5, 7, 8, 16] (by simp [go_sem, g]; rfl) ?_
   repeat rw [sq]
   refine pI hF (fun h13 hF => ?_) (fun h13 hF => ?_)
   ·cases ho6 _ (Rn_some hF)
    cases hΦ _ (hr2 _ hψ8)
    try simp [go_sem, g]
    refine pw_wk ?_
    try simp [go_sem, g]
   ·try simp [go_sem, g]
    refine pw_wk ?_
    try simp [go_sem, g]
    exact pT (hg7 ()) (Rn_some hF) (by simp [go_sem, g, wr_i hi9 hi10 (by assumption)])
noncomputable def zaw (a0 : (List (List Int))) (a1u0c0 : Int) : Option (Bool) :=
 (zaT a0 a1u0c0).bind fun z1 =>
 some (decide (0 ≤ z1))
theorem zcI : ∀ {a0} {a1u0c0} {r}, zaw a0 a1u0c0 = some r → PCalls Tryz.prog 79 [(.sh, .sl false 1 (a0.map zaf)), (.sh, .func (.func 80) [] [.fp [.int .i64 a1u0c0]])] (Eo (.bool r) [.junk, .junk]) := by
 intro a0 a1u0c0 r hr
 apply pF 9 [] [] [] [.tmp 4] hr cl79 Tryz.func79
 intro Φ hΦ hF g
 unfold zaw at hF
 try simp [go_sem, g]
 refine pw_wk ?_
 try simp [go_sem, g]
 refine pC hF [.sh, .sh] zcX (fun z1 hF => ?_)
 cases hΦ _ (Rn_some hF)
 try simp [go_sem, g]
 refine pw_wk ?_
 try simp [go_sem, g]
noncomputable def zbp (a0 : (List (List Int))) (a1 : Int) : Option (Bool) :=
 ((if decide ((a0.length : Int) ≤ 20) = true then (
 (zaw a0 a1).bind fun z5 =>
 some (!z5)) else (
 some false) : Option (Bool)).bind fun x3 =>
 some x3)
theorem zdL : ∀ {a0} {a1} {r}, zbp a0 a1 = some r → PCalls Tryz.prog 44 [(.sh, .sl false 1 (a0.map zaf)), (.sh, .int .i64 a1)] (Eo (.bool r) [.junk, .junk]) := by
 intro a0 a1 r hr
 apply pF 14 [] [] [1000000] [.tmp 4] hr cl44 Tryz.func44
 intro Φ hΦ hF g
 unfold zbp at hF
 try simp [go_sem, g]
 refine pw_wk ?_
 repeat rw [sq]
 refine pJ hF (fun x3 => [(4, .v (.bool x3))]) (fun x3 hF => ?_) fun _ hj1 hF => ?_
 ·cases hΦ _ (Rn_some hF)
  try simp [go_sem, g]
 ·try simp [go_sem, g]
  try intros
  refine pwg_F hF (fun h4 hF => ?_) fun h4 hF => ?_
  ·try simp [go_sem, g, h4]
   refine pC hF [.sh, .sh] zcI (fun z5 hF => ?_)
   try simp [go_sem, g, h4]
   exact pT (hj1 (!z5)) (Rn_some hF)
  ·try simp [go_sem, g, h4]
   exact pT (hj1 false) (Rn_some hF)
noncomputable def za4 (a0 : (List Int)) : Option (List Int) :=
 gd (a0.length * 8 ≤ 140737488355328 ∧ a0.length ≤ 4611686018427387904) <|
 some a0
theorem zcV {a0 : (List Int)} {r : (List Int)} (hr : za4 a0 = some r) : PCalls Tryz.prog 118 [(.sh, .sl false 1 (a0.map zaa))] (Eo (.sl true 1 (r.map zaa)) [.junk]) := by
 apply pcalls_lf 8 [] [] [1000000] [.tmp 2] hr cl118 Tryz.func118 rfl rfl rfl
 ·exact ⟨by simp, rfl⟩
 intro Φ hΦ hF
 unfold za4 at hF
 obtain ⟨g, hF⟩ := Rn_gd hF
 have h1 := hΦ _ (Rn_some hF)
 subst h1
 try simp [go_sem]
 refine pw_wkL [(0, .v (.sl false 1 (a0.map zaa)))] (by simp [go_sem]) ?_
 try simp [go_sem]
 refine pw1_nil rfl rfl (by simp [go_sem]) rfl (by rfl) fun b hb => ?_
 try simp [go_sem]
 refine pw_wk ?_
 repeat rw [pw_seq]
 cases b
 ·refine pw_cond_f (by simp [go_sem]) ?_
  try simp [go_sem]
  refine pw_wk ?_
  try simp [go_sem, g]
  refine pw_wk ?_
  try simp [go_sem, g]
 ·have hb0 : a0 = [] := by
   cases a0 with
   | nil => rfl
   | cons x l => exact absurd (hb (by simp)) (by simp)
  subst hb0
  refine pw_cond_t (by simp [go_sem]) ?_
  try simp [go_sem]
  refine pw_wk ?_
  try simp [go_sem]
def zjz : List DE := [d1 0 [1] 1, d2 1 [3] 1 3, d1 3 [1] 1, d2 4 [6] 1 6, d1 6 [1] 1, d2 7 [9] 1 9, d3 2 [4], d3 5 [7], d3 8 [10], d0 9 [5, 8, 11], d2 10 [2, 12] 2 2]
noncomputable def zcC (a0 : Proof) : Option (Proof) :=
 (za4 a0.Commits).bind fun z1 =>
 (za4 a0.Challenges).bind fun z2 =>
 (za4 a0.Responses).bind fun z3 =>
 some (Proof.mk z1 z2 z3)
theorem zfZ : ∀ {a0} {r}, zcC a0 = some r → PCalls Tryz.prog 95 [(.sh, .agg [.sl false 1 (a0.Commits.map zaa), .sl false 1 (a0.Challenges.map zaa), .sl false 1 (a0.Responses.map zaa)])] (Eo (.agg [.sl true 1 (r.Commits.map zaa), .sl true 1 (r.Challenges.map zaa), .sl true 1 (r.Responses.map zaa)]) [.junk]) := by
 intro a0 r hr
 apply pF 13 [] [] [] [.cell 2 31] hr cl95 Tryz.func95
 intro Φ hΦ hF g
 unfold zcC at hF
 try simp [go_sem, g]
 refine pw_wk ?_
 repeat rw [sq]
 refine pw_draw zjz follows (by kernel_rfl) rfl ?_
 try simp only [go_sem, zjz]
 try simp [go_sem, g]
 refine pC hF [.sh] zcV (fun z1 hF => ?_)
 try simp [go_sem, g]
 refine pC hF [.sh] zcV (fun z2 hF => ?_)
 try simp [go_sem, g]
 refine pC hF [.sh] zcV (fun z3 hF => ?_)
 try simp [go_sem, g]
 refine pw_wkK [2] (by simp [go_sem, g]; rfl) ?_
 cases hΦ _ (Rn_some hF)
 try simp [go_sem, g]
noncomputable def zbr (a0 : Head) : Option (Head) :=
 (zcC a0.Sign).bind fun z1 =>
 some (Head.mk a0.Author a0.Size a0.Root z1)
theorem zdb : ∀ {a0} {r}, zbr a0 = some r → PCalls Tryz.prog 63 [(.sh, .agg [.int .i64 a0.Author, .int .i64 a0.Size, .int .i64 a0.Root, .sl false 1 (a0.Sign.Commits.map zaa), .sl false 1 (a0.Sign.Challenges.map zaa), .sl false 1 (a0.Sign.Responses.map zaa)])] (Eo (.agg [.int .i64 r.Author, .int .i64 r.Size, .int .i64 r.Root, .sl true 1 (r.Sign.Commits.map zaa), .sl true 1 (r.Sign.Challenges.map zaa), .sl true 1 (r.Sign.Responses.map zaa)]) [.junk]) := by
 intro a0 r hr
 apply pF 8 [] [] [] [.cell 2 33] hr cl63 Tryz.func63
 intro Φ hΦ hF g
 unfold zbr at hF
 try simp [go_sem, g]
 refine pw_wk ?_
 try simp [go_sem, g]
 refine pC hF [.sh] zfZ (fun z1 hF => ?_)
 cases hΦ _ (Rn_some hF)
 iterate 2 (try simp [go_sem, g]; refine pw_wk ?_)
 try simp [go_sem, g]
def zh0 : List DE := [d0 0 [0], d0 1 [5], d0 2 [16, 17], d0 3 [18], d0 4 [1], d0 5 [5], d0 6 [20, 21], d0 7 [22], d0 8 [19, 23]]
noncomputable def zaP (a0 : (List Int)) (a1 : (List Int)) : Option (Bool) :=
 if ((a0.length : Int) != (a1.length : Int)) = true then (
 some false) else (
 ((rloop (σ := Unit) (fun i6 s5 =>
 (ix a0 i6).bind fun x12 =>
 (ix a1 i6).bind fun x13 =>
 if (x12 != x13) = true then (
 some (.out (.inr false))) else (
 some (.go ()))) (fun s5 => .inl ()) (a0.length) 0 () : Option (Unit ⊕ Bool)).bind (Sum.elim (fun x4 =>
 some true) some)))
theorem zcT : ∀ {a0} {a1} {r}, zaP a0 a1 = some r → PCalls Tryz.prog 125 [(.sh, .sl false 1 (a0.map zaa)), (.sh, .sl false 1 (a1.map zaa))] (Eo (.bool r) [.junk, .junk]) := by
 intro a0 a1 r hr
 apply pF 26 [] [] [] [.tmp 4] hr cl125 Tryz.func125
 intro Φ hΦ hF g
 unfold zaP at hF
 iterate 2 (try simp [go_sem, g]; try intros; refine pw_wk ?_)
 repeat rw [sq]
 refine pI hF (fun h1 hF => ?_) (fun h1 hF => ?_)
 ·cases hΦ _ (Rn_some hF)
  try simp [go_sem, g]
  refine pw_wk ?_
  try simp [go_sem, g]
 ·iterate 2 (try simp [go_sem, g]; try intros; refine pw_wk ?_)
  repeat rw [sq]
  refine pJs hF (fun x4 => []) (fun x4 hF => ?_) fun _ hj2 hr3 hF => ?_
  ·try simp [go_sem, g]
   refine pw_wkK [4] (by simp [go_sem, g]; rfl) ?_
   cases hΦ _ (Rn_some hF)
   try simp [go_sem, g]
  ·repeat rw [sq]
   rw [pw_block]
   obtain ⟨b15, hb16, hψ9⟩ := hF
   refine pR hb16 (fun i6 s5 => [(0, .v (.sl false 1 (a0.map zaa))), (1, .v (.sl false 1 (a1.map zaa))), (12, .v (.int .i64 (a0.length : Int))), (13, .v (.int .i64 i6))]) (fun s5 _ hN17 => ?_) (fun i6 s5 _ _ hi10 hi11 ho7 hg8 hF => ?_)
   ·subst hN17
    try simp [go_sem]
    refine pw_wk ?_
    repeat rw [sq]
    refine pw_cond_f (by simp [go_sem]) ?_
    try simp [go_sem]
    exact pT (hj2 ()) hψ9 (by simp [go_sem])
   ·try simp [go_sem, g]
    refine pw_wkK [0, 1, 12, 13, 14] (by simp [go_sem, g]; rfl) ?_
    repeat rw [sq]
    refine pw_cond_t (by simp [go_sem, g, hi10, hi11]) ?_
    try simp [go_sem, g]
    refine pw_wk ?_
    repeat rw [sq]
    rw [pw_block]
    try simp [go_sem, g]
    refine pw_wk ?_
    repeat rw [sq]
    refine pw_draw zh0 follows (by kernel_rfl) rfl ?_
    try simp only [go_sem, zh0]
    obtain ⟨x12, g, hF⟩ := Rx g hF
    obtain ⟨x13, g, hF⟩ := Rx g hF
    try simp [go_sem, g]
    refine pw_wkK [0, 1, 12, 13, 24] (by simp [go_sem, g]; rfl) ?_
    repeat rw [sq]
    refine pI hF (fun h14 hF => ?_) (fun h14 hF => ?_)
    ·cases ho7 _ (Rn_some hF)
     cases hΦ _ (hr3 _ hψ9)
     try simp [go_sem, g]
     refine pw_wk ?_
     try simp [go_sem, g]
    ·try simp [go_sem, g]
     refine pw_wk ?_
     try simp [go_sem, g]
     exact pT (hg8 ()) (Rn_some hF) (by simp [go_sem, g, wr_i hi10 hi11 (by assumption)])
noncomputable def zcH (a0 : Proof) (a1 : Proof) : Option (Bool) :=
 (((zaP a0.Commits a1.Commits).bind fun z4 =>
 if z4 = true then (
 (zaP a0.Challenges a1.Challenges).bind fun z6 =>
 if z6 = true then (
 (zaP a0.Responses a1.Responses).bind fun z8 =>
 some z8) else (
 some false)) else (
 some false) : Option (Bool)).bind fun x3 =>
 some x3)
theorem zfR : ∀ {a0} {a1} {r}, zcH a0 a1 = some r → PCalls Tryz.prog 104 [(.sh, .agg [.sl false 1 (a0.Commits.map zaa), .sl false 1 (a0.Challenges.map zaa), .sl false 1 (a0.Responses.map zaa)]), (.sh, .agg [.sl false 1 (a1.Commits.map zaa), .sl false 1 (a1.Challenges.map zaa), .sl false 1 (a1.Responses.map zaa)])] (Eo (.bool r) [.junk, .junk]) := by
 intro a0 a1 r hr
 apply pF 24 [] [] [] [.tmp 4] hr cl104 Tryz.func104
 intro Φ hΦ hF g
 unfold zcH at hF
 try simp [go_sem, g]
 refine pw_wk ?_
 repeat rw [sq]
 refine pJ hF (fun x3 => [(4, .v (.bool x3))]) (fun x3 hF => ?_) fun _ hj1 hF => ?_
 ·cases hΦ _ (Rn_some hF)
  try simp [go_sem, g]
 ·try simp [go_sem, g]
  refine pC hF [.sh, .sh] zcT (fun z4 hF => ?_)
  try simp [go_sem, g]
  refine pwg_F hF (fun h5 hF => ?_) fun h5 hF => ?_
  ·try simp [go_sem, g, h5]
   refine pC hF [.sh, .sh] zcT (fun z6 hF => ?_)
   try simp [go_sem, g, h5]
   refine pwg_F hF (fun h7 hF => ?_) fun h7 hF => ?_
   ·try simp [go_sem, g, h7]
    refine pC hF [.sh, .sh] zcT (fun z8 hF => ?_)
    try simp [go_sem, g, h7]
    exact pT (hj1 z8) (Rn_some hF)
   ·try simp [go_sem, g, h7]
    exact pT (hj1 false) (Rn_some hF)
  ·try simp [go_sem, g, h5]
   exact pT (hj1 false) (Rn_some hF)
noncomputable def zdc (a0 : Head) (a1 : Head) : Option (Bool) :=
 ((if (a0.Author == a1.Author) = true then (
 if (a0.Size == a1.Size) = true then (
 if (a0.Root == a1.Root) = true then (
 (zcH a0.Sign a1.Sign).bind fun z7 =>
 some z7) else (
 some false)) else (
 some false)) else (
 some false) : Option (Bool)).bind fun x3 =>
 some x3)
theorem zf5 : ∀ {a0} {a1} {r}, zdc a0 a1 = some r → PCalls Tryz.prog 75 [(.sh, .agg [.int .i64 a0.Author, .int .i64 a0.Size, .int .i64 a0.Root, .sl false 1 (a0.Sign.Commits.map zaa), .sl false 1 (a0.Sign.Challenges.map zaa), .sl false 1 (a0.Sign.Responses.map zaa)]), (.sh, .agg [.int .i64 a1.Author, .int .i64 a1.Size, .int .i64 a1.Root, .sl false 1 (a1.Sign.Commits.map zaa), .sl false 1 (a1.Sign.Challenges.map zaa), .sl false 1 (a1.Sign.Responses.map zaa)])] (Eo (.bool r) [.junk, .junk]) := by
 intro a0 a1 r hr
 apply pF 31 [] [] [] [.tmp 4] hr cl75 Tryz.func75
 intro Φ hΦ hF g
 unfold zdc at hF
 try simp [go_sem, g]
 refine pw_wk ?_
 repeat rw [sq]
 refine pJ hF (fun x3 => [(4, .v (.bool x3))]) (fun x3 hF => ?_) fun _ hj1 hF => ?_
 ·cases hΦ _ (Rn_some hF)
  try simp [go_sem, g]
 ·try simp [go_sem, g]
  refine pwg_F hF (fun h4 hF => ?_) fun h4 hF => ?_
  ·try simp [go_sem, g, h4]
   refine pwg_F hF (fun h5 hF => ?_) fun h5 hF => ?_
   ·try simp [go_sem, g, h5]
    refine pwg_F hF (fun h6 hF => ?_) fun h6 hF => ?_
    ·try simp [go_sem, g, h6]
     refine pC hF [.sh, .sh] zfR (fun z7 hF => ?_)
     try simp [go_sem, g, h6]
     exact pT (hj1 z7) (Rn_some hF)
    ·try simp [go_sem, g, h6]
     exact pT (hj1 false) (Rn_some hF)
   ·try simp [go_sem, g, h5]
    exact pT (hj1 false) (Rn_some hF)
  ·try simp [go_sem, g, h4]
   exact pT (hj1 false) (Rn_some hF)
noncomputable def zbL (a0 : Head) (a1c0 : Int) (a1c1 : Int) (a1c2 : Int) (a1c3 : (List Int)) (a1c4 : (List Int)) (a1c5 : (List Int)) : Option (Bool) :=
 (zdc a0 (Head.mk a1c0 a1c1 a1c2 (Proof.mk a1c3 a1c4 a1c5))).bind fun z1 =>
 some z1
theorem ze4 : ∀ {a0} {a1c0} {a1c1} {a1c2} {a1c3} {a1c4} {a1c5} {r}, zbL a0 a1c0 a1c1 a1c2 a1c3 a1c4 a1c5 = some r → PCalls Tryz.prog 74 [(.sh, .agg [.int .i64 a0.Author, .int .i64 a0.Size, .int .i64 a0.Root, .sl false 1 (a0.Sign.Commits.map zaa), .sl false 1 (a0.Sign.Challenges.map zaa), .sl false 1 (a0.Sign.Responses.map zaa)]), (.sh, .fp [.int .i64 a1c0, .int .i64 a1c1, .int .i64 a1c2, .sl false 1 (a1c3.map zaa), .sl false 1 (a1c4.map zaa), .sl false 1 (a1c5.map zaa)])] (Eo (.bool r) [.junk, .junk]) := by
 intro a0 a1c0 a1c1 a1c2 a1c3 a1c4 a1c5 r hr
 apply pF 7 [] [] [] [.tmp 3] hr cl74 Tryz.func74
 intro Φ hΦ hF g
 unfold zbL at hF
 try simp [go_sem, g]
 refine pw_wk ?_
 try simp [go_sem, g]
 refine pC hF [.sh, .sh] zf5 (fun z1 hF => ?_)
 cases hΦ _ (Rn_some hF)
 try simp [go_sem, g]
 refine pw_wk ?_
 try simp [go_sem, g]
noncomputable def zaz (a0 : (List Head)) (a1u0c0 : Int) (a1u0c1 : Int) (a1u0c2 : Int) (a1u0c3 : (List Int)) (a1u0c4 : (List Int)) (a1u0c5 : (List Int)) : Option (Int) :=
 ((rloop (σ := Unit) (fun i5 s4 =>
 (ix a0 i5).bind fun x11 =>
 (zbL x11 a1u0c0 a1u0c1 a1u0c2 a1u0c3 a1u0c4 a1u0c5).bind fun z12 =>
 if z12 = true then (
 some (.out (.inr i5))) else (
 some (.go ()))) (fun s4 => .inl ()) (a0.length) 0 () : Option (Unit ⊕ Int)).bind (Sum.elim (fun x3 =>
 some (-1)) some))
theorem zb1 : ∀ {a0} {a1u0c0} {a1u0c1} {a1u0c2} {a1u0c3} {a1u0c4} {a1u0c5} {r}, zaz a0 a1u0c0 a1u0c1 a1u0c2 a1u0c3 a1u0c4 a1u0c5 = some r → PCalls Tryz.prog 94 [(.sh, .sl false 6 (a0.map zad)), (.sh, .func (.func 74) [] [.fp [.int .i64 a1u0c0, .int .i64 a1u0c1, .int .i64 a1u0c2, .sl false 1 (a1u0c3.map zaa), .sl false 1 (a1u0c4.map zaa), .sl false 1 (a1u0c5.map zaa)]])] (Eo (.int .i64 r) [.junk, .junk]) := by
 intro a0 a1u0c0 a1u0c1 a1u0c2 a1u0c3 a1u0c4 a1u0c5 r hr
 apply pF 19 [] [] [] [.tmp 4] hr cl94 Tryz.func94
 intro Φ hΦ hF g
 unfold zaz at hF
 iterate 2 (try simp [go_sem, g]; try intros; refine pw_wk ?_)
 repeat rw [sq]
 refine pJs hF (fun x3 => []) (fun x3 hF => ?_) fun _ hj1 hr2 hF => ?_
 ·cases hΦ _ (Rn_some hF)
  try simp [go_sem, g]
  refine pw_wk ?_
  try simp [go_sem, g]
 ·repeat rw [sq]
  rw [pw_block]
  obtain ⟨b14, hb15, hψ8⟩ := hF
  refine pR hb15 (fun i5 s4 => [(0, .v (.sl false 6 (a0.map zad))), (1, .v (.func (.func 74) [] [.fp [.int .i64 a1u0c0, .int .i64 a1u0c1, .int .i64 a1u0c2, .sl false 1 (a1u0c3.map zaa), .sl false 1 (a1u0c4.map zaa), .sl false 1 (a1u0c5.map zaa)]])), (7, .v (.int .i64 (a0.length : Int))), (8, .v (.int .i64 i5))]) (fun s4 _ hN16 => ?_) (fun i5 s4 _ _ hi9 hi10 ho6 hg7 hF => ?_)
  ·subst hN16
   try simp [go_sem]
   refine pw_wk ?_
   repeat rw [sq]
   refine pw_cond_f (by simp [go_sem]) ?_
   try simp [go_sem]
   exact pT (hj1 ()) hψ8 (by simp [go_sem])
  ·try simp [go_sem, g]
   refine pw_wk ?_
   repeat rw [sq]
   refine pw_cond_t (by simp [go_sem, g, hi9, hi10]) ?_
   try simp [go_sem, g]
   refine pw_wk ?_
   repeat rw [sq]
   rw [pw_block]
   obtain ⟨x11, g, hF⟩ := Rx g hF
   try simp [go_sem, g]
   refine pw_wk ?_
   try simp [go_sem, g]
   refine pC hF [.sh] ze4 (fun z12 hF => ?_)
   try simp [go_sem, g]
   refine pw_wkK [0, 1, 5, 7, 8, 16] (by simp [go_sem, g]; rfl) ?_
   repeat rw [sq]
   refine pI hF (fun h13 hF => ?_) (fun h13 hF => ?_)
   ·cases ho6 _ (Rn_some hF)
    cases hΦ _ (hr2 _ hψ8)
    try simp [go_sem, g]
    refine pw_wk ?_
    try simp [go_sem, g]
   ·try simp [go_sem, g]
    refine pw_wk ?_
    try simp [go_sem, g]
    exact pT (hg7 ()) (Rn_some hF) (by simp [go_sem, g, wr_i hi9 hi10 (by assumption)])
noncomputable def zaj (a0 : (List Head)) (a1u0c0 : Int) (a1u0c1 : Int) (a1u0c2 : Int) (a1u0c3 : (List Int)) (a1u0c4 : (List Int)) (a1u0c5 : (List Int)) : Option (Bool) :=
 (zaz a0 a1u0c0 a1u0c1 a1u0c2 a1u0c3 a1u0c4 a1u0c5).bind fun z1 =>
 some (decide (0 ≤ z1))
theorem zbM : ∀ {a0} {a1u0c0} {a1u0c1} {a1u0c2} {a1u0c3} {a1u0c4} {a1u0c5} {r}, zaj a0 a1u0c0 a1u0c1 a1u0c2 a1u0c3 a1u0c4 a1u0c5 = some r → PCalls Tryz.prog 61 [(.sh, .sl false 6 (a0.map zad)), (.sh, .func (.func 74) [] [.fp [.int .i64 a1u0c0, .int .i64 a1u0c1, .int .i64 a1u0c2, .sl false 1 (a1u0c3.map zaa), .sl false 1 (a1u0c4.map zaa), .sl false 1 (a1u0c5.map zaa)]])] (Eo (.bool r) [.junk, .junk]) := by
 intro a0 a1u0c0 a1u0c1 a1u0c2 a1u0c3 a1u0c4 a1u0c5 r hr
 apply pF 9 [] [] [] [.tmp 4] hr cl61 Tryz.func61
 intro Φ hΦ hF g
 unfold zaj at hF
 try simp [go_sem, g]
 refine pw_wk ?_
 try simp [go_sem, g]
 refine pC hF [.sh, .sh] zb1 (fun z1 hF => ?_)
 cases hΦ _ (Rn_some hF)
 try simp [go_sem, g]
 refine pw_wk ?_
 try simp [go_sem, g]
noncomputable def zbn (a0 : (List Head)) (a1 : (List Head)) : Option ((List Head) × Bool) :=
 ((rloop (σ := (List Head)) (fun i14 s13 =>
 (ix a0 i14).bind fun x20 =>
 (zbr x20).bind fun z21 =>
 gd ((s13.length + 1) * 96 ≤ 140737488355328 ∧ s13.length + 1 ≤ 4611686018427387904) <|
 some (.go (s13 ++ [z21]))) (fun s13 => s13) (a0.length) 0 [] : Option ((List Head))).bind fun x3 =>
 ((rloop (σ := (List Head)) (fun i30 s29 =>
 (((ix a1 i30).bind fun x39 =>
 (zaj s29 x39.Author x39.Size x39.Root x39.Sign.Commits x39.Sign.Challenges x39.Sign.Responses).bind fun z40 =>
 if (!z40) = true then (
 (zbr x39).bind fun z42 =>
 gd ((s29.length + 1) * 96 ≤ 140737488355328 ∧ s29.length + 1 ≤ 4611686018427387904) <|
 some (s29 ++ [z42])) else (
 some s29) : Option ((List Head))).bind fun x38 =>
 some (.go x38))) (fun s29 => s29) (a1.length) 0 x3 : Option ((List Head))).bind fun x28 =>
 if decide (20 < (x28.length : Int)) = true then (
 some ([], false)) else (
 some (x28, true))))
theorem zdt : ∀ {a0} {a1} {r}, zbn a0 a1 = some r → PCalls Tryz.prog 40 [(.sh, .sl false 6 (a0.map zad)), (.sh, .sl false 6 (a1.map zad))] (Eo (.tup [.sl true 6 (r.1.map zay), .bool r.2]) [.junk, .junk]) := by
 intro a0 a1 r hr
 apply pF 44 [] [] [1000000] [.tmp 4, .tmp 5] hr cl40 Tryz.func40
 intro Φ hΦ hF g
 unfold zbn at hF
 iterate 3 (try simp [go_sem, g]; try intros; refine pw_wk ?_)
 repeat rw [sq]
 refine pJ hF (fun x3 => [(1, .v (.sl false 6 (a1.map zad))), (6, .v (.sl true 6 (x3.map zay)))]) (fun x3 hF => ?_) fun _ hj1 hF => ?_
 ·try simp [go_sem, g]
  try intros
  refine pw_wkK [6, 24, 25, 26] (by simp [go_sem, g]; rfl) ?_
  repeat rw [sq]
  refine pJ hF (fun x28 => [(6, .v (.sl true 6 (x28.map zay)))]) (fun x28 hF => ?_) fun _ hj26 hF => ?_
  ·try simp [go_sem, g]
   try intros
   refine pw_wk ?_
   repeat rw [sq]
   refine pI hF (fun h47 hF => ?_) (fun h47 hF => ?_)
   ·cases hΦ _ (Rn_some hF)
    try simp [go_sem, g]
    refine pw_wk ?_
    try simp [go_sem, g]
   ·cases hΦ _ (Rn_some hF)
    iterate 2 (try simp [go_sem, g]; refine pw_wk ?_)
    try simp [go_sem, g]
  ·repeat rw [sq]
   rw [pw_block]
   obtain ⟨b43, hb44, hψ33⟩ := hF
   refine pR hb44 (fun i30 s29 => [(6, .v (.sl true 6 (s29.map zay))), (24, .v (.sl false 6 (a1.map zad))), (25, .v (.int .i64 (a1.length : Int))), (26, .v (.int .i64 i30))]) (fun s29 _ hN45 => ?_) (fun i30 s29 _ _ hi34 hi35 ho31 hg32 hF => ?_)
   ·subst hN45
    try simp [go_sem]
    refine pw_wk ?_
    repeat rw [sq]
    refine pw_cond_f (by simp [go_sem]) ?_
    try simp [go_sem]
    exact pT (hj26 s29) hψ33 (by simp [go_sem])
   ·try simp [go_sem, g]
    refine pw_wk ?_
    repeat rw [sq]
    refine pw_cond_t (by simp [go_sem, g, hi34, hi35]) ?_
    try simp [go_sem, g]
    refine pw_wk ?_
    repeat rw [sq]
    refine pJ hF (fun x38 => [(6, .v (.sl true 6 (x38.map zay))), (24, .v (.sl false 6 (a1.map zad))), (25, .v (.int .i64 (a1.length : Int))), (26, .v (.int .i64 i30))]) (fun x38 hF => ?_) fun _ hj36 hF => ?_
    ·try simp [go_sem, g]
     exact pT (hg32 x38) (Rn_some hF) (by simp [go_sem, g, wr_i hi34 hi35 (by assumption)])
    ·repeat rw [sq]
     rw [pw_block]
     obtain ⟨x39, g, hF⟩ := Rx g hF
     try simp [go_sem, g]
     refine pw_wk ?_
     try simp [go_sem, g]
     refine pC hF [.sh, .sh] zbM (fun z40 hF => ?_)
     try simp [go_sem, g]
     refine pw_wk ?_
     repeat rw [sq]
     refine pI hF (fun h41 hF => ?_) (fun h41 hF => ?_)
     ·try simp [go_sem, g]
      refine pC hF [.sh] zdb (fun z42 hF => ?_)
      obtain ⟨g, hF⟩ := Rg g hF
      try simp [go_sem, g]
      exact pT (hj36 (s29 ++ [z42])) (Rn_some hF)
     ·try simp [go_sem, g]
      first | exact pT (hj36 s29) (Rn_some hF) | exact pT (hj36 _) (Rn_some hF)
 ·repeat rw [sq]
  rw [pw_block]
  obtain ⟨b22, hb23, hψ17⟩ := hF
  refine pR hb23 (fun i14 s13 => [(1, .v (.sl false 6 (a1.map zad))), (6, .v (.sl true 6 (s13.map zay))), (12, .v (.sl false 6 (a0.map zad))), (13, .v (.int .i64 (a0.length : Int))), (14, .v (.int .i64 i14))]) (fun s13 _ hN24 => ?_) (fun i14 s13 _ _ hi18 hi19 ho15 hg16 hF => ?_)
  ·subst hN24
   try simp [go_sem]
   refine pw_wk ?_
   repeat rw [sq]
   refine pw_cond_f (by simp [go_sem]) ?_
   try simp [go_sem]
   exact pT (hj1 s13) hψ17 (by simp [go_sem])
  ·try simp [go_sem, g]
   refine pw_wk ?_
   repeat rw [sq]
   refine pw_cond_t (by simp [go_sem, g, hi18, hi19]) ?_
   try simp [go_sem, g]
   refine pw_wk ?_
   repeat rw [sq]
   rw [pw_block]
   obtain ⟨x20, g, hF⟩ := Rx g hF
   try simp [go_sem, g]
   refine pw_wkK [1, 6, 8, 12, 13, 14] (by simp [go_sem, g]; rfl) ?_
   try simp [go_sem, g]
   refine pC hF [.sh] zdb (fun z21 hF => ?_)
   obtain ⟨g, hF⟩ := Rg g hF
   try simp [go_sem, g]
   refine pw_wk ?_
   try simp [go_sem, g]
   exact pT (hg16 (s13 ++ [z21])) (Rn_some hF) (by simp [go_sem, g, wr_i hi18 hi19 (by assumption)])
def ziE : List DE := [d0 0 [12], d0 1 [44], d0 2 [45], d0 3 [12], d0 4 [47], d0 5 [48], d0 6 [46], d0 7 [49]]
def ziI : List DE := [d0 0 [6], d0 1 [13], d0 2 [51, 52], d0 3 [53], d0 4 [54], d0 5 [6], d0 6 [14], d0 7 [56, 57], d0 8 [58], d0 9 [59], d3 10 [55, 60], d0 11 [61], d0 12 [50], d0 13 [50], d0 14 [62], d0 15 [63]]
def zhV : List DE := [d0 0 [6], d0 1 [14], d0 2 [65, 66], d0 3 [67], d0 4 [68], d0 5 [6], d0 6 [13], d0 7 [70, 71], d0 8 [72], d0 9 [73], d3 10 [69, 74], d0 11 [75], d0 12 [64], d0 13 [64], d0 14 [76], d0 15 [77]]
noncomputable def zcJ (a0 : (List Reader)) (a1 : (List (List Int))) : Option ((List Reader) × Bool) :=
 ((rloop (σ := (List Reader)) (fun i14 s13 =>
 (ix a0 i14).bind fun x20 =>
 (zbn x20.Heads []).bind fun z21 =>
 gd ((s13.length + 1) * 24 ≤ 140737488355328 ∧ s13.length + 1 ≤ 4611686018427387904) <|
 some (.go (s13 ++ [(Reader.mk z21.1)]))) (fun s13 => s13) (a0.length) 0 [] : Option ((List Reader))).bind fun x3 =>
 ((rloop (σ := (List Reader)) (fun i50 s49 =>
 (ix a1 i50).bind fun x56 =>
 (ix x56 0).bind fun x57 =>
 (ix x56 1).bind fun x58 =>
 (ix s49 x57).bind fun x59 =>
 (ix s49 x58).bind fun x60 =>
 (zbn x59.Heads x60.Heads).bind fun z61 =>
 (zbn x60.Heads x59.Heads).bind fun z62 =>
 ((if (!z61.2) = true then (
 some true) else (
 some (!z62.2)) : Option (Bool)).bind fun x65 =>
 if x65 = true then (
 some (.out (.inr ([], false)))) else (
 (ix (s49.set x57.toNat (Reader.mk z61.1)) x58).bind fun x68 =>
 some (.go ((s49.set x57.toNat (Reader.mk z61.1)).set x58.toNat (Reader.mk z62.1)))))) (fun s49 => .inl s49) (a1.length) 0 x3 : Option ((List Reader) ⊕ ((List Reader) × Bool))).bind (Sum.elim (fun x28 =>
 some (x28, true)) some)))
theorem ze9 : ∀ {a0} {a1} {r}, zcJ a0 a1 = some r → PCalls Tryz.prog 45 [(.sh, .sl false 1 (a0.map zae)), (.sh, .sl false 1 (a1.map zaf))] (Eo (.tup [.sl true 1 (r.1.map zaq), .bool r.2]) [.junk, .junk]) := by
 intro a0 a1 r hr
 apply pF 96 [] [] [] [.tmp 4, .tmp 5] hr cl45 Tryz.func45
 intro Φ hΦ hF g
 unfold zcJ at hF
 iterate 3 (try simp [go_sem, g]; try intros; refine pw_wk ?_)
 repeat rw [sq]
 refine pJ hF (fun x3 => [(1, .v (.sl false 1 (a1.map zaf))), (6, .v (.sl true 1 (x3.map zaq)))]) (fun x3 hF => ?_) fun _ hj1 hF => ?_
 ·try simp [go_sem, g]
  try intros
  refine pw_wkK [6, 38, 39, 40] (by simp [go_sem, g]; rfl) ?_
  repeat rw [sq]
  refine pJs hF (fun x28 => [(6, .v (.sl true 1 (x28.map zaq)))]) (fun x28 hF => ?_) fun _ hj26 hr27 hF => ?_
  ·cases hΦ _ (Rn_some hF)
   try simp [go_sem, g]
   refine pw_wk ?_
   try simp [go_sem, g]
  ·repeat rw [sq]
   rw [pw_block]
   obtain ⟨b69, hb70, hψ53⟩ := hF
   refine pR hb70 (fun i50 s49 => [(6, .v (.sl true 1 (s49.map zaq))), (38, .v (.sl false 1 (a1.map zaf))), (39, .v (.int .i64 (a1.length : Int))), (40, .v (.int .i64 i50))]) (fun s49 _ hN71 => ?_) (fun i50 s49 _ _ hi54 hi55 ho51 hg52 hF => ?_)
   ·subst hN71
    try simp [go_sem]
    refine pw_wk ?_
    repeat rw [sq]
    refine pw_cond_f (by simp [go_sem]) ?_
    try simp [go_sem]
    exact pT (hj26 s49) hψ53 (by simp [go_sem])
   ·try simp [go_sem, g]
    refine pw_wk ?_
    repeat rw [sq]
    refine pw_cond_t (by simp [go_sem, g, hi54, hi55]) ?_
    try simp [go_sem, g]
    refine pw_wk ?_
    repeat rw [sq]
    rw [pw_block]
    obtain ⟨x56, g, hF⟩ := Rx g hF
    try simp [go_sem, g]
    refine pw_wk ?_
    repeat rw [sq]
    refine pw_draw ziE follows (by kernel_rfl) rfl ?_
    try simp only [go_sem, ziE]
    obtain ⟨x57, g, hF⟩ := Rxn g 0 hF
    obtain ⟨x58, g, hF⟩ := Rxn g 1 hF
    try simp [go_sem, g]
    refine pw_wkK [6, 13, 14, 38, 39, 40] (by simp [go_sem, g]; rfl) ?_
    repeat rw [sq]
    refine pw_draw ziI follows (by kernel_rfl) rfl ?_
    try simp only [go_sem, ziI]
    obtain ⟨x59, g, hF⟩ := Rx g hF
    obtain ⟨x60, g, hF⟩ := Rx g hF
    try simp [go_sem, g]
    refine pC hF [.sh, .sh] zdt (fun z61 hF => ?_)
    try simp [go_sem, g]
    refine pw_wkK [6, 13, 14, 15, 16, 38, 39, 40] (by simp [go_sem, g]; rfl) ?_
    repeat rw [sq]
    refine pw_draw zhV follows (by kernel_rfl) rfl ?_
    try simp only [go_sem, zhV]
    try simp [go_sem, g]
    refine pC hF [.sh, .sh] zdt (fun z62 hF => ?_)
    try simp [go_sem, g]
    refine pw_wkK [6, 13, 14, 15, 16, 17, 18, 38, 39, 40] (by simp [go_sem, g]; rfl) ?_
    repeat rw [sq]
    refine pJ hF (fun x65 => [(6, .v (.sl true 1 (s49.map zaq))), (13, .v (.int .i64 x57)), (14, .v (.int .i64 x58)), (15, .v (.sl true 6 (z61.1.map zay))), (17, .v (.sl true 6 (z62.1.map zay))), (38, .v (.sl false 1 (a1.map zaf))), (39, .v (.int .i64 (a1.length : Int))), (40, .v (.int .i64 i50)), (83, .v (.bool x65))]) (fun x65 hF => ?_) fun _ hj63 hF => ?_
    ·repeat rw [sq]
     refine pI hF (fun h67 hF => ?_) (fun h67 hF => ?_)
     ·cases ho51 _ (Rn_some hF)
      cases hΦ _ (hr27 _ hψ53)
      try simp [go_sem, g]
      refine pw_wk ?_
      try simp [go_sem, g]
     ·obtain ⟨x68, g, hF⟩ := Rx g hF
      try simp only [List.length_set] at g
      try simp [go_sem, g]
      refine pw_wk ?_
      try simp [go_sem, g]
      refine pw_wkK [6, 38, 39, 40] (by simp [go_sem, g]; rfl) ?_
      try simp [go_sem, g]
      exact pT (hg52 ((s49.set x57.toNat (Reader.mk z61.1)).set x58.toNat (Reader.mk z62.1))) (Rn_some hF) (by simp [go_sem, g, wr_i hi54 hi55 (by assumption)])
    ·try simp [go_sem, g]
     refine pwg_F hF (fun h66 hF => ?_) fun h66 hF => ?_
     ·try simp [go_sem, g, h66]
      exact pT (hj63 true) (Rn_some hF)
     ·try simp [go_sem, g, h66]
      exact pT (hj63 (!z62.2)) (Rn_some hF)
 ·repeat rw [sq]
  rw [pw_block]
  obtain ⟨b22, hb23, hψ17⟩ := hF
  refine pR hb23 (fun i14 s13 => [(1, .v (.sl false 1 (a1.map zaf))), (6, .v (.sl true 1 (s13.map zaq))), (20, .v (.sl false 1 (a0.map zae))), (21, .v (.int .i64 (a0.length : Int))), (22, .v (.int .i64 i14))]) (fun s13 _ hN24 => ?_) (fun i14 s13 _ _ hi18 hi19 ho15 hg16 hF => ?_)
  ·subst hN24
   try simp [go_sem]
   refine pw_wk ?_
   repeat rw [sq]
   refine pw_cond_f (by simp [go_sem]) ?_
   try simp [go_sem]
   exact pT (hj1 s13) hψ17 (by simp [go_sem])
  ·try simp [go_sem, g]
   refine pw_wk ?_
   repeat rw [sq]
   refine pw_cond_t (by simp [go_sem, g, hi18, hi19]) ?_
   try simp [go_sem, g]
   refine pw_wk ?_
   repeat rw [sq]
   rw [pw_block]
   obtain ⟨x20, g, hF⟩ := Rx g hF
   try simp [go_sem, g]
   refine pw_wkK [1, 6, 8, 20, 21, 22] (by simp [go_sem, g]; rfl) ?_
   try simp [go_sem, g]
   refine pC hF [.sh, .sh] zdt (fun z21 hF => ?_)
   obtain ⟨g, hF⟩ := Rg g hF
   try simp [go_sem, g]
   refine pw_wk ?_
   try simp [go_sem, g]
   refine pw_wkK [1, 6, 20, 21, 22] (by simp [go_sem, g]; rfl) ?_
   try simp [go_sem, g]
   exact pT (hg16 (s13 ++ [(Reader.mk z21.1)])) (Rn_some hF) (by simp [go_sem, g, wr_i hi18 hi19 (by assumption)])
noncomputable def zcb (a0 : (List Reader)) (a1 : (List (List Int))) : Option ((List Reader) × Bool) :=
 (((zbo a0).bind fun z4 =>
 if (!z4) = true then (
 some true) else (
 (zbp a1 (a0.length : Int)).bind fun z6 =>
 some (!z6)) : Option (Bool)).bind fun x3 =>
 if x3 = true then (
 some ([], false)) else (
 (zcJ a0 a1).bind fun z8 =>
 some (z8.1, z8.2)))
theorem zfh : ∀ {a0} {a1} {r}, zcb a0 a1 = some r → PCalls Tryz.prog 15 [(.sh, .sl false 1 (a0.map zae)), (.sh, .sl false 1 (a1.map zaf))] (Eo (.tup [.sl true 1 (r.1.map zaq), .bool r.2]) [.junk, .junk]) := by
 intro a0 a1 r hr
 apply pF 21 [] [] [] [.tmp 4, .tmp 5] hr cl15 Tryz.func15
 intro Φ hΦ hF g
 unfold zcb at hF
 try simp [go_sem, g]
 refine pw_wk ?_
 repeat rw [sq]
 refine pJ hF (fun x3 => [(0, .v (.sl false 1 (a0.map zae))), (1, .v (.sl false 1 (a1.map zaf))), (15, .v (.bool x3))]) (fun x3 hF => ?_) fun _ hj1 hF => ?_
 ·repeat rw [sq]
  refine pI hF (fun h7 hF => ?_) (fun h7 hF => ?_)
  ·cases hΦ _ (Rn_some hF)
   try simp [go_sem, g]
   refine pw_wk ?_
   try simp [go_sem, g]
  ·try simp [go_sem, g]
   refine pw_wk ?_
   try simp [go_sem, g]
   refine pC hF [.sh, .sh] ze9 (fun z8 hF => ?_)
   cases hΦ _ (Rn_some hF)
   try simp [go_sem, g]
   refine pw_wk ?_
   try simp [go_sem, g]
 ·try simp [go_sem, g]
  refine pC hF [.sh] zeg (fun z4 hF => ?_)
  try simp [go_sem, g]
  refine pwg_F hF (fun h5 hF => ?_) fun h5 hF => ?_
  ·try simp [go_sem, g, h5]
   exact pT (hj1 true) (Rn_some hF)
  ·try simp [go_sem, g, h5]
   try intros
   refine pC hF [.sh, .sh] zdL (fun z6 hF => ?_)
   try simp [go_sem, g, h5]
   exact pT (hj1 (!z6)) (Rn_some hF)
noncomputable def zc6 (a0 : (List Head)) : Option (Bool) :=
 ((rloop (σ := Unit) (fun i5 s4 =>
 (ix a0 i5).bind fun x11 =>
 (zcz x11).bind fun z12 =>
 if (!z12) = true then (
 some (.out (.inr false))) else (
 some (.go ()))) (fun s4 => .inl ()) (a0.length) 0 () : Option (Unit ⊕ Bool)).bind (Sum.elim (fun x3 =>
 some (decide ((a0.length : Int) ≤ 20))) some))
theorem zgH : ∀ {a0} {r}, zc6 a0 = some r → PCalls Tryz.prog 30 [(.sh, .sl false 6 (a0.map zad))] (Eo (.bool r) [.junk]) := by
 intro a0 r hr
 apply pF 18 [] [] [] [.tmp 2] hr cl30 Tryz.func30
 intro Φ hΦ hF g
 unfold zc6 at hF
 iterate 2 (try simp [go_sem, g]; try intros; refine pw_wk ?_)
 repeat rw [sq]
 refine pJs hF (fun x3 => [(0, .v (.sl false 6 (a0.map zad)))]) (fun x3 hF => ?_) fun _ hj1 hr2 hF => ?_
 ·cases hΦ _ (Rn_some hF)
  try simp [go_sem, g]
  try intros
  refine pw_wk ?_
  try simp [go_sem, g]
  try intros
 ·repeat rw [sq]
  rw [pw_block]
  obtain ⟨b14, hb15, hψ8⟩ := hF
  refine pR hb15 (fun i5 s4 => [(0, .v (.sl false 6 (a0.map zad))), (5, .v (.sl false 6 (a0.map zad))), (6, .v (.int .i64 (a0.length : Int))), (7, .v (.int .i64 i5))]) (fun s4 _ hN16 => ?_) (fun i5 s4 _ _ hi9 hi10 ho6 hg7 hF => ?_)
  ·subst hN16
   try simp [go_sem]
   refine pw_wk ?_
   repeat rw [sq]
   refine pw_cond_f (by simp [go_sem]) ?_
   try simp [go_sem]
   exact pT (hj1 ()) hψ8 (by simp [go_sem])
  ·try simp [go_sem, g]
   refine pw_wk ?_
   repeat rw [sq]
   refine pw_cond_t (by simp [go_sem, g, hi9, hi10]) ?_
   try simp [go_sem, g]
   refine pw_wk ?_
   repeat rw [sq]
   rw [pw_block]
   obtain ⟨x11, g, hF⟩ := Rx g hF
   try simp [go_sem, g]
   refine pw_wk ?_
   try simp [go_sem, g]
   refine pC hF [.sh] zeu (fun z12 hF => ?_)
   try simp [go_sem, g]
   refine pw_wkK [0, 5, 6, 7, 13] (by simp [go_sem, g]; rfl) ?_
   repeat rw [sq]
   refine pI hF (fun h13 hF => ?_) (fun h13 hF => ?_)
   ·cases ho6 _ (Rn_some hF)
    cases hΦ _ (hr2 _ hψ8)
    try simp [go_sem, g]
    refine pw_wk ?_
    try simp [go_sem, g]
   ·try simp [go_sem, g]
    refine pw_wk ?_
    try simp [go_sem, g]
    exact pT (hg7 ()) (Rn_some hF) (by simp [go_sem, g, wr_i hi9 hi10 (by assumption)])
def zjj : List DE := [d0 0 [6], d0 1 [13], d0 2 [14], d0 3 [15], d0 4 [6, 16], d0 5 [0, 16], d0 6 [18, 16], d3 7 [17, 19, 16], d0 8 [20, 16], d0 9 [16, 21], d0 10 [22], d0 11 [6, 23], d0 12 [24, 23], d0 13 [25, 23], d0 14 [6, 23], d0 15 [27, 23], d0 16 [28, 23], d0 17 [26, 29, 23], d0 18 [23, 30]]
noncomputable def zcL (a0 : Int) (a1 : (List (List Int))) : Option (Bool) :=
 ((rloop (σ := Unit) (fun i5 s4 =>
 (ix a1 i5).bind fun x11 =>
 ((if ((x11.length : Int) != 2) = true then (
 some true) else (
 (zcF x11 0 (i64.wrap (a0 - 1))).bind fun z16 =>
 if (!z16) = true then (
 some true) else (
 (ix x11 0).bind fun x18 =>
 (ix x11 1).bind fun x19 =>
 some (x18 == x19))) : Option (Bool)).bind fun x14 =>
 if x14 = true then (
 some (.out (.inr false))) else (
 some (.go ())))) (fun s4 => .inl ()) (a1.length) 0 () : Option (Unit ⊕ Bool)).bind (Sum.elim (fun x3 =>
 some (decide ((a1.length : Int) ≤ 20))) some))
theorem ze8 : ∀ {a0} {a1} {r}, zcL a0 a1 = some r → PCalls Tryz.prog 51 [(.sh, .int .i64 a0), (.sh, .sl false 1 (a1.map zaf))] (Eo (.bool r) [.junk, .junk]) := by
 intro a0 a1 r hr
 apply pF 36 [] [] [] [.tmp 4] hr cl51 Tryz.func51
 intro Φ hΦ hF g
 unfold zcL at hF
 iterate 2 (try simp [go_sem, g]; try intros; refine pw_wk ?_)
 repeat rw [sq]
 refine pJs hF (fun x3 => [(1, .v (.sl false 1 (a1.map zaf)))]) (fun x3 hF => ?_) fun _ hj1 hr2 hF => ?_
 ·cases hΦ _ (Rn_some hF)
  try simp [go_sem, g]
  try intros
  refine pw_wk ?_
  try simp [go_sem, g]
  try intros
 ·repeat rw [sq]
  rw [pw_block]
  obtain ⟨b21, hb22, hψ8⟩ := hF
  refine pR hb22 (fun i5 s4 => [(0, .v (.int .i64 a0)), (1, .v (.sl false 1 (a1.map zaf))), (7, .v (.sl false 1 (a1.map zaf))), (8, .v (.int .i64 (a1.length : Int))), (9, .v (.int .i64 i5))]) (fun s4 _ hN23 => ?_) (fun i5 s4 _ _ hi9 hi10 ho6 hg7 hF => ?_)
  ·subst hN23
   try simp [go_sem]
   refine pw_wk ?_
   repeat rw [sq]
   refine pw_cond_f (by simp [go_sem]) ?_
   try simp [go_sem]
   exact pT (hj1 ()) hψ8 (by simp [go_sem])
  ·try simp [go_sem, g]
   refine pw_wk ?_
   repeat rw [sq]
   refine pw_cond_t (by simp [go_sem, g, hi9, hi10]) ?_
   try simp [go_sem, g]
   refine pw_wk ?_
   repeat rw [sq]
   rw [pw_block]
   obtain ⟨x11, g, hF⟩ := Rx g hF
   try simp [go_sem, g]
   refine pw_wk ?_
   repeat rw [sq]
   refine pJ hF (fun x14 => [(0, .v (.int .i64 a0)), (1, .v (.sl false 1 (a1.map zaf))), (7, .v (.sl false 1 (a1.map zaf))), (8, .v (.int .i64 (a1.length : Int))), (9, .v (.int .i64 i5)), (31, .v (.bool x14))]) (fun x14 hF => ?_) fun _ hj12 hF => ?_
   ·repeat rw [sq]
    refine pI hF (fun h20 hF => ?_) (fun h20 hF => ?_)
    ·cases ho6 _ (Rn_some hF)
     cases hΦ _ (hr2 _ hψ8)
     try simp [go_sem, g]
     refine pw_wk ?_
     try simp [go_sem, g]
    ·try simp [go_sem, g]
     refine pw_wk ?_
     try simp [go_sem, g]
     exact pT (hg7 ()) (Rn_some hF) (by simp [go_sem, g, wr_i hi9 hi10 (by assumption)])
   ·repeat rw [sq]
    refine pw_draw zjj follows (by kernel_rfl) rfl ?_
    try simp only [go_sem, zjj]
    try simp [go_sem, g]
    try intros
    refine pwgD_F hF (fun h15 hF => ?_) fun h15 hF => ?_
    ·try simp [go_sem, g, h15]
     exact pT (hj12 true) (Rn_some hF)
    ·try simp [go_sem, g, h15]
     refine pC hF [.sh, .sh, .sh] zfs (fun z16 hF => ?_)
     try simp [go_sem, g, h15]
     refine pwgD_F hF (fun h17 hF => ?_) fun h17 hF => ?_
     ·try simp [go_sem, g, h17]
      exact pT (hj12 true) (Rn_some hF)
     ·obtain ⟨x18, g, hF⟩ := Rxn g 0 hF
      obtain ⟨x19, g, hF⟩ := Rxn g 1 hF
      try simp [go_sem, g, h17]
      exact pT (hj12 (x18 == x19)) (Rn_some hF)
noncomputable def zcl (a0 : (List Reader)) (a1 : (List (List Int))) : Option (Bool) :=
 ((rloop (σ := Unit) (fun i5 s4 =>
 (ix a0 i5).bind fun x11 =>
 (zc6 x11.Heads).bind fun z12 =>
 if (!z12) = true then (
 some (.out (.inr false))) else (
 some (.go ()))) (fun s4 => .inl ()) (a0.length) 0 () : Option (Unit ⊕ Bool)).bind (Sum.elim (fun x3 =>
 ((if decide ((a0.length : Int) ≤ 8) = true then (
 (zcL (a0.length : Int) a1).bind fun z22 =>
 some z22) else (
 some false) : Option (Bool)).bind fun x20 =>
 some x20)) some))
theorem zeG : ∀ {a0} {a1} {r}, zcl a0 a1 = some r → PCalls Tryz.prog 46 [(.sh, .sl false 1 (a0.map zae)), (.sh, .sl false 1 (a1.map zaf))] (Eo (.bool r) [.junk, .junk]) := by
 intro a0 a1 r hr
 apply pF 27 [] [] [] [.tmp 4] hr cl46 Tryz.func46
 intro Φ hΦ hF g
 unfold zcl at hF
 iterate 2 (try simp [go_sem, g]; try intros; refine pw_wk ?_)
 repeat rw [sq]
 refine pJs hF (fun x3 => [(0, .v (.sl false 1 (a0.map zae))), (1, .v (.sl false 1 (a1.map zaf)))]) (fun x3 hF => ?_) fun _ hj1 hr2 hF => ?_
 ·repeat rw [sq]
  refine pJ hF (fun x20 => [(4, .v (.bool x20))]) (fun x20 hF => ?_) fun _ hj18 hF => ?_
  ·cases hΦ _ (Rn_some hF)
   try simp [go_sem, g]
  ·try simp [go_sem, g]
   try intros
   refine pwg_F hF (fun h21 hF => ?_) fun h21 hF => ?_
   ·try simp [go_sem, g, h21]
    try intros
    refine pC hF [.sh, .sh] ze8 (fun z22 hF => ?_)
    try simp [go_sem, g, h21]
    exact pT (hj18 z22) (Rn_some hF)
   ·try simp [go_sem, g, h21]
    exact pT (hj18 false) (Rn_some hF)
 ·repeat rw [sq]
  rw [pw_block]
  obtain ⟨b14, hb15, hψ8⟩ := hF
  refine pR hb15 (fun i5 s4 => [(0, .v (.sl false 1 (a0.map zae))), (1, .v (.sl false 1 (a1.map zaf))), (7, .v (.sl false 1 (a0.map zae))), (8, .v (.int .i64 (a0.length : Int))), (9, .v (.int .i64 i5))]) (fun s4 _ hN16 => ?_) (fun i5 s4 _ _ hi9 hi10 ho6 hg7 hF => ?_)
  ·subst hN16
   try simp [go_sem]
   refine pw_wk ?_
   repeat rw [sq]
   refine pw_cond_f (by simp [go_sem]) ?_
   try simp [go_sem]
   exact pT (hj1 ()) hψ8 (by simp [go_sem])
  ·try simp [go_sem, g]
   refine pw_wk ?_
   repeat rw [sq]
   refine pw_cond_t (by simp [go_sem, g, hi9, hi10]) ?_
   try simp [go_sem, g]
   refine pw_wk ?_
   repeat rw [sq]
   rw [pw_block]
   obtain ⟨x11, g, hF⟩ := Rx g hF
   try simp [go_sem, g]
   refine pw_wk ?_
   try simp [go_sem, g]
   refine pC hF [.sh] zgH (fun z12 hF => ?_)
   try simp [go_sem, g]
   refine pw_wkK [0, 1, 7, 8, 9, 16] (by simp [go_sem, g]; rfl) ?_
   repeat rw [sq]
   refine pI hF (fun h13 hF => ?_) (fun h13 hF => ?_)
   ·cases ho6 _ (Rn_some hF)
    cases hΦ _ (hr2 _ hψ8)
    try simp [go_sem, g]
    refine pw_wk ?_
    try simp [go_sem, g]
   ·try simp [go_sem, g]
    refine pw_wk ?_
    try simp [go_sem, g]
    exact pT (hg7 ()) (Rn_some hF) (by simp [go_sem, g, wr_i hi9 hi10 (by assumption)])
def zjE : List DE := [d1 0 [1] 1, d2 1 [3] 1 3, d1 3 [1] 1, d2 4 [6] 1 6, d1 6 [1] 1, d2 7 [9] 1 9, d3 2 [4], d3 5 [7], d3 8 [10], d0 9 [5, 8, 11], d2 10 [2, 12] 2 2]
noncomputable def zcE (a0 : Proof) : Option (Proof) :=
 (zbK a0.Commits).bind fun z1 =>
 (zbK a0.Challenges).bind fun z2 =>
 (zbK a0.Responses).bind fun z3 =>
 some (Proof.mk z1 z2 z3)
theorem zf2 : ∀ {a0} {r}, zcE a0 = some r → PCalls Tryz.prog 98 [(.sh, .agg [.sl false 1 (a0.Commits.map zaa), .sl false 1 (a0.Challenges.map zaa), .sl false 1 (a0.Responses.map zaa)])] (Eo (.agg [.sl true 1 (r.Commits.map zaa), .sl true 1 (r.Challenges.map zaa), .sl true 1 (r.Responses.map zaa)]) [.junk]) := by
 intro a0 r hr
 apply pF 13 [] [] [] [.cell 2 31] hr cl98 Tryz.func98
 intro Φ hΦ hF g
 unfold zcE at hF
 try simp [go_sem, g]
 refine pw_wk ?_
 repeat rw [sq]
 refine pw_draw zjE follows (by kernel_rfl) rfl ?_
 try simp only [go_sem, zjE]
 try simp [go_sem, g]
 refine pC hF [.sh] zc3 (fun z1 hF => ?_)
 try simp [go_sem, g]
 refine pC hF [.sh] zc3 (fun z2 hF => ?_)
 try simp [go_sem, g]
 refine pC hF [.sh] zc3 (fun z3 hF => ?_)
 try simp [go_sem, g]
 refine pw_wkK [2] (by simp [go_sem, g]; rfl) ?_
 cases hΦ _ (Rn_some hF)
 try simp [go_sem, g]
def zjs : List DE := [d1 0 [1] 1, d2 1 [3] 1 3, d1 2 [1] 1, d2 3 [5] 1 5, d1 4 [1] 1, d2 5 [7] 1 7, d1 6 [1] 1, d2 7 [9] 1 9, d3 8 [10], d0 9 [4, 6, 8, 11], d2 10 [2, 12] 2 2]
noncomputable def zcu (a0 : Head) : Option (Head) :=
 (zcE a0.Sign).bind fun z1 =>
 some (Head.mk a0.Author a0.Size a0.Root z1)
theorem zd3 : ∀ {a0} {r}, zcu a0 = some r → PCalls Tryz.prog 67 [(.sh, .agg [.int .i64 a0.Author, .int .i64 a0.Size, .int .i64 a0.Root, .sl false 1 (a0.Sign.Commits.map zaa), .sl false 1 (a0.Sign.Challenges.map zaa), .sl false 1 (a0.Sign.Responses.map zaa)])] (Eo (.agg [.int .i64 r.Author, .int .i64 r.Size, .int .i64 r.Root, .sl true 1 (r.Sign.Commits.map zaa), .sl true 1 (r.Sign.Challenges.map zaa), .sl true 1 (r.Sign.Responses.map zaa)]) [.junk]) := by
 intro a0 r hr
 apply pF 13 [] [] [] [.cell 2 33] hr cl67 Tryz.func67
 intro Φ hΦ hF g
 unfold zcu at hF
 try simp [go_sem, g]
 refine pw_wk ?_
 repeat rw [sq]
 refine pw_draw zjs follows (by kernel_rfl) rfl ?_
 try simp only [go_sem, zjs]
 try simp [go_sem, g]
 refine pC hF [.sh] zf2 (fun z1 hF => ?_)
 try simp [go_sem, g]
 refine pw_wkK [2] (by simp [go_sem, g]; rfl) ?_
 cases hΦ _ (Rn_some hF)
 try simp [go_sem, g]
def ziu : List DE := [d0 0 [0], d0 1 [5], d0 2 [16, 17], d0 3 [18], d0 4 [1], d0 5 [5], d0 6 [20, 21], d0 7 [22], d0 8 [19, 23]]
noncomputable def zco (a0 : (List Int)) (a1 : (List Int)) : Option (Bool) :=
 if ((a0.length : Int) != (a1.length : Int)) = true then (
 some false) else (
 ((rloop (σ := Unit) (fun i6 s5 =>
 (ix a0 i6).bind fun x12 =>
 (ix a1 i6).bind fun x13 =>
 if (x12 != x13) = true then (
 some (.out (.inr false))) else (
 some (.go ()))) (fun s5 => .inl ()) (a0.length) 0 () : Option (Unit ⊕ Bool)).bind (Sum.elim (fun x4 =>
 some true) some)))
theorem zed : ∀ {a0} {a1} {r}, zco a0 a1 = some r → PCalls Tryz.prog 126 [(.sh, .sl false 1 (a0.map zaa)), (.sh, .sl false 1 (a1.map zaa))] (Eo (.bool r) [.junk, .junk]) := by
 intro a0 a1 r hr
 apply pF 26 [] [] [] [.tmp 4] hr cl126 Tryz.func126
 intro Φ hΦ hF g
 unfold zco at hF
 iterate 2 (try simp [go_sem, g]; try intros; refine pw_wk ?_)
 repeat rw [sq]
 refine pI hF (fun h1 hF => ?_) (fun h1 hF => ?_)
 ·cases hΦ _ (Rn_some hF)
  try simp [go_sem, g]
  refine pw_wk ?_
  try simp [go_sem, g]
 ·iterate 2 (try simp [go_sem, g]; try intros; refine pw_wk ?_)
  repeat rw [sq]
  refine pJs hF (fun x4 => []) (fun x4 hF => ?_) fun _ hj2 hr3 hF => ?_
  ·try simp [go_sem, g]
   refine pw_wkK [4] (by simp [go_sem, g]; rfl) ?_
   cases hΦ _ (Rn_some hF)
   try simp [go_sem, g]
  ·repeat rw [sq]
   rw [pw_block]
   obtain ⟨b15, hb16, hψ9⟩ := hF
   refine pR hb16 (fun i6 s5 => [(0, .v (.sl false 1 (a0.map zaa))), (1, .v (.sl false 1 (a1.map zaa))), (12, .v (.int .i64 (a0.length : Int))), (13, .v (.int .i64 i6))]) (fun s5 _ hN17 => ?_) (fun i6 s5 _ _ hi10 hi11 ho7 hg8 hF => ?_)
   ·subst hN17
    try simp [go_sem]
    refine pw_wk ?_
    repeat rw [sq]
    refine pw_cond_f (by simp [go_sem]) ?_
    try simp [go_sem]
    exact pT (hj2 ()) hψ9 (by simp [go_sem])
   ·try simp [go_sem, g]
    refine pw_wkK [0, 1, 12, 13, 14] (by simp [go_sem, g]; rfl) ?_
    repeat rw [sq]
    refine pw_cond_t (by simp [go_sem, g, hi10, hi11]) ?_
    try simp [go_sem, g]
    refine pw_wk ?_
    repeat rw [sq]
    rw [pw_block]
    try simp [go_sem, g]
    refine pw_wk ?_
    repeat rw [sq]
    refine pw_draw ziu follows (by kernel_rfl) rfl ?_
    try simp only [go_sem, ziu]
    obtain ⟨x12, g, hF⟩ := Rx g hF
    obtain ⟨x13, g, hF⟩ := Rx g hF
    try simp [go_sem, g]
    refine pw_wkK [0, 1, 12, 13, 24] (by simp [go_sem, g]; rfl) ?_
    repeat rw [sq]
    refine pI hF (fun h14 hF => ?_) (fun h14 hF => ?_)
    ·cases ho7 _ (Rn_some hF)
     cases hΦ _ (hr3 _ hψ9)
     try simp [go_sem, g]
     refine pw_wk ?_
     try simp [go_sem, g]
    ·try simp [go_sem, g]
     refine pw_wk ?_
     try simp [go_sem, g]
     exact pT (hg8 ()) (Rn_some hF) (by simp [go_sem, g, wr_i hi10 hi11 (by assumption)])
noncomputable def zcq (a0 : Proof) (a1 : Proof) : Option (Bool) :=
 (((zco a0.Commits a1.Commits).bind fun z4 =>
 if z4 = true then (
 (zco a0.Challenges a1.Challenges).bind fun z6 =>
 if z6 = true then (
 (zco a0.Responses a1.Responses).bind fun z8 =>
 some z8) else (
 some false)) else (
 some false) : Option (Bool)).bind fun x3 =>
 some x3)
theorem zfF : ∀ {a0} {a1} {r}, zcq a0 a1 = some r → PCalls Tryz.prog 105 [(.sh, .agg [.sl false 1 (a0.Commits.map zaa), .sl false 1 (a0.Challenges.map zaa), .sl false 1 (a0.Responses.map zaa)]), (.sh, .agg [.sl false 1 (a1.Commits.map zaa), .sl false 1 (a1.Challenges.map zaa), .sl false 1 (a1.Responses.map zaa)])] (Eo (.bool r) [.junk, .junk]) := by
 intro a0 a1 r hr
 apply pF 24 [] [] [] [.tmp 4] hr cl105 Tryz.func105
 intro Φ hΦ hF g
 unfold zcq at hF
 try simp [go_sem, g]
 refine pw_wk ?_
 repeat rw [sq]
 refine pJ hF (fun x3 => [(4, .v (.bool x3))]) (fun x3 hF => ?_) fun _ hj1 hF => ?_
 ·cases hΦ _ (Rn_some hF)
  try simp [go_sem, g]
 ·try simp [go_sem, g]
  refine pC hF [.sh, .sh] zed (fun z4 hF => ?_)
  try simp [go_sem, g]
  refine pwg_F hF (fun h5 hF => ?_) fun h5 hF => ?_
  ·try simp [go_sem, g, h5]
   refine pC hF [.sh, .sh] zed (fun z6 hF => ?_)
   try simp [go_sem, g, h5]
   refine pwg_F hF (fun h7 hF => ?_) fun h7 hF => ?_
   ·try simp [go_sem, g, h7]
    refine pC hF [.sh, .sh] zed (fun z8 hF => ?_)
    try simp [go_sem, g, h7]
    exact pT (hj1 z8) (Rn_some hF)
   ·try simp [go_sem, g, h7]
    exact pT (hj1 false) (Rn_some hF)
  ·try simp [go_sem, g, h5]
   exact pT (hj1 false) (Rn_some hF)
noncomputable def zdi (a0 : Head) (a1 : Head) : Option (Bool) :=
 ((if (a0.Author == a1.Author) = true then (
 if (a0.Size == a1.Size) = true then (
 if (a0.Root == a1.Root) = true then (
 (zcq a0.Sign a1.Sign).bind fun z7 =>
 some z7) else (
 some false)) else (
 some false)) else (
 some false) : Option (Bool)).bind fun x3 =>
 some x3)
theorem zg4 : ∀ {a0} {a1} {r}, zdi a0 a1 = some r → PCalls Tryz.prog 76 [(.sh, .agg [.int .i64 a0.Author, .int .i64 a0.Size, .int .i64 a0.Root, .sl false 1 (a0.Sign.Commits.map zaa), .sl false 1 (a0.Sign.Challenges.map zaa), .sl false 1 (a0.Sign.Responses.map zaa)]), (.sh, .agg [.int .i64 a1.Author, .int .i64 a1.Size, .int .i64 a1.Root, .sl false 1 (a1.Sign.Commits.map zaa), .sl false 1 (a1.Sign.Challenges.map zaa), .sl false 1 (a1.Sign.Responses.map zaa)])] (Eo (.bool r) [.junk, .junk]) := by
 intro a0 a1 r hr
 apply pF 31 [] [] [] [.tmp 4] hr cl76 Tryz.func76
 intro Φ hΦ hF g
 unfold zdi at hF
 try simp [go_sem, g]
 refine pw_wk ?_
 repeat rw [sq]
 refine pJ hF (fun x3 => [(4, .v (.bool x3))]) (fun x3 hF => ?_) fun _ hj1 hF => ?_
 ·cases hΦ _ (Rn_some hF)
  try simp [go_sem, g]
 ·try simp [go_sem, g]
  refine pwg_F hF (fun h4 hF => ?_) fun h4 hF => ?_
  ·try simp [go_sem, g, h4]
   refine pwg_F hF (fun h5 hF => ?_) fun h5 hF => ?_
   ·try simp [go_sem, g, h5]
    refine pwg_F hF (fun h6 hF => ?_) fun h6 hF => ?_
    ·try simp [go_sem, g, h6]
     refine pC hF [.sh, .sh] zfF (fun z7 hF => ?_)
     try simp [go_sem, g, h6]
     exact pT (hj1 z7) (Rn_some hF)
    ·try simp [go_sem, g, h6]
     exact pT (hj1 false) (Rn_some hF)
   ·try simp [go_sem, g, h5]
    exact pT (hj1 false) (Rn_some hF)
  ·try simp [go_sem, g, h4]
   exact pT (hj1 false) (Rn_some hF)
noncomputable def zcn (a0 : (List Head)) (a1 : (List Head)) : Option ((List Head) × Bool) :=
 ((rloop (σ := (List Head)) (fun i5 s4 =>
 (ix a0 i5).bind fun x11 =>
 (zcu x11).bind fun z12 =>
 gd ((s4.length + 1) * 96 ≤ 140737488355328 ∧ s4.length + 1 ≤ 4611686018427387904) <|
 some (.go (s4 ++ [z12]))) (fun s4 => s4) (a0.length) 0 [] : Option ((List Head))).bind fun x3 =>
 ((rloop (σ := (List Head)) (fun i21 s20 =>
 (((ix a1 i21).bind fun x30 =>
 ((rloop (σ := Bool) (fun i35 s34 =>
 (((ix s20 i35).bind fun x44 =>
 if s34 = true then (
 some true) else (
 (zdi x44 x30).bind fun z46 =>
 some z46) : Option (Bool)).bind fun x43 =>
 some (.go x43))) (fun s34 => s34) (s20.length) 0 false : Option (Bool)).bind fun x33 =>
 if (!x33) = true then (
 (zcu x30).bind fun z52 =>
 gd ((s20.length + 1) * 96 ≤ 140737488355328 ∧ s20.length + 1 ≤ 4611686018427387904) <|
 some (s20 ++ [z52])) else (
 some s20)) : Option ((List Head))).bind fun x29 =>
 some (.go x29))) (fun s20 => s20) (a1.length) 0 x3 : Option ((List Head))).bind fun x19 =>
 some (x19, decide ((x19.length : Int) ≤ 20))))
theorem zd9 : ∀ {a0} {a1} {r}, zcn a0 a1 = some r → PCalls Tryz.prog 41 [(.sh, .sl false 6 (a0.map zad)), (.sh, .sl false 6 (a1.map zad))] (Eo (.tup [.sl true 6 (r.1.map zad), .bool r.2]) [.junk, .junk]) := by
 intro a0 a1 r hr
 apply pF 57 [] [22, 49] [] [.tmp 4, .tmp 5] hr cl41 Tryz.func41
 intro Φ hΦ hF g
 unfold zcn at hF
 iterate 3 (try simp [go_sem, g]; try intros; refine pw_wk ?_)
 repeat rw [sq]
 refine pJ hF (fun x3 => [(1, .v (.sl false 6 (a1.map zad))), (6, .v (.sl true 6 (x3.map zad)))]) (fun x3 hF => ?_) fun _ hj1 hF => ?_
 ·try simp [go_sem, g]
  try intros
  refine pw_wk ?_
  repeat rw [sq]
  refine pJ hF (fun x19 => [(6, .v (.sl true 6 (x19.map zad)))]) (fun x19 hF => ?_) fun _ hj17 hF => ?_
  ·try simp [go_sem, g]
   try intros
   refine pw_wkK [4, 5] (by simp [go_sem, g]; rfl) ?_
   cases hΦ _ (Rn_some hF)
   try simp [go_sem, g]
  ·repeat rw [sq]
   rw [pw_block]
   obtain ⟨b53, hb54, hψ24⟩ := hF
   refine pR hb54 (fun i21 s20 => [(6, .v (.sl true 6 (s20.map zad))), (26, .v (.sl false 6 (a1.map zad))), (27, .v (.int .i64 (a1.length : Int))), (28, .v (.int .i64 i21))]) (fun s20 _ hN55 => ?_) (fun i21 s20 _ _ hi25 hi26 ho22 hg23 hF => ?_)
   ·subst hN55
    try simp [go_sem]
    refine pw_wk ?_
    repeat rw [sq]
    refine pw_cond_f (by simp [go_sem]) ?_
    try simp [go_sem]
    exact pT (hj17 s20) hψ24 (by simp [go_sem])
   ·try simp [go_sem, g]
    refine pw_wkK [6, 26, 27, 28, 29] (by simp [go_sem, g]; rfl) ?_
    repeat rw [sq]
    refine pw_cond_t (by simp [go_sem, g, hi25, hi26]) ?_
    try simp [go_sem, g]
    refine pw_wk ?_
    repeat rw [sq]
    refine pJ hF (fun x29 => [(6, .v (.sl true 6 (x29.map zad))), (26, .v (.sl false 6 (a1.map zad))), (27, .v (.int .i64 (a1.length : Int))), (28, .v (.int .i64 i21))]) (fun x29 hF => ?_) fun _ hj27 hF => ?_
    ·try simp [go_sem, g]
     exact pT (hg23 x29) (Rn_some hF) (by simp [go_sem, g, wr_i hi25 hi26 (by assumption)])
    ·repeat rw [sq]
     rw [pw_block]
     obtain ⟨x30, g, hF⟩ := Rx g hF
     iterate 3 (try simp [go_sem, g]; try intros; refine pw_wk ?_)
     repeat rw [sq]
     refine pJ hF (fun x33 => [(6, .v (.sl true 6 (s20.map zad))), (10, .bl [.int .i64 x30.Author, .int .i64 x30.Size, .int .i64 x30.Root, .sl false 1 (x30.Sign.Commits.map zaa), .sl false 1 (x30.Sign.Challenges.map zaa), .sl false 1 (x30.Sign.Responses.map zaa)]), (11, .v (.bool x33)), (26, .v (.sl false 6 (a1.map zad))), (27, .v (.int .i64 (a1.length : Int))), (28, .v (.int .i64 i21))]) (fun x33 hF => ?_) fun _ hj31 hF => ?_
     ·try simp [go_sem, g]
      refine pw_wkK [6, 10, 26, 27, 28, 46] (by simp [go_sem, g]; rfl) ?_
      repeat rw [sq]
      refine pI hF (fun h51 hF => ?_) (fun h51 hF => ?_)
      ·try simp [go_sem, g]
       refine pC hF [.sh] zd3 (fun z52 hF => ?_)
       obtain ⟨g, hF⟩ := Rg g hF
       try simp [go_sem, g]
       exact pT (hj27 (s20 ++ [z52])) (Rn_some hF)
      ·try simp [go_sem, g]
       first | exact pT (hj27 s20) (Rn_some hF) | exact pT (hj27 _) (Rn_some hF)
     ·repeat rw [sq]
      rw [pw_block]
      obtain ⟨b47, hb48, hψ38⟩ := hF
      refine pR hb48 (fun i35 s34 => [(6, .v (.sl true 6 (s20.map zad))), (10, .bl [.int .i64 x30.Author, .int .i64 x30.Size, .int .i64 x30.Root, .sl false 1 (x30.Sign.Commits.map zaa), .sl false 1 (x30.Sign.Challenges.map zaa), .sl false 1 (x30.Sign.Responses.map zaa)]), (11, .v (.bool s34)), (26, .v (.sl false 6 (a1.map zad))), (27, .v (.int .i64 (a1.length : Int))), (28, .v (.int .i64 i21)), (32, .rf 6 []), (33, .v (.int .i64 (s20.length : Int))), (34, .v (.int .i64 i35))]) (fun s34 _ hN49 => ?_) (fun i35 s34 _ _ hi39 hi40 ho36 hg37 hF => ?_)
      ·subst hN49
       try simp [go_sem]
       refine pw_wk ?_
       repeat rw [sq]
       refine pw_cond_f (by simp [go_sem]) ?_
       try simp [go_sem]
       exact pT (hj31 s34) hψ38 (by simp [go_sem])
      ·try simp [go_sem, g]
       refine pw_wk ?_
       repeat rw [sq]
       refine pw_cond_t (by simp [go_sem, g, hi39, hi40]) ?_
       try simp [go_sem, g]
       refine pw_wk ?_
       repeat rw [sq]
       refine pJ hF (fun x43 => [(6, .v (.sl true 6 (s20.map zad))), (10, .bl [.int .i64 x30.Author, .int .i64 x30.Size, .int .i64 x30.Root, .sl false 1 (x30.Sign.Commits.map zaa), .sl false 1 (x30.Sign.Challenges.map zaa), .sl false 1 (x30.Sign.Responses.map zaa)]), (11, .v (.bool x43)), (26, .v (.sl false 6 (a1.map zad))), (27, .v (.int .i64 (a1.length : Int))), (28, .v (.int .i64 i21)), (32, .rf 6 []), (33, .v (.int .i64 (s20.length : Int))), (34, .v (.int .i64 i35))]) (fun x43 hF => ?_) fun _ hj41 hF => ?_
       ·try simp [go_sem, g]
        exact pT (hg37 x43) (Rn_some hF) (by simp [go_sem, g, wr_i hi39 hi40 (by assumption)])
       ·repeat rw [sq]
        rw [pw_block]
        obtain ⟨x44, g, hF⟩ := Rx g hF
        try simp [go_sem, g]
        refine pw_wkK [6, 10, 11, 13, 26, 27, 28, 32, 33, 34] (by simp [go_sem, g]; rfl) ?_
        try simp [go_sem, g]
        refine pwg_F hF (fun h45 hF => ?_) fun h45 hF => ?_
        ·try simp [go_sem, g, h45]
         exact pT (hj41 true) (Rn_some hF)
        ·try simp [go_sem, g, h45]
         refine pC hF [.sh, .sh] zg4 (fun z46 hF => ?_)
         try simp [go_sem, g, h45]
         exact pT (hj41 z46) (Rn_some hF)
 ·repeat rw [sq]
  rw [pw_block]
  obtain ⟨b13, hb14, hψ8⟩ := hF
  refine pR hb14 (fun i5 s4 => [(1, .v (.sl false 6 (a1.map zad))), (6, .v (.sl true 6 (s4.map zad))), (14, .v (.sl false 6 (a0.map zad))), (15, .v (.int .i64 (a0.length : Int))), (16, .v (.int .i64 i5))]) (fun s4 _ hN15 => ?_) (fun i5 s4 _ _ hi9 hi10 ho6 hg7 hF => ?_)
  ·subst hN15
   try simp [go_sem]
   refine pw_wk ?_
   repeat rw [sq]
   refine pw_cond_f (by simp [go_sem]) ?_
   try simp [go_sem]
   exact pT (hj1 s4) hψ8 (by simp [go_sem])
  ·try simp [go_sem, g]
   refine pw_wk ?_
   repeat rw [sq]
   refine pw_cond_t (by simp [go_sem, g, hi9, hi10]) ?_
   try simp [go_sem, g]
   refine pw_wk ?_
   repeat rw [sq]
   rw [pw_block]
   obtain ⟨x11, g, hF⟩ := Rx g hF
   try simp [go_sem, g]
   refine pw_wkK [1, 6, 8, 14, 15, 16] (by simp [go_sem, g]; rfl) ?_
   try simp [go_sem, g]
   refine pC hF [.sh] zd3 (fun z12 hF => ?_)
   obtain ⟨g, hF⟩ := Rg g hF
   try simp [go_sem, g]
   refine pw_wk ?_
   try simp [go_sem, g]
   exact pT (hg7 (s4 ++ [z12])) (Rn_some hF) (by simp [go_sem, g, wr_i hi9 hi10 (by assumption)])
def ziA : List DE := [d0 0 [6], d0 1 [12], d0 2 [43], d0 3 [44], d0 4 [42, 45], d0 5 [46], d0 6 [47], d0 7 [6], d0 8 [12], d0 9 [50], d0 10 [51], d0 11 [49, 52], d0 12 [53], d0 13 [54], d3 14 [48, 55], d0 15 [56], d0 16 [41], d0 17 [41], d0 18 [57], d0 19 [58]]
def zin : List DE := [d0 0 [6], d0 1 [12], d0 2 [61], d0 3 [62], d0 4 [60, 63], d0 5 [64], d0 6 [65], d0 7 [6], d0 8 [12], d0 9 [68], d0 10 [69], d0 11 [67, 70], d0 12 [71], d0 13 [72], d3 14 [66, 73], d0 15 [74], d0 16 [59], d0 17 [59], d0 18 [75], d0 19 [76]]
noncomputable def zcK (a0 : (List Reader)) (a1 : (List (List Int))) : Option ((List Reader) × Bool) :=
 ((rloop (σ := (List Reader)) (fun i5 s4 =>
 (ix a0 i5).bind fun x11 =>
 (zcn x11.Heads []).bind fun z12 =>
 gd ((s4.length + 1) * 24 ≤ 140737488355328 ∧ s4.length + 1 ≤ 4611686018427387904) <|
 some (.go (s4 ++ [(Reader.mk z12.1)]))) (fun s4 => s4) (a0.length) 0 [] : Option ((List Reader))).bind fun x3 =>
 ((rloop (σ := (List Reader)) (fun i41 s40 =>
 (ix a1 i41).bind fun x47 =>
 (ix x47 0).bind fun x48 =>
 (ix s40 x48).bind fun x49 =>
 (ix x47 1).bind fun x50 =>
 (ix s40 x50).bind fun x51 =>
 (zcn x49.Heads x51.Heads).bind fun z52 =>
 (zcn x51.Heads x49.Heads).bind fun z53 =>
 ((if (!z52.2) = true then (
 some true) else (
 some (!z53.2)) : Option (Bool)).bind fun x56 =>
 if x56 = true then (
 some (.out (.inr ([], false)))) else (
 (ix (s40.set x48.toNat (Reader.mk z52.1)) x50).bind fun x59 =>
 some (.go ((s40.set x48.toNat (Reader.mk z52.1)).set x50.toNat (Reader.mk z53.1)))))) (fun s40 => .inl s40) (a1.length) 0 x3 : Option ((List Reader) ⊕ ((List Reader) × Bool))).bind (Sum.elim (fun x19 =>
 some (x19, true)) some)))
theorem ze7 : ∀ {a0} {a1} {r}, zcK a0 a1 = some r → PCalls Tryz.prog 47 [(.sh, .sl false 1 (a0.map zae)), (.sh, .sl false 1 (a1.map zaf))] (Eo (.tup [.sl true 1 (r.1.map zae), .bool r.2]) [.junk, .junk]) := by
 intro a0 a1 r hr
 apply pF 99 [] [31, 88, 95] [] [.tmp 4, .tmp 5] hr cl47 Tryz.func47
 intro Φ hΦ hF g
 unfold zcK at hF
 iterate 3 (try simp [go_sem, g]; try intros; refine pw_wk ?_)
 repeat rw [sq]
 refine pJ hF (fun x3 => [(1, .v (.sl false 1 (a1.map zaf))), (6, .v (.sl true 1 (x3.map zae)))]) (fun x3 hF => ?_) fun _ hj1 hF => ?_
 ·try simp [go_sem, g]
  try intros
  refine pw_wk ?_
  repeat rw [sq]
  refine pJs hF (fun x19 => [(6, .v (.sl true 1 (x19.map zae)))]) (fun x19 hF => ?_) fun _ hj17 hr18 hF => ?_
  ·try simp [go_sem, g]
   refine pw_wkK [4, 5] (by simp [go_sem, g]; rfl) ?_
   cases hΦ _ (Rn_some hF)
   try simp [go_sem, g]
  ·repeat rw [sq]
   rw [pw_block]
   obtain ⟨b60, hb61, hψ44⟩ := hF
   refine pR hb61 (fun i41 s40 => [(6, .v (.sl true 1 (s40.map zae))), (35, .v (.sl false 1 (a1.map zaf))), (36, .v (.int .i64 (a1.length : Int))), (37, .v (.int .i64 i41))]) (fun s40 _ hN62 => ?_) (fun i41 s40 _ _ hi45 hi46 ho42 hg43 hF => ?_)
   ·subst hN62
    try simp [go_sem]
    refine pw_wk ?_
    repeat rw [sq]
    refine pw_cond_f (by simp [go_sem]) ?_
    try simp [go_sem]
    exact pT (hj17 s40) hψ44 (by simp [go_sem])
   ·try simp [go_sem, g]
    refine pw_wkK [6, 35, 36, 37, 38] (by simp [go_sem, g]; rfl) ?_
    repeat rw [sq]
    refine pw_cond_t (by simp [go_sem, g, hi45, hi46]) ?_
    try simp [go_sem, g]
    refine pw_wk ?_
    repeat rw [sq]
    rw [pw_block]
    obtain ⟨x47, g, hF⟩ := Rx g hF
    try simp [go_sem, g]
    refine pw_wk ?_
    repeat rw [sq]
    refine pw_draw ziA follows (by kernel_rfl) rfl ?_
    try simp only [go_sem, ziA]
    obtain ⟨x48, g, hF⟩ := Rxn g 0 hF
    obtain ⟨x49, g, hF⟩ := Rx g hF
    obtain ⟨x50, g, hF⟩ := Rxn g 1 hF
    obtain ⟨x51, g, hF⟩ := Rx g hF
    try simp [go_sem, g]
    refine pC hF [.sh, .sh] zd9 (fun z52 hF => ?_)
    try simp [go_sem, g]
    refine pw_wkK [6, 12, 13, 14, 35, 36, 37] (by simp [go_sem, g]; rfl) ?_
    repeat rw [sq]
    refine pw_draw zin follows (by kernel_rfl) rfl ?_
    try simp only [go_sem, zin]
    try simp [go_sem, g]
    refine pC hF [.sh, .sh] zd9 (fun z53 hF => ?_)
    try simp [go_sem, g]
    refine pw_wkK [6, 12, 13, 14, 15, 16, 35, 36, 37] (by simp [go_sem, g]; rfl) ?_
    repeat rw [sq]
    refine pJ hF (fun x56 => [(6, .v (.sl true 1 (s40.map zae))), (12, .v (.sl false 1 (x47.map zaa))), (13, .v (.sl true 6 (z52.1.map zad))), (15, .v (.sl true 6 (z53.1.map zad))), (35, .v (.sl false 1 (a1.map zaf))), (36, .v (.int .i64 (a1.length : Int))), (37, .v (.int .i64 i41)), (82, .v (.bool x56))]) (fun x56 hF => ?_) fun _ hj54 hF => ?_
    ·repeat rw [sq]
     refine pI hF (fun h58 hF => ?_) (fun h58 hF => ?_)
     ·cases ho42 _ (Rn_some hF)
      cases hΦ _ (hr18 _ hψ44)
      try simp [go_sem, g]
      refine pw_wk ?_
      try simp [go_sem, g]
     ·obtain ⟨x59, g, hF⟩ := Rx g hF
      try simp only [List.length_set] at g
      iterate 2 (try simp [go_sem, g]; refine pw_wk ?_)
      try simp [go_sem, g]
      refine pw_wkK [6, 35, 36, 37] (by simp [go_sem, g]; rfl) ?_
      try simp [go_sem, g]
      exact pT (hg43 ((s40.set x48.toNat (Reader.mk z52.1)).set x50.toNat (Reader.mk z53.1))) (Rn_some hF) (by simp [go_sem, g, wr_i hi45 hi46 (by assumption)])
    ·try simp [go_sem, g]
     refine pwg_F hF (fun h57 hF => ?_) fun h57 hF => ?_
     ·try simp [go_sem, g, h57]
      exact pT (hj54 true) (Rn_some hF)
     ·try simp [go_sem, g, h57]
      exact pT (hj54 (!z53.2)) (Rn_some hF)
 ·repeat rw [sq]
  rw [pw_block]
  obtain ⟨b13, hb14, hψ8⟩ := hF
  refine pR hb14 (fun i5 s4 => [(1, .v (.sl false 1 (a1.map zaf))), (6, .v (.sl true 1 (s4.map zae))), (17, .v (.sl false 1 (a0.map zae))), (18, .v (.int .i64 (a0.length : Int))), (19, .v (.int .i64 i5))]) (fun s4 _ hN15 => ?_) (fun i5 s4 _ _ hi9 hi10 ho6 hg7 hF => ?_)
  ·subst hN15
   try simp [go_sem]
   refine pw_wk ?_
   repeat rw [sq]
   refine pw_cond_f (by simp [go_sem]) ?_
   try simp [go_sem]
   exact pT (hj1 s4) hψ8 (by simp [go_sem])
  ·try simp [go_sem, g]
   refine pw_wk ?_
   repeat rw [sq]
   refine pw_cond_t (by simp [go_sem, g, hi9, hi10]) ?_
   try simp [go_sem, g]
   refine pw_wk ?_
   repeat rw [sq]
   rw [pw_block]
   obtain ⟨x11, g, hF⟩ := Rx g hF
   try simp [go_sem, g]
   refine pw_wkK [1, 6, 8, 17, 18, 19] (by simp [go_sem, g]; rfl) ?_
   try simp [go_sem, g]
   refine pC hF [.sh, .sh] zd9 (fun z12 hF => ?_)
   obtain ⟨g, hF⟩ := Rg g hF
   try simp [go_sem, g]
   refine pw_wk ?_
   try simp [go_sem, g]
   refine pw_wkK [1, 6, 17, 18, 19] (by simp [go_sem, g]; rfl) ?_
   try simp [go_sem, g]
   exact pT (hg7 (s4 ++ [(Reader.mk z12.1)])) (Rn_some hF) (by simp [go_sem, g, wr_i hi9 hi10 (by assumption)])
noncomputable def zcd (a0 : (List Reader)) (a1 : (List (List Int))) : Option ((List Reader) × Bool) :=
 (zcl a0 a1).bind fun z1 =>
 if (!z1) = true then (
 some ([], false)) else (
 (zcK a0 a1).bind fun z3 =>
 some (z3.1, z3.2))
theorem zfo : ∀ {a0} {a1} {r}, zcd a0 a1 = some r → PCalls Tryz.prog 16 [(.sh, .sl false 1 (a0.map zae)), (.sh, .sl false 1 (a1.map zaf))] (Eo (.tup [.sl true 1 (r.1.map zae), .bool r.2]) [.junk, .junk]) := by
 intro a0 a1 r hr
 apply pF 15 [] [] [] [.tmp 4, .tmp 5] hr cl16 Tryz.func16
 intro Φ hΦ hF g
 unfold zcd at hF
 try simp [go_sem, g]
 refine pw_wk ?_
 try simp [go_sem, g]
 refine pC hF [.sh, .sh] zeG (fun z1 hF => ?_)
 try simp [go_sem, g]
 refine pw_wk ?_
 repeat rw [sq]
 refine pI hF (fun h2 hF => ?_) (fun h2 hF => ?_)
 ·cases hΦ _ (Rn_some hF)
  try simp [go_sem, g]
  refine pw_wk ?_
  try simp [go_sem, g]
 ·try simp [go_sem, g]
  refine pw_wk ?_
  try simp [go_sem, g]
  refine pC hF [.sh, .sh] ze7 (fun z3 hF => ?_)
  try simp [go_sem, g]
  refine pw_wkK [4, 5] (by simp [go_sem, g]; rfl) ?_
  cases hΦ _ (Rn_some hF)
  try simp [go_sem, g]
def zjp : List DE := [d2 0 [8] 8 8, d0 1 [9], d0 2 [10], d0 3 [11], d0 4 [7], d0 5 [], ⟨6, [26, 27], [], none, true, true, true⟩, d2 7 [2, 22] 2 2, d0 8 [23], d0 9 [24], d0 10 [25], d0 11 [28]]
noncomputable def zbb (a0 : (List Int)) : Option (Group × (List Int) × (List Reader) × (List (List Int)) × Int) :=
 (zaJ a0 0 0).bind fun z1 =>
 (zah z1.2.2.2.2.1 z1.2.2.2.2.2.1 z1.2.2.2.2.2.2 [0, 1, 2, 3, 10, 11, (-1)]).bind fun z2 =>
 some (z1.1, z1.2.1, z1.2.2.1, z1.2.2.2.1, z2.1)
theorem zel : ∀ {a0} {r}, zbb a0 = some r → PCalls Tryz.prog 17 [(.sh, .sl false 1 (a0.map zag))] (Eo (.tup [.agg [.int .i64 r.1.P, .int .i64 r.1.Q, .int .i64 r.1.G], .sl true 1 (r.2.1.map zaa), .sl true 1 (r.2.2.1.map zaB), .sl true 1 (r.2.2.2.1.map zbz), .int .i64 r.2.2.2.2]) [.junk]) := by
 intro a0 r hr
 apply pF 29 [] [] [14] [.cell 2 25, .tmp 3, .tmp 4, .tmp 5, .tmp 6] hr cl17 Tryz.func17
 intro Φ hΦ hF g
 unfold zbb at hF
 iterate 2 (try simp [go_sem, g]; refine pw_wk ?_)
 try simp [go_sem, g]
 refine pC hF [.io] zcG (fun z1 hF => ?_)
 try simp [go_sem, g]
 refine pw_wkK [2, 7, 8, 9, 10, 11] (by simp [go_sem, g]; rfl) ?_
 repeat rw [sq]
 refine pw_draw zjp follows (by kernel_rfl) rfl ?_
 try simp only [go_sem, zjp]
 try simp [go_sem, g]
 refine pC hF [.io, .mv] zao (fun z2 hF => ?_)
 try simp [go_sem, g]
 refine pw_wkK [2, 3, 4, 5, 6] (by simp [go_sem, g]; rfl) ?_
 cases hΦ _ (Rn_some hF)
 try simp [go_sem, g]
noncomputable def zcD (a0 : Int) : Option (Bool) :=
 (zap a0 2 2000000000).bind fun z1 =>
 some z1
theorem zfX : ∀ {a0} {r}, zcD a0 = some r → PCalls Tryz.prog 92 [(.sh, .int .i64 a0)] (Eo (.bool r) [.junk]) := by
 intro a0 r hr
 apply pF 5 [] [] [] [.tmp 2] hr cl92 Tryz.func92
 intro Φ hΦ hF g
 unfold zcD at hF
 try simp [go_sem, g]
 refine pw_wk ?_
 try simp [go_sem, g]
 refine pC hF [.sh, .sh, .sh] zaH (fun z1 hF => ?_)
 cases hΦ _ (Rn_some hF)
 try simp [go_sem, g]
 refine pw_wk ?_
 try simp [go_sem, g]
noncomputable def zcx (a0 : Int) : Option (Bool) :=
 (((zcD a0).bind fun z4 =>
 if (!z4) = true then (
 some true) else (
 if ((a0.tmod 2) == 0) = true then (
 some (a0 != 2)) else (
 some false)) : Option (Bool)).bind fun x3 =>
 if x3 = true then (
 some false) else (
 ((wloop (σ := Int) (fun s11 =>
 if decide ((i64.wrap (s11 * s11)) ≤ a0) = true then (
 gd (s11 ≠ 0) <|
 if ((a0.tmod s11) == 0) = true then (
 some (.out (.inr false))) else (
 some (.go (i64.wrap (s11 + 2))))) else (
 some (.out (.inl ())))) 3 : Option (Unit ⊕ Bool)).bind (Sum.elim (fun x10 =>
 some true) some))))
end Go.Pm
