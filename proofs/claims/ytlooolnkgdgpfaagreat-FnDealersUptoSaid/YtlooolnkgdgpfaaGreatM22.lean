/-
  Plain functions and their walks. Written by wip/tools/lift.py.
-/
import Derived.Test.YtlooolnkgdgpfaaGreatPS
namespace Go.Pm
open Go.Am IntKind
open Go.Proofs
set_option maxRecDepth 100000
attribute [local irreducible] pw pwx pw1 pwg qv qz qf
attribute [-simp] List.map_set
set_option linter.unusedSimpArgs false
set_option linter.unusedVariables false
structure Group where
 P : Int
 Q : Int
 G : Int
structure Fault where
 Dealer : Int
 Trustee : Int
 Delta : Int
 Answers : Bool
structure l1Cur where
 code : (List Int)
 at_ : Int
 seed : Int
structure Dealing where
 Commits : (List Int)
 Shares : (List Int)
structure Proof where
 Commits : (List Int)
 Challenges : (List Int)
 Responses : (List Int)
structure l3State where
 s : Int
 t : Int
def row_u8 (x : Int) : List PV := [.int .u8 x]
@[go_sem] theorem row_u8_eq {x : Int} : row_u8 x = [.int .u8 x] := (rfl)
@[go_sem] theorem row_u8_drop {l : List Int} : List.map (List.map drop ∘ row_u8) l = l.map row_u8 := by refine List.map_congr_left fun x _ => ?_; simp [go_sem]
@[go_sem] theorem row_u8_drop' {l : List Int} : List.map (List.map drop) (l.map row_u8) = l.map row_u8 := by rw [List.map_map]; exact row_u8_drop
@[go_sem] theorem row_u8_set {l : List Int} {i : Nat} {a : Int} : (l.map row_u8).set i [.int .u8 a] = (l.set i a).map row_u8 := by rw [List.map_set]; rfl
def row_i64 (x : Int) : List PV := [.int .i64 x]
@[go_sem] theorem row_i64_eq {x : Int} : row_i64 x = [.int .i64 x] := (rfl)
@[go_sem] theorem row_i64_drop {l : List Int} : List.map (List.map drop ∘ row_i64) l = l.map row_i64 := by refine List.map_congr_left fun x _ => ?_; simp [go_sem]
@[go_sem] theorem row_i64_drop' {l : List Int} : List.map (List.map drop) (l.map row_i64) = l.map row_i64 := by rw [List.map_map]; exact row_i64_drop
@[go_sem] theorem row_i64_set {l : List Int} {i : Nat} {a : Int} : (l.map row_i64).set i [.int .i64 a] = (l.set i a).map row_i64 := by rw [List.map_set]; rfl
def row_zi64 (x : (List Int)) : List PV := [.sl false 1 (x.map row_i64)]
@[go_sem] theorem row_zi64_eq {x : (List Int)} : row_zi64 x = [.sl false 1 (x.map row_i64)] := (rfl)
@[go_sem] theorem row_zi64_drop {l : List (List Int)} : List.map (List.map drop ∘ row_zi64) l = l.map row_zi64 := by refine List.map_congr_left fun x _ => ?_; simp [go_sem]
@[go_sem] theorem row_zi64_drop' {l : List (List Int)} : List.map (List.map drop) (l.map row_zi64) = l.map row_zi64 := by rw [List.map_map]; exact row_zi64_drop
@[go_sem] theorem row_zi64_set {l : List (List Int)} {i : Nat} {a : (List Int)} : (l.map row_zi64).set i [.sl false 1 (a.map row_i64)] = (l.set i a).map row_zi64 := by rw [List.map_set]; rfl
def row_Fault (x : Fault) : List PV := [.int .i64 x.Dealer, .int .i64 x.Trustee, .int .i64 x.Delta, .bool x.Answers]
@[go_sem] theorem row_Fault_eq {x : Fault} : row_Fault x = [.int .i64 x.Dealer, .int .i64 x.Trustee, .int .i64 x.Delta, .bool x.Answers] := (rfl)
@[go_sem] theorem row_Fault_drop {l : List Fault} : List.map (List.map drop ∘ row_Fault) l = l.map row_Fault := by refine List.map_congr_left fun x _ => ?_; simp [go_sem]
@[go_sem] theorem row_Fault_drop' {l : List Fault} : List.map (List.map drop) (l.map row_Fault) = l.map row_Fault := by rw [List.map_map]; exact row_Fault_drop
@[go_sem] theorem row_Fault_set {l : List Fault} {i : Nat} {Dealer : Int} {Trustee : Int} {Delta : Int} {Answers : Bool} : (l.map row_Fault).set i [.int .i64 Dealer, .int .i64 Trustee, .int .i64 Delta, .bool Answers] = (l.set i (Fault.mk Dealer Trustee Delta Answers)).map row_Fault := by rw [List.map_set]; rfl
def row_Dealing_zz (x : Dealing) : List PV := [.sl false 1 (x.Commits.map row_i64), .sl false 1 (x.Shares.map row_i64)]
@[go_sem] theorem row_Dealing_zz_eq {x : Dealing} : row_Dealing_zz x = [.sl false 1 (x.Commits.map row_i64), .sl false 1 (x.Shares.map row_i64)] := (rfl)
@[go_sem] theorem row_Dealing_zz_drop {l : List Dealing} : List.map (List.map drop ∘ row_Dealing_zz) l = l.map row_Dealing_zz := by refine List.map_congr_left fun x _ => ?_; simp [go_sem]
@[go_sem] theorem row_Dealing_zz_drop' {l : List Dealing} : List.map (List.map drop) (l.map row_Dealing_zz) = l.map row_Dealing_zz := by rw [List.map_map]; exact row_Dealing_zz_drop
@[go_sem] theorem row_Dealing_zz_set {l : List Dealing} {i : Nat} {Commits : (List Int)} {Shares : (List Int)} : (l.map row_Dealing_zz).set i [.sl false 1 (Commits.map row_i64), .sl false 1 (Shares.map row_i64)] = (l.set i (Dealing.mk Commits Shares)).map row_Dealing_zz := by rw [List.map_set]; rfl
def row_Dealing_oo (x : Dealing) : List PV := [.sl true 1 (x.Commits.map row_i64), .sl true 1 (x.Shares.map row_i64)]
@[go_sem] theorem row_Dealing_oo_eq {x : Dealing} : row_Dealing_oo x = [.sl true 1 (x.Commits.map row_i64), .sl true 1 (x.Shares.map row_i64)] := (rfl)
@[go_sem] theorem row_Dealing_oo_drop {l : List Dealing} : List.map (List.map drop ∘ row_Dealing_oo) l = l.map row_Dealing_zz := by refine List.map_congr_left fun x _ => ?_; simp [go_sem]
@[go_sem] theorem row_Dealing_oo_drop' {l : List Dealing} : List.map (List.map drop) (l.map row_Dealing_oo) = l.map row_Dealing_zz := by rw [List.map_map]; exact row_Dealing_oo_drop
@[go_sem] theorem row_Dealing_oo_set {l : List Dealing} {i : Nat} {Commits : (List Int)} {Shares : (List Int)} : (l.map row_Dealing_oo).set i [.sl true 1 (Commits.map row_i64), .sl true 1 (Shares.map row_i64)] = (l.set i (Dealing.mk Commits Shares)).map row_Dealing_oo := by rw [List.map_set]; rfl
def row_oi64 (x : (List Int)) : List PV := [.sl true 1 (x.map row_i64)]
@[go_sem] theorem row_oi64_eq {x : (List Int)} : row_oi64 x = [.sl true 1 (x.map row_i64)] := (rfl)
@[go_sem] theorem row_oi64_drop {l : List (List Int)} : List.map (List.map drop ∘ row_oi64) l = l.map row_zi64 := by refine List.map_congr_left fun x _ => ?_; simp [go_sem]
@[go_sem] theorem row_oi64_drop' {l : List (List Int)} : List.map (List.map drop) (l.map row_oi64) = l.map row_zi64 := by rw [List.map_map]; exact row_oi64_drop
@[go_sem] theorem row_oi64_set {l : List (List Int)} {i : Nat} {a : (List Int)} : (l.map row_oi64).set i [.sl true 1 (a.map row_i64)] = (l.set i a).map row_oi64 := by rw [List.map_set]; rfl
def row_b (x : Bool) : List PV := [.bool x]
@[go_sem] theorem row_b_eq {x : Bool} : row_b x = [.bool x] := (rfl)
@[go_sem] theorem row_b_drop {l : List Bool} : List.map (List.map drop ∘ row_b) l = l.map row_b := by refine List.map_congr_left fun x _ => ?_; simp [go_sem]
@[go_sem] theorem row_b_drop' {l : List Bool} : List.map (List.map drop) (l.map row_b) = l.map row_b := by rw [List.map_map]; exact row_b_drop
@[go_sem] theorem row_b_set {l : List Bool} {i : Nat} {a : Bool} : (l.map row_b).set i [.bool a] = (l.set i a).map row_b := by rw [List.map_set]; rfl
def vA (x : (List Int)) : PV := .sl false 1 (x.map row_u8)
@[go_sem] theorem vA_eq {x : (List Int)} : vA x = .sl false 1 (x.map row_u8) := (rfl)
def vB (x0 : (List Int)) (x1 : Int) (x2 : Int) : PV := .bx [.sl false 1 (x0.map row_u8), .int .i64 x1, .int .u64 x2]
@[go_sem] theorem vB_eq {x0 : (List Int)} {x1 : Int} {x2 : Int} : vB x0 x1 x2 = .bx [.sl false 1 (x0.map row_u8), .int .i64 x1, .int .u64 x2] := (rfl)
def vC (x : (List Int)) : PV := .sl false 1 (x.map row_i64)
@[go_sem] theorem vC_eq {x : (List Int)} : vC x = .sl false 1 (x.map row_i64) := (rfl)
def vD (x : (List Int)) : PV := .sl true 1 (x.map row_i64)
@[go_sem] theorem vD_eq {x : (List Int)} : vD x = .sl true 1 (x.map row_i64) := (rfl)
def vE (x : Group) : PV := .agg [.int .i64 x.P, .int .i64 x.Q, .int .i64 x.G]
@[go_sem] theorem vE_eq {x : Group} : vE x = .agg [.int .i64 x.P, .int .i64 x.Q, .int .i64 x.G] := (rfl)
def vF (x : (List (List Int))) : PV := .sl true 1 (x.map row_zi64)
@[go_sem] theorem vF_eq {x : (List (List Int))} : vF x = .sl true 1 (x.map row_zi64) := (rfl)
def vG (x : (List Fault)) : PV := .sl true 4 (x.map row_Fault)
@[go_sem] theorem vG_eq {x : (List Fault)} : vG x = .sl true 4 (x.map row_Fault) := (rfl)
def vH (x : (List Fault)) : PV := .sl false 4 (x.map row_Fault)
@[go_sem] theorem vH_eq {x : (List Fault)} : vH x = .sl false 4 (x.map row_Fault) := (rfl)
def vI (x : (List (List Int))) : PV := .sl false 1 (x.map row_zi64)
@[go_sem] theorem vI_eq {x : (List (List Int))} : vI x = .sl false 1 (x.map row_zi64) := (rfl)
def vJ (x : Fault) : PV := .agg [.int .i64 x.Dealer, .int .i64 x.Trustee, .int .i64 x.Delta, .bool x.Answers]
@[go_sem] theorem vJ_eq {x : Fault} : vJ x = .agg [.int .i64 x.Dealer, .int .i64 x.Trustee, .int .i64 x.Delta, .bool x.Answers] := (rfl)
def vK (x : Dealing) : PV := .agg [.sl true 1 (x.Commits.map row_i64), .sl true 1 (x.Shares.map row_i64)]
@[go_sem] theorem vK_eq {x : Dealing} : vK x = .agg [.sl true 1 (x.Commits.map row_i64), .sl true 1 (x.Shares.map row_i64)] := (rfl)
def vL (x : (List Dealing)) : PV := .sl true 2 (x.map row_Dealing_zz)
@[go_sem] theorem vL_eq {x : (List Dealing)} : vL x = .sl true 2 (x.map row_Dealing_zz) := (rfl)
def vM (x : Dealing) : PV := .agg [.sl false 1 (x.Commits.map row_i64), .sl false 1 (x.Shares.map row_i64)]
@[go_sem] theorem vM_eq {x : Dealing} : vM x = .agg [.sl false 1 (x.Commits.map row_i64), .sl false 1 (x.Shares.map row_i64)] := (rfl)
def vN (x : (List Dealing)) : PV := .sl true 2 (x.map row_Dealing_oo)
@[go_sem] theorem vN_eq {x : (List Dealing)} : vN x = .sl true 2 (x.map row_Dealing_oo) := (rfl)
def vO (x : (List (List Int))) : PV := .sl true 1 (x.map row_oi64)
@[go_sem] theorem vO_eq {x : (List (List Int))} : vO x = .sl true 1 (x.map row_oi64) := (rfl)
def vP (x : (List Bool)) : PV := .sl true 1 (x.map row_b)
@[go_sem] theorem vP_eq {x : (List Bool)} : vP x = .sl true 1 (x.map row_b) := (rfl)
def vQ (x0 : Int) (x1 : Int) : PV := .bx [.int .i64 x0, .int .i64 x1]
@[go_sem] theorem vQ_eq {x0 : Int} {x1 : Int} : vQ x0 x1 = .bx [.int .i64 x0, .int .i64 x1] := (rfl)
def vR (x : Proof) : PV := .agg [.sl true 1 (x.Commits.map row_i64), .sl true 1 (x.Challenges.map row_i64), .sl true 1 (x.Responses.map row_i64)]
@[go_sem] theorem vR_eq {x : Proof} : vR x = .agg [.sl true 1 (x.Commits.map row_i64), .sl true 1 (x.Challenges.map row_i64), .sl true 1 (x.Responses.map row_i64)] := (rfl)
def vS (x : Proof) : PV := .agg [.sl false 1 (x.Commits.map row_i64), .sl false 1 (x.Challenges.map row_i64), .sl false 1 (x.Responses.map row_i64)]
@[go_sem] theorem vS_eq {x : Proof} : vS x = .agg [.sl false 1 (x.Commits.map row_i64), .sl false 1 (x.Challenges.map row_i64), .sl false 1 (x.Responses.map row_i64)] := (rfl)
def vT (x : (List Dealing)) : PV := .sl false 2 (x.map row_Dealing_zz)
@[go_sem] theorem vT_eq {x : (List Dealing)} : vT x = .sl false 2 (x.map row_Dealing_zz) := (rfl)
@[go_sem] def D179_2 : List DE := [d0 0 [0], d0 1 [4], d0 2 [5], d0 3 [6], d0 4 [0], d0 5 [8], d0 6 [9], d0 7 [10], d0 8 [11], d0 9 [7, 12]]
@[go_sem] def D179_3 : List DE := [d0 0 [0], d0 1 [14], d0 2 [15], d0 3 [16], d0 4 [0], d0 5 [18], d0 6 [19], d0 7 [20], d0 8 [17, 21], d0 9 [22], d0 10 [23], d0 11 [24]]
@[go_sem] def D179_6 : List DE := [d0 0 [0], d0 1 [44], d0 2 [45], d0 3 [46], d0 4 [0], d0 5 [48], d0 6 [49], d0 7 [50], d0 8 [51], d0 9 [47, 52]]
noncomputable def F_spec_l1Cur_next__io0 (a0c0 : (List Int)) (a0c1 : Int) (a0c2 : Int) : Option (Int × ((List Int) × Int × Int)) :=
 ((if decide (a0c1 < (a0c0.length : Int)) = true then (
 (ix a0c0 a0c1).bind fun x5 =>
 some (i64.wrap x5)) else (
 some 0) : Option (Int)).bind fun x3 =>
 if decide ((i64.wrap (a0c1 + 1)) ≤ (a0c0.length : Int)) = true then (
 some (x3, (a0c0, i64.wrap (a0c1 + 1), u64.wrap ((u64.wrap ((u64.wrap (a0c2 * 6364136223846793005)) + (u64.wrap x3))) + 1442695040888963407)))) else (
 some (i64.wrap (u64.wrap ((BitVec.ofInt u64.bits ((u64.wrap ((u64.wrap ((u64.wrap (a0c2 * 6364136223846793005)) + (u64.wrap x3))) + 1442695040888963407)).fdiv 1099511627776) &&& BitVec.ofInt u64.bits 255).toNat)), (a0c0, i64.wrap (a0c1 + 1), u64.wrap ((u64.wrap ((u64.wrap (a0c2 * 6364136223846793005)) + (u64.wrap x3))) + 1442695040888963407)))))
theorem c_spec_l1Cur_next__io0 : ∀ {a0c0} {a0c1} {a0c2} {r}, F_spec_l1Cur_next__io0 a0c0 a0c1 a0c2 = some r → PCalls Tryz.prog 179 [(.io, vB a0c0 a0c1 a0c2)] (Eo (.int .i64 r.1) [vB r.2.1 r.2.2.1 r.2.2.2]) := by
 intro a0c0 a0c1 a0c2 r hr
 apply pF 62 [0] [] [] [.tmp 2] hr cl179 Tryz.func179
 intro Φ hΦ hF g
 unfold F_spec_l1Cur_next__io0 at hF
 iterate 2 refine wW ?_
 refine wX D179_2 follows ?_
 try simp [go_sem, g]
 try intros
 refine wK [0, 3, 13] ?_
 refine wJ hF (fun x3 => [(0, .v (vB a0c0 a0c1 a0c2)), (3, .v (.int .i64 x3))]) (fun x3 hF => ?_) fun _ hj1 hF => ?_
 ·refine wW ?_
  refine wK [0, 3] ?_
  refine wX D179_6 follows ?_
  try simp [go_sem, g]
  try intros
  refine wK [0, 3, 53] ?_
  refine wI hF (fun h6 hF => ?_) (fun h6 hF => ?_)
  ·cases hΦ _ (Rn_some hF)
   refine wW ?_
   try simp [go_sem, g]
  ·have g := Ls g 40
   cases hΦ _ (Rn_some hF)
   iterate 2 refine wW ?_
   try simp [go_sem, g]
 ·refine wI hF (fun h4 hF => ?_) (fun h4 hF => ?_)
  ·refine wX D179_3 follows ?_
   obtain ⟨x5, g, hF⟩ := Rx g hF
   exact wT (hj1 _) (Rn_some hF)
  ·exact wT (hj1 _) (Rn_some hF)
noncomputable def F_spec_l1Cur_pick__io0 (a0c0 : (List Int)) (a0c1 : Int) (a0c2 : Int) (a1 : Int) : Option (Int × ((List Int) × Int × Int)) :=
 if decide (a1 ≤ 1) = true then (
 some (0, (a0c0, a0c1, a0c2))) else (
 (F_spec_l1Cur_next__io0 a0c0 a0c1 a0c2).bind fun z2 =>
 ((if decide (200 < a1) = true then (
 (F_spec_l1Cur_next__io0 z2.2.1 z2.2.2.1 z2.2.2.2).bind fun z7 =>
 some ((z7.2.1, z7.2.2.1, z7.2.2.2), i64.wrap ((i64.wrap (z2.1 * 256)) + z7.1))) else (
 some ((z2.2.1, z2.2.2.1, z2.2.2.2), z2.1)) : Option ((((List Int) × Int × Int) × Int))).bind fun x5 =>
 gd (a1 ≠ 0) <|
 some (x5.2.tmod a1, (x5.1.1, x5.1.2.1, x5.1.2.2))))
theorem c_spec_l1Cur_pick__io0 : ∀ {a0c0} {a0c1} {a0c2} {a1} {r}, F_spec_l1Cur_pick__io0 a0c0 a0c1 a0c2 a1 = some r → PCalls Tryz.prog 61 [(.io, vB a0c0 a0c1 a0c2), (.sh, .int .i64 a1)] (Eo (.int .i64 r.1) [vB r.2.1 r.2.2.1 r.2.2.2, .junk]) := by
 intro a0c0 a0c1 a0c2 a1 r hr
 apply pF 20 [0] [] [] [.tmp 4] hr cl61 Tryz.func61
 intro Φ hΦ hF g
 unfold F_spec_l1Cur_pick__io0 at hF
 iterate 2 refine wW ?_
 refine wI hF (fun h1 hF => ?_) (fun h1 hF => ?_)
 ·cases hΦ _ (Rn_some hF)
  refine wW ?_
  try simp [go_sem, g]
 ·refine wW ?_
  refine wC hF [.io] c_spec_l1Cur_next__io0 (fun z2 hF => ?_)
  iterate 2 refine wW ?_
  refine wJ hF (fun x5 => [(0, .v (vB x5.1.1 x5.1.2.1 x5.1.2.2)), (1, .v (.int .i64 a1)), (5, .v (.int .i64 x5.2))]) (fun x5 hF => ?_) fun _ hj3 hF => ?_
  ·obtain ⟨g, hF⟩ := Rz g hF
   refine wK [0, 4] ?_
   cases hΦ _ (Rn_some hF)
   try simp [go_sem, g]
  ·refine wI hF (fun h6 hF => ?_) (fun h6 hF => ?_)
   ·refine wC hF [.io] c_spec_l1Cur_next__io0 (fun z7 hF => ?_)
    exact wT (hj3 _) (Rn_some hF)
   ·exact wT (hj3 _) (Rn_some hF)
noncomputable def F_spec_l1Cur_one__io0 (a0c0 : (List Int)) (a0c1 : Int) (a0c2 : Int) (a1 : Int) : Option (Bool × ((List Int) × Int × Int)) :=
 (F_spec_l1Cur_pick__io0 a0c0 a0c1 a0c2 a1).bind fun z1 =>
 some ((z1.1 == 0), (z1.2.1, z1.2.2.1, z1.2.2.2))
theorem c_spec_l1Cur_one__io0 : ∀ {a0c0} {a0c1} {a0c2} {a1} {r}, F_spec_l1Cur_one__io0 a0c0 a0c1 a0c2 a1 = some r → PCalls Tryz.prog 80 [(.io, vB a0c0 a0c1 a0c2), (.sh, .int .i64 a1)] (Eo (.bool r.1) [vB r.2.1 r.2.2.1 r.2.2.2, .junk]) := by
 intro a0c0 a0c1 a0c2 a1 r hr
 apply pF 9 [0] [] [] [.tmp 4] hr cl80 Tryz.func80
 intro Φ hΦ hF g
 unfold F_spec_l1Cur_one__io0 at hF
 refine wW ?_
 refine wC hF [.io, .sh] c_spec_l1Cur_pick__io0 (fun z1 hF => ?_)
 cases hΦ _ (Rn_some hF)
 refine wW ?_
 try simp [go_sem, g]
noncomputable def F_spec_l1Cur_among__io0 (a0c0 : (List Int)) (a0c1 : Int) (a0c2 : Int) (a1 : (List Int)) : Option (Int × ((List Int) × Int × Int)) :=
 (F_spec_l1Cur_pick__io0 a0c0 a0c1 a0c2 (a1.length : Int)).bind fun z1 =>
 (ix a1 z1.1).bind fun x2 =>
 some (x2, (z1.2.1, z1.2.2.1, z1.2.2.2))
theorem c_spec_l1Cur_among__io0 : ∀ {a0c0} {a0c1} {a0c2} {a1} {r}, F_spec_l1Cur_among__io0 a0c0 a0c1 a0c2 a1 = some r → PCalls Tryz.prog 96 [(.io, vB a0c0 a0c1 a0c2), (.sh, vC a1)] (Eo (.int .i64 r.1) [vB r.2.1 r.2.2.1 r.2.2.2, .junk]) := by
 intro a0c0 a0c1 a0c2 a1 r hr
 apply pF 12 [0] [] [] [.tmp 4] hr cl96 Tryz.func96
 intro Φ hΦ hF g
 unfold F_spec_l1Cur_among__io0 at hF
 try simp [go_sem, g]
 try intros
 refine pw_wk ?_
 try simp [go_sem, g]
 try intros
 refine wC hF [.io, .sh] c_spec_l1Cur_pick__io0 (fun z1 hF => ?_)
 obtain ⟨x2, g, hF⟩ := Rx g hF
 cases hΦ _ (Rn_some hF)
 refine wW ?_
 try simp [go_sem, g]
noncomputable def F_spec_l1Cur_among__io0_mv1 (a0c0 : (List Int)) (a0c1 : Int) (a0c2 : Int) (a1 : (List Int)) : Option (Int × ((List Int) × Int × Int)) :=
 (F_spec_l1Cur_pick__io0 a0c0 a0c1 a0c2 (a1.length : Int)).bind fun z1 =>
 (ix a1 z1.1).bind fun x2 =>
 some (x2, (z1.2.1, z1.2.2.1, z1.2.2.2))
theorem c_spec_l1Cur_among__io0_mv1 : ∀ {a0c0} {a0c1} {a0c2} {a1} {r}, F_spec_l1Cur_among__io0_mv1 a0c0 a0c1 a0c2 a1 = some r → PCalls Tryz.prog 96 [(.io, vB a0c0 a0c1 a0c2), (.mv, vD a1)] (Eo (.int .i64 r.1) [vB r.2.1 r.2.2.1 r.2.2.2, .junk]) := by
 intro a0c0 a0c1 a0c2 a1 r hr
 apply pF 12 [0] [] [] [.tmp 4] hr cl96 Tryz.func96
 intro Φ hΦ hF g
 unfold F_spec_l1Cur_among__io0_mv1 at hF
 try simp [go_sem, g]
 try intros
 refine pw_wk ?_
 try simp [go_sem, g]
 try intros
 refine wC hF [.io, .sh] c_spec_l1Cur_pick__io0 (fun z1 hF => ?_)
 obtain ⟨x2, g, hF⟩ := Rx g hF
 cases hΦ _ (Rn_some hF)
 refine wW ?_
 try simp [go_sem, g]
noncomputable def F_spec_l1In (a0 : Int) (a1 : Int) (a2 : Int) : Option (Bool) :=
 ((if decide (a1 ≤ a0) = true then (
 some (decide (a0 ≤ a2))) else (
 some false) : Option (Bool)).bind fun x3 =>
 some x3)
theorem c_spec_l1In : ∀ {a0} {a1} {a2} {r}, F_spec_l1In a0 a1 a2 = some r → PCalls Tryz.prog 72 [(.sh, .int .i64 a0), (.sh, .int .i64 a1), (.sh, .int .i64 a2)] (Eo (.bool r) [.junk, .junk, .junk]) := by
 intro a0 a1 a2 r hr
 apply pF 15 [] [] [] [.tmp 6] hr cl72 Tryz.func72
 intro Φ hΦ hF g
 unfold F_spec_l1In at hF
 refine wW ?_
 refine wJ hF (fun x3 => [(6, .v (.bool x3))]) (fun x3 hF => ?_) fun _ hj1 hF => ?_
 ·cases hΦ _ (Rn_some hF)
  try simp [go_sem, g]
 ·refine wG hF (fun h4 hF => ?_) fun h4 hF => ?_
  ·try simp [go_sem, g, h4]
   exact wT (hj1 _) (Rn_some hF)
  ·try simp [go_sem, g, h4]
   exact wT (hj1 _) (Rn_some hF)
noncomputable def F_spec_nPrime (a0 : Int) : Option (Bool) :=
 if decide (a0 < 2) = true then (
 some false) else (
 ((wloop (σ := Int) (fun s5 =>
 if decide ((i64.wrap (s5 * s5)) ≤ a0) = true then (
 gd (s5 ≠ 0) <|
 if ((a0.tmod s5) == 0) = true then (
 some (.out (.inr false))) else (
 some (.go (i64.wrap (s5 + 1))))) else (
 some (.out (.inl ())))) 2 : Option (Unit ⊕ Bool)).bind (Sum.elim (fun x4 =>
 some true) some)))
theorem c_spec_nPrime : ∀ {a0} {r}, F_spec_nPrime a0 = some r → PCalls Tryz.prog 276 [(.sh, .int .i64 a0)] (Eo (.bool r) [.junk]) := by
 intro a0 r hr
 apply pF 17 [] [] [] [.tmp 2] hr cl276 Tryz.func276
 intro Φ hΦ hF g
 unfold F_spec_nPrime at hF
 iterate 2 refine wW ?_
 refine wI hF (fun h1 hF => ?_) (fun h1 hF => ?_)
 ·cases hΦ _ (Rn_some hF)
  refine wW ?_
  try simp [go_sem, g]
 ·iterate 2 refine wW ?_
  refine wS hF (fun x4 => []) (fun x4 hF => ?_) fun _ hj2 hr3 hF => ?_
  ·cases hΦ _ (Rn_some hF)
   refine wW ?_
   try simp [go_sem, g]
  ·refine wB ?_
   obtain ⟨b12, hb13, hψ9⟩ := hF
   refine pL hb13 (fun s5 => [(0, .v (.int .i64 a0)), (3, .v (.int .i64 s5))]) (fun s5 _ _ ho7 hg8 hF => ?_)
   refine wW ?_
   refine wI hF (fun h10 hF => ?_) (fun h10 hF => ?_)
   ·refine wW ?_
    refine wB ?_
    obtain ⟨g, hF⟩ := Rz g hF
    refine wK [0, 3, 16] ?_
    refine wI hF (fun h11 hF => ?_) (fun h11 hF => ?_)
    ·cases ho7 _ (Rn_some hF)
     cases hΦ _ (hr3 _ hψ9)
     refine wW ?_
     try simp [go_sem, g]
    ·refine wW ?_
     exact wT (hg8 _) (Rn_some hF)
   ·cases ho7 _ (Rn_some hF)
    exact wT (hj2 _) hψ9
noncomputable def F_spec_nPower (a0 : Int) (a1 : Int) (a2 : Int) : Option (Int) :=
 gd (a2 ≠ 0) <|
 ((wloop (σ := Int × Int × Int) (fun s4 =>
 if decide (0 < s4.2.1) = true then (
 ((if ((s4.2.1.tmod 2) == 1) = true then (
 gd (a2 ≠ 0) <|
 some ((i64.wrap (s4.2.2 * s4.1)).tmod a2)) else (
 some s4.2.2) : Option (Int)).bind fun x12 =>
 gd (a2 ≠ 0) <|
 some (.go ((i64.wrap (s4.1 * s4.1)).tmod a2, i64.wrap (s4.2.1.tdiv 2), x12)))) else (
 some (.out s4.2.2))) (a0, a1, (1 : Int).tmod a2) : Option (Int)).bind fun x3 =>
 some x3)
theorem c_spec_nPower : ∀ {a0} {a1} {a2} {r}, F_spec_nPower a0 a1 a2 = some r → PCalls Tryz.prog 277 [(.sh, .int .i64 a0), (.sh, .int .i64 a1), (.sh, .int .i64 a2)] (Eo (.int .i64 r) [.junk, .junk, .junk]) := by
 intro a0 a1 a2 r hr
 apply pF 28 [] [] [] [.tmp 6] hr cl277 Tryz.func277
 intro Φ hΦ hF g
 unfold F_spec_nPower at hF
 obtain ⟨g, hF⟩ := Rz g hF
 iterate 2 refine wW ?_
 refine wJ hF (fun x3 => [(7, .v (.int .i64 x3))]) (fun x3 hF => ?_) fun _ hj1 hF => ?_
 ·cases hΦ _ (Rn_some hF)
  refine wW ?_
  try simp [go_sem, g]
 ·refine wB ?_
  obtain ⟨b14, hb15, hψ8⟩ := hF
  refine pL hb15 (fun s4 => [(0, .v (.int .i64 s4.1)), (1, .v (.int .i64 s4.2.1)), (2, .v (.int .i64 a2)), (7, .v (.int .i64 s4.2.2))]) (fun s4 _ _ ho6 hg7 hF => ?_)
  refine wW ?_
  refine wI hF (fun h9 hF => ?_) (fun h9 hF => ?_)
  ·refine wW ?_
   refine wB ?_
   have g := Ld g 2
   refine wW ?_
   refine wJ hF (fun x12 => [(0, .v (.int .i64 s4.1)), (1, .v (.int .i64 s4.2.1)), (2, .v (.int .i64 a2)), (7, .v (.int .i64 x12))]) (fun x12 hF => ?_) fun _ hj10 hF => ?_
   ·obtain ⟨g, hF⟩ := Rz g hF
    refine wK [0, 1, 2, 7] ?_
    exact wT (hg7 _) (Rn_some hF)
   ·refine wI hF (fun h13 hF => ?_) (fun h13 hF => ?_)
    ·obtain ⟨g, hF⟩ := Rz g hF
     exact wT (hj10 _) (Rn_some hF)
    ·exact wT (hj10 _) (Rn_some hF)
  ·cases ho6 _ (Rn_some hF)
   exact wT (hj1 _) hψ8
noncomputable def F_spec_MakeGroup (a0 : Int) : Option (Group × Bool) :=
 (((F_spec_l1In a0 2 1000000).bind fun z4 =>
 if (!z4) = true then (
 some true) else (
 (F_spec_nPrime a0).bind fun z6 =>
 some (!z6)) : Option (Bool)).bind fun x3 =>
 if x3 = true then (
 some ((Group.mk 0 0 0), false)) else (
 ((wloop (σ := Int) (fun s11 =>
 if decide (s11 ≤ 2000000000) = true then (
 (F_spec_nPrime s11).bind fun z17 =>
 if (!z17) = true then (
 some (.go (i64.wrap (s11 + a0)))) else (
 ((wloop (σ := Int) (fun s22 =>
 gd (a0 ≠ 0) <|
 (F_spec_nPower s22 (i64.wrap ((i64.wrap (s11 - 1)).tdiv a0)) s11).bind fun z27 =>
 if (z27 == 1) = true then (
 some (.go (i64.wrap (s22 + 1)))) else (
 some (.out s22))) 2 : Option (Int)).bind fun x21 =>
 gd (a0 ≠ 0) <|
 (F_spec_nPower x21 (i64.wrap ((i64.wrap (s11 - 1)).tdiv a0)) s11).bind fun z31 =>
 some (.out (.inr ((Group.mk s11 a0 z31), true)))))) else (
 some (.out (.inl ())))) (i64.wrap (a0 + 1)) : Option (Unit ⊕ (Group × Bool))).bind (Sum.elim (fun x10 =>
 some ((Group.mk 0 0 0), false)) some))))
theorem c_spec_MakeGroup : ∀ {a0} {r}, F_spec_MakeGroup a0 = some r → PCalls Tryz.prog 178 [(.sh, .int .i64 a0)] (Eo (.tup [vE r.1, .bool r.2]) [.junk]) := by
 intro a0 r hr
 apply pF 46 [] [] [] [.cell 2 24, .tmp 3] hr cl178 Tryz.func178
 intro Φ hΦ hF g
 unfold F_spec_MakeGroup at hF
 refine wW ?_
 refine wJ hF (fun x3 => [(0, .v (.int .i64 a0)), (2, .bl [.int .i64 0, .int .i64 0, .int .i64 0]), (13, .v (.bool x3))]) (fun x3 hF => ?_) fun _ hj1 hF => ?_
 ·refine wI hF (fun h7 hF => ?_) (fun h7 hF => ?_)
  ·cases hΦ _ (Rn_some hF)
   refine wW ?_
   try simp [go_sem, g]
  ·iterate 2 refine wW ?_
   refine wS hF (fun x10 => [(2, .bl [.int .i64 0, .int .i64 0, .int .i64 0])]) (fun x10 hF => ?_) fun _ hj8 hr9 hF => ?_
   ·cases hΦ _ (Rn_some hF)
    refine wW ?_
    try simp [go_sem, g]
   ·refine wB ?_
    obtain ⟨b32, hb33, hψ15⟩ := hF
    refine pL hb33 (fun s11 => [(0, .v (.int .i64 a0)), (2, .bl [.int .i64 0, .int .i64 0, .int .i64 0]), (4, .v (.int .i64 s11))]) (fun s11 _ _ ho13 hg14 hF => ?_)
    refine wW ?_
    refine wI hF (fun h16 hF => ?_) (fun h16 hF => ?_)
    ·refine wW ?_
     refine wB ?_
     refine wC hF [.sh] c_spec_nPrime (fun z17 hF => ?_)
     refine wK [0, 2, 4, 24] ?_
     refine wI hF (fun h18 hF => ?_) (fun h18 hF => ?_)
     ·refine wW ?_
      exact wT (hg14 _) (Rn_some hF)
     ·iterate 2 refine wW ?_
      refine wJ hF (fun x21 => [(0, .v (.int .i64 a0)), (2, .bl [.int .i64 0, .int .i64 0, .int .i64 0]), (4, .v (.int .i64 s11)), (5, .v (.int .i64 x21))]) (fun x21 hF => ?_) fun _ hj19 hF => ?_
      ·obtain ⟨g, hF⟩ := Rz g hF
       refine wC hF [.sh, .sh, .sh] c_spec_nPower (fun z31 hF => ?_)
       refine wK [2, 3] ?_
       cases ho13 _ (Rn_some hF)
       cases hΦ _ (hr9 _ hψ15)
       try simp [go_sem, g]
      ·refine wB ?_
       obtain ⟨b29, hb30, hψ26⟩ := hF
       refine pL hb30 (fun s22 => [(0, .v (.int .i64 a0)), (2, .bl [.int .i64 0, .int .i64 0, .int .i64 0]), (4, .v (.int .i64 s11)), (5, .v (.int .i64 s22))]) (fun s22 _ _ ho24 hg25 hF => ?_)
       obtain ⟨g, hF⟩ := Rz g hF
       refine wC hF [.sh, .sh, .sh] c_spec_nPower (fun z27 hF => ?_)
       refine wW ?_
       refine wI hF (fun h28 hF => ?_) (fun h28 hF => ?_)
       ·refine wW ?_
        refine wB ?_
        exact wT (hg25 _) (Rn_some hF)
       ·cases ho24 _ (Rn_some hF)
        exact wT (hj19 _) hψ26
    ·cases ho13 _ (Rn_some hF)
     exact wT (hj8 _) hψ15
 ·refine wC hF [.sh, .sh, .sh] c_spec_l1In (fun z4 hF => ?_)
  refine wG hF (fun h5 hF => ?_) fun h5 hF => ?_
  ·try simp [go_sem, g, h5]
   exact wT (hj1 _) (Rn_some hF)
  ·try simp [go_sem, g, h5]
   refine wC hF [.sh] c_spec_nPrime (fun z6 hF => ?_)
   try simp [go_sem, g, h5]
   exact wT (hj1 _) (Rn_some hF)
noncomputable def F_spec_l1Cur_tiny__io0 (a0c0 : (List Int)) (a0c1 : Int) (a0c2 : Int) : Option (Group × ((List Int) × Int × Int)) :=
 (F_spec_l1Cur_among__io0_mv1 a0c0 a0c1 a0c2 [3, 5, 5, 7, 11, 11, 13, 23]).bind fun z1 =>
 (F_spec_MakeGroup z1.1).bind fun z2 =>
 some (z2.1, (z1.2.1, z1.2.2.1, z1.2.2.2))
theorem c_spec_l1Cur_tiny__io0 : ∀ {a0c0} {a0c1} {a0c2} {r}, F_spec_l1Cur_tiny__io0 a0c0 a0c1 a0c2 = some r → PCalls Tryz.prog 299 [(.io, vB a0c0 a0c1 a0c2)] (Eo (vE r.1) [vB r.2.1 r.2.2.1 r.2.2.2]) := by
 intro a0c0 a0c1 a0c2 r hr
 apply pF 13 [0] [] [] [.cell 2 24] hr cl299 Tryz.func299
 intro Φ hΦ hF g
 unfold F_spec_l1Cur_tiny__io0 at hF
 refine wW ?_
 refine wC hF [.io, .mv] c_spec_l1Cur_among__io0_mv1 (fun z1 hF => ?_)
 refine wC hF [.sh] c_spec_MakeGroup (fun z2 hF => ?_)
 refine wK [0, 2, 3] ?_
 cases hΦ _ (Rn_some hF)
 refine wW ?_
 try simp [go_sem, g]
noncomputable def F_spec_nMod (a0 : Int) (a1 : Int) : Option (Int) :=
 gd (a1 ≠ 0) <|
 gd (a1 ≠ 0) <|
 some ((i64.wrap ((a0.tmod a1) + a1)).tmod a1)
theorem c_spec_nMod : ∀ {a0} {a1} {r}, F_spec_nMod a0 a1 = some r → PCalls Tryz.prog 253 [(.sh, .int .i64 a0), (.sh, .int .i64 a1)] (Eo (.int .i64 r) [.junk, .junk]) := by
 intro a0 a1 r hr
 apply pF 12 [] [] [] [.tmp 4] hr cl253 Tryz.func253
 intro Φ hΦ hF g
 unfold F_spec_nMod at hF
 obtain ⟨g, hF⟩ := Rz g hF
 obtain ⟨g, hF⟩ := Rz g hF
 cases hΦ _ (Rn_some hF)
 iterate 2 refine wW ?_
 try simp [go_sem, g]
@[go_sem] def D189_1 : List DE := [d0 0 [1], d0 1 [2], d1 2 [3] 3, d2 3 [9] 3 9, d1 5 [3] 3, d2 6 [12] 3 12, d3 4 [8, 10], d3 7 [7, 11, 13], d0 8 [14]]
noncomputable def F_spec_gExp (a0 : Group) (a1 : Int) (a2 : Int) : Option (Int) :=
 (F_spec_nMod a2 a0.Q).bind fun z1 =>
 (F_spec_nPower a1 z1 a0.P).bind fun z2 =>
 some z2
theorem c_spec_gExp : ∀ {a0} {a1} {a2} {r}, F_spec_gExp a0 a1 a2 = some r → PCalls Tryz.prog 189 [(.sh, vE a0), (.sh, .int .i64 a1), (.sh, .int .i64 a2)] (Eo (.int .i64 r) [.junk, .junk, .junk]) := by
 intro a0 a1 a2 r hr
 apply pF 15 [] [] [] [.tmp 6] hr cl189 Tryz.func189
 intro Φ hΦ hF g
 unfold F_spec_gExp at hF
 refine wW ?_
 refine wX D189_1 follows ?_
 refine wC hF [.sh, .sh] c_spec_nMod (fun z1 hF => ?_)
 refine wC hF [.sh, .sh, .sh] c_spec_nPower (fun z2 hF => ?_)
 refine wK [6] ?_
 cases hΦ _ (Rn_some hF)
 try simp [go_sem, g]
@[go_sem] def D216_8 : List DE := [d2 0 [5] 5 5, d1 1 [5] 5, d2 2 [24] 5 24, d0 3 [0], d1 4 [5] 5, d2 5 [27] 5 27, d0 6 [28], d3 7 [26, 29], d0 8 [30], d3 9 [23, 25, 31], d1 10 [5] 5, d2 11 [33, 32] 5 33]
noncomputable def F_spec_l1Cur_group__io0 (a0c0 : (List Int)) (a0c1 : Int) (a0c2 : Int) : Option (Group × ((List Int) × Int × Int)) :=
 (F_spec_l1Cur_pick__io0 a0c0 a0c1 a0c2 6).bind fun z1 =>
 if (z1.1 == 0) = true then (
 some ((Group.mk 1000000007 500000003 4), (z1.2.1, z1.2.2.1, z1.2.2.2))) else (
 if (z1.1 == 1) = true then (
 (F_spec_l1Cur_among__io0_mv1 z1.2.1 z1.2.2.1 z1.2.2.2 [101, 1009, 1019, 65537, 999983]).bind fun z4 =>
 (F_spec_MakeGroup z4.1).bind fun z5 =>
 some (z5.1, (z4.2.1, z4.2.2.1, z4.2.2.2))) else (
 (F_spec_l1Cur_tiny__io0 z1.2.1 z1.2.2.1 z1.2.2.2).bind fun z6 =>
 (F_spec_l1Cur_pick__io0 z6.2.1 z6.2.2.1 z6.2.2.2 (i64.wrap (z6.1.Q - 1))).bind fun z7 =>
 (F_spec_gExp z6.1 z6.1.G (i64.wrap (1 + z7.1))).bind fun z8 =>
 some ((Group.mk z6.1.P z6.1.Q z8), (z7.2.1, z7.2.2.1, z7.2.2.2))))
theorem c_spec_l1Cur_group__io0 : ∀ {a0c0} {a0c1} {a0c2} {r}, F_spec_l1Cur_group__io0 a0c0 a0c1 a0c2 = some r → PCalls Tryz.prog 216 [(.io, vB a0c0 a0c1 a0c2)] (Eo (vE r.1) [vB r.2.1 r.2.2.1 r.2.2.2]) := by
 intro a0c0 a0c1 a0c2 r hr
 apply pF 35 [0] [] [] [.cell 2 24] hr cl216 Tryz.func216
 intro Φ hΦ hF g
 unfold F_spec_l1Cur_group__io0 at hF
 refine wW ?_
 refine wC hF [.io, .sh] c_spec_l1Cur_pick__io0 (fun z1 hF => ?_)
 refine wW ?_
 refine wB ?_
 refine wW ?_
 refine wI hF (fun h2 hF => ?_) (fun h2 hF => ?_)
 ·cases hΦ _ (Rn_some hF)
  refine wW ?_
  try simp [go_sem, g]
 ·refine wW ?_
  refine wI hF (fun h3 hF => ?_) (fun h3 hF => ?_)
  ·refine wC hF [.io, .mv] c_spec_l1Cur_among__io0_mv1 (fun z4 hF => ?_)
   refine wC hF [.sh] c_spec_MakeGroup (fun z5 hF => ?_)
   refine wK [0, 2, 3] ?_
   cases hΦ _ (Rn_some hF)
   refine wW ?_
   try simp [go_sem, g]
  ·refine wW ?_
   refine wC hF [.io] c_spec_l1Cur_tiny__io0 (fun z6 hF => ?_)
   refine wK [0, 2, 5] ?_
   refine wX D216_8 follows ?_
   refine wC hF [.io, .sh] c_spec_l1Cur_pick__io0 (fun z7 hF => ?_)
   refine wC hF [.sh, .sh, .sh] c_spec_gExp (fun z8 hF => ?_)
   refine wK [0, 2, 5] ?_
   cases hΦ _ (Rn_some hF)
   refine wW ?_
   try simp [go_sem, g]
noncomputable def F_spec_l1Cur_anyGroup__io0 (a0c0 : (List Int)) (a0c1 : Int) (a0c2 : Int) : Option (Group × ((List Int) × Int × Int)) :=
 (F_spec_l1Cur_group__io0 a0c0 a0c1 a0c2).bind fun z1 =>
 (F_spec_l1Cur_pick__io0 z1.2.1 z1.2.2.1 z1.2.2.2 24).bind fun z2 =>
 ((if (z2.1 == 0) = true then (
 (F_spec_l1Cur_among__io0_mv1 z2.2.1 z2.2.2.1 z2.2.2.2 [0, i64.wrap (z1.1.P + 2), 4, (-7)]).bind fun z7 =>
 some ((z7.2.1, z7.2.2.1, z7.2.2.2), z7.1, z1.1.Q, z1.1.G)) else (
 if (z2.1 == 1) = true then (
 (F_spec_l1Cur_among__io0_mv1 z2.2.1 z2.2.2.1 z2.2.2.2 [0, 1, i64.wrap (z1.1.Q + 1), i64.wrap (z1.1.P - 1)]).bind fun z9 =>
 some ((z9.2.1, z9.2.2.1, z9.2.2.2), z1.1.P, z9.1, z1.1.G)) else (
 if (z2.1 == 2) = true then (
 (F_spec_l1Cur_among__io0_mv1 z2.2.1 z2.2.2.1 z2.2.2.2 [0, 1, i64.wrap (z1.1.P - 1), z1.1.P, i64.wrap (z1.1.G + 1)]).bind fun z11 =>
 some ((z11.2.1, z11.2.2.1, z11.2.2.2), z1.1.P, z1.1.Q, z11.1)) else (
 some ((z2.2.1, z2.2.2.1, z2.2.2.2), z1.1.P, z1.1.Q, z1.1.G)))) : Option ((((List Int) × Int × Int) × Int × Int × Int))).bind fun x5 =>
 some ((Group.mk x5.2.1 x5.2.2.1 x5.2.2.2), (x5.1.1, x5.1.2.1, x5.1.2.2)))
theorem c_spec_l1Cur_anyGroup__io0 : ∀ {a0c0} {a0c1} {a0c2} {r}, F_spec_l1Cur_anyGroup__io0 a0c0 a0c1 a0c2 = some r → PCalls Tryz.prog 168 [(.io, vB a0c0 a0c1 a0c2)] (Eo (vE r.1) [vB r.2.1 r.2.2.1 r.2.2.2]) := by
 intro a0c0 a0c1 a0c2 r hr
 apply pF 44 [0] [] [] [.cell 2 24] hr cl168 Tryz.func168
 intro Φ hΦ hF g
 unfold F_spec_l1Cur_anyGroup__io0 at hF
 refine wW ?_
 refine wC hF [.io] c_spec_l1Cur_group__io0 (fun z1 hF => ?_)
 refine wW ?_
 refine wC hF [.io, .sh] c_spec_l1Cur_pick__io0 (fun z2 hF => ?_)
 refine wW ?_
 refine wJ hF (fun x5 => [(0, .v (vB x5.1.1 x5.1.2.1 x5.1.2.2)), (2, .bl [.int .i64 0, .int .i64 0, .int .i64 0]), (3, .bl [.int .i64 x5.2.1, .int .i64 x5.2.2.1, .int .i64 x5.2.2.2])]) (fun x5 hF => ?_) fun _ hj3 hF => ?_
 ·cases hΦ _ (Rn_some hF)
  refine wW ?_
  try simp [go_sem, g]
 ·refine wB ?_
  refine wW ?_
  refine wI hF (fun h6 hF => ?_) (fun h6 hF => ?_)
  ·refine wC hF [.io, .mv] c_spec_l1Cur_among__io0_mv1 (fun z7 hF => ?_)
   exact wT (hj3 _) (Rn_some hF)
  ·refine wK [0, 2, 3, 7, 17] ?_
   refine wI hF (fun h8 hF => ?_) (fun h8 hF => ?_)
   ·refine wC hF [.io, .mv] c_spec_l1Cur_among__io0_mv1 (fun z9 hF => ?_)
    exact wT (hj3 _) (Rn_some hF)
   ·refine wW ?_
    refine wI hF (fun h10 hF => ?_) (fun h10 hF => ?_)
    ·refine wC hF [.io, .mv] c_spec_l1Cur_among__io0_mv1 (fun z11 hF => ?_)
     exact wT (hj3 _) (Rn_some hF)
    ·exact wT (hj3 _) (Rn_some hF)
noncomputable def F_spec_l1Cur_shared__io0 (a0c0 : (List Int)) (a0c1 : Int) (a0c2 : Int) : Option (Group × ((List Int) × Int × Int)) :=
 (F_spec_l1Cur_one__io0 a0c0 a0c1 a0c2 16).bind fun z1 =>
 if z1.1 = true then (
 (F_spec_l1Cur_anyGroup__io0 z1.2.1 z1.2.2.1 z1.2.2.2).bind fun z3 =>
 some (z3.1, (z3.2.1, z3.2.2.1, z3.2.2.2))) else (
 (F_spec_l1Cur_among__io0_mv1 z1.2.1 z1.2.2.1 z1.2.2.2 [11, 11, 13, 23, 23, 101, 1019]).bind fun z4 =>
 (F_spec_MakeGroup z4.1).bind fun z5 =>
 some (z5.1, (z4.2.1, z4.2.2.1, z4.2.2.2)))
theorem c_spec_l1Cur_shared__io0 : ∀ {a0c0} {a0c1} {a0c2} {r}, F_spec_l1Cur_shared__io0 a0c0 a0c1 a0c2 = some r → PCalls Tryz.prog 60 [(.io, vB a0c0 a0c1 a0c2)] (Eo (vE r.1) [vB r.2.1 r.2.2.1 r.2.2.2]) := by
 intro a0c0 a0c1 a0c2 r hr
 apply pF 17 [0] [] [] [.cell 2 24] hr cl60 Tryz.func60
 intro Φ hΦ hF g
 unfold F_spec_l1Cur_shared__io0 at hF
 refine wW ?_
 refine wC hF [.io, .sh] c_spec_l1Cur_one__io0 (fun z1 hF => ?_)
 refine wW ?_
 refine wI hF (fun h2 hF => ?_) (fun h2 hF => ?_)
 ·refine wC hF [.io] c_spec_l1Cur_anyGroup__io0 (fun z3 hF => ?_)
  cases hΦ _ (Rn_some hF)
  refine wW ?_
  try simp [go_sem, g]
 ·refine wW ?_
  refine wC hF [.io, .mv] c_spec_l1Cur_among__io0_mv1 (fun z4 hF => ?_)
  refine wC hF [.sh] c_spec_MakeGroup (fun z5 hF => ?_)
  refine wK [0, 2, 3] ?_
  cases hΦ _ (Rn_some hF)
  refine wW ?_
  try simp [go_sem, g]
@[go_sem] def D159_3 : List DE := [d0 0 [0], d0 3 [0], d1 6 [3] 3, d2 7 [14] 3 14, d3 1 [8], d0 2 [9], d3 4 [11], d0 5 [10, 12], d0 8 [13, 15], d0 9 [16]]
noncomputable def F_spec_l1Cur_expo__io0 (a0c0 : (List Int)) (a0c1 : Int) (a0c2 : Int) (a1 : Group) : Option (Int × ((List Int) × Int × Int)) :=
 if decide (a1.Q < 2) = true then (
 some (0, (a0c0, a0c1, a0c2))) else (
 (F_spec_l1Cur_pick__io0 a0c0 a0c1 a0c2 60000).bind fun z2 =>
 (F_spec_l1Cur_pick__io0 z2.2.1 z2.2.2.1 z2.2.2.2 60000).bind fun z3 =>
 gd (a1.Q ≠ 0) <|
 some ((i64.wrap ((i64.wrap (z2.1 * 60000)) + z3.1)).tmod a1.Q, (z3.2.1, z3.2.2.1, z3.2.2.2)))
theorem c_spec_l1Cur_expo__io0 : ∀ {a0c0} {a0c1} {a0c2} {a1} {r}, F_spec_l1Cur_expo__io0 a0c0 a0c1 a0c2 a1 = some r → PCalls Tryz.prog 159 [(.io, vB a0c0 a0c1 a0c2), (.sh, vE a1)] (Eo (.int .i64 r.1) [vB r.2.1 r.2.2.1 r.2.2.2, .junk]) := by
 intro a0c0 a0c1 a0c2 a1 r hr
 apply pF 17 [0] [] [] [.tmp 4] hr cl159 Tryz.func159
 intro Φ hΦ hF g
 unfold F_spec_l1Cur_expo__io0 at hF
 iterate 2 refine wW ?_
 refine wI hF (fun h1 hF => ?_) (fun h1 hF => ?_)
 ·cases hΦ _ (Rn_some hF)
  refine wW ?_
  try simp [go_sem, g]
 ·refine wW ?_
  refine wX D159_3 follows ?_
  refine wC hF [.io, .sh] c_spec_l1Cur_pick__io0 (fun z2 hF => ?_)
  refine wC hF [.io, .sh] c_spec_l1Cur_pick__io0 (fun z3 hF => ?_)
  obtain ⟨g, hF⟩ := Rz g hF
  refine wK [0, 4] ?_
  cases hΦ _ (Rn_some hF)
  try simp [go_sem, g]
noncomputable def F_spec_l1Cur_coins__io0 (a0c0 : (List Int)) (a0c1 : Int) (a0c2 : Int) (a1 : Group) (a2 : Int) : Option ((List Int) × ((List Int) × Int × Int)) :=
 ((wloop (σ := ((List Int) × Int × Int) × Int × (List Int)) (fun s11 =>
 if decide (0 < s11.2.1) = true then (
 (F_spec_l1Cur_expo__io0 s11.1.1 s11.1.2.1 s11.1.2.2 a1).bind fun z17 =>
 gd ((s11.2.2.length + 1) * 8 ≤ 140737488355328 ∧ s11.2.2.length + 1 ≤ 4611686018427387904) <|
 some (.go ((z17.2.1, z17.2.2.1, z17.2.2.2), i64.wrap (s11.2.1 - 1), s11.2.2 ++ [z17.1]))) else (
 some (.out ((s11.1.1, s11.1.2.1, s11.1.2.2), s11.2.2)))) ((a0c0, a0c1, a0c2), a2, []) : Option ((((List Int) × Int × Int) × (List Int)))).bind fun x3 =>
 some (x3.2, (x3.1.1, x3.1.2.1, x3.1.2.2)))
theorem c_spec_l1Cur_coins__io0 : ∀ {a0c0} {a0c1} {a0c2} {a1} {a2} {r}, F_spec_l1Cur_coins__io0 a0c0 a0c1 a0c2 a1 a2 = some r → PCalls Tryz.prog 180 [(.io, vB a0c0 a0c1 a0c2), (.sh, vE a1), (.sh, .int .i64 a2)] (Eo (vD r.1) [vB r.2.1 r.2.2.1 r.2.2.2, .junk, .junk]) := by
 intro a0c0 a0c1 a0c2 a1 a2 r hr
 apply pF 19 [0] [] [] [.tmp 6] hr cl180 Tryz.func180
 intro Φ hΦ hF g
 unfold F_spec_l1Cur_coins__io0 at hF
 iterate 2 refine wW ?_
 refine wJ hF (fun x3 => [(0, .v (vB x3.1.1 x3.1.2.1 x3.1.2.2)), (7, .v (vD x3.2))]) (fun x3 hF => ?_) fun _ hj1 hF => ?_
 ·cases hΦ _ (Rn_some hF)
  refine wW ?_
  try simp [go_sem, g]
 ·refine wB ?_
  obtain ⟨b18, hb19, hψ15⟩ := hF
  refine pL hb19 (fun s11 => [(0, .v (vB s11.1.1 s11.1.2.1 s11.1.2.2)), (2, .v (.int .i64 s11.2.1)), (4, .bl [.int .i64 a1.P, .int .i64 a1.Q, .int .i64 a1.G]), (7, .v (vD s11.2.2))]) (fun s11 _ _ ho13 hg14 hF => ?_)
  refine wW ?_
  refine wI hF (fun h16 hF => ?_) (fun h16 hF => ?_)
  ·refine wW ?_
   refine wB ?_
   refine wC hF [.io, .sh] c_spec_l1Cur_expo__io0 (fun z17 hF => ?_)
   obtain ⟨g, hF⟩ := Rg g hF
   refine wK [0, 2, 4, 7] ?_
   exact wT (hg14 _) (Rn_some hF)
  ·cases ho13 _ (Rn_some hF)
   exact wT (hj1 _) hψ15
noncomputable def F_spec_l1Cur_polynomials__io0_flat (a0c0 : (List Int)) (a0c1 : Int) (a0c2 : Int) (a1 : Group) (a2 : Int) (a3 : Int) : Option ((List (List Int)) × ((List Int) × Int × Int)) :=
 ((wloop (σ := ((List Int) × Int × Int) × Int × (List (List Int))) (fun s11 =>
 if decide (0 < s11.2.1) = true then (
 (F_spec_l1Cur_coins__io0 s11.1.1 s11.1.2.1 s11.1.2.2 a1 a3).bind fun z17 =>
 gd ((s11.2.2.length + 1) * 24 ≤ 140737488355328 ∧ s11.2.2.length + 1 ≤ 4611686018427387904) <|
 some (.go ((z17.2.1, z17.2.2.1, z17.2.2.2), i64.wrap (s11.2.1 - 1), s11.2.2 ++ [z17.1]))) else (
 some (.out ((s11.1.1, s11.1.2.1, s11.1.2.2), s11.2.2)))) ((a0c0, a0c1, a0c2), a2, []) : Option ((((List Int) × Int × Int) × (List (List Int))))).bind fun x3 =>
 some (x3.2, (x3.1.1, x3.1.2.1, x3.1.2.2)))
theorem c_spec_l1Cur_polynomials__io0_flat : ∀ {a0c0} {a0c1} {a0c2} {a1} {a2} {a3} {r}, F_spec_l1Cur_polynomials__io0_flat a0c0 a0c1 a0c2 a1 a2 a3 = some r → PCalls Tryz.prog 62 [(.io, vB a0c0 a0c1 a0c2), (.sh, vE a1), (.sh, .int .i64 a2), (.sh, .int .i64 a3)] (Eo (vF r.1) [vB r.2.1 r.2.2.1 r.2.2.2, .junk, .junk, .junk]) := by
 intro a0c0 a0c1 a0c2 a1 a2 a3 r hr
 apply pF 22 [0] [18] [] [.tmp 8] hr cl62 Tryz.func62
 intro Φ hΦ hF g
 unfold F_spec_l1Cur_polynomials__io0_flat at hF
 iterate 2 refine wW ?_
 refine wJ hF (fun x3 => [(0, .v (vB x3.1.1 x3.1.2.1 x3.1.2.2)), (9, .v (vF x3.2))]) (fun x3 hF => ?_) fun _ hj1 hF => ?_
 ·cases hΦ _ (Rn_some hF)
  refine wW ?_
  try simp [go_sem, g]
 ·refine wB ?_
  obtain ⟨b18, hb19, hψ15⟩ := hF
  refine pL hb19 (fun s11 => [(0, .v (vB s11.1.1 s11.1.2.1 s11.1.2.2)), (2, .v (.int .i64 s11.2.1)), (3, .v (.int .i64 a3)), (5, .bl [.int .i64 a1.P, .int .i64 a1.Q, .int .i64 a1.G]), (9, .v (vF s11.2.2))]) (fun s11 _ _ ho13 hg14 hF => ?_)
  refine wW ?_
  refine wI hF (fun h16 hF => ?_) (fun h16 hF => ?_)
  ·refine wW ?_
   refine wB ?_
   refine wC hF [.io, .sh, .sh] c_spec_l1Cur_coins__io0 (fun z17 hF => ?_)
   obtain ⟨g, hF⟩ := Rg g hF
   refine wK [0, 2, 3, 5, 9] ?_
   exact wT (hg14 _) (Rn_some hF)
  ·cases ho13 _ (Rn_some hF)
   exact wT (hj1 _) hψ15
@[go_sem] def D63_10 : List DE := [d0 0 [7], d0 1 [0], d0 2 [2], d0 4 [0], d1 5 [4] 4, d2 6 [34] 4 34, d0 7 [35], d3 3 [30, 31], ⟨8, [33, 36], [], none, true, true, true⟩, d0 9 [29, 32], d0 10 [38, 37]]
noncomputable def F_spec_l1Cur_anyCoins__io0 (a0c0 : (List Int)) (a0c1 : Int) (a0c2 : Int) (a1 : Group) (a2 : Int) : Option ((List Int) × ((List Int) × Int × Int)) :=
 (F_spec_l1Cur_coins__io0 a0c0 a0c1 a0c2 a1 a2).bind fun z1 =>
 (F_spec_l1Cur_pick__io0 z1.2.1 z1.2.2.1 z1.2.2.2 30).bind fun z2 =>
 ((if (z2.1 == 0) = true then (
 gd ((z1.1.length + 1) * 8 ≤ 140737488355328 ∧ z1.1.length + 1 ≤ 4611686018427387904) <|
 some (.inr (z1.1 ++ [0], (z2.2.1, z2.2.2.1, z2.2.2.2)))) else (
 if (z2.1 == 1) = true then (
 if decide (0 < a2) = true then (
 gd (1 ≤ z1.1.length ∧ z1.1.length ≤ z1.1.length) <|
 some (.inr ((z1.1.take z1.1.length).drop 1, (z2.2.1, z2.2.2.1, z2.2.2.2)))) else (
 some (.inl ((z2.2.1, z2.2.2.1, z2.2.2.2), z1.1)))) else (
 if (z2.1 == 2) = true then (
 if decide (0 < a2) = true then (
 (F_spec_l1Cur_pick__io0 z2.2.1 z2.2.2.1 z2.2.2.2 a2).bind fun z11 =>
 (F_spec_l1Cur_among__io0_mv1 z11.2.1 z11.2.2.1 z11.2.2.2 [(-1), a1.Q]).bind fun z12 =>
 (ix z1.1 z11.1).bind fun x13 =>
 some (.inl ((z12.2.1, z12.2.2.1, z12.2.2.2), z1.1.set z11.1.toNat z12.1))) else (
 some (.inl ((z2.2.1, z2.2.2.1, z2.2.2.2), z1.1)))) else (
 some (.inl ((z2.2.1, z2.2.2.1, z2.2.2.2), z1.1))))) : Option ((((List Int) × Int × Int) × (List Int)) ⊕ ((List Int) × ((List Int) × Int × Int)))).bind (Sum.elim (fun x5 =>
 some (x5.2, (x5.1.1, x5.1.2.1, x5.1.2.2))) some))
theorem c_spec_l1Cur_anyCoins__io0 : ∀ {a0c0} {a0c1} {a0c2} {a1} {a2} {r}, F_spec_l1Cur_anyCoins__io0 a0c0 a0c1 a0c2 a1 a2 = some r → PCalls Tryz.prog 63 [(.io, vB a0c0 a0c1 a0c2), (.sh, vE a1), (.sh, .int .i64 a2)] (Eo (vC r.1) [vB r.2.1 r.2.2.1 r.2.2.2, .junk, .junk]) := by
 intro a0c0 a0c1 a0c2 a1 a2 r hr
 apply pF 40 [0] [6] [] [.tmp 6] hr cl63 Tryz.func63
 intro Φ hΦ hF g
 unfold F_spec_l1Cur_anyCoins__io0 at hF
 refine wW ?_
 refine wC hF [.io, .sh, .sh] c_spec_l1Cur_coins__io0 (fun z1 hF => ?_)
 refine wW ?_
 refine wC hF [.io, .sh] c_spec_l1Cur_pick__io0 (fun z2 hF => ?_)
 refine wW ?_
 refine wS hF (fun x5 => [(0, .v (vB x5.1.1 x5.1.2.1 x5.1.2.2)), (7, .v (vD x5.2))]) (fun x5 hF => ?_) fun _ hj3 hr4 hF => ?_
 ·refine wK [0, 6] ?_
  cases hΦ _ (Rn_some hF)
  try simp [go_sem, g]
 ·refine wB ?_
  refine wK [0, 2, 4, 7, 13, 14] ?_
  refine wI hF (fun h6 hF => ?_) (fun h6 hF => ?_)
  ·obtain ⟨g, hF⟩ := Rg g hF
   cases hΦ _ (hr4 _ (Rn_some hF))
   refine wW ?_
   try simp [go_sem, g]
  ·refine wW ?_
   refine wI hF (fun h7 hF => ?_) (fun h7 hF => ?_)
   ·refine wW ?_
    refine wI hF (fun h8 hF => ?_) (fun h8 hF => ?_)
    ·obtain ⟨g, hF⟩ := Rg g hF
     cases hΦ _ (hr4 _ (Rn_some hF))
     refine wW ?_
     try simp [go_sem, g]
    ·exact wT (hj3 _) (Rn_some hF)
   ·refine wW ?_
    refine wI hF (fun h9 hF => ?_) (fun h9 hF => ?_)
    ·refine wW ?_
     refine wI hF (fun h10 hF => ?_) (fun h10 hF => ?_)
     ·refine wX D63_10 follows ?_
      refine wC hF [.io, .sh] c_spec_l1Cur_pick__io0 (fun z11 hF => ?_)
      refine wC hF [.io, .mv] c_spec_l1Cur_among__io0_mv1 (fun z12 hF => ?_)
      obtain ⟨x13, g, hF⟩ := Rx g hF
      exact wT (hj3 _) (Rn_some hF)
     ·exact wT (hj3 _) (Rn_some hF)
    ·exact wT (hj3 _) (Rn_some hF)
noncomputable def F_spec_l1Cur_anyExpo__io0 (a0c0 : (List Int)) (a0c1 : Int) (a0c2 : Int) (a1 : Group) : Option (Int × ((List Int) × Int × Int)) :=
 (F_spec_l1Cur_one__io0 a0c0 a0c1 a0c2 24).bind fun z1 =>
 if z1.1 = true then (
 (F_spec_l1Cur_among__io0_mv1 z1.2.1 z1.2.2.1 z1.2.2.2 [a1.Q, (-1), i64.wrap (a1.Q - 1)]).bind fun z3 =>
 some (z3.1, (z3.2.1, z3.2.2.1, z3.2.2.2))) else (
 (F_spec_l1Cur_expo__io0 z1.2.1 z1.2.2.1 z1.2.2.2 a1).bind fun z4 =>
 some (z4.1, (z4.2.1, z4.2.2.1, z4.2.2.2)))
theorem c_spec_l1Cur_anyExpo__io0 : ∀ {a0c0} {a0c1} {a0c2} {a1} {r}, F_spec_l1Cur_anyExpo__io0 a0c0 a0c1 a0c2 a1 = some r → PCalls Tryz.prog 170 [(.io, vB a0c0 a0c1 a0c2), (.sh, vE a1)] (Eo (.int .i64 r.1) [vB r.2.1 r.2.2.1 r.2.2.2, .junk]) := by
 intro a0c0 a0c1 a0c2 a1 r hr
 apply pF 18 [0] [] [] [.tmp 4] hr cl170 Tryz.func170
 intro Φ hΦ hF g
 unfold F_spec_l1Cur_anyExpo__io0 at hF
 refine wW ?_
 refine wC hF [.io, .sh] c_spec_l1Cur_one__io0 (fun z1 hF => ?_)
 refine wW ?_
 refine wI hF (fun h2 hF => ?_) (fun h2 hF => ?_)
 ·refine wC hF [.io, .mv] c_spec_l1Cur_among__io0_mv1 (fun z3 hF => ?_)
  refine wK [0, 4] ?_
  cases hΦ _ (Rn_some hF)
  try simp [go_sem, g]
 ·refine wW ?_
  refine wC hF [.io, .sh] c_spec_l1Cur_expo__io0 (fun z4 hF => ?_)
  cases hΦ _ (Rn_some hF)
  refine wW ?_
  try simp [go_sem, g]
@[go_sem] def D64_5 : List DE := [d0 0 [7], d0 1 [0], d0 2 [2], d0 5 [0], d0 6 [2], d0 9 [0], d2 10 [4] 4 4, d0 12 [0], d3 3 [16, 17], d0 4 [18], d3 7 [20, 21], d0 8 [22], d3 11 [24, 25], d3 13 [27], d0 14 [28], d0 15 [19, 23, 26, 29], d0 16 [30], ⟨17, [15, 31], [], none, true, false, false⟩, d0 18 [32]]
@[go_sem] def D64_7 : List DE := [d0 0 [7], d0 1 [0], d0 2 [2], d0 3 [37], d0 4 [38], d0 6 [0], d0 7 [2], d0 8 [42], d0 9 [43], d0 11 [0], d2 12 [4] 4 4, ⟨5, [36, 39], [], none, true, true, true⟩, ⟨10, [41, 44], [], none, true, true, true⟩, d3 13 [46, 47], d0 14 [40, 45, 48], d0 15 [49], ⟨16, [35, 50], [], none, true, false, false⟩, d0 17 [51]]
noncomputable def F_spec_l1Cur_faults__io0 (a0c0 : (List Int)) (a0c1 : Int) (a0c2 : Int) (a1 : Group) (a2 : Int) : Option ((List Fault) × ((List Int) × Int × Int)) :=
 (F_spec_l1Cur_pick__io0 a0c0 a0c1 a0c2 4).bind fun z1 =>
 ((wloop (σ := ((List Int) × Int × Int) × (List Fault) × Int) (fun s15 =>
 if decide (0 < s15.2.2) = true then (
 (F_spec_l1Cur_pick__io0 s15.1.1 s15.1.2.1 s15.1.2.2 a2).bind fun z21 =>
 (F_spec_l1Cur_pick__io0 z21.2.1 z21.2.2.1 z21.2.2.2 a2).bind fun z22 =>
 (F_spec_l1Cur_expo__io0 z22.2.1 z22.2.2.1 z22.2.2.2 a1).bind fun z23 =>
 (F_spec_l1Cur_one__io0 z23.2.1 z23.2.2.1 z23.2.2.2 3).bind fun z24 =>
 gd ((s15.2.1.length + 1) * 32 ≤ 140737488355328 ∧ s15.2.1.length + 1 ≤ 4611686018427387904) <|
 some (.go ((z24.2.1, z24.2.2.1, z24.2.2.2), s15.2.1 ++ [(Fault.mk (i64.wrap (1 + z21.1)) (i64.wrap (1 + z22.1)) z23.1 (!z24.1))], i64.wrap (s15.2.2 - 1)))) else (
 some (.out ((s15.1.1, s15.1.2.1, s15.1.2.2), s15.2.1)))) ((z1.2.1, z1.2.2.1, z1.2.2.2), [], z1.1) : Option ((((List Int) × Int × Int) × (List Fault)))).bind fun x4 =>
 (F_spec_l1Cur_one__io0 x4.1.1 x4.1.2.1 x4.1.2.2 24).bind fun z27 =>
 ((if z27.1 = true then (
 (F_spec_l1Cur_among__io0_mv1 z27.2.1 z27.2.2.1 z27.2.2.2 [0, i64.wrap (a2 + 1), 1]).bind fun z32 =>
 (F_spec_l1Cur_among__io0_mv1 z32.2.1 z32.2.2.1 z32.2.2.2 [0, i64.wrap (a2 + 1)]).bind fun z33 =>
 (F_spec_l1Cur_anyExpo__io0 z33.2.1 z33.2.2.1 z33.2.2.2 a1).bind fun z34 =>
 gd ((x4.2.length + 1) * 32 ≤ 140737488355328 ∧ x4.2.length + 1 ≤ 4611686018427387904) <|
 some ((z34.2.1, z34.2.2.1, z34.2.2.2), x4.2 ++ [(Fault.mk z32.1 z33.1 z34.1 false)])) else (
 some ((z27.2.1, z27.2.2.1, z27.2.2.2), x4.2)) : Option ((((List Int) × Int × Int) × (List Fault)))).bind fun x30 =>
 some (x30.2, (x30.1.1, x30.1.2.1, x30.1.2.2))))
theorem c_spec_l1Cur_faults__io0 : ∀ {a0c0} {a0c1} {a0c2} {a1} {a2} {r}, F_spec_l1Cur_faults__io0 a0c0 a0c1 a0c2 a1 a2 = some r → PCalls Tryz.prog 64 [(.io, vB a0c0 a0c1 a0c2), (.sh, vE a1), (.sh, .int .i64 a2)] (Eo (vG r.1) [vB r.2.1 r.2.2.1 r.2.2.2, .junk, .junk]) := by
 intro a0c0 a0c1 a0c2 a1 a2 r hr
 apply pF 53 [0] [] [] [.tmp 6] hr cl64 Tryz.func64
 intro Φ hΦ hF g
 unfold F_spec_l1Cur_faults__io0 at hF
 iterate 2 refine wW ?_
 refine wC hF [.io, .sh] c_spec_l1Cur_pick__io0 (fun z1 hF => ?_)
 refine wW ?_
 refine wJ hF (fun x4 => [(0, .v (vB x4.1.1 x4.1.2.1 x4.1.2.2)), (2, .v (.int .i64 a2)), (4, .bl [.int .i64 a1.P, .int .i64 a1.Q, .int .i64 a1.G]), (7, .v (vG x4.2))]) (fun x4 hF => ?_) fun _ hj2 hF => ?_
 ·refine wC hF [.io, .sh] c_spec_l1Cur_one__io0 (fun z27 hF => ?_)
  refine wW ?_
  refine wJ hF (fun x30 => [(0, .v (vB x30.1.1 x30.1.2.1 x30.1.2.2)), (7, .v (vG x30.2))]) (fun x30 hF => ?_) fun _ hj28 hF => ?_
  ·refine wK [0, 6] ?_
   cases hΦ _ (Rn_some hF)
   try simp [go_sem, g]
  ·refine wI hF (fun h31 hF => ?_) (fun h31 hF => ?_)
   ·refine wX D64_7 follows ?_
    refine wC hF [.io, .mv] c_spec_l1Cur_among__io0_mv1 (fun z32 hF => ?_)
    refine wC hF [.io, .mv] c_spec_l1Cur_among__io0_mv1 (fun z33 hF => ?_)
    refine wC hF [.io, .sh] c_spec_l1Cur_anyExpo__io0 (fun z34 hF => ?_)
    obtain ⟨g, hF⟩ := Rg g hF
    exact wT (hj28 _) (Rn_some hF)
   ·exact wT (hj28 _) (Rn_some hF)
 ·refine wB ?_
  obtain ⟨b25, hb26, hψ19⟩ := hF
  refine pL hb26 (fun s15 => [(0, .v (vB s15.1.1 s15.1.2.1 s15.1.2.2)), (2, .v (.int .i64 a2)), (4, .bl [.int .i64 a1.P, .int .i64 a1.Q, .int .i64 a1.G]), (7, .v (vG s15.2.1)), (8, .v (.int .i64 s15.2.2))]) (fun s15 _ _ ho17 hg18 hF => ?_)
  refine wW ?_
  refine wI hF (fun h20 hF => ?_) (fun h20 hF => ?_)
  ·refine wW ?_
   refine wB ?_
   refine wX D64_5 follows ?_
   refine wC hF [.io, .sh] c_spec_l1Cur_pick__io0 (fun z21 hF => ?_)
   refine wC hF [.io, .sh] c_spec_l1Cur_pick__io0 (fun z22 hF => ?_)
   refine wC hF [.io, .sh] c_spec_l1Cur_expo__io0 (fun z23 hF => ?_)
   refine wC hF [.io, .sh] c_spec_l1Cur_one__io0 (fun z24 hF => ?_)
   obtain ⟨g, hF⟩ := Rg g hF
   refine wK [0, 2, 4, 7, 8] ?_
   exact wT (hg18 _) (Rn_some hF)
  ·cases ho17 _ (Rn_some hF)
   exact wT (hj2 _) hψ19
@[go_sem] def D8_12 : List DE := [d2 0 [6] 6 6, d0 1 [8], d0 2 [5], d2 3 [6] 6 6, d0 4 [7], d3 5 [50, 51, 52], d2 6 [2, 48] 2 2, d0 7 [49], d0 8 [53]]
@[go_sem] def D8_4 : List DE := [d0 0 [5], d2 1 [6] 6 6, d0 2 [7], d0 3 [5], d0 4 [7], d3 5 [20, 21], d0 6 [22], d3 7 [17, 18, 19, 23], d0 8 [24]]
@[go_sem] def D8_7 : List DE := [d0 0 [8], d0 1 [5], d2 2 [6] 6 6, d0 3 [8], d0 4 [32], d0 5 [33], d0 6 [34], d3 7 [30, 31, 35], d0 8 [29], d0 9 [37, 36]]
noncomputable def F_spec_DrawPlayDealers (a0 : (List Int)) : Option (Group × (List (List Int)) × (List Fault)) :=
 (F_spec_l1Cur_shared__io0 a0 0 0).bind fun z1 =>
 (F_spec_l1Cur_pick__io0 z1.2.1 z1.2.2.1 z1.2.2.2 5).bind fun z2 =>
 (F_spec_l1Cur_pick__io0 z2.2.1 z2.2.2.1 z2.2.2.2 (i64.wrap (1 + z2.1))).bind fun z3 =>
 (F_spec_l1Cur_polynomials__io0_flat z3.2.1 z3.2.2.1 z3.2.2.2 z1.1 (i64.wrap (1 + z2.1)) (i64.wrap (1 + z3.1))).bind fun z4 =>
 (F_spec_l1Cur_pick__io0 z4.2.1 z4.2.2.1 z4.2.2.2 24).bind fun z5 =>
 ((if (z5.1 == 0) = true then (
 (ix z4.1 0).bind fun x10 =>
 (F_spec_l1Cur_anyCoins__io0 z5.2.1 z5.2.2.1 z5.2.2.2 z1.1 (x10.length : Int)).bind fun z11 =>
 some ((z11.2.1, z11.2.2.1, z11.2.2.2), z4.1.set 0 z11.1)) else (
 if (z5.1 == 1) = true then (
 some ((z5.2.1, z5.2.2.1, z5.2.2.2), [])) else (
 if (z5.1 == 2) = true then (
 (F_spec_l1Cur_polynomials__io0_flat z5.2.1 z5.2.2.1 z5.2.2.2 z1.1 (i64.wrap (1 + z2.1)) (i64.wrap ((i64.wrap (1 + z2.1)) + 1))).bind fun z14 =>
 some ((z14.2.1, z14.2.2.1, z14.2.2.2), z14.1)) else (
 some ((z5.2.1, z5.2.2.1, z5.2.2.2), z4.1)))) : Option ((((List Int) × Int × Int) × (List (List Int))))).bind fun x8 =>
 (F_spec_l1Cur_faults__io0 x8.1.1 x8.1.2.1 x8.1.2.2 z1.1 (i64.wrap (1 + z2.1))).bind fun z15 =>
 some (z1.1, x8.2, z15.1))
theorem c_spec_DrawPlayDealers : ∀ {a0} {r}, F_spec_DrawPlayDealers a0 = some r → PCalls Tryz.prog 8 [(.sh, vA a0)] (Eo (.tup [vE r.1, vF r.2.1, vG r.2.2]) [.junk]) := by
 intro a0 r hr
 apply pF 54 [] [] [11] [.cell 2 24, .tmp 3, .tmp 4] hr cl8 Tryz.func8
 intro Φ hΦ hF g
 unfold F_spec_DrawPlayDealers at hF
 iterate 2 refine wW ?_
 refine wC hF [.io] c_spec_l1Cur_shared__io0 (fun z1 hF => ?_)
 refine wK [2, 5, 6] ?_
 refine wC hF [.io, .sh] c_spec_l1Cur_pick__io0 (fun z2 hF => ?_)
 refine wW ?_
 refine wX D8_4 follows ?_
 refine wC hF [.io, .sh] c_spec_l1Cur_pick__io0 (fun z3 hF => ?_)
 refine wC hF [.io, .sh, .sh, .sh] c_spec_l1Cur_polynomials__io0_flat (fun z4 hF => ?_)
 refine wK [2, 5, 6, 7, 8] ?_
 refine wC hF [.io, .sh] c_spec_l1Cur_pick__io0 (fun z5 hF => ?_)
 refine wW ?_
 refine wJ hF (fun x8 => [(2, .bl [.int .i64 0, .int .i64 0, .int .i64 0]), (5, .v (vB x8.1.1 x8.1.2.1 x8.1.2.2)), (6, .bl [.int .i64 z1.1.P, .int .i64 z1.1.Q, .int .i64 z1.1.G]), (7, .v (.int .i64 (i64.wrap (1 + z2.1)))), (8, .v (vF x8.2))]) (fun x8 hF => ?_) fun _ hj6 hF => ?_
 ·refine wX D8_12 follows ?_
  refine wC hF [.io, .sh, .sh] c_spec_l1Cur_faults__io0 (fun z15 hF => ?_)
  refine wK [2, 3, 4] ?_
  cases hΦ _ (Rn_some hF)
  try simp [go_sem, g]
 ·refine wB ?_
  refine wW ?_
  refine wI hF (fun h9 hF => ?_) (fun h9 hF => ?_)
  ·refine wX D8_7 follows ?_
   obtain ⟨x10, g, hF⟩ := Rxn g 0 hF
   try simp [go_sem, g]
   try intros
   refine wC hF [.io, .sh, .sh] c_spec_l1Cur_anyCoins__io0 (fun z11 hF => ?_)
   exact wT (hj6 _) (Rn_some hF)
  ·refine wW ?_
   refine wI hF (fun h12 hF => ?_) (fun h12 hF => ?_)
   ·exact wT (hj6 _) (Rn_some hF)
   ·refine wW ?_
    refine wI hF (fun h13 hF => ?_) (fun h13 hF => ?_)
    ·refine wC hF [.io, .sh, .sh, .sh] c_spec_l1Cur_polynomials__io0_flat (fun z14 hF => ?_)
     exact wT (hj6 _) (Rn_some hF)
    ·exact wT (hj6 _) (Rn_some hF)
noncomputable def F_impl_within (a0 : Int) (a1 : Int) (a2 : Int) : Option (Bool) :=
 ((if decide (a1 ≤ a0) = true then (
 some (decide (a0 ≤ a2))) else (
 some false) : Option (Bool)).bind fun x3 =>
 some x3)
theorem c_impl_within : ∀ {a0} {a1} {a2} {r}, F_impl_within a0 a1 a2 = some r → PCalls Tryz.prog 93 [(.sh, .int .i64 a0), (.sh, .int .i64 a1), (.sh, .int .i64 a2)] (Eo (.bool r) [.junk, .junk, .junk]) := by
 intro a0 a1 a2 r hr
 apply pF 15 [] [] [] [.tmp 6] hr cl93 Tryz.func93
 intro Φ hΦ hF g
 unfold F_impl_within at hF
 refine wW ?_
 refine wJ hF (fun x3 => [(6, .v (.bool x3))]) (fun x3 hF => ?_) fun _ hj1 hF => ?_
 ·cases hΦ _ (Rn_some hF)
  try simp [go_sem, g]
 ·refine wG hF (fun h4 hF => ?_) fun h4 hF => ?_
  ·try simp [go_sem, g, h4]
   exact wT (hj1 _) (Rn_some hF)
  ·try simp [go_sem, g, h4]
   exact wT (hj1 _) (Rn_some hF)
noncomputable def F_impl_isModulus (a0 : Int) : Option (Bool) :=
 (F_impl_within a0 2 2000000000).bind fun z1 =>
 some z1
theorem c_impl_isModulus : ∀ {a0} {r}, F_impl_isModulus a0 = some r → PCalls Tryz.prog 292 [(.sh, .int .i64 a0)] (Eo (.bool r) [.junk]) := by
 intro a0 r hr
 apply pF 5 [] [] [] [.tmp 2] hr cl292 Tryz.func292
 intro Φ hΦ hF g
 unfold F_impl_isModulus at hF
 refine wW ?_
 refine wC hF [.sh, .sh, .sh] c_impl_within (fun z1 hF => ?_)
 cases hΦ _ (Rn_some hF)
 refine wW ?_
 try simp [go_sem, g]
noncomputable def F_impl_isPrime (a0 : Int) : Option (Bool) :=
 (((F_impl_isModulus a0).bind fun z4 =>
 if (!z4) = true then (
 some true) else (
 if ((a0.tmod 2) == 0) = true then (
 some (a0 != 2)) else (
 some false)) : Option (Bool)).bind fun x3 =>
 if x3 = true then (
 some false) else (
 ((wloop (σ := Int) (fun s11 =>
 if decide ((i64.wrap (s11 * s11)) ≤ a0) = true then (
 gd (s11 ≠ 0) <|
 if ((a0.tmod s11) == 0) = true then (
 some (.out (.inr false))) else (
 some (.go (i64.wrap (s11 + 2))))) else (
 some (.out (.inl ())))) 3 : Option (Unit ⊕ Bool)).bind (Sum.elim (fun x10 =>
 some true) some))))
theorem c_impl_isPrime : ∀ {a0} {r}, F_impl_isPrime a0 = some r → PCalls Tryz.prog 208 [(.sh, .int .i64 a0)] (Eo (.bool r) [.junk]) := by
 intro a0 r hr
 apply pF 27 [] [] [] [.tmp 2] hr cl208 Tryz.func208
 intro Φ hΦ hF g
 unfold F_impl_isPrime at hF
 refine wW ?_
 refine wJ hF (fun x3 => [(0, .v (.int .i64 a0)), (15, .v (.bool x3))]) (fun x3 hF => ?_) fun _ hj1 hF => ?_
 ·refine wI hF (fun h7 hF => ?_) (fun h7 hF => ?_)
  ·cases hΦ _ (Rn_some hF)
   refine wW ?_
   try simp [go_sem, g]
  ·iterate 2 refine wW ?_
   refine wS hF (fun x10 => []) (fun x10 hF => ?_) fun _ hj8 hr9 hF => ?_
   ·cases hΦ _ (Rn_some hF)
    refine wW ?_
    try simp [go_sem, g]
   ·refine wB ?_
    obtain ⟨b18, hb19, hψ15⟩ := hF
    refine pL hb19 (fun s11 => [(0, .v (.int .i64 a0)), (3, .v (.int .i64 s11))]) (fun s11 _ _ ho13 hg14 hF => ?_)
    refine wW ?_
    refine wI hF (fun h16 hF => ?_) (fun h16 hF => ?_)
    ·refine wW ?_
     refine wB ?_
     obtain ⟨g, hF⟩ := Rz g hF
     refine wK [0, 3, 26] ?_
     refine wI hF (fun h17 hF => ?_) (fun h17 hF => ?_)
     ·cases ho13 _ (Rn_some hF)
      cases hΦ _ (hr9 _ hψ15)
      refine wW ?_
      try simp [go_sem, g]
     ·refine wW ?_
      exact wT (hg14 _) (Rn_some hF)
    ·cases ho13 _ (Rn_some hF)
     exact wT (hj8 _) hψ15
 ·refine wC hF [.sh] c_impl_isModulus (fun z4 hF => ?_)
  refine wG hF (fun h5 hF => ?_) fun h5 hF => ?_
  ·try simp [go_sem, g, h5]
   exact wT (hj1 _) (Rn_some hF)
  ·have g := Ld g 2
   try simp [go_sem, g, h5]
   refine wG hF (fun h6 hF => ?_) fun h6 hF => ?_
   ·try simp [go_sem, g, h6, h5]
    exact wT (hj1 _) (Rn_some hF)
   ·try simp [go_sem, g, h6, h5]
    exact wT (hj1 _) (Rn_some hF)
noncomputable def F_impl_power (a0 : Int) (a1 : Int) (a2 : Int) : Option (Int) :=
 gd (a2 ≠ 0) <|
 ((wloop (σ := Int × Int × Int) (fun s4 =>
 if decide (0 < s4.2.1) = true then (
 ((if ((i64.wrap ((BitVec.ofInt i64.bits s4.2.1 &&& BitVec.ofInt i64.bits 1).toNat)) == 1) = true then (
 gd (a2 ≠ 0) <|
 some ((i64.wrap (s4.2.2 * s4.1)).tmod a2)) else (
 some s4.2.2) : Option (Int)).bind fun x12 =>
 gd (a2 ≠ 0) <|
 some (.go ((i64.wrap (s4.1 * s4.1)).tmod a2, s4.2.1.fdiv 2, x12)))) else (
 some (.out s4.2.2))) (a0, a1, (1 : Int).tmod a2) : Option (Int)).bind fun x3 =>
 some x3)
theorem c_impl_power : ∀ {a0} {a1} {a2} {r}, F_impl_power a0 a1 a2 = some r → PCalls Tryz.prog 209 [(.sh, .int .i64 a0), (.sh, .int .i64 a1), (.sh, .int .i64 a2)] (Eo (.int .i64 r) [.junk, .junk, .junk]) := by
 intro a0 a1 a2 r hr
 apply pF 28 [] [] [] [.tmp 6] hr cl209 Tryz.func209
 intro Φ hΦ hF g
 unfold F_impl_power at hF
 obtain ⟨g, hF⟩ := Rz g hF
 iterate 2 refine wW ?_
 refine wJ hF (fun x3 => [(7, .v (.int .i64 x3))]) (fun x3 hF => ?_) fun _ hj1 hF => ?_
 ·cases hΦ _ (Rn_some hF)
  refine wW ?_
  try simp [go_sem, g]
 ·refine wB ?_
  obtain ⟨b14, hb15, hψ8⟩ := hF
  refine pL hb15 (fun s4 => [(0, .v (.int .i64 s4.1)), (1, .v (.int .i64 s4.2.1)), (2, .v (.int .i64 a2)), (7, .v (.int .i64 s4.2.2))]) (fun s4 _ _ ho6 hg7 hF => ?_)
  refine wW ?_
  refine wI hF (fun h9 hF => ?_) (fun h9 hF => ?_)
  ·refine wW ?_
   refine wB ?_
   refine wW ?_
   refine wJ hF (fun x12 => [(0, .v (.int .i64 s4.1)), (1, .v (.int .i64 s4.2.1)), (2, .v (.int .i64 a2)), (7, .v (.int .i64 x12))]) (fun x12 hF => ?_) fun _ hj10 hF => ?_
   ·obtain ⟨g, hF⟩ := Rz g hF
    refine wK [0, 1, 2, 7] ?_
    have g := Ls g 1
    exact wT (hg7 _) (Rn_some hF)
   ·refine wI hF (fun h13 hF => ?_) (fun h13 hF => ?_)
    ·obtain ⟨g, hF⟩ := Rz g hF
     exact wT (hj10 _) (Rn_some hF)
    ·exact wT (hj10 _) (Rn_some hF)
  ·cases ho6 _ (Rn_some hF)
   exact wT (hj1 _) hψ8
noncomputable def F_impl_IsValidGroup (a0 : Group) : Option (Bool) :=
 (((F_impl_within a0.P 3 2000000000).bind fun z4 =>
 if z4 = true then (
 (F_impl_within a0.Q 2 (i64.wrap (a0.P - 1))).bind fun z6 =>
 if z6 = true then (
 gd (a0.Q ≠ 0) <|
 if (((i64.wrap (a0.P - 1)).tmod a0.Q) == 0) = true then (
 (F_impl_within a0.G 2 (i64.wrap (a0.P - 1))).bind fun z9 =>
 if z9 = true then (
 (F_impl_isPrime a0.P).bind fun z11 =>
 if z11 = true then (
 (F_impl_isPrime a0.Q).bind fun z13 =>
 if z13 = true then (
 (F_impl_power a0.G a0.Q a0.P).bind fun z15 =>
 some (z15 == 1)) else (
 some false)) else (
 some false)) else (
 some false)) else (
 some false)) else (
 some false)) else (
 some false) : Option (Bool)).bind fun x3 =>
 some x3)
theorem c_impl_IsValidGroup : ∀ {a0} {r}, F_impl_IsValidGroup a0 = some r → PCalls Tryz.prog 104 [(.sh, vE a0)] (Eo (.bool r) [.junk]) := by
 intro a0 r hr
 apply pF 51 [] [] [] [.tmp 2] hr cl104 Tryz.func104
 intro Φ hΦ hF g
 unfold F_impl_IsValidGroup at hF
 refine wW ?_
 refine wJ hF (fun x3 => [(2, .v (.bool x3))]) (fun x3 hF => ?_) fun _ hj1 hF => ?_
 ·cases hΦ _ (Rn_some hF)
  try simp [go_sem, g]
 ·refine wC hF [.sh, .sh, .sh] c_impl_within (fun z4 hF => ?_)
  refine wG hF (fun h5 hF => ?_) fun h5 hF => ?_
  ·try simp [go_sem, g, h5]
   refine wC hF [.sh, .sh, .sh] c_impl_within (fun z6 hF => ?_)
   try simp [go_sem, g, h5]
   refine wG hF (fun h7 hF => ?_) fun h7 hF => ?_
   ·obtain ⟨g, hF⟩ := Rz g hF
    try simp [go_sem, g, h7]
    refine wG hF (fun h8 hF => ?_) fun h8 hF => ?_
    ·try simp [go_sem, g, h8]
     refine wC hF [.sh, .sh, .sh] c_impl_within (fun z9 hF => ?_)
     try simp [go_sem, g, h8]
     refine wG hF (fun h10 hF => ?_) fun h10 hF => ?_
     ·try simp [go_sem, g, h10]
      refine wC hF [.sh] c_impl_isPrime (fun z11 hF => ?_)
      try simp [go_sem, g, h10]
      refine wG hF (fun h12 hF => ?_) fun h12 hF => ?_
      ·try simp [go_sem, g, h12]
       refine wC hF [.sh] c_impl_isPrime (fun z13 hF => ?_)
       try simp [go_sem, g, h12]
       refine wG hF (fun h14 hF => ?_) fun h14 hF => ?_
       ·try simp [go_sem, g, h14]
        refine wC hF [.sh, .sh, .sh] c_impl_power (fun z15 hF => ?_)
        try simp [go_sem, g, h14]
        exact wT (hj1 _) (Rn_some hF)
       ·try simp [go_sem, g, h14]
        exact wT (hj1 _) (Rn_some hF)
      ·try simp [go_sem, g, h12]
       exact wT (hj1 _) (Rn_some hF)
     ·try simp [go_sem, g, h10]
      exact wT (hj1 _) (Rn_some hF)
    ·try simp [go_sem, g, h8]
     exact wT (hj1 _) (Rn_some hF)
   ·try simp [go_sem, g, h7]
    exact wT (hj1 _) (Rn_some hF)
  ·try simp [go_sem, g, h5]
   exact wT (hj1 _) (Rn_some hF)
noncomputable def F_impl_isSharing (a0 : Group) : Option (Bool) :=
 ((if decide (7 < a0.Q) = true then (
 (F_impl_IsValidGroup a0).bind fun z5 =>
 some z5) else (
 some false) : Option (Bool)).bind fun x3 =>
 some x3)
theorem c_impl_isSharing : ∀ {a0} {r}, F_impl_isSharing a0 = some r → PCalls Tryz.prog 65 [(.sh, vE a0)] (Eo (.bool r) [.junk]) := by
 intro a0 r hr
 apply pF 10 [] [] [] [.tmp 2] hr cl65 Tryz.func65
 intro Φ hΦ hF g
 unfold F_impl_isSharing at hF
 refine wW ?_
 refine wJ hF (fun x3 => [(2, .v (.bool x3))]) (fun x3 hF => ?_) fun _ hj1 hF => ?_
 ·cases hΦ _ (Rn_some hF)
  try simp [go_sem, g]
 ·refine wG hF (fun h4 hF => ?_) fun h4 hF => ?_
  ·try simp [go_sem, g, h4]
   refine wC hF [.sh] c_impl_IsValidGroup (fun z5 hF => ?_)
   try simp [go_sem, g, h4]
   exact wT (hj1 _) (Rn_some hF)
  ·try simp [go_sem, g, h4]
   exact wT (hj1 _) (Rn_some hF)
noncomputable def F_impl_Group_isExp (a0 : Group) (a1 : Int) : Option (Bool) :=
 (F_impl_within a1 0 (i64.wrap (a0.Q - 1))).bind fun z1 =>
 some z1
theorem c_impl_Group_isExp : ∀ {a0} {a1} {r}, F_impl_Group_isExp a0 a1 = some r → PCalls Tryz.prog 106 [(.sh, vE a0), (.sh, .int .i64 a1)] (Eo (.bool r) [.junk, .junk]) := by
 intro a0 a1 r hr
 apply pF 10 [] [] [] [.tmp 4] hr cl106 Tryz.func106
 intro Φ hΦ hF g
 unfold F_impl_Group_isExp at hF
 refine wW ?_
 refine wC hF [.sh, .sh, .sh] c_impl_within (fun z1 hF => ?_)
 cases hΦ _ (Rn_some hF)
 refine wW ?_
 try simp [go_sem, g]
noncomputable def F_impl_areAll_1__impl_Group_isExp (a0 : Int) (a1c0x0 : Group) : Option (Bool) :=
 (F_impl_Group_isExp a1c0x0 a0).bind fun z1 =>
 some (!z1)
theorem c_impl_areAll_1__impl_Group_isExp : ∀ {a0} {a1c0x0} {r}, F_impl_areAll_1__impl_Group_isExp a0 a1c0x0 = some r → PCalls Tryz.prog 290 [(.sh, .int .i64 a0), (.sh, .fp [.func (.func 106) [vE a1c0x0] []])] (Eo (.bool r) [.junk, .junk]) := by
 intro a0 a1c0x0 r hr
 apply pF 8 [] [] [] [.tmp 3] hr cl290 Tryz.func290
 intro Φ hΦ hF g
 unfold F_impl_areAll_1__impl_Group_isExp at hF
 refine wW ?_
 refine wC hF [.sh] c_impl_Group_isExp (fun z1 hF => ?_)
 cases hΦ _ (Rn_some hF)
 refine wW ?_
 try simp [go_sem, g]
noncomputable def F_slices_IndexFunc_int_int__impl_areAll_1_impl_Group_isExp (a0 : (List Int)) (a1u0c0x0 : Group) : Option (Int) :=
 ((rloop (σ := Unit) (fun i5 s4 =>
 (ix a0 i5).bind fun x11 =>
 (F_impl_areAll_1__impl_Group_isExp x11 a1u0c0x0).bind fun z12 =>
 if z12 = true then (
 some (.out (.inr i5))) else (
 some (.go ()))) (fun s4 => .inl ()) (a0.length) 0 () : Option (Unit ⊕ Int)).bind (Sum.elim (fun x3 =>
 some (-1)) some))
theorem c_slices_IndexFunc_int_int__impl_areAll_1_impl_Group_isExp : ∀ {a0} {a1u0c0x0} {r}, F_slices_IndexFunc_int_int__impl_areAll_1_impl_Group_isExp a0 a1u0c0x0 = some r → PCalls Tryz.prog 319 [(.sh, vC a0), (.sh, .func (.func 290) [] [.fp [.func (.func 106) [vE a1u0c0x0] []]])] (Eo (.int .i64 r) [.junk, .junk]) := by
 intro a0 a1u0c0x0 r hr
 apply pF 19 [] [] [] [.tmp 4] hr cl319 Tryz.func319
 intro Φ hΦ hF g
 unfold F_slices_IndexFunc_int_int__impl_areAll_1_impl_Group_isExp at hF
 iterate 2 (try simp [go_sem, g]; try intros; refine pw_wk ?_)
 refine wS hF (fun x3 => []) (fun x3 hF => ?_) fun _ hj1 hr2 hF => ?_
 ·cases hΦ _ (Rn_some hF)
  refine wW ?_
  try simp [go_sem, g]
 ·refine wB ?_
  obtain ⟨b14, hb15, hψ8⟩ := hF
  refine pR hb15 (fun i5 s4 => [(0, .v (vC a0)), (1, .v (.func (.func 290) [] [.fp [.func (.func 106) [vE a1u0c0x0] []]])), (7, .v (.int .i64 (a0.length : Int))), (8, .v (.int .i64 i5))]) (fun s4 _ hN16 => ?_) (fun i5 s4 _ _ hi9 hi10 ho6 hg7 hF => ?_)
  ·subst hN16
   refine wW ?_
   refine wf ?_
   exact wT (hj1 _) hψ8
  ·refine wW ?_
   refine wt ?_ (hb := by simp [go_sem, g, hi9, hi10])
   refine wW ?_
   refine wB ?_
   obtain ⟨x11, g, hF⟩ := Rx g hF
   refine wW ?_
   refine wC hF [.sh] c_impl_areAll_1__impl_Group_isExp (fun z12 hF => ?_)
   refine wK [0, 1, 5, 7, 8, 16] ?_
   refine wI hF (fun h13 hF => ?_) (fun h13 hF => ?_)
   ·cases ho6 _ (Rn_some hF)
    cases hΦ _ (hr2 _ hψ8)
    refine wW ?_
    try simp [go_sem, g]
   ·refine wW ?_
    exact wT (hg7 ()) (Rn_some hF) (a := by simp [go_sem, g, wr_i hi9 hi10 (by assumption)])
noncomputable def F_slices_ContainsFunc_int_int__impl_areAll_1_impl_Group_isExp (a0 : (List Int)) (a1u0c0x0 : Group) : Option (Bool) :=
 (F_slices_IndexFunc_int_int__impl_areAll_1_impl_Group_isExp a0 a1u0c0x0).bind fun z1 =>
 some (decide (0 ≤ z1))
theorem c_slices_ContainsFunc_int_int__impl_areAll_1_impl_Group_isExp : ∀ {a0} {a1u0c0x0} {r}, F_slices_ContainsFunc_int_int__impl_areAll_1_impl_Group_isExp a0 a1u0c0x0 = some r → PCalls Tryz.prog 289 [(.sh, vC a0), (.sh, .func (.func 290) [] [.fp [.func (.func 106) [vE a1u0c0x0] []]])] (Eo (.bool r) [.junk, .junk]) := by
 intro a0 a1u0c0x0 r hr
 apply pF 9 [] [] [] [.tmp 4] hr cl289 Tryz.func289
 intro Φ hΦ hF g
 unfold F_slices_ContainsFunc_int_int__impl_areAll_1_impl_Group_isExp at hF
 refine wW ?_
 refine wC hF [.sh, .sh] c_slices_IndexFunc_int_int__impl_areAll_1_impl_Group_isExp (fun z1 hF => ?_)
 cases hΦ _ (Rn_some hF)
 refine wW ?_
 try simp [go_sem, g]
noncomputable def F_impl_areAll__impl_Group_isExp (a0 : (List Int)) (a1x0 : Group) : Option (Bool) :=
 (F_slices_ContainsFunc_int_int__impl_areAll_1_impl_Group_isExp a0 a1x0).bind fun z1 =>
 some (!z1)
theorem c_impl_areAll__impl_Group_isExp : ∀ {a0} {a1x0} {r}, F_impl_areAll__impl_Group_isExp a0 a1x0 = some r → PCalls Tryz.prog 202 [(.sh, vC a0), (.sh, .func (.func 106) [vE a1x0] [])] (Eo (.bool r) [.junk, .junk]) := by
 intro a0 a1x0 r hr
 apply pF 9 [] [] [1000000] [.tmp 4] hr cl202 Tryz.func202
 intro Φ hΦ hF g
 unfold F_impl_areAll__impl_Group_isExp at hF
 refine wW ?_
 refine wC hF [.sh, .sh] c_slices_ContainsFunc_int_int__impl_areAll_1_impl_Group_isExp (fun z1 hF => ?_)
 cases hΦ _ (Rn_some hF)
 refine wW ?_
 try simp [go_sem, g]
noncomputable def F_impl_Group_areExps (a0 : Group) (a1 : (List Int)) : Option (Bool) :=
 (F_impl_areAll__impl_Group_isExp a1 a0).bind fun z1 =>
 some z1
theorem c_impl_Group_areExps : ∀ {a0} {a1} {r}, F_impl_Group_areExps a0 a1 = some r → PCalls Tryz.prog 94 [(.sh, vE a0), (.sh, vC a1)] (Eo (.bool r) [.junk, .junk]) := by
 intro a0 a1 r hr
 apply pF 9 [] [] [] [.tmp 4] hr cl94 Tryz.func94
 intro Φ hΦ hF g
 unfold F_impl_Group_areExps at hF
 refine wW ?_
 refine wC hF [.sh, .sh] c_impl_areAll__impl_Group_isExp (fun z1 hF => ?_)
 cases hΦ _ (Rn_some hF)
 refine wW ?_
 try simp [go_sem, g]
noncomputable def F_impl_Group_arePlays_1_ (a0 : (List Int)) (a1c0 : (List (List Int))) (a2c0 : Int) (a2c1 : Int) (a2c2 : Int) : Option (Bool) :=
 (((ix a1c0 0).bind fun x4 =>
 if ((a0.length : Int) != (x4.length : Int)) = true then (
 some true) else (
 (F_impl_Group_areExps (Group.mk a2c0 a2c1 a2c2) a0).bind fun z6 =>
 some (!z6)) : Option (Bool)).bind fun x3 =>
 some x3)
theorem c_impl_Group_arePlays_1_ : ∀ {a0} {a1c0} {a2c0} {a2c1} {a2c2} {r}, F_impl_Group_arePlays_1_ a0 a1c0 a2c0 a2c1 a2c2 = some r → PCalls Tryz.prog 182 [(.sh, vC a0), (.sh, .fp [vI a1c0]), (.sh, .fp [.int .i64 a2c0, .int .i64 a2c1, .int .i64 a2c2])] (Eo (.bool r) [.junk, .junk, .junk]) := by
 intro a0 a1c0 a2c0 a2c1 a2c2 r hr
 apply pF 18 [] [] [] [.tmp 4] hr cl182 Tryz.func182
 intro Φ hΦ hF g
 unfold F_impl_Group_arePlays_1_ at hF
 refine wW ?_
 refine wJ hF (fun x3 => [(4, .v (.bool x3))]) (fun x3 hF => ?_) fun _ hj1 hF => ?_
 ·cases hΦ _ (Rn_some hF)
  try simp [go_sem, g]
 ·obtain ⟨x4, g, hF⟩ := Rxn g 0 hF
  try simp [go_sem, g]
  try intros
  refine wG hF (fun h5 hF => ?_) fun h5 hF => ?_
  ·try simp [go_sem, g, h5]
   exact wT (hj1 _) (Rn_some hF)
  ·try simp [go_sem, g, h5]
   refine wC hF [.sh, .sh] c_impl_Group_areExps (fun z6 hF => ?_)
   try simp [go_sem, g, h5]
   exact wT (hj1 _) (Rn_some hF)
noncomputable def F_slices_IndexFunc_int_int__impl_Group_arePlays_1 (a0 : (List (List Int))) (a1u0c0 : (List (List Int))) (a1u1c0 : Int) (a1u1c1 : Int) (a1u1c2 : Int) : Option (Int) :=
 ((rloop (σ := Unit) (fun i5 s4 =>
 (ix a0 i5).bind fun x11 =>
 (F_impl_Group_arePlays_1_ x11 a1u0c0 a1u1c0 a1u1c1 a1u1c2).bind fun z12 =>
 if z12 = true then (
 some (.out (.inr i5))) else (
 some (.go ()))) (fun s4 => .inl ()) (a0.length) 0 () : Option (Unit ⊕ Int)).bind (Sum.elim (fun x3 =>
 some (-1)) some))
theorem c_slices_IndexFunc_int_int__impl_Group_arePlays_1 : ∀ {a0} {a1u0c0} {a1u1c0} {a1u1c1} {a1u1c2} {r}, F_slices_IndexFunc_int_int__impl_Group_arePlays_1 a0 a1u0c0 a1u1c0 a1u1c1 a1u1c2 = some r → PCalls Tryz.prog 278 [(.sh, vI a0), (.sh, .func (.func 182) [] [.fp [vI a1u0c0], .fp [.int .i64 a1u1c0, .int .i64 a1u1c1, .int .i64 a1u1c2]])] (Eo (.int .i64 r) [.junk, .junk]) := by
 intro a0 a1u0c0 a1u1c0 a1u1c1 a1u1c2 r hr
 apply pF 19 [] [] [] [.tmp 4] hr cl278 Tryz.func278
 intro Φ hΦ hF g
 unfold F_slices_IndexFunc_int_int__impl_Group_arePlays_1 at hF
 iterate 2 (try simp [go_sem, g]; try intros; refine pw_wk ?_)
 refine wS hF (fun x3 => []) (fun x3 hF => ?_) fun _ hj1 hr2 hF => ?_
 ·cases hΦ _ (Rn_some hF)
  refine wW ?_
  try simp [go_sem, g]
 ·refine wB ?_
  obtain ⟨b14, hb15, hψ8⟩ := hF
  refine pR hb15 (fun i5 s4 => [(0, .v (vI a0)), (1, .v (.func (.func 182) [] [.fp [vI a1u0c0], .fp [.int .i64 a1u1c0, .int .i64 a1u1c1, .int .i64 a1u1c2]])), (7, .v (.int .i64 (a0.length : Int))), (8, .v (.int .i64 i5))]) (fun s4 _ hN16 => ?_) (fun i5 s4 _ _ hi9 hi10 ho6 hg7 hF => ?_)
  ·subst hN16
   refine wW ?_
   refine wf ?_
   exact wT (hj1 _) hψ8
  ·refine wW ?_
   refine wt ?_ (hb := by simp [go_sem, g, hi9, hi10])
   refine wW ?_
   refine wB ?_
   obtain ⟨x11, g, hF⟩ := Rx g hF
   refine wW ?_
   refine wC hF [.sh] c_impl_Group_arePlays_1_ (fun z12 hF => ?_)
   refine wK [0, 1, 5, 7, 8, 16] ?_
   refine wI hF (fun h13 hF => ?_) (fun h13 hF => ?_)
   ·cases ho6 _ (Rn_some hF)
    cases hΦ _ (hr2 _ hψ8)
    refine wW ?_
    try simp [go_sem, g]
   ·refine wW ?_
    exact wT (hg7 ()) (Rn_some hF) (a := by simp [go_sem, g, wr_i hi9 hi10 (by assumption)])
noncomputable def F_slices_ContainsFunc_int_int__impl_Group_arePlays_1 (a0 : (List (List Int))) (a1u0c0 : (List (List Int))) (a1u1c0 : Int) (a1u1c1 : Int) (a1u1c2 : Int) : Option (Bool) :=
 (F_slices_IndexFunc_int_int__impl_Group_arePlays_1 a0 a1u0c0 a1u1c0 a1u1c1 a1u1c2).bind fun z1 =>
 some (decide (0 ≤ z1))
theorem c_slices_ContainsFunc_int_int__impl_Group_arePlays_1 : ∀ {a0} {a1u0c0} {a1u1c0} {a1u1c1} {a1u1c2} {r}, F_slices_ContainsFunc_int_int__impl_Group_arePlays_1 a0 a1u0c0 a1u1c0 a1u1c1 a1u1c2 = some r → PCalls Tryz.prog 181 [(.sh, vI a0), (.sh, .func (.func 182) [] [.fp [vI a1u0c0], .fp [.int .i64 a1u1c0, .int .i64 a1u1c1, .int .i64 a1u1c2]])] (Eo (.bool r) [.junk, .junk]) := by
 intro a0 a1u0c0 a1u1c0 a1u1c1 a1u1c2 r hr
 apply pF 9 [] [] [] [.tmp 4] hr cl181 Tryz.func181
 intro Φ hΦ hF g
 unfold F_slices_ContainsFunc_int_int__impl_Group_arePlays_1 at hF
 refine wW ?_
 refine wC hF [.sh, .sh] c_slices_IndexFunc_int_int__impl_Group_arePlays_1 (fun z1 hF => ?_)
 cases hΦ _ (Rn_some hF)
 refine wW ?_
 try simp [go_sem, g]
noncomputable def F_impl_Group_arePlays_2_ (a0 : Fault) (a1c0 : Int) (a2c0 : Int) (a2c1 : Int) (a2c2 : Int) : Option (Bool) :=
 (((F_impl_within a0.Dealer 1 a1c0).bind fun z4 =>
 if (!z4) = true then (
 some true) else (
 (F_impl_within a0.Trustee 1 a1c0).bind fun z6 =>
 if (!z6) = true then (
 some true) else (
 (F_impl_Group_isExp (Group.mk a2c0 a2c1 a2c2) a0.Delta).bind fun z8 =>
 some (!z8))) : Option (Bool)).bind fun x3 =>
 some x3)
theorem c_impl_Group_arePlays_2_ : ∀ {a0} {a1c0} {a2c0} {a2c1} {a2c2} {r}, F_impl_Group_arePlays_2_ a0 a1c0 a2c0 a2c1 a2c2 = some r → PCalls Tryz.prog 184 [(.sh, vJ a0), (.sh, .fp [.int .i64 a1c0]), (.sh, .fp [.int .i64 a2c0, .int .i64 a2c1, .int .i64 a2c2])] (Eo (.bool r) [.junk, .junk, .junk]) := by
 intro a0 a1c0 a2c0 a2c1 a2c2 r hr
 apply pF 24 [] [] [] [.tmp 4] hr cl184 Tryz.func184
 intro Φ hΦ hF g
 unfold F_impl_Group_arePlays_2_ at hF
 refine wW ?_
 refine wJ hF (fun x3 => [(4, .v (.bool x3))]) (fun x3 hF => ?_) fun _ hj1 hF => ?_
 ·cases hΦ _ (Rn_some hF)
  try simp [go_sem, g]
 ·refine wC hF [.sh, .sh, .sh] c_impl_within (fun z4 hF => ?_)
  refine wG hF (fun h5 hF => ?_) fun h5 hF => ?_
  ·try simp [go_sem, g, h5]
   exact wT (hj1 _) (Rn_some hF)
  ·try simp [go_sem, g, h5]
   refine wC hF [.sh, .sh, .sh] c_impl_within (fun z6 hF => ?_)
   try simp [go_sem, g, h5]
   refine wG hF (fun h7 hF => ?_) fun h7 hF => ?_
   ·try simp [go_sem, g, h7]
    exact wT (hj1 _) (Rn_some hF)
   ·try simp [go_sem, g, h7]
    refine wC hF [.sh, .sh] c_impl_Group_isExp (fun z8 hF => ?_)
    try simp [go_sem, g, h7]
    exact wT (hj1 _) (Rn_some hF)
noncomputable def F_slices_IndexFunc_impl_Fault_impl_Fault__impl_Group_arePlays_2 (a0 : (List Fault)) (a1u0c0 : Int) (a1u1c0 : Int) (a1u1c1 : Int) (a1u1c2 : Int) : Option (Int) :=
 ((rloop (σ := Unit) (fun i5 s4 =>
 (ix a0 i5).bind fun x11 =>
 (F_impl_Group_arePlays_2_ x11 a1u0c0 a1u1c0 a1u1c1 a1u1c2).bind fun z12 =>
 if z12 = true then (
 some (.out (.inr i5))) else (
 some (.go ()))) (fun s4 => .inl ()) (a0.length) 0 () : Option (Unit ⊕ Int)).bind (Sum.elim (fun x3 =>
 some (-1)) some))
theorem c_slices_IndexFunc_impl_Fault_impl_Fault__impl_Group_arePlays_2 : ∀ {a0} {a1u0c0} {a1u1c0} {a1u1c1} {a1u1c2} {r}, F_slices_IndexFunc_impl_Fault_impl_Fault__impl_Group_arePlays_2 a0 a1u0c0 a1u1c0 a1u1c1 a1u1c2 = some r → PCalls Tryz.prog 279 [(.sh, vH a0), (.sh, .func (.func 184) [] [.fp [.int .i64 a1u0c0], .fp [.int .i64 a1u1c0, .int .i64 a1u1c1, .int .i64 a1u1c2]])] (Eo (.int .i64 r) [.junk, .junk]) := by
 intro a0 a1u0c0 a1u1c0 a1u1c1 a1u1c2 r hr
 apply pF 19 [] [] [] [.tmp 4] hr cl279 Tryz.func279
 intro Φ hΦ hF g
 unfold F_slices_IndexFunc_impl_Fault_impl_Fault__impl_Group_arePlays_2 at hF
 iterate 2 (try simp [go_sem, g]; try intros; refine pw_wk ?_)
 refine wS hF (fun x3 => []) (fun x3 hF => ?_) fun _ hj1 hr2 hF => ?_
 ·cases hΦ _ (Rn_some hF)
  refine wW ?_
  try simp [go_sem, g]
 ·refine wB ?_
  obtain ⟨b14, hb15, hψ8⟩ := hF
  refine pR hb15 (fun i5 s4 => [(0, .v (vH a0)), (1, .v (.func (.func 184) [] [.fp [.int .i64 a1u0c0], .fp [.int .i64 a1u1c0, .int .i64 a1u1c1, .int .i64 a1u1c2]])), (7, .v (.int .i64 (a0.length : Int))), (8, .v (.int .i64 i5))]) (fun s4 _ hN16 => ?_) (fun i5 s4 _ _ hi9 hi10 ho6 hg7 hF => ?_)
  ·subst hN16
   refine wW ?_
   refine wf ?_
   exact wT (hj1 _) hψ8
  ·refine wW ?_
   refine wt ?_ (hb := by simp [go_sem, g, hi9, hi10])
   refine wW ?_
   refine wB ?_
   obtain ⟨x11, g, hF⟩ := Rx g hF
   refine wW ?_
   refine wC hF [.sh] c_impl_Group_arePlays_2_ (fun z12 hF => ?_)
   refine wK [0, 1, 5, 7, 8, 16] ?_
   refine wI hF (fun h13 hF => ?_) (fun h13 hF => ?_)
   ·cases ho6 _ (Rn_some hF)
    cases hΦ _ (hr2 _ hψ8)
    refine wW ?_
    try simp [go_sem, g]
   ·refine wW ?_
    exact wT (hg7 ()) (Rn_some hF) (a := by simp [go_sem, g, wr_i hi9 hi10 (by assumption)])
noncomputable def F_slices_ContainsFunc_impl_Fault_impl_Fault__impl_Group_arePlays_2 (a0 : (List Fault)) (a1u0c0 : Int) (a1u1c0 : Int) (a1u1c1 : Int) (a1u1c2 : Int) : Option (Bool) :=
 (F_slices_IndexFunc_impl_Fault_impl_Fault__impl_Group_arePlays_2 a0 a1u0c0 a1u1c0 a1u1c1 a1u1c2).bind fun z1 =>
 some (decide (0 ≤ z1))
theorem c_slices_ContainsFunc_impl_Fault_impl_Fault__impl_Group_arePlays_2 : ∀ {a0} {a1u0c0} {a1u1c0} {a1u1c1} {a1u1c2} {r}, F_slices_ContainsFunc_impl_Fault_impl_Fault__impl_Group_arePlays_2 a0 a1u0c0 a1u1c0 a1u1c1 a1u1c2 = some r → PCalls Tryz.prog 183 [(.sh, vH a0), (.sh, .func (.func 184) [] [.fp [.int .i64 a1u0c0], .fp [.int .i64 a1u1c0, .int .i64 a1u1c1, .int .i64 a1u1c2]])] (Eo (.bool r) [.junk, .junk]) := by
 intro a0 a1u0c0 a1u1c0 a1u1c1 a1u1c2 r hr
 apply pF 9 [] [] [] [.tmp 4] hr cl183 Tryz.func183
 intro Φ hΦ hF g
 unfold F_slices_ContainsFunc_impl_Fault_impl_Fault__impl_Group_arePlays_2 at hF
 refine wW ?_
 refine wC hF [.sh, .sh] c_slices_IndexFunc_impl_Fault_impl_Fault__impl_Group_arePlays_2 (fun z1 hF => ?_)
 cases hΦ _ (Rn_some hF)
 refine wW ?_
 try simp [go_sem, g]
@[go_sem] def D66_2 : List DE := [d2 0 [7] 7 7, d3 1 [10], d0 2 [11], d0 3 [12], d2 4 [4, 13] 4 4, d0 5 [14, 13], d0 6 [15, 13], d0 7 [16, 13], d2 8 [7, 13] 7 7, d3 9 [17, 18, 13], d0 10 [19, 13], d0 11 [13, 20], d0 12 [21], d0 13 [2, 22], d0 14 [23, 22], d0 15 [24, 22], d0 16 [22, 25]]
noncomputable def F_impl_Group_arePlays (a0 : Group) (a1 : (List (List Int))) (a2 : (List Fault)) : Option (Bool) :=
 (((F_impl_within (a1.length : Int) 1 7).bind fun z4 =>
 if (!z4) = true then (
 some true) else (
 (ix a1 0).bind fun x6 =>
 (F_impl_within (x6.length : Int) 1 (a1.length : Int)).bind fun z7 =>
 if (!z7) = true then (
 some true) else (
 some (decide (20 < (a2.length : Int))))) : Option (Bool)).bind fun x3 =>
 if x3 = true then (
 some false) else (
 (((F_slices_ContainsFunc_int_int__impl_Group_arePlays_1 a1 a1 a0.P a0.Q a0.G).bind fun z13 =>
 if (!z13) = true then (
 (F_slices_ContainsFunc_impl_Fault_impl_Fault__impl_Group_arePlays_2 a2 (a1.length : Int) a0.P a0.Q a0.G).bind fun z15 =>
 some (!z15)) else (
 some false) : Option (Bool)).bind fun x12 =>
 some x12)))
theorem c_impl_Group_arePlays : ∀ {a0} {a1} {a2} {r}, F_impl_Group_arePlays a0 a1 a2 = some r → PCalls Tryz.prog 66 [(.sh, vE a0), (.sh, vI a1), (.sh, vH a2)] (Eo (.bool r) [.junk, .junk, .junk]) := by
 intro a0 a1 a2 r hr
 apply pF 37 [] [] [1000000] [.tmp 6] hr cl66 Tryz.func66
 intro Φ hΦ hF g
 unfold F_impl_Group_arePlays at hF
 iterate 2 (try simp [go_sem, g]; try intros; refine pw_wk ?_)
 refine wJ hF (fun x3 => [(2, .v (vH a2)), (3, .bl [.int .i64 a0.P, .int .i64 a0.Q, .int .i64 a0.G]), (4, .bl [vI a1]), (7, .bl [.int .i64 (a1.length : Int)]), (26, .v (.bool x3))]) (fun x3 hF => ?_) fun _ hj1 hF => ?_
 ·refine wI hF (fun h9 hF => ?_) (fun h9 hF => ?_)
  ·cases hΦ _ (Rn_some hF)
   refine wW ?_
   try simp [go_sem, g]
  ·refine wW ?_
   refine wJ hF (fun x12 => [(6, .v (.bool x12))]) (fun x12 hF => ?_) fun _ hj10 hF => ?_
   ·cases hΦ _ (Rn_some hF)
    try simp [go_sem, g]
   ·refine wC hF [.sh, .sh] c_slices_ContainsFunc_int_int__impl_Group_arePlays_1 (fun z13 hF => ?_)
    refine wG hF (fun h14 hF => ?_) fun h14 hF => ?_
    ·try simp [go_sem, g, h14]
     refine wC hF [.sh, .sh] c_slices_ContainsFunc_impl_Fault_impl_Fault__impl_Group_arePlays_2 (fun z15 hF => ?_)
     try simp [go_sem, g, h14]
     exact wT (hj10 _) (Rn_some hF)
    ·try simp [go_sem, g, h14]
     exact wT (hj10 _) (Rn_some hF)
 ·refine wX D66_2 follows ?_
  refine wC hF [.sh, .sh, .sh] c_impl_within (fun z4 hF => ?_)
  refine wH hF (fun h5 hF => ?_) fun h5 hF => ?_
  ·try simp [go_sem, g, h5]
   exact wT (hj1 _) (Rn_some hF)
  ·obtain ⟨x6, g, hF⟩ := Rxn g 0 hF
   try simp [go_sem, g, h5]
   try intros
   refine wC hF [.sh, .sh, .sh] c_impl_within (fun z7 hF => ?_)
   try simp [go_sem, g, h5]
   refine wH hF (fun h8 hF => ?_) fun h8 hF => ?_
   ·try simp [go_sem, g, h8]
    exact wT (hj1 _) (Rn_some hF)
   ·try simp [go_sem, g, h8]
    try intros
    exact wT (hj1 _) (Rn_some hF)
noncomputable def F_impl_mod (a0 : Int) (a1 : Int) : Option (Int) :=
 gd (a1 ≠ 0) <|
 gd (a1 ≠ 0) <|
 some ((i64.wrap ((a0.tmod a1) + a1)).tmod a1)
theorem c_impl_mod : ∀ {a0} {a1} {r}, F_impl_mod a0 a1 = some r → PCalls Tryz.prog 185 [(.sh, .int .i64 a0), (.sh, .int .i64 a1)] (Eo (.int .i64 r) [.junk, .junk]) := by
 intro a0 a1 r hr
 apply pF 12 [] [] [] [.tmp 4] hr cl185 Tryz.func185
 intro Φ hΦ hF g
 unfold F_impl_mod at hF
 obtain ⟨g, hF⟩ := Rz g hF
 obtain ⟨g, hF⟩ := Rz g hF
 cases hΦ _ (Rn_some hF)
 iterate 2 refine wW ?_
 try simp [go_sem, g]
@[go_sem] def D119_1 : List DE := [d0 0 [1], d0 1 [2], d1 2 [3] 3, d2 3 [9] 3 9, d1 5 [3] 3, d2 6 [12] 3 12, d3 4 [8, 10], d3 7 [7, 11, 13], d0 8 [14]]
noncomputable def F_impl_Group_pow (a0 : Group) (a1 : Int) (a2 : Int) : Option (Int) :=
 (F_impl_mod a2 a0.Q).bind fun z1 =>
 (F_impl_power a1 z1 a0.P).bind fun z2 =>
 some z2
theorem c_impl_Group_pow : ∀ {a0} {a1} {a2} {r}, F_impl_Group_pow a0 a1 a2 = some r → PCalls Tryz.prog 119 [(.sh, vE a0), (.sh, .int .i64 a1), (.sh, .int .i64 a2)] (Eo (.int .i64 r) [.junk, .junk, .junk]) := by
 intro a0 a1 a2 r hr
 apply pF 15 [] [] [] [.tmp 6] hr cl119 Tryz.func119
 intro Φ hΦ hF g
 unfold F_impl_Group_pow at hF
 refine wW ?_
 refine wX D119_1 follows ?_
 refine wC hF [.sh, .sh] c_impl_mod (fun z1 hF => ?_)
 refine wC hF [.sh, .sh, .sh] c_impl_power (fun z2 hF => ?_)
 refine wK [6] ?_
 cases hΦ _ (Rn_some hF)
 try simp [go_sem, g]
@[go_sem] def D70_5 : List DE := [d0 0 [7], d0 1 [2], d0 2 [16, 17], d0 3 [0], d0 4 [18, 19], d0 5 [1], d0 6 [8], d0 7 [21, 22], d0 8 [23], d0 9 [20, 24], d0 10 [0], d0 11 [25, 26], d0 12 [27]]
noncomputable def F_impl_evalPoly (a0 : Int) (a1 : (List Int)) (a2 : Int) : Option (Int) :=
 ((wloop (σ := Int × Int) (fun s4 =>
 if decide (0 ≤ s4.2) = true then (
 gd (a0 ≠ 0) <|
 (ix a1 s4.2).bind fun x10 =>
 gd (a0 ≠ 0) <|
 some (.go ((i64.wrap (((i64.wrap (s4.1 * a2)).tmod a0) + x10)).tmod a0, i64.wrap (s4.2 - 1)))) else (
 some (.out s4.1))) (0, i64.wrap ((a1.length : Int) - 1)) : Option (Int)).bind fun x3 =>
 some x3)
theorem c_impl_evalPoly : ∀ {a0} {a1} {a2} {r}, F_impl_evalPoly a0 a1 a2 = some r → PCalls Tryz.prog 70 [(.sh, .int .i64 a0), (.sh, vC a1), (.sh, .int .i64 a2)] (Eo (.int .i64 r) [.junk, .junk, .junk]) := by
 intro a0 a1 a2 r hr
 apply pF 29 [] [] [] [.tmp 6] hr cl70 Tryz.func70
 intro Φ hΦ hF g
 unfold F_impl_evalPoly at hF
 iterate 3 (try simp [go_sem, g]; try intros; refine pw_wk ?_)
 refine wJ hF (fun x3 => [(7, .v (.int .i64 x3))]) (fun x3 hF => ?_) fun _ hj1 hF => ?_
 ·cases hΦ _ (Rn_some hF)
  refine wW ?_
  try simp [go_sem, g]
 ·refine wB ?_
  obtain ⟨b11, hb12, hψ8⟩ := hF
  refine pL hb12 (fun s4 => [(0, .v (.int .i64 a0)), (1, .v (vC a1)), (2, .v (.int .i64 a2)), (7, .v (.int .i64 s4.1)), (8, .v (.int .i64 s4.2))]) (fun s4 _ _ ho6 hg7 hF => ?_)
  refine wW ?_
  refine wI hF (fun h9 hF => ?_) (fun h9 hF => ?_)
  ·refine wW ?_
   refine wB ?_
   refine wX D70_5 follows ?_
   obtain ⟨g, hF⟩ := Rz g hF
   obtain ⟨x10, g, hF⟩ := Rx g hF
   obtain ⟨g, hF⟩ := Rz g hF
   refine wK [0, 1, 2, 7, 8] ?_
   exact wT (hg7 _) (Rn_some hF)
  ·cases ho6 _ (Rn_some hF)
   exact wT (hj1 _) hψ8
@[go_sem] def D67_10 : List DE := [d1 0 [7] 7, d2 1 [34] 7 34, d1 2 [3] 3, d2 3 [36] 3 36, d0 4 [1], d0 5 [10], d3 6 [37, 38, 39], d0 7 [40], ⟨8, [35, 41], [], none, true, false, false⟩, d1 9 [7] 7, d2 10 [43, 42] 7 43]
@[go_sem] def D67_5 : List DE := [d1 0 [7] 7, d2 1 [18] 7 18, d2 2 [3] 3 3, d1 3 [3] 3, d2 4 [21] 3 21, d0 5 [9], d3 6 [20, 22, 23], d0 7 [24], ⟨8, [19, 25], [], none, true, false, false⟩, d1 9 [7] 7, d2 10 [27, 26] 7 27]
noncomputable def F_impl_Group_deal (a0 : Group) (a1 : (List Int)) (a2 : Int) : Option (Dealing) :=
 ((rloop (σ := (List Int) × (List Int)) (fun i14 s13 =>
 (ix a1 i14).bind fun x20 =>
 (F_impl_Group_pow a0 a0.G x20).bind fun z21 =>
 gd ((s13.1.length + 1) * 8 ≤ 140737488355328 ∧ s13.1.length + 1 ≤ 4611686018427387904) <|
 some (.go (s13.1 ++ [z21], s13.2))) (fun s13 => (s13.1, s13.2)) (a1.length) 0 ([], []) : Option (((List Int) × (List Int)))).bind fun x3 =>
 ((wloop (σ := (List Int) × (List Int) × Int) (fun s36 =>
 if decide (s36.2.2 ≤ a2) = true then (
 (F_impl_evalPoly a0.Q a1 s36.2.2).bind fun z42 =>
 gd ((s36.2.1.length + 1) * 8 ≤ 140737488355328 ∧ s36.2.1.length + 1 ≤ 4611686018427387904) <|
 some (.go (s36.1, s36.2.1 ++ [z42], i64.wrap (s36.2.2 + 1)))) else (
 some (.out (s36.1, s36.2.1)))) (x3.1, x3.2, 1) : Option (((List Int) × (List Int)))).bind fun x28 =>
 some (Dealing.mk x28.1 x28.2)))
theorem c_impl_Group_deal : ∀ {a0} {a1} {a2} {r}, F_impl_Group_deal a0 a1 a2 = some r → PCalls Tryz.prog 67 [(.sh, vE a0), (.sh, vC a1), (.sh, .int .i64 a2)] (Eo (vK r) [.junk, .junk, .junk]) := by
 intro a0 a1 a2 r hr
 apply pF 45 [] [] [] [.cell 6 34] hr cl67 Tryz.func67
 intro Φ hΦ hF g
 unfold F_impl_Group_deal at hF
 iterate 3 (try simp [go_sem, g]; try intros; refine pw_wk ?_)
 refine wJ hF (fun x3 => [(1, .v (vC a1)), (2, .v (.int .i64 a2)), (3, .bl [.int .i64 a0.P, .int .i64 a0.Q, .int .i64 a0.G]), (6, .bl [.sl true 1 [], .sl true 1 []]), (7, .bl [vD x3.1, vD x3.2])]) (fun x3 hF => ?_) fun _ hj1 hF => ?_
 ·refine wW ?_
  refine wJ hF (fun x28 => [(6, .bl [.sl true 1 [], .sl true 1 []]), (7, .bl [vD x28.1, vD x28.2])]) (fun x28 hF => ?_) fun _ hj26 hF => ?_
  ·refine wK [6] ?_
   cases hΦ _ (Rn_some hF)
   try simp [go_sem, g]
  ·refine wB ?_
   obtain ⟨b43, hb44, hψ40⟩ := hF
   refine pL hb44 (fun s36 => [(1, .v (vC a1)), (2, .v (.int .i64 a2)), (3, .bl [.int .i64 a0.P, .int .i64 a0.Q, .int .i64 a0.G]), (6, .bl [.sl true 1 [], .sl true 1 []]), (7, .bl [vD s36.1, vD s36.2.1]), (10, .v (.int .i64 s36.2.2))]) (fun s36 _ _ ho38 hg39 hF => ?_)
   refine wK [1, 2, 3, 6, 7, 10, 31] ?_
   refine wI hF (fun h41 hF => ?_) (fun h41 hF => ?_)
   ·refine wW ?_
    refine wB ?_
    refine wX D67_10 follows ?_
    refine wC hF [.sh, .sh, .sh] c_impl_evalPoly (fun z42 hF => ?_)
    obtain ⟨g, hF⟩ := Rg g hF
    refine wK [1, 2, 3, 6, 7, 10] ?_
    exact wT (hg39 _) (Rn_some hF)
   ·cases ho38 _ (Rn_some hF)
    exact wT (hj26 _) hψ40
 ·refine wB ?_
  obtain ⟨b22, hb23, hψ17⟩ := hF
  refine pR hb23 (fun i14 s13 => [(1, .v (vC a1)), (2, .v (.int .i64 a2)), (3, .bl [.int .i64 a0.P, .int .i64 a0.Q, .int .i64 a0.G]), (6, .bl [.sl true 1 [], .sl true 1 []]), (7, .bl [vD s13.1, vD s13.2]), (12, .v (vC a1)), (13, .v (.int .i64 (a1.length : Int))), (14, .v (.int .i64 i14))]) (fun s13 _ hN24 => ?_) (fun i14 s13 _ _ hi18 hi19 ho15 hg16 hF => ?_)
  ·subst hN24
   refine wW ?_
   refine wf ?_
   exact wT (hj1 _) hψ17
  ·refine wW ?_
   refine wt ?_ (hb := by simp [go_sem, g, hi18, hi19])
   refine wW ?_
   refine wB ?_
   obtain ⟨x20, g, hF⟩ := Rx g hF
   refine wK [1, 2, 3, 6, 7, 9, 12, 13, 14] ?_
   refine wX D67_5 follows ?_
   refine wC hF [.sh, .sh, .sh] c_impl_Group_pow (fun z21 hF => ?_)
   obtain ⟨g, hF⟩ := Rg g hF
   refine wK [1, 2, 3, 6, 7, 12, 13, 14] ?_
   exact wT (hg16 (s13.1 ++ [z21], s13.2)) (Rn_some hF) (a := by simp [go_sem, g, wr_i hi18 hi19 (by assumption)])
noncomputable def F_impl_Group_exp (a0 : Group) (a1 : Int) : Option (Int) :=
 (F_impl_mod a1 a0.Q).bind fun z1 =>
 some z1
theorem c_impl_Group_exp : ∀ {a0} {a1} {r}, F_impl_Group_exp a0 a1 = some r → PCalls Tryz.prog 68 [(.sh, vE a0), (.sh, .int .i64 a1)] (Eo (.int .i64 r) [.junk, .junk]) := by
 intro a0 a1 r hr
 apply pF 9 [] [] [] [.tmp 4] hr cl68 Tryz.func68
 intro Φ hΦ hF g
 unfold F_impl_Group_exp at hF
 refine wW ?_
 refine wC hF [.sh, .sh] c_impl_mod (fun z1 hF => ?_)
 cases hΦ _ (Rn_some hF)
 refine wW ?_
 try simp [go_sem, g]
noncomputable def F_impl_Group_mul (a0 : Group) (a1 : (List Int)) : Option (Int) :=
 ((rloop (σ := Int) (fun i5 s4 =>
 (ix a1 i5).bind fun x11 =>
 gd (a0.P ≠ 0) <|
 some (.go ((i64.wrap (s4 * x11)).tmod a0.P))) (fun s4 => s4) (a1.length) 0 1 : Option (Int)).bind fun x3 =>
 some x3)
theorem c_impl_Group_mul : ∀ {a0} {a1} {r}, F_impl_Group_mul a0 a1 = some r → PCalls Tryz.prog 112 [(.sh, vE a0), (.sh, vC a1)] (Eo (.int .i64 r) [.junk, .junk]) := by
 intro a0 a1 r hr
 apply pF 22 [] [] [] [.tmp 4] hr cl112 Tryz.func112
 intro Φ hΦ hF g
 unfold F_impl_Group_mul at hF
 iterate 3 (try simp [go_sem, g]; try intros; refine pw_wk ?_)
 refine wJ hF (fun x3 => [(5, .v (.int .i64 x3))]) (fun x3 hF => ?_) fun _ hj1 hF => ?_
 ·cases hΦ _ (Rn_some hF)
  refine wW ?_
  try simp [go_sem, g]
 ·refine wB ?_
  obtain ⟨b12, hb13, hψ8⟩ := hF
  refine pR hb13 (fun i5 s4 => [(2, .bl [.int .i64 a0.P, .int .i64 a0.Q, .int .i64 a0.G]), (5, .v (.int .i64 s4)), (8, .v (vC a1)), (9, .v (.int .i64 (a1.length : Int))), (10, .v (.int .i64 i5))]) (fun s4 _ hN14 => ?_) (fun i5 s4 _ _ hi9 hi10 ho6 hg7 hF => ?_)
  ·subst hN14
   refine wW ?_
   refine wf ?_
   exact wT (hj1 _) hψ8
  ·refine wW ?_
   refine wt ?_ (hb := by simp [go_sem, g, hi9, hi10])
   refine wW ?_
   refine wB ?_
   obtain ⟨x11, g, hF⟩ := Rx g hF
   refine wK [2, 5, 7, 8, 9, 10] ?_
   obtain ⟨g, hF⟩ := Rz g hF
   refine wW ?_
   exact wT (hg7 ((i64.wrap (s4 * x11)).tmod a0.P)) (Rn_some hF) (a := by simp [go_sem, g, wr_i hi9 hi10 (by assumption)])
@[go_sem] def D280_5 : List DE := [d2 0 [3] 3 3, d0 1 [7], d2 2 [3] 3 3, d0 3 [10], d0 4 [8], d2 8 [3] 3 3, d0 9 [8], d0 10 [2], d0 11 [26, 27], d3 5 [19, 20, 21], d0 6 [18, 22], ⟨7, [17, 23], [], none, true, true, true⟩, d3 12 [25, 28], d0 13 [24], d0 14 [29]]
noncomputable def F_impl_Group_commitAt (a0 : Group) (a1 : (List Int)) (a2 : Int) : Option (Int) :=
 ((rloop (σ := Int × Int) (fun i5 s4 =>
 (ix a1 i5).bind fun x11 =>
 (F_impl_Group_pow a0 x11 s4.2).bind fun z12 =>
 (F_impl_Group_mul a0 [s4.1, z12]).bind fun z13 =>
 (F_impl_Group_exp a0 (i64.wrap (s4.2 * a2))).bind fun z14 =>
 some (.go (z13, z14))) (fun s4 => s4.1) (a1.length) 0 (1, 1) : Option (Int)).bind fun x3 =>
 some x3)
theorem c_impl_Group_commitAt : ∀ {a0} {a1} {a2} {r}, F_impl_Group_commitAt a0 a1 a2 = some r → PCalls Tryz.prog 280 [(.sh, vE a0), (.sh, vC a1), (.sh, .int .i64 a2)] (Eo (.int .i64 r) [.junk, .junk, .junk]) := by
 intro a0 a1 a2 r hr
 apply pF 32 [] [] [] [.tmp 6] hr cl280 Tryz.func280
 intro Φ hΦ hF g
 unfold F_impl_Group_commitAt at hF
 iterate 3 (try simp [go_sem, g]; try intros; refine pw_wk ?_)
 refine wJ hF (fun x3 => [(7, .v (.int .i64 x3))]) (fun x3 hF => ?_) fun _ hj1 hF => ?_
 ·cases hΦ _ (Rn_some hF)
  refine wW ?_
  try simp [go_sem, g]
 ·refine wB ?_
  obtain ⟨b15, hb16, hψ8⟩ := hF
  refine pR hb16 (fun i5 s4 => [(2, .v (.int .i64 a2)), (3, .bl [.int .i64 a0.P, .int .i64 a0.Q, .int .i64 a0.G]), (7, .v (.int .i64 s4.1)), (8, .v (.int .i64 s4.2)), (11, .v (vC a1)), (12, .v (.int .i64 (a1.length : Int))), (13, .v (.int .i64 i5))]) (fun s4 _ hN17 => ?_) (fun i5 s4 _ _ hi9 hi10 ho6 hg7 hF => ?_)
  ·subst hN17
   refine wW ?_
   refine wf ?_
   exact wT (hj1 _) hψ8
  ·refine wW ?_
   refine wt ?_ (hb := by simp [go_sem, g, hi9, hi10])
   refine wW ?_
   refine wB ?_
   obtain ⟨x11, g, hF⟩ := Rx g hF
   refine wK [2, 3, 7, 8, 10, 11, 12, 13] ?_
   refine wX D280_5 follows ?_
   refine wC hF [.sh, .sh, .sh] c_impl_Group_pow (fun z12 hF => ?_)
   refine wC hF [.sh, .sh] c_impl_Group_mul (fun z13 hF => ?_)
   refine wC hF [.sh, .sh] c_impl_Group_exp (fun z14 hF => ?_)
   refine wK [2, 3, 7, 8, 11, 12, 13] ?_
   exact wT (hg7 (z13, z14)) (Rn_some hF) (a := by simp [go_sem, g, wr_i hi9 hi10 (by assumption)])
@[go_sem] def D186_1 : List DE := [d2 0 [4] 4 4, d1 1 [4] 4, d2 2 [10] 4 10, d0 3 [3], d2 5 [4] 4 4, d0 6 [1], d0 7 [2], d3 4 [9, 11, 12], d3 8 [14, 15, 16], d0 9 [13, 17], d0 10 [18]]
noncomputable def F_impl_Group_isShare (a0 : Group) (a1 : (List Int)) (a2 : Int) (a3 : Int) : Option (Bool) :=
 (F_impl_Group_pow a0 a0.G a3).bind fun z1 =>
 (F_impl_Group_commitAt a0 a1 a2).bind fun z2 =>
 some (z1 == z2)
theorem c_impl_Group_isShare : ∀ {a0} {a1} {a2} {a3} {r}, F_impl_Group_isShare a0 a1 a2 a3 = some r → PCalls Tryz.prog 186 [(.sh, vE a0), (.sh, vC a1), (.sh, .int .i64 a2), (.sh, .int .i64 a3)] (Eo (.bool r) [.junk, .junk, .junk, .junk]) := by
 intro a0 a1 a2 a3 r hr
 apply pF 19 [] [] [] [.tmp 8] hr cl186 Tryz.func186
 intro Φ hΦ hF g
 unfold F_impl_Group_isShare at hF
 refine wW ?_
 refine wX D186_1 follows ?_
 refine wC hF [.sh, .sh, .sh] c_impl_Group_pow (fun z1 hF => ?_)
 refine wC hF [.sh, .sh, .sh] c_impl_Group_commitAt (fun z2 hF => ?_)
 refine wK [8] ?_
 cases hΦ _ (Rn_some hF)
 try simp [go_sem, g]
noncomputable def F_impl_Group_bad (a0 : Group) (a1 : Dealing) : Option ((List Int)) :=
 ((rloop (σ := (List Int)) (fun i5 s4 =>
 (((ix a1.Shares i5).bind fun x14 =>
 (F_impl_Group_isShare a0 a1.Commits (i64.wrap (i5 + 1)) x14).bind fun z15 =>
 if (!z15) = true then (
 gd ((s4.length + 1) * 8 ≤ 140737488355328 ∧ s4.length + 1 ≤ 4611686018427387904) <|
 some (s4 ++ [i64.wrap (i5 + 1)])) else (
 some s4) : Option ((List Int))).bind fun x13 =>
 some (.go x13))) (fun s4 => s4) (a1.Shares.length) 0 [] : Option ((List Int))).bind fun x3 =>
 some x3)
theorem c_impl_Group_bad : ∀ {a0} {a1} {r}, F_impl_Group_bad a0 a1 = some r → PCalls Tryz.prog 69 [(.sh, vE a0), (.sh, vM a1)] (Eo (vD r) [.junk, .junk]) := by
 intro a0 a1 r hr
 apply pF 32 [] [] [] [.tmp 4] hr cl69 Tryz.func69
 intro Φ hΦ hF g
 unfold F_impl_Group_bad at hF
 iterate 3 (try simp [go_sem, g]; try intros; refine pw_wk ?_)
 refine wJ hF (fun x3 => [(5, .v (vD x3))]) (fun x3 hF => ?_) fun _ hj1 hF => ?_
 ·refine wK [4] ?_
  cases hΦ _ (Rn_some hF)
  try simp [go_sem, g]
 ·refine wB ?_
  obtain ⟨b17, hb18, hψ8⟩ := hF
  refine pR hb18 (fun i5 s4 => [(2, .bl [.int .i64 a0.P, .int .i64 a0.Q, .int .i64 a0.G]), (3, .bl [vC a1.Commits, vC a1.Shares]), (5, .v (vD s4)), (10, .v (vC a1.Shares)), (11, .v (.int .i64 (a1.Shares.length : Int))), (12, .v (.int .i64 i5))]) (fun s4 _ hN19 => ?_) (fun i5 s4 _ _ hi9 hi10 ho6 hg7 hF => ?_)
  ·subst hN19
   refine wW ?_
   refine wf ?_
   exact wT (hj1 _) hψ8
  ·refine wK [2, 3, 5, 10, 11, 12, 13] ?_
   refine wt ?_ (hb := by simp [go_sem, g, hi9, hi10])
   refine wW ?_
   refine wJ hF (fun x13 => [(2, .bl [.int .i64 a0.P, .int .i64 a0.Q, .int .i64 a0.G]), (3, .bl [vC a1.Commits, vC a1.Shares]), (5, .v (vD x13)), (10, .v (vC a1.Shares)), (11, .v (.int .i64 (a1.Shares.length : Int))), (12, .v (.int .i64 i5))]) (fun x13 hF => ?_) fun _ hj11 hF => ?_
   ·exact wT (hg7 x13) (Rn_some hF) (a := by simp [go_sem, g, wr_i hi9 hi10 (by assumption)])
   ·refine wB ?_
    obtain ⟨x14, g, hF⟩ := Rx g hF
    refine wW ?_
    refine wC hF [.sh, .sh, .sh, .sh] c_impl_Group_isShare (fun z15 hF => ?_)
    refine wK [2, 3, 5, 6, 10, 11, 12, 24] ?_
    refine wI hF (fun h16 hF => ?_) (fun h16 hF => ?_)
    ·obtain ⟨g, hF⟩ := Rg g hF
     exact wT (hj11 _) (Rn_some hF)
    ·exact wT (hj11 _) (Rn_some hF)
@[go_sem] def D9_12 : List DE := [d1 0 [13] 13, d2 1 [55] 13 55, d1 2 [16] 16, d2 3 [57] 16 57, d0 4 [58], d2 5 [3] 3 3, d1 6 [13] 13, d2 7 [61] 13 61, d1 8 [16] 16, d2 9 [63] 16 63, d0 10 [64], d0 11 [62, 65], d0 12 [66], d1 13 [16] 16, d2 14 [68] 16 68, d0 15 [67, 69], d3 16 [60, 70], d0 17 [56, 59], d0 18 [72, 71]]
noncomputable def F_impl_PlayDealers (a0 : Group) (a1 : (List (List Int))) (a2 : (List Fault)) : Option ((List Dealing) × (List (List Int)) × Bool) :=
 (((F_impl_isSharing a0).bind fun z4 =>
 if (!z4) = true then (
 some true) else (
 (F_impl_Group_arePlays a0 a1 a2).bind fun z6 =>
 some (!z6)) : Option (Bool)).bind fun x3 =>
 if x3 = true then (
 some ([], [], false)) else (
 ((rloop (σ := (List Dealing) × (List (List Int))) (fun i146 s145 =>
 (ix a1 i146).bind fun x152 =>
 (F_impl_Group_deal a0 x152 (a1.length : Int)).bind fun z153 =>
 ((rloop (σ := (List Int) × (List Int) × Bool) (fun i173 s172 =>
 (((ix a2 i173).bind fun x182 =>
 if (x182.Dealer == (i64.wrap (i146 + 1))) = true then (
 (ix s172.2.1 (i64.wrap (x182.Trustee - 1))).bind fun x184 =>
 (F_impl_Group_exp a0 (i64.wrap (x184 + x182.Delta))).bind fun z185 =>
 if s172.2.2 = true then (
 some (s172.1, s172.2.1.set ((i64.wrap (x182.Trustee - 1)).toNat) z185, x182.Answers)) else (
 some (s172.1, s172.2.1.set ((i64.wrap (x182.Trustee - 1)).toNat) z185, false))) else (
 some (s172.1, s172.2.1, s172.2.2)) : Option (((List Int) × (List Int) × Bool))).bind fun x181 =>
 some (.go (x181.1, x181.2.1, x181.2.2)))) (fun s172 => (s172.1, s172.2.1, s172.2.2)) (a2.length) 0 (z153.Commits, z153.Shares, true) : Option (((List Int) × (List Int) × Bool))).bind fun x156 =>
 (F_impl_Group_bad a0 (Dealing.mk x156.1 x156.2.1)).bind fun z191 =>
 ((rloop (σ := (List Int)) (fun i196 s195 =>
 (((ix z191 i196).bind fun x205 =>
 if x156.2.2 = true then (
 (F_impl_evalPoly a0.Q x152 x205).bind fun z207 =>
 gd ((s195.length + 1) * 8 ≤ 140737488355328 ∧ s195.length + 1 ≤ 4611686018427387904) <|
 some (s195 ++ [z207])) else (
 some s195) : Option ((List Int))).bind fun x204 =>
 some (.go x204))) (fun s195 => s195) (z191.length) 0 [] : Option ((List Int))).bind fun x194 =>
 gd ((s145.1.length + 1) * 48 ≤ 140737488355328 ∧ s145.1.length + 1 ≤ 4611686018427387904) <|
 gd ((s145.2.length + 1) * 24 ≤ 140737488355328 ∧ s145.2.length + 1 ≤ 4611686018427387904) <|
 some (.go (s145.1 ++ [(Dealing.mk x156.1 x156.2.1)], s145.2 ++ [x194]))))) (fun s145 => (s145.1, s145.2)) (a1.length) 0 ([], []) : Option (((List Dealing) × (List (List Int))))).bind fun x10 =>
 some (x10.1, x10.2, true))))
theorem c_impl_PlayDealers : ∀ {a0} {a1} {a2} {r}, F_impl_PlayDealers a0 a1 a2 = some r → PCalls Tryz.prog 9 [(.sh, vE a0), (.sh, vI a1), (.sh, vH a2)] (Eo (.tup [vN r.1, vO r.2.1, .bool r.2.2]) [.junk, .junk, .junk]) := by
 intro a0 a1 a2 r hr
 apply pF 109 [] [] [] [.tmp 6, .tmp 7, .tmp 8] hr cl9 Tryz.func9
 intro Φ hΦ hF g
 unfold F_impl_PlayDealers at hF
 refine wW ?_
 refine wJ hF (fun x3 => [(1, .v (vI a1)), (2, .v (vH a2)), (3, .bl [.int .i64 a0.P, .int .i64 a0.Q, .int .i64 a0.G]), (29, .v (.bool x3))]) (fun x3 hF => ?_) fun _ hj1 hF => ?_
 ·refine wI hF (fun h7 hF => ?_) (fun h7 hF => ?_)
  ·cases hΦ _ (Rn_some hF)
   refine wW ?_
   try simp [go_sem, g]
  ·iterate 2 (try simp [go_sem, g]; try intros; refine pw_wk ?_)
   try simp [go_sem, g]
   try intros
   refine wK [1, 2, 3, 9, 10, 32, 33, 34] ?_
   refine wJ hF (fun x10 => [(9, .v (vN x10.1)), (10, .v (vO x10.2))]) (fun x10 hF => ?_) fun _ hj8 hF => ?_
   ·cases hΦ _ (Rn_some hF)
    refine wW ?_
    try simp [go_sem, g]
   ·refine wB ?_
    obtain ⟨b212, hb213, hψ149⟩ := hF
    refine pR hb213 (fun i146 s145 => [(1, .v (vI a1)), (2, .v (vH a2)), (3, .bl [.int .i64 a0.P, .int .i64 a0.Q, .int .i64 a0.G]), (9, .v (vN s145.1)), (10, .v (vO s145.2)), (32, .v (vI a1)), (33, .v (.int .i64 (a1.length : Int))), (34, .v (.int .i64 i146))]) (fun s145 _ hN214 => ?_) (fun i146 s145 _ _ hi150 hi151 ho147 hg148 hF => ?_)
    ·subst hN214
     refine wW ?_
     refine wf ?_
     exact wT (hj8 _) hψ149
    ·refine wW ?_
     refine wt ?_ (hb := by simp [go_sem, g, hi150, hi151])
     refine wW ?_
     refine wB ?_
     obtain ⟨x152, g, hF⟩ := Rx g hF
     try simp [go_sem, g]
     try intros
     refine pw_wk ?_
     try simp [go_sem, g]
     try intros
     refine wC hF [.sh, .sh, .sh] c_impl_Group_deal (fun z153 hF => ?_)
     refine wK [1, 2, 3, 9, 10, 11, 12, 13, 14, 32, 33, 34] ?_
     try simp [go_sem, g]
     try intros
     refine pw_wk ?_
     refine wJ hF (fun x156 => [(1, .v (vI a1)), (2, .v (vH a2)), (3, .bl [.int .i64 a0.P, .int .i64 a0.Q, .int .i64 a0.G]), (9, .v (vN s145.1)), (10, .v (vO s145.2)), (12, .v (vC x152)), (13, .bl [vD x156.1, vD x156.2.1]), (14, .v (.bool x156.2.2)), (32, .v (vI a1)), (33, .v (.int .i64 (a1.length : Int))), (34, .v (.int .i64 i146))]) (fun x156 hF => ?_) fun _ hj154 hF => ?_
     ·refine wW ?_
      refine wC hF [.sh, .sh] c_impl_Group_bad (fun z191 hF => ?_)
      try simp [go_sem, g]
      try intros
      refine wK [1, 2, 3, 9, 10, 12, 13, 14, 17, 32, 33, 34, 82, 83, 84] ?_
      refine wJ hF (fun x194 => [(1, .v (vI a1)), (2, .v (vH a2)), (3, .bl [.int .i64 a0.P, .int .i64 a0.Q, .int .i64 a0.G]), (9, .v (vN s145.1)), (10, .v (vO s145.2)), (13, .bl [vD x156.1, vD x156.2.1]), (17, .v (vD x194)), (32, .v (vI a1)), (33, .v (.int .i64 (a1.length : Int))), (34, .v (.int .i64 i146))]) (fun x194 hF => ?_) fun _ hj192 hF => ?_
      ·obtain ⟨g, hF⟩ := Rg g hF
       obtain ⟨g, hF⟩ := Rg g hF
       refine wK [1, 2, 3, 9, 10, 32, 33, 34] ?_
       exact wT (hg148 (s145.1 ++ [(Dealing.mk x156.1 x156.2.1)], s145.2 ++ [x194])) (Rn_some hF) (a := by simp [go_sem, g, wr_i hi150 hi151 (by assumption)])
      ·refine wB ?_
       obtain ⟨b208, hb209, hψ199⟩ := hF
       refine pR hb209 (fun i196 s195 => [(1, .v (vI a1)), (2, .v (vH a2)), (3, .bl [.int .i64 a0.P, .int .i64 a0.Q, .int .i64 a0.G]), (9, .v (vN s145.1)), (10, .v (vO s145.2)), (12, .v (vC x152)), (13, .bl [vD x156.1, vD x156.2.1]), (14, .v (.bool x156.2.2)), (17, .v (vD s195)), (32, .v (vI a1)), (33, .v (.int .i64 (a1.length : Int))), (34, .v (.int .i64 i146)), (82, .v (vD z191)), (83, .v (.int .i64 (z191.length : Int))), (84, .v (.int .i64 i196))]) (fun s195 _ hN210 => ?_) (fun i196 s195 _ _ hi200 hi201 ho197 hg198 hF => ?_)
       ·subst hN210
        refine wW ?_
        refine wf ?_
        exact wT (hj192 _) hψ199
       ·refine wW ?_
        refine wt ?_ (hb := by simp [go_sem, g, hi200, hi201])
        refine wW ?_
        refine wJ hF (fun x204 => [(1, .v (vI a1)), (2, .v (vH a2)), (3, .bl [.int .i64 a0.P, .int .i64 a0.Q, .int .i64 a0.G]), (9, .v (vN s145.1)), (10, .v (vO s145.2)), (12, .v (vC x152)), (13, .bl [vD x156.1, vD x156.2.1]), (14, .v (.bool x156.2.2)), (17, .v (vD x204)), (32, .v (vI a1)), (33, .v (.int .i64 (a1.length : Int))), (34, .v (.int .i64 i146)), (82, .v (vD z191)), (83, .v (.int .i64 (z191.length : Int))), (84, .v (.int .i64 i196))]) (fun x204 hF => ?_) fun _ hj202 hF => ?_
        ·exact wT (hg198 x204) (Rn_some hF) (a := by simp [go_sem, g, wr_i hi200 hi201 (by assumption)])
        ·refine wB ?_
         obtain ⟨x205, g, hF⟩ := Rx g hF
         iterate 2 refine wW ?_
         refine wI hF (fun h206 hF => ?_) (fun h206 hF => ?_)
         ·refine wC hF [.sh, .sh, .sh] c_impl_evalPoly (fun z207 hF => ?_)
          obtain ⟨g, hF⟩ := Rg g hF
          exact wT (hj202 (s195 ++ [z207])) (Rn_some hF) (a := by first | (simp [go_sem, g]; done) | simp [go_sem, g, h206])
         ·first | exact wT (hj202 s195) (Rn_some hF) (a := by first | (simp [go_sem, g]; done) | simp [go_sem, g, h206]) | exact wT (hj202 _) (Rn_some hF) (a := by first | (simp [go_sem, g]; done) | simp [go_sem, g, h206])
     ·refine wB ?_
      obtain ⟨b187, hb188, hψ176⟩ := hF
      refine pR hb188 (fun i173 s172 => [(1, .v (vI a1)), (2, .v (vH a2)), (3, .bl [.int .i64 a0.P, .int .i64 a0.Q, .int .i64 a0.G]), (9, .v (vN s145.1)), (10, .v (vO s145.2)), (11, .v (.int .i64 i146)), (12, .v (vC x152)), (13, .bl [vD s172.1, vD s172.2.1]), (14, .v (.bool s172.2.2)), (32, .v (vI a1)), (33, .v (.int .i64 (a1.length : Int))), (34, .v (.int .i64 i146)), (44, .v (vH a2)), (45, .v (.int .i64 (a2.length : Int))), (46, .v (.int .i64 i173))]) (fun s172 _ hN189 => ?_) (fun i173 s172 _ _ hi177 hi178 ho174 hg175 hF => ?_)
      ·subst hN189
       refine wW ?_
       refine wf ?_
       exact wT (hj154 _) hψ176
      ·refine wW ?_
       refine wt ?_ (hb := by simp [go_sem, g, hi177, hi178])
       refine wW ?_
       refine wJ hF (fun x181 => [(1, .v (vI a1)), (2, .v (vH a2)), (3, .bl [.int .i64 a0.P, .int .i64 a0.Q, .int .i64 a0.G]), (9, .v (vN s145.1)), (10, .v (vO s145.2)), (11, .v (.int .i64 i146)), (12, .v (vC x152)), (13, .bl [vD x181.1, vD x181.2.1]), (14, .v (.bool x181.2.2)), (32, .v (vI a1)), (33, .v (.int .i64 (a1.length : Int))), (34, .v (.int .i64 i146)), (44, .v (vH a2)), (45, .v (.int .i64 (a2.length : Int))), (46, .v (.int .i64 i173))]) (fun x181 hF => ?_) fun _ hj179 hF => ?_
       ·exact wT (hg175 (x181.1, x181.2.1, x181.2.2)) (Rn_some hF) (a := by simp [go_sem, g, wr_i hi177 hi178 (by assumption)])
       ·refine wB ?_
        obtain ⟨x182, g, hF⟩ := Rx g hF
        refine wW ?_
        refine wK [1, 2, 3, 9, 10, 11, 12, 13, 14, 16, 32, 33, 34, 44, 45, 46, 54] ?_
        refine wI hF (fun h183 hF => ?_) (fun h183 hF => ?_)
        ·refine wX D9_12 follows ?_
         obtain ⟨x184, g, hF⟩ := Rx g hF
         refine wC hF [.sh, .sh] c_impl_Group_exp (fun z185 hF => ?_)
         refine wK [1, 2, 3, 9, 10, 11, 12, 13, 14, 16, 32, 33, 34, 44, 45, 46] ?_
         refine wG hF (fun h186 hF => ?_) fun h186 hF => ?_
         ·try simp [go_sem, g, h186]
          exact wT (hj179 _) (Rn_some hF)
         ·try simp [go_sem, g, h186]
          exact wT (hj179 _) (Rn_some hF)
        ·exact wT (hj179 _) (Rn_some hF)
 ·refine wC hF [.sh] c_impl_isSharing (fun z4 hF => ?_)
  refine wG hF (fun h5 hF => ?_) fun h5 hF => ?_
  ·try simp [go_sem, g, h5]
   exact wT (hj1 _) (Rn_some hF)
  ·try simp [go_sem, g, h5]
   refine wC hF [.sh, .sh, .sh] c_impl_Group_arePlays (fun z6 hF => ?_)
   try simp [go_sem, g, h5]
   exact wT (hj1 _) (Rn_some hF)
noncomputable def F_spec_l2Good (a0 : Group) : Option (Bool) :=
 (((F_spec_l1In a0.P 3 2000000000).bind fun z4 =>
 if z4 = true then (
 (F_spec_l1In a0.Q 2 (i64.wrap (a0.P - 1))).bind fun z6 =>
 if z6 = true then (
 gd (a0.Q ≠ 0) <|
 if (((i64.wrap (a0.P - 1)).tmod a0.Q) == 0) = true then (
 (F_spec_l1In a0.G 2 (i64.wrap (a0.P - 1))).bind fun z9 =>
 if z9 = true then (
 (F_spec_nPower a0.G a0.Q a0.P).bind fun z11 =>
 if (z11 == 1) = true then (
 (F_spec_nPrime a0.Q).bind fun z13 =>
 if z13 = true then (
 (F_spec_nPrime a0.P).bind fun z15 =>
 some z15) else (
 some false)) else (
 some false)) else (
 some false)) else (
 some false)) else (
 some false)) else (
 some false) : Option (Bool)).bind fun x3 =>
 some x3)
theorem c_spec_l2Good : ∀ {a0} {r}, F_spec_l2Good a0 = some r → PCalls Tryz.prog 187 [(.sh, vE a0)] (Eo (.bool r) [.junk]) := by
 intro a0 r hr
 apply pF 51 [] [] [] [.tmp 2] hr cl187 Tryz.func187
 intro Φ hΦ hF g
 unfold F_spec_l2Good at hF
 refine wW ?_
 refine wJ hF (fun x3 => [(2, .v (.bool x3))]) (fun x3 hF => ?_) fun _ hj1 hF => ?_
 ·cases hΦ _ (Rn_some hF)
  try simp [go_sem, g]
 ·refine wC hF [.sh, .sh, .sh] c_spec_l1In (fun z4 hF => ?_)
  refine wG hF (fun h5 hF => ?_) fun h5 hF => ?_
  ·try simp [go_sem, g, h5]
   refine wC hF [.sh, .sh, .sh] c_spec_l1In (fun z6 hF => ?_)
   try simp [go_sem, g, h5]
   refine wG hF (fun h7 hF => ?_) fun h7 hF => ?_
   ·obtain ⟨g, hF⟩ := Rz g hF
    try simp [go_sem, g, h7]
    refine wG hF (fun h8 hF => ?_) fun h8 hF => ?_
    ·try simp [go_sem, g, h8]
     refine wC hF [.sh, .sh, .sh] c_spec_l1In (fun z9 hF => ?_)
     try simp [go_sem, g, h8]
     refine wG hF (fun h10 hF => ?_) fun h10 hF => ?_
     ·try simp [go_sem, g, h10]
      refine wC hF [.sh, .sh, .sh] c_spec_nPower (fun z11 hF => ?_)
      try simp [go_sem, g, h10]
      refine wG hF (fun h12 hF => ?_) fun h12 hF => ?_
      ·try simp [go_sem, g, h12]
       refine wC hF [.sh] c_spec_nPrime (fun z13 hF => ?_)
       try simp [go_sem, g, h12]
       refine wG hF (fun h14 hF => ?_) fun h14 hF => ?_
       ·try simp [go_sem, g, h14]
        refine wC hF [.sh] c_spec_nPrime (fun z15 hF => ?_)
        try simp [go_sem, g, h14]
        exact wT (hj1 _) (Rn_some hF)
       ·try simp [go_sem, g, h14]
        exact wT (hj1 _) (Rn_some hF)
      ·try simp [go_sem, g, h12]
       exact wT (hj1 _) (Rn_some hF)
     ·try simp [go_sem, g, h10]
      exact wT (hj1 _) (Rn_some hF)
    ·try simp [go_sem, g, h8]
     exact wT (hj1 _) (Rn_some hF)
   ·try simp [go_sem, g, h7]
    exact wT (hj1 _) (Rn_some hF)
  ·try simp [go_sem, g, h5]
   exact wT (hj1 _) (Rn_some hF)
noncomputable def F_spec_sGroup (a0 : Group) : Option (Bool) :=
 (((F_spec_l2Good a0).bind fun z4 =>
 if z4 = true then (
 some (decide (7 < a0.Q))) else (
 some false) : Option (Bool)).bind fun x3 =>
 some x3)
theorem c_spec_sGroup : ∀ {a0} {r}, F_spec_sGroup a0 = some r → PCalls Tryz.prog 71 [(.sh, vE a0)] (Eo (.bool r) [.junk]) := by
 intro a0 r hr
 apply pF 10 [] [] [] [.tmp 2] hr cl71 Tryz.func71
 intro Φ hΦ hF g
 unfold F_spec_sGroup at hF
 refine wW ?_
 refine wJ hF (fun x3 => [(2, .v (.bool x3))]) (fun x3 hF => ?_) fun _ hj1 hF => ?_
 ·cases hΦ _ (Rn_some hF)
  try simp [go_sem, g]
 ·refine wC hF [.sh] c_spec_l2Good (fun z4 hF => ?_)
  refine wG hF (fun h5 hF => ?_) fun h5 hF => ?_
  ·try simp [go_sem, g, h5]
   exact wT (hj1 _) (Rn_some hF)
  ·try simp [go_sem, g, h5]
   exact wT (hj1 _) (Rn_some hF)
noncomputable def F_spec_l1All (a0 : (List Int)) (a1 : Int) (a2 : Int) : Option (Bool) :=
 ((rloop (σ := Unit) (fun i5 s4 =>
 (ix a0 i5).bind fun x11 =>
 (F_spec_l1In x11 a1 a2).bind fun z12 =>
 if (!z12) = true then (
 some (.out (.inr false))) else (
 some (.go ()))) (fun s4 => .inl ()) (a0.length) 0 () : Option (Unit ⊕ Bool)).bind (Sum.elim (fun x3 =>
 some true) some))
theorem c_spec_l1All : ∀ {a0} {a1} {a2} {r}, F_spec_l1All a0 a1 a2 = some r → PCalls Tryz.prog 188 [(.sh, vC a0), (.sh, .int .i64 a1), (.sh, .int .i64 a2)] (Eo (.bool r) [.junk, .junk, .junk]) := by
 intro a0 a1 a2 r hr
 apply pF 21 [] [] [] [.tmp 6] hr cl188 Tryz.func188
 intro Φ hΦ hF g
 unfold F_spec_l1All at hF
 iterate 2 (try simp [go_sem, g]; try intros; refine pw_wk ?_)
 refine wS hF (fun x3 => []) (fun x3 hF => ?_) fun _ hj1 hr2 hF => ?_
 ·cases hΦ _ (Rn_some hF)
  refine wW ?_
  try simp [go_sem, g]
 ·refine wB ?_
  obtain ⟨b14, hb15, hψ8⟩ := hF
  refine pR hb15 (fun i5 s4 => [(1, .v (.int .i64 a1)), (2, .v (.int .i64 a2)), (9, .v (vC a0)), (10, .v (.int .i64 (a0.length : Int))), (11, .v (.int .i64 i5))]) (fun s4 _ hN16 => ?_) (fun i5 s4 _ _ hi9 hi10 ho6 hg7 hF => ?_)
  ·subst hN16
   refine wW ?_
   refine wf ?_
   exact wT (hj1 _) hψ8
  ·refine wW ?_
   refine wt ?_ (hb := by simp [go_sem, g, hi9, hi10])
   refine wW ?_
   refine wB ?_
   obtain ⟨x11, g, hF⟩ := Rx g hF
   refine wW ?_
   refine wC hF [.sh, .sh, .sh] c_spec_l1In (fun z12 hF => ?_)
   refine wK [1, 2, 9, 10, 11, 19] ?_
   refine wI hF (fun h13 hF => ?_) (fun h13 hF => ?_)
   ·cases ho6 _ (Rn_some hF)
    cases hΦ _ (hr2 _ hψ8)
    refine wW ?_
    try simp [go_sem, g]
   ·refine wW ?_
    exact wT (hg7 ()) (Rn_some hF) (a := by simp [go_sem, g, wr_i hi9 hi10 (by assumption)])
noncomputable def F_spec_gExps (a0 : Group) (a1 : (List Int)) : Option (Bool) :=
 (F_spec_l1All a1 0 (i64.wrap (a0.Q - 1))).bind fun z1 =>
 some z1
theorem c_spec_gExps : ∀ {a0} {a1} {r}, F_spec_gExps a0 a1 = some r → PCalls Tryz.prog 73 [(.sh, vE a0), (.sh, vC a1)] (Eo (.bool r) [.junk, .junk]) := by
 intro a0 a1 r hr
 apply pF 10 [] [] [] [.tmp 4] hr cl73 Tryz.func73
 intro Φ hΦ hF g
 unfold F_spec_gExps at hF
 refine wW ?_
 refine wC hF [.sh, .sh, .sh] c_spec_l1All (fun z1 hF => ?_)
 cases hΦ _ (Rn_some hF)
 refine wW ?_
 try simp [go_sem, g]
noncomputable def F_spec_yEval (a0 : Int) (a1 : (List Int)) (a2 : Int) : Option (Int) :=
 ((wloop (σ := Int × Int) (fun s4 =>
 if decide (0 ≤ s4.2) = true then (
 (ix a1 s4.2).bind fun x10 =>
 gd (a0 ≠ 0) <|
 some (.go ((i64.wrap ((i64.wrap (s4.1 * a2)) + x10)).tmod a0, i64.wrap (s4.2 - 1)))) else (
 some (.out s4.1))) (0, i64.wrap ((a1.length : Int) - 1)) : Option (Int)).bind fun x3 =>
 some x3)
theorem c_spec_yEval : ∀ {a0} {a1} {a2} {r}, F_spec_yEval a0 a1 a2 = some r → PCalls Tryz.prog 76 [(.sh, .int .i64 a0), (.sh, vC a1), (.sh, .int .i64 a2)] (Eo (.int .i64 r) [.junk, .junk, .junk]) := by
 intro a0 a1 a2 r hr
 apply pF 27 [] [] [] [.tmp 6] hr cl76 Tryz.func76
 intro Φ hΦ hF g
 unfold F_spec_yEval at hF
 iterate 3 (try simp [go_sem, g]; try intros; refine pw_wk ?_)
 refine wJ hF (fun x3 => [(7, .v (.int .i64 x3))]) (fun x3 hF => ?_) fun _ hj1 hF => ?_
 ·cases hΦ _ (Rn_some hF)
  refine wW ?_
  try simp [go_sem, g]
 ·refine wB ?_
  obtain ⟨b11, hb12, hψ8⟩ := hF
  refine pL hb12 (fun s4 => [(0, .v (.int .i64 a0)), (1, .v (vC a1)), (2, .v (.int .i64 a2)), (7, .v (.int .i64 s4.1)), (8, .v (.int .i64 s4.2))]) (fun s4 _ _ ho6 hg7 hF => ?_)
  refine wW ?_
  refine wI hF (fun h9 hF => ?_) (fun h9 hF => ?_)
  ·refine wW ?_
   refine wB ?_
   obtain ⟨x10, g, hF⟩ := Rx g hF
   obtain ⟨g, hF⟩ := Rz g hF
   refine wK [0, 1, 2, 7, 8] ?_
   exact wT (hg7 _) (Rn_some hF)
  ·cases ho6 _ (Rn_some hF)
   exact wT (hj1 _) hψ8
@[go_sem] def D74_10 : List DE := [d1 0 [7] 7, d2 1 [33] 7 33, d1 2 [3] 3, d2 3 [35] 3 35, d0 4 [1], d0 5 [10], d3 6 [36, 37, 38], d0 7 [39], ⟨8, [34, 40], [], none, true, false, false⟩, d1 9 [7] 7, d2 10 [42, 41] 7 42]
@[go_sem] def D74_5 : List DE := [d1 0 [7] 7, d2 1 [17] 7 17, d2 2 [3] 3 3, d1 3 [3] 3, d2 4 [20] 3 20, d0 5 [9], d3 6 [19, 21, 22], d0 7 [23], ⟨8, [18, 24], [], none, true, false, false⟩, d1 9 [7] 7, d2 10 [26, 25] 7 26]
noncomputable def F_spec_sDeal (a0 : Group) (a1 : (List Int)) (a2 : Int) : Option (Dealing) :=
 ((rloop (σ := (List Int) × (List Int)) (fun i14 s13 =>
 (ix a1 i14).bind fun x20 =>
 (F_spec_gExp a0 a0.G x20).bind fun z21 =>
 gd ((s13.1.length + 1) * 8 ≤ 140737488355328 ∧ s13.1.length + 1 ≤ 4611686018427387904) <|
 some (.go (s13.1 ++ [z21], s13.2))) (fun s13 => (s13.1, s13.2)) (a1.length) 0 ([], []) : Option (((List Int) × (List Int)))).bind fun x3 =>
 ((wloop (σ := (List Int) × (List Int) × Int) (fun s36 =>
 if decide (s36.2.2 ≤ a2) = true then (
 (F_spec_yEval a0.Q a1 s36.2.2).bind fun z42 =>
 gd ((s36.2.1.length + 1) * 8 ≤ 140737488355328 ∧ s36.2.1.length + 1 ≤ 4611686018427387904) <|
 some (.go (s36.1, s36.2.1 ++ [z42], i64.wrap (s36.2.2 + 1)))) else (
 some (.out (s36.1, s36.2.1)))) (x3.1, x3.2, 1) : Option (((List Int) × (List Int)))).bind fun x28 =>
 some (Dealing.mk x28.1 x28.2)))
theorem c_spec_sDeal : ∀ {a0} {a1} {a2} {r}, F_spec_sDeal a0 a1 a2 = some r → PCalls Tryz.prog 74 [(.sh, vE a0), (.sh, vC a1), (.sh, .int .i64 a2)] (Eo (vK r) [.junk, .junk, .junk]) := by
 intro a0 a1 a2 r hr
 apply pF 44 [] [] [] [.cell 6 34] hr cl74 Tryz.func74
 intro Φ hΦ hF g
 unfold F_spec_sDeal at hF
 iterate 3 (try simp [go_sem, g]; try intros; refine pw_wk ?_)
 refine wJ hF (fun x3 => [(1, .v (vC a1)), (2, .v (.int .i64 a2)), (3, .bl [.int .i64 a0.P, .int .i64 a0.Q, .int .i64 a0.G]), (6, .bl [.sl true 1 [], .sl true 1 []]), (7, .bl [vD x3.1, vD x3.2])]) (fun x3 hF => ?_) fun _ hj1 hF => ?_
 ·refine wW ?_
  refine wJ hF (fun x28 => [(6, .bl [.sl true 1 [], .sl true 1 []]), (7, .bl [vD x28.1, vD x28.2])]) (fun x28 hF => ?_) fun _ hj26 hF => ?_
  ·cases hΦ _ (Rn_some hF)
   refine wW ?_
   try simp [go_sem, g]
  ·refine wB ?_
   obtain ⟨b43, hb44, hψ40⟩ := hF
   refine pL hb44 (fun s36 => [(1, .v (vC a1)), (2, .v (.int .i64 a2)), (3, .bl [.int .i64 a0.P, .int .i64 a0.Q, .int .i64 a0.G]), (6, .bl [.sl true 1 [], .sl true 1 []]), (7, .bl [vD s36.1, vD s36.2.1]), (10, .v (.int .i64 s36.2.2))]) (fun s36 _ _ ho38 hg39 hF => ?_)
   refine wK [1, 2, 3, 6, 7, 10, 30] ?_
   refine wI hF (fun h41 hF => ?_) (fun h41 hF => ?_)
   ·refine wW ?_
    refine wB ?_
    refine wX D74_10 follows ?_
    refine wC hF [.sh, .sh, .sh] c_spec_yEval (fun z42 hF => ?_)
    obtain ⟨g, hF⟩ := Rg g hF
    refine wK [1, 2, 3, 6, 7, 10] ?_
    exact wT (hg39 _) (Rn_some hF)
   ·cases ho38 _ (Rn_some hF)
    exact wT (hj26 _) hψ40
 ·refine wB ?_
  obtain ⟨b22, hb23, hψ17⟩ := hF
  refine pR hb23 (fun i14 s13 => [(1, .v (vC a1)), (2, .v (.int .i64 a2)), (3, .bl [.int .i64 a0.P, .int .i64 a0.Q, .int .i64 a0.G]), (6, .bl [.sl true 1 [], .sl true 1 []]), (7, .bl [vD s13.1, vD s13.2]), (11, .v (vC a1)), (12, .v (.int .i64 (a1.length : Int))), (13, .v (.int .i64 i14))]) (fun s13 _ hN24 => ?_) (fun i14 s13 _ _ hi18 hi19 ho15 hg16 hF => ?_)
  ·subst hN24
   refine wW ?_
   refine wf ?_
   exact wT (hj1 _) hψ17
  ·refine wW ?_
   refine wt ?_ (hb := by simp [go_sem, g, hi18, hi19])
   refine wW ?_
   refine wB ?_
   obtain ⟨x20, g, hF⟩ := Rx g hF
   refine wK [1, 2, 3, 6, 7, 9, 11, 12, 13] ?_
   refine wX D74_5 follows ?_
   refine wC hF [.sh, .sh, .sh] c_spec_gExp (fun z21 hF => ?_)
   obtain ⟨g, hF⟩ := Rg g hF
   refine wK [1, 2, 3, 6, 7, 11, 12, 13] ?_
   exact wT (hg16 (s13.1 ++ [z21], s13.2)) (Rn_some hF) (a := by simp [go_sem, g, wr_i hi18 hi19 (by assumption)])
noncomputable def F_spec_gMul (a0 : Group) (a1 : (List Int)) : Option (Int) :=
 ((rloop (σ := Int) (fun i5 s4 =>
 (ix a1 i5).bind fun x11 =>
 gd (a0.P ≠ 0) <|
 some (.go ((i64.wrap (s4 * x11)).tmod a0.P))) (fun s4 => s4) (a1.length) 0 1 : Option (Int)).bind fun x3 =>
 some x3)
theorem c_spec_gMul : ∀ {a0} {a1} {r}, F_spec_gMul a0 a1 = some r → PCalls Tryz.prog 234 [(.sh, vE a0), (.sh, vC a1)] (Eo (.int .i64 r) [.junk, .junk]) := by
 intro a0 a1 r hr
 apply pF 22 [] [] [] [.tmp 4] hr cl234 Tryz.func234
 intro Φ hΦ hF g
 unfold F_spec_gMul at hF
 iterate 3 (try simp [go_sem, g]; try intros; refine pw_wk ?_)
 refine wJ hF (fun x3 => [(5, .v (.int .i64 x3))]) (fun x3 hF => ?_) fun _ hj1 hF => ?_
 ·cases hΦ _ (Rn_some hF)
  refine wW ?_
  try simp [go_sem, g]
 ·refine wB ?_
  obtain ⟨b12, hb13, hψ8⟩ := hF
  refine pR hb13 (fun i5 s4 => [(2, .bl [.int .i64 a0.P, .int .i64 a0.Q, .int .i64 a0.G]), (5, .v (.int .i64 s4)), (8, .v (vC a1)), (9, .v (.int .i64 (a1.length : Int))), (10, .v (.int .i64 i5))]) (fun s4 _ hN14 => ?_) (fun i5 s4 _ _ hi9 hi10 ho6 hg7 hF => ?_)
  ·subst hN14
   refine wW ?_
   refine wf ?_
   exact wT (hj1 _) hψ8
  ·refine wW ?_
   refine wt ?_ (hb := by simp [go_sem, g, hi9, hi10])
   refine wW ?_
   refine wB ?_
   obtain ⟨x11, g, hF⟩ := Rx g hF
   refine wK [2, 5, 7, 8, 9, 10] ?_
   obtain ⟨g, hF⟩ := Rz g hF
   refine wW ?_
   exact wT (hg7 ((i64.wrap (s4 * x11)).tmod a0.P)) (Rn_some hF) (a := by simp [go_sem, g, wr_i hi9 hi10 (by assumption)])
@[go_sem] def D281_5 : List DE := [d2 0 [3] 3 3, d0 1 [7], d2 2 [3] 3 3, d0 3 [10], d0 4 [8], d3 5 [19, 20, 21], d0 6 [18, 22], ⟨7, [17, 23], [], none, true, true, true⟩, d0 8 [24]]
noncomputable def F_spec_sAt (a0 : Group) (a1 : (List Int)) (a2 : Int) : Option (Int) :=
 ((rloop (σ := Int × Int) (fun i5 s4 =>
 (ix a1 i5).bind fun x11 =>
 (F_spec_gExp a0 x11 s4.2).bind fun z12 =>
 (F_spec_gMul a0 [s4.1, z12]).bind fun z13 =>
 gd (a0.Q ≠ 0) <|
 some (.go (z13, (i64.wrap (s4.2 * a2)).tmod a0.Q))) (fun s4 => s4.1) (a1.length) 0 (1, 1) : Option (Int)).bind fun x3 =>
 some x3)
theorem c_spec_sAt : ∀ {a0} {a1} {a2} {r}, F_spec_sAt a0 a1 a2 = some r → PCalls Tryz.prog 281 [(.sh, vE a0), (.sh, vC a1), (.sh, .int .i64 a2)] (Eo (.int .i64 r) [.junk, .junk, .junk]) := by
 intro a0 a1 a2 r hr
 apply pF 33 [] [] [] [.tmp 6] hr cl281 Tryz.func281
 intro Φ hΦ hF g
 unfold F_spec_sAt at hF
 iterate 3 (try simp [go_sem, g]; try intros; refine pw_wk ?_)
 refine wJ hF (fun x3 => [(7, .v (.int .i64 x3))]) (fun x3 hF => ?_) fun _ hj1 hF => ?_
 ·cases hΦ _ (Rn_some hF)
  refine wW ?_
  try simp [go_sem, g]
 ·refine wB ?_
  obtain ⟨b14, hb15, hψ8⟩ := hF
  refine pR hb15 (fun i5 s4 => [(2, .v (.int .i64 a2)), (3, .bl [.int .i64 a0.P, .int .i64 a0.Q, .int .i64 a0.G]), (7, .v (.int .i64 s4.1)), (8, .v (.int .i64 s4.2)), (11, .v (vC a1)), (12, .v (.int .i64 (a1.length : Int))), (13, .v (.int .i64 i5))]) (fun s4 _ hN16 => ?_) (fun i5 s4 _ _ hi9 hi10 ho6 hg7 hF => ?_)
  ·subst hN16
   refine wW ?_
   refine wf ?_
   exact wT (hj1 _) hψ8
  ·refine wW ?_
   refine wt ?_ (hb := by simp [go_sem, g, hi9, hi10])
   refine wW ?_
   refine wB ?_
   obtain ⟨x11, g, hF⟩ := Rx g hF
   refine wK [2, 3, 7, 8, 10, 11, 12, 13] ?_
   refine wX D281_5 follows ?_
   refine wC hF [.sh, .sh, .sh] c_spec_gExp (fun z12 hF => ?_)
   refine wC hF [.sh, .sh] c_spec_gMul (fun z13 hF => ?_)
   obtain ⟨g, hF⟩ := Rz g hF
   refine wW ?_
   refine wK [2, 3, 7, 8, 11, 12, 13] ?_
   exact wT (hg7 (z13, (i64.wrap (s4.2 * a2)).tmod a0.Q)) (Rn_some hF) (a := by simp [go_sem, g, wr_i hi9 hi10 (by assumption)])
@[go_sem] def D190_1 : List DE := [d2 0 [4] 4 4, d1 1 [4] 4, d2 2 [10] 4 10, d0 3 [3], d2 5 [4] 4 4, d0 6 [1], d0 7 [2], d3 4 [9, 11, 12], d3 8 [14, 15, 16], d0 9 [13, 17], d0 10 [18]]
noncomputable def F_spec_sFits (a0 : Group) (a1 : (List Int)) (a2 : Int) (a3 : Int) : Option (Bool) :=
 (F_spec_gExp a0 a0.G a3).bind fun z1 =>
 (F_spec_sAt a0 a1 a2).bind fun z2 =>
 some (z1 == z2)
theorem c_spec_sFits : ∀ {a0} {a1} {a2} {a3} {r}, F_spec_sFits a0 a1 a2 a3 = some r → PCalls Tryz.prog 190 [(.sh, vE a0), (.sh, vC a1), (.sh, .int .i64 a2), (.sh, .int .i64 a3)] (Eo (.bool r) [.junk, .junk, .junk, .junk]) := by
 intro a0 a1 a2 a3 r hr
 apply pF 19 [] [] [] [.tmp 8] hr cl190 Tryz.func190
 intro Φ hΦ hF g
 unfold F_spec_sFits at hF
 refine wW ?_
 refine wX D190_1 follows ?_
 refine wC hF [.sh, .sh, .sh] c_spec_gExp (fun z1 hF => ?_)
 refine wC hF [.sh, .sh, .sh] c_spec_sAt (fun z2 hF => ?_)
 refine wK [8] ?_
 cases hΦ _ (Rn_some hF)
 try simp [go_sem, g]
noncomputable def F_spec_sBad (a0 : Group) (a1 : Dealing) : Option ((List Int)) :=
 ((rloop (σ := (List Int)) (fun i5 s4 =>
 (((ix a1.Shares i5).bind fun x14 =>
 (F_spec_sFits a0 a1.Commits (i64.wrap (i5 + 1)) x14).bind fun z15 =>
 if (!z15) = true then (
 gd ((s4.length + 1) * 8 ≤ 140737488355328 ∧ s4.length + 1 ≤ 4611686018427387904) <|
 some (s4 ++ [i64.wrap (i5 + 1)])) else (
 some s4) : Option ((List Int))).bind fun x13 =>
 some (.go x13))) (fun s4 => s4) (a1.Shares.length) 0 [] : Option ((List Int))).bind fun x3 =>
 some x3)
theorem c_spec_sBad : ∀ {a0} {a1} {r}, F_spec_sBad a0 a1 = some r → PCalls Tryz.prog 75 [(.sh, vE a0), (.sh, vM a1)] (Eo (vD r) [.junk, .junk]) := by
 intro a0 a1 r hr
 apply pF 31 [] [] [] [.tmp 4] hr cl75 Tryz.func75
 intro Φ hΦ hF g
 unfold F_spec_sBad at hF
 iterate 3 (try simp [go_sem, g]; try intros; refine pw_wk ?_)
 refine wJ hF (fun x3 => [(5, .v (vD x3))]) (fun x3 hF => ?_) fun _ hj1 hF => ?_
 ·refine wK [4] ?_
  cases hΦ _ (Rn_some hF)
  try simp [go_sem, g]
 ·refine wB ?_
  obtain ⟨b17, hb18, hψ8⟩ := hF
  refine pR hb18 (fun i5 s4 => [(2, .bl [.int .i64 a0.P, .int .i64 a0.Q, .int .i64 a0.G]), (3, .bl [vC a1.Commits, vC a1.Shares]), (5, .v (vD s4)), (9, .v (vC a1.Shares)), (10, .v (.int .i64 (a1.Shares.length : Int))), (11, .v (.int .i64 i5))]) (fun s4 _ hN19 => ?_) (fun i5 s4 _ _ hi9 hi10 ho6 hg7 hF => ?_)
  ·subst hN19
   refine wW ?_
   refine wf ?_
   exact wT (hj1 _) hψ8
  ·refine wW ?_
   refine wt ?_ (hb := by simp [go_sem, g, hi9, hi10])
   refine wW ?_
   refine wJ hF (fun x13 => [(2, .bl [.int .i64 a0.P, .int .i64 a0.Q, .int .i64 a0.G]), (3, .bl [vC a1.Commits, vC a1.Shares]), (5, .v (vD x13)), (9, .v (vC a1.Shares)), (10, .v (.int .i64 (a1.Shares.length : Int))), (11, .v (.int .i64 i5))]) (fun x13 hF => ?_) fun _ hj11 hF => ?_
   ·exact wT (hg7 x13) (Rn_some hF) (a := by simp [go_sem, g, wr_i hi9 hi10 (by assumption)])
   ·refine wB ?_
    obtain ⟨x14, g, hF⟩ := Rx g hF
    refine wK [2, 3, 5, 6, 7, 9, 10, 11] ?_
    refine wC hF [.sh, .sh, .sh, .sh] c_spec_sFits (fun z15 hF => ?_)
    refine wW ?_
    refine wI hF (fun h16 hF => ?_) (fun h16 hF => ?_)
    ·obtain ⟨g, hF⟩ := Rg g hF
     exact wT (hj11 _) (Rn_some hF)
    ·exact wT (hj11 _) (Rn_some hF)
@[go_sem] def D10_19 : List DE := [d0 0 [16], d1 1 [15] 15, d2 2 [109] 15 109, d0 3 [110], d0 4 [16], d1 5 [15] 15, d2 6 [113] 15 113, d0 7 [114], d0 8 [112, 115], d0 9 [116], d1 10 [15] 15, d2 11 [118] 15 118, d0 12 [117, 119], d1 13 [3] 3, d2 14 [121] 3 121, d0 15 [120, 122], d0 16 [108, 111], d0 17 [124, 123]]
@[go_sem] def D10_20 : List DE := [d0 0 [13], d1 1 [15] 15, d2 2 [126] 15 126, d0 3 [127], d0 4 [13], d1 5 [15] 15, d2 6 [130] 15 130, d0 7 [131], d0 8 [129, 132], d0 9 [133], d0 10 [134], d1 11 [15, 135] 15, d2 12 [136, 135] 15 136, d0 13 [137, 135], d0 14 [135, 138], d0 15 [125, 128], d0 16 [140, 139]]
@[go_sem] def D10_27 : List DE := [d2 0 [3] 3 3, d0 1 [10], d0 2 [18], d0 3 [148, 149], d0 4 [150], d0 7 [], d3 5 [147, 151], d0 6 [152]]
@[go_sem] def D10_31 : List DE := [d0 0 [19], d1 1 [3] 3, d2 2 [164] 3 164, d0 3 [1], d0 4 [18], d0 5 [166, 167], d0 6 [168], d0 7 [21], d3 8 [165, 169, 170], d0 9 [171], ⟨10, [163, 172], [], none, true, false, false⟩, d0 11 [173]]
noncomputable def F_spec_PlayDealers (a0 : Group) (a1 : (List (List Int))) (a2 : (List Fault)) : Option ((List Dealing) × (List (List Int)) × Bool) :=
 (((F_spec_sGroup a0).bind fun z4 =>
 if (!z4) = true then (
 some true) else (
 (F_spec_l1In (a1.length : Int) 1 7).bind fun z6 =>
 if (!z6) = true then (
 some true) else (
 (ix a1 0).bind fun x8 =>
 (F_spec_l1In (x8.length : Int) 1 (a1.length : Int)).bind fun z9 =>
 if (!z9) = true then (
 some true) else (
 some (decide (20 < (a2.length : Int)))))) : Option (Bool)).bind fun x3 =>
 if x3 = true then (
 some ([], [], false)) else (
 ((rloop (σ := (List Dealing)) (fun i32 s31 =>
 (ix a1 i32).bind fun x38 =>
 (((ix a1 0).bind fun x42 =>
 if ((x38.length : Int) != (x42.length : Int)) = true then (
 some true) else (
 (F_spec_gExps a0 x38).bind fun z44 =>
 some (!z44)) : Option (Bool)).bind fun x41 =>
 if x41 = true then (
 some (.out (.inr ([], [], false)))) else (
 (F_spec_sDeal a0 x38 (a1.length : Int)).bind fun z46 =>
 gd ((s31.length + 1) * 48 ≤ 140737488355328 ∧ s31.length + 1 ≤ 4611686018427387904) <|
 some (.go (s31 ++ [z46]))))) (fun s31 => .inl s31) (a1.length) 0 [] : Option ((List Dealing) ⊕ ((List Dealing) × (List (List Int)) × Bool))).bind (Sum.elim (fun x14 =>
 gd (0 ≤ (a1.length : Int) ∧ (a1.length : Int) ≤ (a1.length : Int) ∧ 1 * (a1.length : Int) ≤ 140737488355328 ∧ (a1.length : Int) ≤ 4611686018427387904) <|
 (some (List.replicate a1.length false)).bind fun x51 =>
 ((rloop (σ := (List Dealing) × (List Bool)) (fun i82 s81 =>
 (((ix a2 i82).bind fun x91 =>
 (((F_spec_l1In x91.Dealer 1 (a1.length : Int)).bind fun z95 =>
 if (!z95) = true then (
 some true) else (
 (F_spec_l1In x91.Trustee 1 (a1.length : Int)).bind fun z97 =>
 if (!z97) = true then (
 some true) else (
 (F_spec_gExps a0 [x91.Delta]).bind fun z99 =>
 some (!z99))) : Option (Bool)).bind fun x94 =>
 if x94 = true then (
 some (.inr (.out (.inr ([], [], false))))) else (
 (ix s81.1 (i64.wrap (x91.Dealer - 1))).bind fun x101 =>
 (ix x101.Shares (i64.wrap (x91.Trustee - 1))).bind fun x102 =>
 gd (a0.Q ≠ 0) <|
 (ix s81.2 (i64.wrap (x91.Dealer - 1))).bind fun x103 =>
 if x103 = true then (
 some (.inl (s81.1.set ((i64.wrap (x91.Dealer - 1)).toNat) (Dealing.mk x101.Commits (x101.Shares.set ((i64.wrap (x91.Trustee - 1)).toNat) ((i64.wrap (x102 + x91.Delta)).tmod a0.Q))), s81.2.set ((i64.wrap (x91.Dealer - 1)).toNat) true))) else (
 some (.inl (s81.1.set ((i64.wrap (x91.Dealer - 1)).toNat) (Dealing.mk x101.Commits (x101.Shares.set ((i64.wrap (x91.Trustee - 1)).toNat) ((i64.wrap (x102 + x91.Delta)).tmod a0.Q))), s81.2.set ((i64.wrap (x91.Dealer - 1)).toNat) (!x91.Answers)))))) : Option (((List Dealing) × (List Bool)) ⊕ (Stp ((List Dealing) × (List Bool)) (((List Dealing) × (List Bool)) ⊕ ((List Dealing) × (List (List Int)) × Bool))))).bind (Sum.elim (fun x90 =>
 some (.go (x90.1, x90.2))) some))) (fun s81 => .inl (s81.1, s81.2)) (a2.length) 0 (x14, x51) : Option (((List Dealing) × (List Bool)) ⊕ ((List Dealing) × (List (List Int)) × Bool))).bind (Sum.elim (fun x56 =>
 ((rloop (σ := (List (List Int))) (fun i144 s143 =>
 (ix x56.1 i144).bind fun x150 =>
 (F_spec_sBad a0 x150).bind fun z151 =>
 ((rloop (σ := (List Int)) (fun i156 s155 =>
 (((ix z151 i156).bind fun x165 =>
 (ix x56.2 i144).bind fun x166 =>
 if (!x166) = true then (
 (ix a1 i144).bind fun x168 =>
 (F_spec_yEval a0.Q x168 x165).bind fun z169 =>
 gd ((s155.length + 1) * 8 ≤ 140737488355328 ∧ s155.length + 1 ≤ 4611686018427387904) <|
 some (s155 ++ [z169])) else (
 some s155) : Option ((List Int))).bind fun x164 =>
 some (.go x164))) (fun s155 => s155) (z151.length) 0 [] : Option ((List Int))).bind fun x154 =>
 gd ((s143.length + 1) * 24 ≤ 140737488355328 ∧ s143.length + 1 ≤ 4611686018427387904) <|
 some (.go (s143 ++ [x154])))) (fun s143 => s143) (x56.1.length) 0 [] : Option ((List (List Int)))).bind fun x111 =>
 some (x56.1, x111, true))) some))) some))))
set_option maxHeartbeats 1000000 in
theorem c_spec_PlayDealers : ∀ {a0} {a1} {a2} {r}, F_spec_PlayDealers a0 a1 a2 = some r → PCalls Tryz.prog 10 [(.sh, vE a0), (.sh, vI a1), (.sh, vH a2)] (Eo (.tup [vN r.1, vO r.2.1, .bool r.2.2]) [.junk, .junk, .junk]) := by
 intro a0 a1 a2 r hr
 apply pF 182 [] [380] [] [.tmp 6, .tmp 7, .tmp 8] hr cl10 Tryz.func10
 intro Φ hΦ hF g
 unfold F_spec_PlayDealers at hF
 iterate 2 (try simp [go_sem, g]; try intros; refine pw_wk ?_)
 refine wJ hF (fun x3 => [(1, .v (vI a1)), (2, .v (vH a2)), (3, .bl [.int .i64 a0.P, .int .i64 a0.Q, .int .i64 a0.G]), (9, .v (.int .i64 (a1.length : Int))), (45, .v (.bool x3))]) (fun x3 hF => ?_) fun _ hj1 hF => ?_
 ·refine wI hF (fun h11 hF => ?_) (fun h11 hF => ?_)
  ·refine wK [6, 7, 8] ?_
   cases hΦ _ (Rn_some hF)
   try simp [go_sem, g]
  ·iterate 2 (try simp [go_sem, g]; try intros; refine pw_wk ?_)
   try simp [go_sem, g]
   try intros
   refine wK [1, 2, 3, 9, 10, 46, 47, 48] ?_
   refine wS hF (fun x14 => [(1, .v (vI a1)), (2, .v (vH a2)), (3, .bl [.int .i64 a0.P, .int .i64 a0.Q, .int .i64 a0.G]), (9, .v (.int .i64 (a1.length : Int))), (10, .v (vN x14))]) (fun x14 hF => ?_) fun _ hj12 hr13 hF => ?_
   ·obtain ⟨g, hF⟩ := Rg g hF
    obtain ⟨x51, e52, hF⟩ := Rn_bind hF
    have g53 : List.replicate a1.length ([.bool false] : List PV) = x51.map row_b := by injection e52 with e52; rw [← e52]; simp [go_sem]
    iterate 2 (try simp [go_sem, g, g53]; try intros; refine pw_wk ?_)
    refine wS hF (fun x56 => [(1, .v (vI a1)), (3, .bl [.int .i64 a0.P, .int .i64 a0.Q, .int .i64 a0.G]), (10, .v (vN x56.1)), (13, .v (vP x56.2))]) (fun x56 hF => ?_) fun _ hj54 hr55 hF => ?_
    ·try simp [go_sem, g]
     try intros
     refine pw_wk ?_
     try simp [go_sem, g]
     try intros
     refine wK [1, 3, 10, 13, 17, 143, 144] ?_
     refine wJ hF (fun x111 => [(10, .v (vN x56.1)), (17, .v (vO x111))]) (fun x111 hF => ?_) fun _ hj109 hF => ?_
     ·cases hΦ _ (Rn_some hF)
      refine wW ?_
      try simp [go_sem, g]
     ·refine wB ?_
      obtain ⟨b174, hb175, hψ147⟩ := hF
      refine pR hb175 (fun i144 s143 => [(1, .v (vI a1)), (3, .bl [.int .i64 a0.P, .int .i64 a0.Q, .int .i64 a0.G]), (10, .v (vN x56.1)), (13, .v (vP x56.2)), (17, .v (vO s143)), (143, .v (.int .i64 (x56.1.length : Int))), (144, .v (.int .i64 i144))]) (fun s143 _ hN176 => ?_) (fun i144 s143 _ _ hi148 hi149 ho145 hg146 hF => ?_)
      ·subst hN176
       refine wW ?_
       refine wf ?_
       exact wT (hj109 _) hψ147
      ·refine wW ?_
       refine wt ?_ (hb := by simp [go_sem, g, hi148, hi149])
       refine wW ?_
       refine wB ?_
       iterate 2 refine wW ?_
       refine wX D10_27 follows ?_
       obtain ⟨x150, g, hF⟩ := Rx g hF
       refine wC hF [.sh, .sh] c_spec_sBad (fun z151 hF => ?_)
       try simp [go_sem, g]
       try intros
       refine wK [1, 3, 10, 13, 17, 18, 19, 143, 144, 152, 153, 154] ?_
       refine wJ hF (fun x154 => [(1, .v (vI a1)), (3, .bl [.int .i64 a0.P, .int .i64 a0.Q, .int .i64 a0.G]), (10, .v (vN x56.1)), (13, .v (vP x56.2)), (17, .v (vO s143)), (19, .v (vD x154)), (143, .v (.int .i64 (x56.1.length : Int))), (144, .v (.int .i64 i144))]) (fun x154 hF => ?_) fun _ hj152 hF => ?_
       ·obtain ⟨g, hF⟩ := Rg g hF
        refine wW ?_
        exact wT (hg146 (s143 ++ [x154])) (Rn_some hF) (a := by simp [go_sem, g, wr_i hi148 hi149 (by assumption)])
       ·refine wB ?_
        obtain ⟨b170, hb171, hψ159⟩ := hF
        refine pR hb171 (fun i156 s155 => [(1, .v (vI a1)), (3, .bl [.int .i64 a0.P, .int .i64 a0.Q, .int .i64 a0.G]), (10, .v (vN x56.1)), (13, .v (vP x56.2)), (17, .v (vO s143)), (18, .v (.int .i64 i144)), (19, .v (vD s155)), (143, .v (.int .i64 (x56.1.length : Int))), (144, .v (.int .i64 i144)), (152, .v (vD z151)), (153, .v (.int .i64 (z151.length : Int))), (154, .v (.int .i64 i156))]) (fun s155 _ hN172 => ?_) (fun i156 s155 _ _ hi160 hi161 ho157 hg158 hF => ?_)
        ·subst hN172
         refine wW ?_
         refine wf ?_
         exact wT (hj152 _) hψ159
        ·refine wW ?_
         refine wt ?_ (hb := by simp [go_sem, g, hi160, hi161])
         refine wW ?_
         refine wJ hF (fun x164 => [(1, .v (vI a1)), (3, .bl [.int .i64 a0.P, .int .i64 a0.Q, .int .i64 a0.G]), (10, .v (vN x56.1)), (13, .v (vP x56.2)), (17, .v (vO s143)), (18, .v (.int .i64 i144)), (19, .v (vD x164)), (143, .v (.int .i64 (x56.1.length : Int))), (144, .v (.int .i64 i144)), (152, .v (vD z151)), (153, .v (.int .i64 (z151.length : Int))), (154, .v (.int .i64 i156))]) (fun x164 hF => ?_) fun _ hj162 hF => ?_
         ·exact wT (hg158 x164) (Rn_some hF) (a := by simp [go_sem, g, wr_i hi160 hi161 (by assumption)])
         ·refine wB ?_
          obtain ⟨x165, g, hF⟩ := Rx g hF
          obtain ⟨x166, g, hF⟩ := Rx g hF
          iterate 2 refine wW ?_
          refine wI hF (fun h167 hF => ?_) (fun h167 hF => ?_)
          ·refine wX D10_31 follows ?_
           obtain ⟨x168, g, hF⟩ := Rx g hF
           refine wC hF [.sh, .sh, .sh] c_spec_yEval (fun z169 hF => ?_)
           obtain ⟨g, hF⟩ := Rg g hF
           exact wT (hj162 _) (Rn_some hF)
          ·exact wT (hj162 _) (Rn_some hF)
    ·refine wB ?_
     obtain ⟨b105, hb106, hψ85⟩ := hF
     refine pR hb106 (fun i82 s81 => [(1, .v (vI a1)), (3, .bl [.int .i64 a0.P, .int .i64 a0.Q, .int .i64 a0.G]), (9, .v (.int .i64 (a1.length : Int))), (10, .v (vN s81.1)), (13, .v (vP s81.2)), (75, .v (vH a2)), (76, .v (.int .i64 (a2.length : Int))), (77, .v (.int .i64 i82))]) (fun s81 _ hN107 => ?_) (fun i82 s81 _ _ hi86 hi87 ho83 hg84 hF => ?_)
     ·subst hN107
      refine wW ?_
      refine wf ?_
      exact wT (hj54 _) hψ85
     ·refine wW ?_
      refine wt ?_ (hb := by simp [go_sem, g, hi86, hi87])
      refine wW ?_
      refine wS hF (fun x90 => [(1, .v (vI a1)), (3, .bl [.int .i64 a0.P, .int .i64 a0.Q, .int .i64 a0.G]), (9, .v (.int .i64 (a1.length : Int))), (10, .v (vN x90.1)), (13, .v (vP x90.2)), (75, .v (vH a2)), (76, .v (.int .i64 (a2.length : Int))), (77, .v (.int .i64 i82))]) (fun x90 hF => ?_) fun _ hj88 hr89 hF => ?_
      ·exact wT (hg84 (x90.1, x90.2)) (Rn_some hF) (a := by simp [go_sem, g, wr_i hi86 hi87 (by assumption)])
      ·refine wB ?_
       obtain ⟨x91, g, hF⟩ := Rx g hF
       refine wK [1, 3, 9, 10, 13, 15, 75, 76, 77] ?_
       refine wJ hF (fun x94 => [(1, .v (vI a1)), (3, .bl [.int .i64 a0.P, .int .i64 a0.Q, .int .i64 a0.G]), (9, .v (.int .i64 (a1.length : Int))), (10, .v (vN s81.1)), (13, .v (vP s81.2)), (15, .bl [.int .i64 x91.Dealer, .int .i64 x91.Trustee, .int .i64 x91.Delta, .bool x91.Answers]), (75, .v (vH a2)), (76, .v (.int .i64 (a2.length : Int))), (77, .v (.int .i64 i82)), (100, .v (.bool x94))]) (fun x94 hF => ?_) fun _ hj92 hF => ?_
       ·refine wI hF (fun h100 hF => ?_) (fun h100 hF => ?_)
        ·cases ho83 _ (hr89 _ (Rn_some hF))
         cases hΦ _ (hr55 _ hψ85)
         refine wW ?_
         try simp [go_sem, g]
        ·obtain ⟨x101, g, hF⟩ := Rx g hF
         iterate 2 refine wW ?_
         refine wX D10_19 follows ?_
         obtain ⟨x102, g, hF⟩ := Rx g hF
         obtain ⟨g, hF⟩ := Rz g hF
         refine wK [1, 3, 9, 10, 13, 15, 75, 76, 77] ?_
         refine wX D10_20 follows ?_
         obtain ⟨x103, g, hF⟩ := Rx g hF
         refine wH hF (fun h104 hF => ?_) fun h104 hF => ?_
         ·try simp [go_sem, g, h104]
          exact wT (hj88 _) (Rn_some hF)
         ·try simp [go_sem, g, h104]
          exact wT (hj88 _) (Rn_some hF)
       ·refine wC hF [.sh, .sh, .sh] c_spec_l1In (fun z95 hF => ?_)
        refine wG hF (fun h96 hF => ?_) fun h96 hF => ?_
        ·try simp [go_sem, g, h96]
         exact wT (hj92 _) (Rn_some hF)
        ·try simp [go_sem, g, h96]
         refine wC hF [.sh, .sh, .sh] c_spec_l1In (fun z97 hF => ?_)
         try simp [go_sem, g, h96]
         refine wG hF (fun h98 hF => ?_) fun h98 hF => ?_
         ·try simp [go_sem, g, h98]
          exact wT (hj92 _) (Rn_some hF)
         ·try simp [go_sem, g, h98]
          refine wC hF [.sh, .sh] c_spec_gExps (fun z99 hF => ?_)
          try simp [go_sem, g, h98]
          exact wT (hj92 _) (Rn_some hF)
   ·refine wB ?_
    obtain ⟨b47, hb48, hψ35⟩ := hF
    refine pR hb48 (fun i32 s31 => [(1, .v (vI a1)), (2, .v (vH a2)), (3, .bl [.int .i64 a0.P, .int .i64 a0.Q, .int .i64 a0.G]), (9, .v (.int .i64 (a1.length : Int))), (10, .v (vN s31)), (46, .v (vI a1)), (47, .v (.int .i64 (a1.length : Int))), (48, .v (.int .i64 i32))]) (fun s31 _ hN49 => ?_) (fun i32 s31 _ _ hi36 hi37 ho33 hg34 hF => ?_)
    ·subst hN49
     refine wW ?_
     refine wf ?_
     exact wT (hj12 _) hψ35
    ·refine wW ?_
     refine wt ?_ (hb := by simp [go_sem, g, hi36, hi37])
     refine wW ?_
     refine wB ?_
     obtain ⟨x38, g, hF⟩ := Rx g hF
     refine wW ?_
     refine wJ hF (fun x41 => [(1, .v (vI a1)), (2, .v (vH a2)), (3, .bl [.int .i64 a0.P, .int .i64 a0.Q, .int .i64 a0.G]), (9, .v (.int .i64 (a1.length : Int))), (10, .v (vN s31)), (12, .v (vC x38)), (46, .v (vI a1)), (47, .v (.int .i64 (a1.length : Int))), (48, .v (.int .i64 i32)), (64, .v (.bool x41))]) (fun x41 hF => ?_) fun _ hj39 hF => ?_
     ·refine wI hF (fun h45 hF => ?_) (fun h45 hF => ?_)
      ·cases ho33 _ (Rn_some hF)
       cases hΦ _ (hr13 _ hψ35)
       refine wW ?_
       try simp [go_sem, g]
      ·refine wW ?_
       refine wC hF [.sh, .sh, .sh] c_spec_sDeal (fun z46 hF => ?_)
       obtain ⟨g, hF⟩ := Rg g hF
       refine wK [1, 2, 3, 9, 10, 46, 47, 48] ?_
       exact wT (hg34 (s31 ++ [z46])) (Rn_some hF) (a := by simp [go_sem, g, wr_i hi36 hi37 (by assumption)])
     ·obtain ⟨x42, g, hF⟩ := Rxn g 0 hF
      try simp [go_sem, g]
      try intros
      refine wG hF (fun h43 hF => ?_) fun h43 hF => ?_
      ·try simp [go_sem, g, h43]
       exact wT (hj39 _) (Rn_some hF)
      ·try simp [go_sem, g, h43]
       refine wC hF [.sh, .sh] c_spec_gExps (fun z44 hF => ?_)
       try simp [go_sem, g, h43]
       exact wT (hj39 _) (Rn_some hF)
 ·refine wC hF [.sh] c_spec_sGroup (fun z4 hF => ?_)
  refine wG hF (fun h5 hF => ?_) fun h5 hF => ?_
  ·try simp [go_sem, g, h5]
   exact wT (hj1 _) (Rn_some hF)
  ·try simp [go_sem, g, h5]
   refine wC hF [.sh, .sh, .sh] c_spec_l1In (fun z6 hF => ?_)
   try simp [go_sem, g, h5]
   refine wG hF (fun h7 hF => ?_) fun h7 hF => ?_
   ·try simp [go_sem, g, h7]
    exact wT (hj1 _) (Rn_some hF)
   ·obtain ⟨x8, g, hF⟩ := Rxn g 0 hF
    try simp [go_sem, g, h7]
    try intros
    refine wC hF [.sh, .sh, .sh] c_spec_l1In (fun z9 hF => ?_)
    try simp [go_sem, g, h7]
    refine wG hF (fun h10 hF => ?_) fun h10 hF => ?_
    ·try simp [go_sem, g, h10]
     exact wT (hj1 _) (Rn_some hF)
    ·try simp [go_sem, g, h10]
     try intros
     exact wT (hj1 _) (Rn_some hF)
@[go_sem] def D77_3 : List DE := [d2 0 [6] 6 6, d0 1 [5], d2 2 [6] 6 6, d0 3 [5], d0 7 [5], d2 8 [6] 6 6, d3 4 [15], d0 5 [16], d3 6 [13, 14, 17], d3 9 [19, 20], d2 10 [2, 12] 2 2, d0 11 [18], d0 12 [21]]
noncomputable def F_spec_DrawProveDealer (a0 : (List Int)) : Option (Group × (List Int) × Int) :=
 (F_spec_l1Cur_shared__io0 a0 0 0).bind fun z1 =>
 (F_spec_l1Cur_pick__io0 z1.2.1 z1.2.2.1 z1.2.2.2 4).bind fun z2 =>
 (F_spec_l1Cur_anyCoins__io0 z2.2.1 z2.2.2.1 z2.2.2.2 z1.1 (i64.wrap (1 + z2.1))).bind fun z3 =>
 (F_spec_l1Cur_anyExpo__io0 z3.2.1 z3.2.2.1 z3.2.2.2 z1.1).bind fun z4 =>
 some (z1.1, z3.1, z4.1)
theorem c_spec_DrawProveDealer : ∀ {a0} {r}, F_spec_DrawProveDealer a0 = some r → PCalls Tryz.prog 77 [(.sh, vA a0)] (Eo (.tup [vE r.1, vC r.2.1, .int .i64 r.2.2]) [.junk]) := by
 intro a0 r hr
 apply pF 22 [] [] [9] [.cell 2 24, .tmp 3, .tmp 4] hr cl77 Tryz.func77
 intro Φ hΦ hF g
 unfold F_spec_DrawProveDealer at hF
 iterate 2 refine wW ?_
 refine wC hF [.io] c_spec_l1Cur_shared__io0 (fun z1 hF => ?_)
 refine wK [2, 5, 6] ?_
 refine wX D77_3 follows ?_
 refine wC hF [.io, .sh] c_spec_l1Cur_pick__io0 (fun z2 hF => ?_)
 refine wC hF [.io, .sh, .sh] c_spec_l1Cur_anyCoins__io0 (fun z3 hF => ?_)
 refine wC hF [.io, .sh] c_spec_l1Cur_anyExpo__io0 (fun z4 hF => ?_)
 refine wK [2, 3, 4] ?_
 cases hΦ _ (Rn_some hF)
 try simp [go_sem, g]
noncomputable def F_spec_sLabel (a0 : Group) (a1 : ByteArray) : Option (Bool) :=
 (((F_spec_l2Good a0).bind fun z4 =>
 if z4 = true then (
 some (decide ((a1.size : Int) ≤ 40))) else (
 some false) : Option (Bool)).bind fun x3 =>
 some x3)
theorem c_spec_sLabel : ∀ {a0} {a1} {r}, F_spec_sLabel a0 a1 = some r → PCalls Tryz.prog 286 [(.sh, vE a0), (.sh, .str a1)] (Eo (.bool r) [.junk, .junk]) := by
 intro a0 a1 r hr
 apply pF 12 [] [] [] [.tmp 4] hr cl286 Tryz.func286
 intro Φ hΦ hF g
 unfold F_spec_sLabel at hF
 refine wW ?_
 refine wJ hF (fun x3 => [(4, .v (.bool x3))]) (fun x3 hF => ?_) fun _ hj1 hF => ?_
 ·cases hΦ _ (Rn_some hF)
  try simp [go_sem, g]
 ·refine wC hF [.sh] c_spec_l2Good (fun z4 hF => ?_)
  refine wG hF (fun h5 hF => ?_) fun h5 hF => ?_
  ·try simp [go_sem, g, h5]
   exact wT (hj1 _) (Rn_some hF)
  ·try simp [go_sem, g, h5]
   exact wT (hj1 _) (Rn_some hF)
noncomputable def F_spec_gIs (a0 : Group) (a1 : (List Int)) : Option (Bool) :=
 ((rloop (σ := Unit) (fun i5 s4 =>
 (ix a1 i5).bind fun x11 =>
 (((F_spec_l1In x11 1 (i64.wrap (a0.P - 1))).bind fun z15 =>
 if (!z15) = true then (
 some true) else (
 (F_spec_nPower x11 a0.Q a0.P).bind fun z17 =>
 some (z17 != 1)) : Option (Bool)).bind fun x14 =>
 if x14 = true then (
 some (.out (.inr false))) else (
 some (.go ())))) (fun s4 => .inl ()) (a1.length) 0 () : Option (Unit ⊕ Bool)).bind (Sum.elim (fun x3 =>
 some true) some))
theorem c_spec_gIs : ∀ {a0} {a1} {r}, F_spec_gIs a0 a1 = some r → PCalls Tryz.prog 207 [(.sh, vE a0), (.sh, vC a1)] (Eo (.bool r) [.junk, .junk]) := by
 intro a0 a1 r hr
 apply pF 29 [] [] [] [.tmp 4] hr cl207 Tryz.func207
 intro Φ hΦ hF g
 unfold F_spec_gIs at hF
 iterate 2 (try simp [go_sem, g]; try intros; refine pw_wk ?_)
 refine wS hF (fun x3 => []) (fun x3 hF => ?_) fun _ hj1 hr2 hF => ?_
 ·cases hΦ _ (Rn_some hF)
  refine wW ?_
  try simp [go_sem, g]
 ·refine wB ?_
  obtain ⟨b19, hb20, hψ8⟩ := hF
  refine pR hb20 (fun i5 s4 => [(2, .bl [.int .i64 a0.P, .int .i64 a0.Q, .int .i64 a0.G]), (7, .v (vC a1)), (8, .v (.int .i64 (a1.length : Int))), (9, .v (.int .i64 i5))]) (fun s4 _ hN21 => ?_) (fun i5 s4 _ _ hi9 hi10 ho6 hg7 hF => ?_)
  ·subst hN21
   refine wW ?_
   refine wf ?_
   exact wT (hj1 _) hψ8
  ·refine wW ?_
   refine wt ?_ (hb := by simp [go_sem, g, hi9, hi10])
   refine wW ?_
   refine wB ?_
   obtain ⟨x11, g, hF⟩ := Rx g hF
   refine wW ?_
   refine wJ hF (fun x14 => [(2, .bl [.int .i64 a0.P, .int .i64 a0.Q, .int .i64 a0.G]), (7, .v (vC a1)), (8, .v (.int .i64 (a1.length : Int))), (9, .v (.int .i64 i5)), (27, .v (.bool x14))]) (fun x14 hF => ?_) fun _ hj12 hF => ?_
   ·refine wI hF (fun h18 hF => ?_) (fun h18 hF => ?_)
    ·refine wK [4] ?_
     cases ho6 _ (Rn_some hF)
     cases hΦ _ (hr2 _ hψ8)
     try simp [go_sem, g]
    ·refine wW ?_
     exact wT (hg7 ()) (Rn_some hF) (a := by simp [go_sem, g, wr_i hi9 hi10 (by assumption)])
   ·refine wC hF [.sh, .sh, .sh] c_spec_l1In (fun z15 hF => ?_)
    refine wG hF (fun h16 hF => ?_) fun h16 hF => ?_
    ·try simp [go_sem, g, h16]
     exact wT (hj12 _) (Rn_some hF)
    ·try simp [go_sem, g, h16]
     refine wC hF [.sh, .sh, .sh] c_spec_nPower (fun z17 hF => ?_)
     try simp [go_sem, g, h16]
     exact wT (hj12 _) (Rn_some hF)
noncomputable def F_spec_sBases (a0 : Group) (a1 : (List (List Int))) : Option (Bool) :=
 (((F_spec_l1In (a1.length : Int) 1 8).bind fun z4 =>
 if (!z4) = true then (
 some true) else (
 (ix a1 0).bind fun x6 =>
 (F_spec_l1In (x6.length : Int) 1 8).bind fun z7 =>
 some (!z7)) : Option (Bool)).bind fun x3 =>
 if x3 = true then (
 some false) else (
 ((rloop (σ := Unit) (fun i13 s12 =>
 (ix a1 i13).bind fun x19 =>
 (((ix a1 0).bind fun x23 =>
 if ((x19.length : Int) != (x23.length : Int)) = true then (
 some true) else (
 (F_spec_gIs a0 x19).bind fun z25 =>
 some (!z25)) : Option (Bool)).bind fun x22 =>
 if x22 = true then (
 some (.out (.inr false))) else (
 some (.go ())))) (fun s12 => .inl ()) (a1.length) 0 () : Option (Unit ⊕ Bool)).bind (Sum.elim (fun x11 =>
 some true) some))))
theorem c_spec_sBases : ∀ {a0} {a1} {r}, F_spec_sBases a0 a1 = some r → PCalls Tryz.prog 287 [(.sh, vE a0), (.sh, vI a1)] (Eo (.bool r) [.junk, .junk]) := by
 intro a0 a1 r hr
 apply pF 39 [] [] [] [.tmp 4] hr cl287 Tryz.func287
 intro Φ hΦ hF g
 unfold F_spec_sBases at hF
 refine wW ?_
 refine wJ hF (fun x3 => [(1, .v (vI a1)), (2, .bl [.int .i64 a0.P, .int .i64 a0.Q, .int .i64 a0.G]), (18, .v (.bool x3))]) (fun x3 hF => ?_) fun _ hj1 hF => ?_
 ·refine wI hF (fun h8 hF => ?_) (fun h8 hF => ?_)
  ·cases hΦ _ (Rn_some hF)
   refine wW ?_
   try simp [go_sem, g]
  ·iterate 2 (try simp [go_sem, g]; try intros; refine pw_wk ?_)
   refine wS hF (fun x11 => []) (fun x11 hF => ?_) fun _ hj9 hr10 hF => ?_
   ·cases hΦ _ (Rn_some hF)
    refine wW ?_
    try simp [go_sem, g]
   ·refine wB ?_
    obtain ⟨b27, hb28, hψ16⟩ := hF
    refine pR hb28 (fun i13 s12 => [(1, .v (vI a1)), (2, .bl [.int .i64 a0.P, .int .i64 a0.Q, .int .i64 a0.G]), (19, .v (vI a1)), (20, .v (.int .i64 (a1.length : Int))), (21, .v (.int .i64 i13))]) (fun s12 _ hN29 => ?_) (fun i13 s12 _ _ hi17 hi18 ho14 hg15 hF => ?_)
    ·subst hN29
     refine wW ?_
     refine wf ?_
     exact wT (hj9 _) hψ16
    ·refine wW ?_
     refine wt ?_ (hb := by simp [go_sem, g, hi17, hi18])
     refine wW ?_
     refine wB ?_
     obtain ⟨x19, g, hF⟩ := Rx g hF
     refine wW ?_
     refine wJ hF (fun x22 => [(1, .v (vI a1)), (2, .bl [.int .i64 a0.P, .int .i64 a0.Q, .int .i64 a0.G]), (19, .v (vI a1)), (20, .v (.int .i64 (a1.length : Int))), (21, .v (.int .i64 i13)), (37, .v (.bool x22))]) (fun x22 hF => ?_) fun _ hj20 hF => ?_
     ·refine wI hF (fun h26 hF => ?_) (fun h26 hF => ?_)
      ·refine wK [4] ?_
       cases ho14 _ (Rn_some hF)
       cases hΦ _ (hr10 _ hψ16)
       try simp [go_sem, g]
      ·refine wW ?_
       exact wT (hg15 ()) (Rn_some hF) (a := by simp [go_sem, g, wr_i hi17 hi18 (by assumption)])
     ·obtain ⟨x23, g, hF⟩ := Rxn g 0 hF
      try simp [go_sem, g]
      try intros
      refine wG hF (fun h24 hF => ?_) fun h24 hF => ?_
      ·try simp [go_sem, g, h24]
       exact wT (hj20 _) (Rn_some hF)
      ·try simp [go_sem, g, h24]
       refine wC hF [.sh, .sh] c_spec_gIs (fun z25 hF => ?_)
       try simp [go_sem, g, h24]
       exact wT (hj20 _) (Rn_some hF)
 ·try simp [go_sem, g]
  try intros
  refine wC hF [.sh, .sh, .sh] c_spec_l1In (fun z4 hF => ?_)
  refine wG hF (fun h5 hF => ?_) fun h5 hF => ?_
  ·try simp [go_sem, g, h5]
   exact wT (hj1 _) (Rn_some hF)
  ·obtain ⟨x6, g, hF⟩ := Rxn g 0 hF
   try simp [go_sem, g, h5]
   try intros
   refine wC hF [.sh, .sh, .sh] c_spec_l1In (fun z7 hF => ?_)
   try simp [go_sem, g, h5]
   exact wT (hj1 _) (Rn_some hF)
@[go_sem] def D235_5 : List DE := [d0 0 [7], d2 1 [3] 3 3, d0 2 [9], d0 3 [2], d0 4 [8], d0 5 [20, 21], d0 6 [22], d1 9 [3] 3, d2 10 [26] 3 26, d3 7 [18, 19, 23], d0 8 [17, 24], d0 11 [25, 27], d0 12 [28]]
noncomputable def F_spec_gProd (a0 : Group) (a1 : (List Int)) (a2 : (List Int)) : Option (Int) :=
 ((rloop (σ := Int) (fun i5 s4 =>
 (ix a1 i5).bind fun x11 =>
 (ix a2 i5).bind fun x12 =>
 (F_spec_gExp a0 x11 x12).bind fun z13 =>
 gd (a0.P ≠ 0) <|
 some (.go ((i64.wrap (s4 * z13)).tmod a0.P))) (fun s4 => s4) (a1.length) 0 1 : Option (Int)).bind fun x3 =>
 some x3)
theorem c_spec_gProd : ∀ {a0} {a1} {a2} {r}, F_spec_gProd a0 a1 a2 = some r → PCalls Tryz.prog 235 [(.sh, vE a0), (.sh, vC a1), (.sh, vC a2)] (Eo (.int .i64 r) [.junk, .junk, .junk]) := by
 intro a0 a1 a2 r hr
 apply pF 31 [] [] [] [.tmp 6] hr cl235 Tryz.func235
 intro Φ hΦ hF g
 unfold F_spec_gProd at hF
 iterate 3 (try simp [go_sem, g]; try intros; refine pw_wk ?_)
 refine wJ hF (fun x3 => [(7, .v (.int .i64 x3))]) (fun x3 hF => ?_) fun _ hj1 hF => ?_
 ·cases hΦ _ (Rn_some hF)
  refine wW ?_
  try simp [go_sem, g]
 ·refine wB ?_
  obtain ⟨b14, hb15, hψ8⟩ := hF
  refine pR hb15 (fun i5 s4 => [(2, .v (vC a2)), (3, .bl [.int .i64 a0.P, .int .i64 a0.Q, .int .i64 a0.G]), (7, .v (.int .i64 s4)), (10, .v (vC a1)), (11, .v (.int .i64 (a1.length : Int))), (12, .v (.int .i64 i5))]) (fun s4 _ hN16 => ?_) (fun i5 s4 _ _ hi9 hi10 ho6 hg7 hF => ?_)
  ·subst hN16
   refine wW ?_
   refine wf ?_
   exact wT (hj1 _) hψ8
  ·refine wW ?_
   refine wt ?_ (hb := by simp [go_sem, g, hi9, hi10])
   refine wW ?_
   refine wB ?_
   obtain ⟨x11, g, hF⟩ := Rx g hF
   refine wK [2, 3, 7, 8, 9, 10, 11, 12] ?_
   refine wX D235_5 follows ?_
   obtain ⟨x12, g, hF⟩ := Rx g hF
   refine wC hF [.sh, .sh, .sh] c_spec_gExp (fun z13 hF => ?_)
   obtain ⟨g, hF⟩ := Rz g hF
   refine wK [2, 3, 7, 10, 11, 12] ?_
   exact wT (hg7 ((i64.wrap (s4 * z13)).tmod a0.P)) (Rn_some hF) (a := by simp [go_sem, g, wr_i hi9 hi10 (by assumption)])
noncomputable def F_spec_sImages (a0 : Group) (a1 : (List (List Int))) (a2 : (List Int)) : Option ((List Int)) :=
 ((rloop (σ := (List Int)) (fun i5 s4 =>
 (ix a1 i5).bind fun x11 =>
 (F_spec_gProd a0 x11 a2).bind fun z12 =>
 gd ((s4.length + 1) * 8 ≤ 140737488355328 ∧ s4.length + 1 ≤ 4611686018427387904) <|
 some (.go (s4 ++ [z12]))) (fun s4 => s4) (a1.length) 0 [] : Option ((List Int))).bind fun x3 =>
 some x3)
theorem c_spec_sImages : ∀ {a0} {a1} {a2} {r}, F_spec_sImages a0 a1 a2 = some r → PCalls Tryz.prog 274 [(.sh, vE a0), (.sh, vI a1), (.sh, vC a2)] (Eo (vD r) [.junk, .junk, .junk]) := by
 intro a0 a1 a2 r hr
 apply pF 25 [] [] [] [.tmp 6] hr cl274 Tryz.func274
 intro Φ hΦ hF g
 unfold F_spec_sImages at hF
 iterate 3 (try simp [go_sem, g]; try intros; refine pw_wk ?_)
 refine wJ hF (fun x3 => [(7, .v (vD x3))]) (fun x3 hF => ?_) fun _ hj1 hF => ?_
 ·cases hΦ _ (Rn_some hF)
  refine wW ?_
  try simp [go_sem, g]
 ·refine wB ?_
  obtain ⟨b13, hb14, hψ8⟩ := hF
  refine pR hb14 (fun i5 s4 => [(2, .v (vC a2)), (3, .bl [.int .i64 a0.P, .int .i64 a0.Q, .int .i64 a0.G]), (7, .v (vD s4)), (10, .v (vI a1)), (11, .v (.int .i64 (a1.length : Int))), (12, .v (.int .i64 i5))]) (fun s4 _ hN15 => ?_) (fun i5 s4 _ _ hi9 hi10 ho6 hg7 hF => ?_)
  ·subst hN15
   refine wW ?_
   refine wf ?_
   exact wT (hj1 _) hψ8
  ·refine wW ?_
   refine wt ?_ (hb := by simp [go_sem, g, hi9, hi10])
   refine wW ?_
   refine wB ?_
   obtain ⟨x11, g, hF⟩ := Rx g hF
   refine wK [2, 3, 7, 9, 10, 11, 12] ?_
   refine wC hF [.sh, .sh, .sh] c_spec_gProd (fun z12 hF => ?_)
   obtain ⟨g, hF⟩ := Rg g hF
   refine wW ?_
   exact wT (hg7 (s4 ++ [z12])) (Rn_some hF) (a := by simp [go_sem, g, wr_i hi9 hi10 (by assumption)])
noncomputable def F_spec_sStatement (a0 : (List (List Int))) (a1 : (List Int)) (a2 : (List Int)) : Option ((List Int)) :=
 ((rloop (σ := (List Int)) (fun i5 s4 =>
 (ix a0 i5).bind fun x11 =>
 gd ((s4.length + x11.length) * 8 ≤ 140737488355328 ∧ s4.length + x11.length ≤ 4611686018427387904) <|
 some (.go (s4 ++ x11))) (fun s4 => s4) (a0.length) 0 [] : Option ((List Int))).bind fun x3 =>
 gd ((x3.length + a1.length) * 8 ≤ 140737488355328 ∧ x3.length + a1.length ≤ 4611686018427387904) <|
 gd (((x3 ++ a1).length + a2.length) * 8 ≤ 140737488355328 ∧ (x3 ++ a1).length + a2.length ≤ 4611686018427387904) <|
 some (x3 ++ a1 ++ a2))
theorem c_spec_sStatement : ∀ {a0} {a1} {a2} {r}, F_spec_sStatement a0 a1 a2 = some r → PCalls Tryz.prog 275 [(.sh, vI a0), (.sh, vC a1), (.sh, vC a2)] (Eo (vD r) [.junk, .junk, .junk]) := by
 intro a0 a1 a2 r hr
 apply pF 25 [] [] [] [.tmp 6] hr cl275 Tryz.func275
 intro Φ hΦ hF g
 unfold F_spec_sStatement at hF
 iterate 3 (try simp [go_sem, g]; try intros; refine pw_wk ?_)
 refine wJ hF (fun x3 => [(1, .v (vC a1)), (2, .v (vC a2)), (7, .v (vD x3))]) (fun x3 hF => ?_) fun _ hj1 hF => ?_
 ·obtain ⟨g, hF⟩ := Rg g hF
  obtain ⟨g, hF⟩ := Rg g hF
  refine wK [6] ?_
  cases hΦ _ (Rn_some hF)
  try simp [go_sem, g]
 ·refine wB ?_
  obtain ⟨b12, hb13, hψ8⟩ := hF
  refine pR hb13 (fun i5 s4 => [(1, .v (vC a1)), (2, .v (vC a2)), (7, .v (vD s4)), (10, .v (vI a0)), (11, .v (.int .i64 (a0.length : Int))), (12, .v (.int .i64 i5))]) (fun s4 _ hN14 => ?_) (fun i5 s4 _ _ hi9 hi10 ho6 hg7 hF => ?_)
  ·subst hN14
   refine wW ?_
   refine wf ?_
   exact wT (hj1 _) hψ8
  ·refine wW ?_
   refine wt ?_ (hb := by simp [go_sem, g, hi9, hi10])
   refine wW ?_
   refine wB ?_
   obtain ⟨x11, g, hF⟩ := Rx g hF
   obtain ⟨g, hF⟩ := Rg g hF
   refine wW ?_
   refine wK [1, 2, 7, 10, 11, 12] ?_
   exact wT (hg7 (s4 ++ x11)) (Rn_some hF) (a := by simp [go_sem, g, wr_i hi9 hi10 (by assumption)])
noncomputable def F_spec_l3With (a0 : ByteArray) (a1 : (List Int)) : Option ((List Int)) :=
 ((wloop (σ := (List Int) × Int) (fun s4 =>
 if decide (s4.2 < (a0.size : Int)) = true then (
 (ixs a0 s4.2).bind fun x10 =>
 gd ((s4.1.length + 1) * 8 ≤ 140737488355328 ∧ s4.1.length + 1 ≤ 4611686018427387904) <|
 some (.go (s4.1 ++ [i64.wrap x10], i64.wrap (s4.2 + 1)))) else (
 some (.out s4.1))) ([(a0.size : Int)], 0) : Option ((List Int))).bind fun x3 =>
 gd ((x3.length + a1.length) * 8 ≤ 140737488355328 ∧ x3.length + a1.length ≤ 4611686018427387904) <|
 some (x3 ++ a1))
theorem c_spec_l3With : ∀ {a0} {a1} {r}, F_spec_l3With a0 a1 = some r → PCalls Tryz.prog 321 [(.sh, .str a0), (.sh, vC a1)] (Eo (vD r) [.junk, .junk]) := by
 intro a0 a1 r hr
 apply pF 26 [] [] [] [.tmp 4] hr cl321 Tryz.func321
 intro Φ hΦ hF g
 unfold F_spec_l3With at hF
 iterate 3 refine wW ?_
 refine wJ hF (fun x3 => [(1, .v (vC a1)), (5, .v (vD x3))]) (fun x3 hF => ?_) fun _ hj1 hF => ?_
 ·obtain ⟨g, hF⟩ := Rg g hF
  refine wK [4] ?_
  cases hΦ _ (Rn_some hF)
  try simp [go_sem, g]
 ·refine wB ?_
  obtain ⟨b11, hb12, hψ8⟩ := hF
  refine pL hb12 (fun s4 => [(0, .v (.str a0)), (1, .v (vC a1)), (5, .v (vD s4.1)), (6, .v (.int .i64 s4.2))]) (fun s4 _ _ ho6 hg7 hF => ?_)
  refine wK [0, 1, 5, 6, 13] ?_
  refine wI hF (fun h9 hF => ?_) (fun h9 hF => ?_)
  ·refine wW ?_
   refine wB ?_
   obtain ⟨x10, g, hF⟩ := Rxs g hF
   obtain ⟨g, hF⟩ := Rg g hF
   refine wW ?_
   exact wT (hg7 _) (Rn_some hF)
  ·cases ho6 _ (Rn_some hF)
   exact wT (hj1 _) hψ8
noncomputable def F_spec_l3State_absorb__io0 (a0c0 : Int) (a0c1 : Int) (a1 : Int) : Option ((Int × Int)) :=
 (some [a1.tmod 2147483648, i64.wrap (a1.tdiv 2147483648)]).bind fun x1 =>
 wloop (σ := (Int × Int) × Int) (fun s10 =>
 if decide (s10.2 < (x1.length : Int)) = true then (
 (ix x1 s10.2).bind fun x16 =>
 some (.go (((i64.wrap ((i64.wrap ((i64.wrap (48271 * s10.1.1)) + x16)) + 1)).tmod 2147483647, (i64.wrap ((i64.wrap ((i64.wrap (69621 * s10.1.2)) + x16)) + 1)).tmod 2147483647), i64.wrap (s10.2 + 1)))) else (
 some (.out (s10.1.1, s10.1.2)))) ((a0c0, a0c1), 0)
theorem c_spec_l3State_absorb__io0 : ∀ {a0c0} {a0c1} {a1} {r}, F_spec_l3State_absorb__io0 a0c0 a0c1 a1 = some r → PCalls Tryz.prog 325 [(.io, vQ a0c0 a0c1), (.sh, .int .i64 a1)] (Eo (.junk) [vQ r.1 r.2, .junk]) := by
 intro a0c0 a0c1 a1 r hr
 apply pF 41 [0] [] [] [] hr cl325 Tryz.func325
 intro Φ hΦ hF g
 unfold F_spec_l3State_absorb__io0 at hF
 have g := Ld g 2147483648
 obtain ⟨x1, e2, hF⟩ := Rn_bind hF
 have g := And.intro g (show [[.int .i64 (a1.tmod 2147483648)], [.int .i64 (i64.wrap (a1.tdiv 2147483648))]] = x1.map row_i64 by injection e2 with e2; rw [← e2]; simp [go_sem])
 try simp [go_sem, g]
 try intros
 refine pw_wk ?_
 refine wB ?_
 obtain ⟨b17, hb18, hψ14⟩ := hF
 refine pL hb18 (fun s10 => [(0, .v (vQ s10.1.1 s10.1.2)), (10, .v (vD x1)), (11, .v (.int .i64 (x1.length : Int))), (12, .v (.int .i64 s10.2))]) (fun s10 _ _ ho12 hg13 hF => ?_)
 refine wW ?_
 refine wI hF (fun h15 hF => ?_) (fun h15 hF => ?_)
 ·refine wW ?_
  refine wB ?_
  obtain ⟨x16, g, hF⟩ := Rx g hF
  refine wK [0, 5, 10, 11, 12] ?_
  have g := Ld g 2147483647
  refine wK [0, 5, 10, 11, 12] ?_
  refine wK [0, 10, 11, 12] ?_
  exact wT (hg13 _) (Rn_some hF)
 ·cases ho12 _ (Rn_some hF)
  cases hΦ _ hψ14
  try simp [go_sem, g]
@[go_sem] def D320_8 : List DE := [d0 0 [3], d0 1 [22], d0 2 [23], d0 3 [24], d0 4 [25], d0 5 [3], d0 6 [27], d0 7 [28], d0 8 [29], d0 9 [26, 30], d0 10 [31]]
noncomputable def F_spec_hInts (a0 : (List Int)) : Option (Int) :=
 (F_spec_l3State_absorb__io0 1 2 (a0.length : Int)).bind fun z1 =>
 ((rloop (σ := (Int × Int)) (fun i15 s14 =>
 (ix a0 i15).bind fun x21 =>
 (F_spec_l3State_absorb__io0 s14.1 s14.2 x21).bind fun z22 =>
 some (.go (z22.1, z22.2))) (fun s14 => (s14.1, s14.2)) (a0.length) 0 (z1.1, z1.2) : Option ((Int × Int))).bind fun x4 =>
 some (i64.wrap ((i64.wrap (x4.1 * 2147483648)) + x4.2)))
theorem c_spec_hInts : ∀ {a0} {r}, F_spec_hInts a0 = some r → PCalls Tryz.prog 320 [(.sh, vC a0)] (Eo (.int .i64 r) [.junk]) := by
 intro a0 r hr
 apply pF 32 [] [] [7] [.tmp 2] hr cl320 Tryz.func320
 intro Φ hΦ hF g
 unfold F_spec_hInts at hF
 iterate 2 (try simp [go_sem, g]; try intros; refine pw_wk ?_)
 try simp [go_sem, g]
 try intros
 refine wC hF [.io, .sh] c_spec_l3State_absorb__io0 (fun z1 hF => ?_)
 try simp [go_sem, g]
 try intros
 refine pw_wk ?_
 try simp [go_sem, g]
 try intros
 refine wK [3, 12, 13, 14] ?_
 refine wJ hF (fun x4 => [(3, .v (vQ x4.1 x4.2))]) (fun x4 hF => ?_) fun _ hj2 hF => ?_
 ·refine wX D320_8 follows ?_
  refine wK [2] ?_
  cases hΦ _ (Rn_some hF)
  try simp [go_sem, g]
 ·refine wB ?_
  obtain ⟨b23, hb24, hψ18⟩ := hF
  refine pR hb24 (fun i15 s14 => [(3, .v (vQ s14.1 s14.2)), (12, .v (vC a0)), (13, .v (.int .i64 (a0.length : Int))), (14, .v (.int .i64 i15))]) (fun s14 _ hN25 => ?_) (fun i15 s14 _ _ hi19 hi20 ho16 hg17 hF => ?_)
  ·subst hN25
   refine wW ?_
   refine wf ?_
   exact wT (hj2 _) hψ18
  ·refine wW ?_
   refine wt ?_ (hb := by simp [go_sem, g, hi19, hi20])
   refine wW ?_
   refine wB ?_
   obtain ⟨x21, g, hF⟩ := Rx g hF
   refine wW ?_
   refine wC hF [.io, .sh] c_spec_l3State_absorb__io0 (fun z22 hF => ?_)
   refine wW ?_
   exact wT (hg17 (z22.1, z22.2)) (Rn_some hF) (a := by simp [go_sem, g, wr_i hi19 hi20 (by assumption)])
noncomputable def F_spec_hLabelled (a0 : ByteArray) (a1 : (List Int)) : Option (Int) :=
 (F_spec_l3With a0 a1).bind fun z1 =>
 (F_spec_hInts z1).bind fun z2 =>
 some z2
theorem c_spec_hLabelled : ∀ {a0} {a1} {r}, F_spec_hLabelled a0 a1 = some r → PCalls Tryz.prog 305 [(.sh, .str a0), (.sh, vC a1)] (Eo (.int .i64 r) [.junk, .junk]) := by
 intro a0 a1 r hr
 apply pF 9 [] [] [] [.tmp 4] hr cl305 Tryz.func305
 intro Φ hΦ hF g
 unfold F_spec_hLabelled at hF
 refine wW ?_
 refine wC hF [.sh, .sh] c_spec_l3With (fun z1 hF => ?_)
 refine wC hF [.sh] c_spec_hInts (fun z2 hF => ?_)
 cases hΦ _ (Rn_some hF)
 refine wW ?_
 try simp [go_sem, g]
@[go_sem] def D249_1 : List DE := [d0 0 [1], d1 1 [3] 3, d2 2 [8] 3 8, d1 3 [3] 3, d2 4 [10] 3 10, d1 5 [3] 3, d2 6 [12] 3 12, d0 7 [9, 11, 13], d0 8 [2], d1 11 [3] 3, d2 12 [18] 3 18, ⟨9, [14, 15], [], none, true, false, false⟩, d3 10 [7, 16], d0 13 [17, 19], d0 14 [20]]
noncomputable def F_spec_hChallenge (a0 : Group) (a1 : ByteArray) (a2 : (List Int)) : Option (Int) :=
 gd (([a0.P, a0.Q, a0.G].length + a2.length) * 8 ≤ 140737488355328 ∧ [a0.P, a0.Q, a0.G].length + a2.length ≤ 4611686018427387904) <|
 (F_spec_hLabelled a1 ([a0.P, a0.Q, a0.G] ++ a2)).bind fun z1 =>
 gd (a0.Q ≠ 0) <|
 some (z1.tmod a0.Q)
theorem c_spec_hChallenge : ∀ {a0} {a1} {a2} {r}, F_spec_hChallenge a0 a1 a2 = some r → PCalls Tryz.prog 249 [(.sh, vE a0), (.sh, .str a1), (.sh, vC a2)] (Eo (.int .i64 r) [.junk, .junk, .junk]) := by
 intro a0 a1 a2 r hr
 apply pF 21 [] [] [] [.tmp 6] hr cl249 Tryz.func249
 intro Φ hΦ hF g
 unfold F_spec_hChallenge at hF
 refine wW ?_
 refine wX D249_1 follows ?_
 obtain ⟨g, hF⟩ := Rg g hF
 refine wC hF [.sh, .sh] c_spec_hLabelled (fun z1 hF => ?_)
 obtain ⟨g, hF⟩ := Rz g hF
 refine wK [6] ?_
 cases hΦ _ (Rn_some hF)
 try simp [go_sem, g]
@[go_sem] def D175_2 : List DE := [d2 0 [5] 5 5, d0 1 [1], d0 2 [2], d2 3 [5] 5 5, d0 4 [2], d0 5 [3], d1 7 [11] 11, d2 8 [27] 11 27, d3 6 [23, 24, 25], d3 9 [22, 26, 28], d3 10 [20, 21, 29], d0 11 [30]]
@[go_sem] def D175_7 : List DE := [d1 0 [11] 11, d2 1 [41] 11 41, d0 2 [4], d0 3 [13], d0 4 [43, 44], d0 5 [45], d0 6 [12], d0 7 [14], d0 8 [47, 48], d0 9 [46, 49], d1 10 [5] 5, d2 11 [51] 5 51, d0 12 [50, 52], d0 13 [53], ⟨14, [42, 54], [], none, true, false, false⟩, d1 15 [11] 11, d2 16 [56, 55] 11 56]
noncomputable def F_spec_sProve (a0 : Group) (a1 : ByteArray) (a2 : (List (List Int))) (a3 : (List Int)) (a4 : (List Int)) : Option (Proof) :=
 (F_spec_sImages a0 a2 a4).bind fun z1 =>
 (F_spec_sImages a0 a2 a3).bind fun z2 =>
 (F_spec_sStatement a2 z2 z1).bind fun z3 =>
 (F_spec_hChallenge a0 a1 z3).bind fun z4 =>
 ((rloop (σ := (List Int) × (List Int) × (List Int)) (fun i18 s17 =>
 (ix a3 i18).bind fun x24 =>
 (ix a4 i18).bind fun x25 =>
 gd (a0.Q ≠ 0) <|
 gd ((s17.2.2.length + 1) * 8 ≤ 140737488355328 ∧ s17.2.2.length + 1 ≤ 4611686018427387904) <|
 some (.go (s17.1, s17.2.1, s17.2.2 ++ [(i64.wrap (x25 + (i64.wrap (z4 * x24)))).tmod a0.Q]))) (fun s17 => (s17.1, s17.2.1, s17.2.2)) (a3.length) 0 (z1, [z4], []) : Option (((List Int) × (List Int) × (List Int)))).bind fun x7 =>
 some (Proof.mk x7.1 x7.2.1 x7.2.2))
theorem c_spec_sProve : ∀ {a0} {a1} {a2} {a3} {a4} {r}, F_spec_sProve a0 a1 a2 a3 a4 = some r → PCalls Tryz.prog 175 [(.sh, vE a0), (.sh, .str a1), (.sh, vI a2), (.sh, vC a3), (.sh, vC a4)] (Eo (vR r) [.junk, .junk, .junk, .junk, .junk]) := by
 intro a0 a1 a2 a3 a4 r hr
 apply pF 59 [] [] [] [.cell 10 36] hr cl175 Tryz.func175
 intro Φ hΦ hF g
 unfold F_spec_sProve at hF
 refine wW ?_
 refine wC hF [.sh, .sh, .sh] c_spec_sImages (fun z1 hF => ?_)
 refine wW ?_
 refine wX D175_2 follows ?_
 refine wC hF [.sh, .sh, .sh] c_spec_sImages (fun z2 hF => ?_)
 refine wC hF [.sh, .sh, .sh] c_spec_sStatement (fun z3 hF => ?_)
 refine wC hF [.sh, .sh, .sh] c_spec_hChallenge (fun z4 hF => ?_)
 refine wK [3, 4, 5, 10, 11, 12] ?_
 iterate 2 (try simp [go_sem, g]; try intros; refine pw_wk ?_)
 refine wJ hF (fun x7 => [(10, .bl [.sl true 1 [], .sl true 1 [], .sl true 1 []]), (11, .bl [vD x7.1, vD x7.2.1, vD x7.2.2])]) (fun x7 hF => ?_) fun _ hj5 hF => ?_
 ·cases hΦ _ (Rn_some hF)
  refine wW ?_
  try simp [go_sem, g]
 ·refine wB ?_
  obtain ⟨b26, hb27, hψ21⟩ := hF
  refine pR hb27 (fun i18 s17 => [(4, .v (vC a4)), (5, .bl [.int .i64 a0.P, .int .i64 a0.Q, .int .i64 a0.G]), (10, .bl [.sl true 1 [], .sl true 1 [], .sl true 1 []]), (11, .bl [vD s17.1, vD s17.2.1, vD s17.2.2]), (12, .v (.int .i64 z4)), (34, .v (vC a3)), (35, .v (.int .i64 (a3.length : Int))), (36, .v (.int .i64 i18))]) (fun s17 _ hN28 => ?_) (fun i18 s17 _ _ hi22 hi23 ho19 hg20 hF => ?_)
  ·subst hN28
   refine wW ?_
   refine wf ?_
   exact wT (hj5 _) hψ21
  ·refine wW ?_
   refine wt ?_ (hb := by simp [go_sem, g, hi22, hi23])
   refine wW ?_
   refine wB ?_
   obtain ⟨x24, g, hF⟩ := Rx g hF
   refine wK [4, 5, 10, 11, 12, 13, 14, 34, 35, 36] ?_
   refine wX D175_7 follows ?_
   obtain ⟨x25, g, hF⟩ := Rx g hF
   obtain ⟨g, hF⟩ := Rz g hF
   obtain ⟨g, hF⟩ := Rg g hF
   refine wK [4, 5, 10, 11, 12, 34, 35, 36] ?_
   exact wT (hg20 (s17.1, s17.2.1, s17.2.2 ++ [(i64.wrap (x25 + (i64.wrap (z4 * x24)))).tmod a0.Q])) (Rn_some hF) (a := by simp [go_sem, g, wr_i hi22 hi23 (by assumption)])
noncomputable def F_spec_ProveLinear (a0 : Group) (a1 : ByteArray) (a2 : (List (List Int))) (a3 : (List Int)) (a4 : (List Int)) : Option (Proof × Bool) :=
 (((F_spec_sLabel a0 a1).bind fun z4 =>
 if (!z4) = true then (
 some true) else (
 (F_spec_sBases a0 a2).bind fun z6 =>
 if (!z6) = true then (
 some true) else (
 (ix a2 0).bind fun x8 =>
 if ((a3.length : Int) != (x8.length : Int)) = true then (
 some true) else (
 if ((a4.length : Int) != (a3.length : Int)) = true then (
 some true) else (
 (F_spec_gExps a0 a3).bind fun z11 =>
 if (!z11) = true then (
 some true) else (
 (F_spec_gExps a0 a4).bind fun z13 =>
 some (!z13)))))) : Option (Bool)).bind fun x3 =>
 if x3 = true then (
 some ((Proof.mk [] [] []), false)) else (
 (F_spec_sProve a0 a1 a2 a3 a4).bind fun z15 =>
 some (z15, true)))
theorem c_spec_ProveLinear : ∀ {a0} {a1} {a2} {a3} {a4} {r}, F_spec_ProveLinear a0 a1 a2 a3 a4 = some r → PCalls Tryz.prog 282 [(.sh, vE a0), (.sh, .str a1), (.sh, vI a2), (.sh, vC a3), (.sh, vC a4)] (Eo (.tup [vR r.1, .bool r.2]) [.junk, .junk, .junk, .junk, .junk]) := by
 intro a0 a1 a2 a3 a4 r hr
 apply pF 57 [] [] [] [.cell 10 36, .tmp 11] hr cl282 Tryz.func282
 intro Φ hΦ hF g
 unfold F_spec_ProveLinear at hF
 refine wW ?_
 refine wJ hF (fun x3 => [(1, .v (.str a1)), (2, .v (vI a2)), (3, .v (vC a3)), (4, .v (vC a4)), (5, .bl [.int .i64 a0.P, .int .i64 a0.Q, .int .i64 a0.G]), (10, .bl [.sl true 1 [], .sl true 1 [], .sl true 1 []]), (49, .v (.bool x3))]) (fun x3 hF => ?_) fun _ hj1 hF => ?_
 ·refine wI hF (fun h14 hF => ?_) (fun h14 hF => ?_)
  ·cases hΦ _ (Rn_some hF)
   refine wW ?_
   try simp [go_sem, g]
  ·refine wW ?_
   refine wC hF [.sh, .sh, .sh, .sh, .sh] c_spec_sProve (fun z15 hF => ?_)
   refine wK [10, 11] ?_
   cases hΦ _ (Rn_some hF)
   try simp [go_sem, g]
 ·refine wC hF [.sh, .sh] c_spec_sLabel (fun z4 hF => ?_)
  refine wG hF (fun h5 hF => ?_) fun h5 hF => ?_
  ·try simp [go_sem, g, h5]
   exact wT (hj1 _) (Rn_some hF)
  ·try simp [go_sem, g, h5]
   refine wC hF [.sh, .sh] c_spec_sBases (fun z6 hF => ?_)
   try simp [go_sem, g, h5]
   refine wG hF (fun h7 hF => ?_) fun h7 hF => ?_
   ·try simp [go_sem, g, h7]
    exact wT (hj1 _) (Rn_some hF)
   ·obtain ⟨x8, g, hF⟩ := Rxn g 0 hF
    try simp [go_sem, g, h7]
    try intros
    refine wG hF (fun h9 hF => ?_) fun h9 hF => ?_
    ·try simp [go_sem, g, h9]
     exact wT (hj1 _) (Rn_some hF)
    ·try simp [go_sem, g, h9]
     try intros
     refine wG hF (fun h10 hF => ?_) fun h10 hF => ?_
     ·try simp [go_sem, g, h10]
      exact wT (hj1 _) (Rn_some hF)
     ·try simp [go_sem, g, h10]
      refine wC hF [.sh, .sh] c_spec_gExps (fun z11 hF => ?_)
      try simp [go_sem, g, h10]
      refine wG hF (fun h12 hF => ?_) fun h12 hF => ?_
      ·try simp [go_sem, g, h12]
       exact wT (hj1 _) (Rn_some hF)
      ·try simp [go_sem, g, h12]
       refine wC hF [.sh, .sh] c_spec_gExps (fun z13 hF => ?_)
       try simp [go_sem, g, h12]
       exact wT (hj1 _) (Rn_some hF)
noncomputable def F_spec_ProveKnowledge (a0 : Group) (a1 : ByteArray) (a2 : Int) (a3 : Int) (a4 : Int) : Option (Proof × Bool) :=
 (F_spec_ProveLinear a0 a1 [[a2]] [a3] [a4]).bind fun z1 =>
 some (z1.1, z1.2)
theorem c_spec_ProveKnowledge : ∀ {a0} {a1} {a2} {a3} {a4} {r}, F_spec_ProveKnowledge a0 a1 a2 a3 a4 = some r → PCalls Tryz.prog 191 [(.sh, vE a0), (.sh, .str a1), (.sh, .int .i64 a2), (.sh, .int .i64 a3), (.sh, .int .i64 a4)] (Eo (.tup [vR r.1, .bool r.2]) [.junk, .junk, .junk, .junk, .junk]) := by
 intro a0 a1 a2 a3 a4 r hr
 apply pF 24 [] [] [] [.cell 10 36, .tmp 11] hr cl191 Tryz.func191
 intro Φ hΦ hF g
 unfold F_spec_ProveKnowledge at hF
 refine wW ?_
 refine wC hF [.sh, .sh, .sh, .sh, .sh] c_spec_ProveLinear (fun z1 hF => ?_)
 refine wK [10, 11] ?_
 cases hΦ _ (Rn_some hF)
 try simp [go_sem, g]
@[go_sem] def D78_3 : List DE := [d2 0 [3] 3 3, d1 1 [3] 3, d2 2 [25] 3 25, d0 3 [1], d0 4 [27], d0 5 [28], d0 6 [2], d3 7 [24, 26, 29, 30], d0 8 [31], d0 9 [31], d2 10 [6, 32] 6 6, d0 11 [33]]
noncomputable def F_spec_ProveDealer (a0 : Group) (a1 : (List Int)) (a2 : Int) : Option (Proof × Bool) :=
 (((F_spec_sGroup a0).bind fun z4 =>
 if (!z4) = true then (
 some true) else (
 (F_spec_l1In (a1.length : Int) 1 7).bind fun z6 =>
 if (!z6) = true then (
 some true) else (
 (F_spec_gExps a0 a1).bind fun z8 =>
 some (!z8))) : Option (Bool)).bind fun x3 =>
 if x3 = true then (
 some ((Proof.mk [] [] []), false)) else (
 (ix a1 0).bind fun x10 =>
 (F_spec_ProveKnowledge a0 (⟨#[100, 101, 97, 108, 101, 114]⟩ : ByteArray) a0.G x10 a2).bind fun z11 =>
 some (z11.1, z11.2)))
theorem c_spec_ProveDealer : ∀ {a0} {a1} {a2} {r}, F_spec_ProveDealer a0 a1 a2 = some r → PCalls Tryz.prog 78 [(.sh, vE a0), (.sh, vC a1), (.sh, .int .i64 a2)] (Eo (.tup [vR r.1, .bool r.2]) [.junk, .junk, .junk]) := by
 intro a0 a1 a2 r hr
 apply pF 34 [] [] [] [.cell 6 36, .tmp 7] hr cl78 Tryz.func78
 intro Φ hΦ hF g
 unfold F_spec_ProveDealer at hF
 refine wW ?_
 refine wJ hF (fun x3 => [(1, .v (vC a1)), (2, .v (.int .i64 a2)), (3, .bl [.int .i64 a0.P, .int .i64 a0.Q, .int .i64 a0.G]), (6, .bl [.sl true 1 [], .sl true 1 [], .sl true 1 []]), (22, .v (.bool x3))]) (fun x3 hF => ?_) fun _ hj1 hF => ?_
 ·refine wI hF (fun h9 hF => ?_) (fun h9 hF => ?_)
  ·cases hΦ _ (Rn_some hF)
   refine wW ?_
   try simp [go_sem, g]
  ·refine wW ?_
   refine wX D78_3 follows ?_
   obtain ⟨x10, g, hF⟩ := Rxn g 0 hF
   refine wC hF [.sh, .sh, .sh, .sh, .sh] c_spec_ProveKnowledge (fun z11 hF => ?_)
   refine wK [6, 7] ?_
   cases hΦ _ (Rn_some hF)
   try simp [go_sem, g]
 ·refine wC hF [.sh] c_spec_sGroup (fun z4 hF => ?_)
  refine wG hF (fun h5 hF => ?_) fun h5 hF => ?_
  ·try simp [go_sem, g, h5]
   exact wT (hj1 _) (Rn_some hF)
  ·try simp [go_sem, g, h5]
   try intros
   refine wC hF [.sh, .sh, .sh] c_spec_l1In (fun z6 hF => ?_)
   try simp [go_sem, g, h5]
   refine wG hF (fun h7 hF => ?_) fun h7 hF => ?_
   ·try simp [go_sem, g, h7]
    exact wT (hj1 _) (Rn_some hF)
   ·try simp [go_sem, g, h7]
    refine wC hF [.sh, .sh] c_spec_gExps (fun z8 hF => ?_)
    try simp [go_sem, g, h7]
    exact wT (hj1 _) (Rn_some hF)
@[go_sem] def D192_4 : List DE := [d2 0 [3] 3 3, d0 1 [0], d2 2 [3] 3 3, d0 3 [0], d0 4 [5], d0 8 [5], d3 5 [18, 19], d0 6 [20], d3 7 [16, 17, 21], d3 9 [15, 22, 23], d2 10 [4, 24] 4 4]
noncomputable def F_spec_l1Cur_dealing__io0 (a0c0 : (List Int)) (a0c1 : Int) (a0c2 : Int) (a1 : Group) : Option (Dealing × ((List Int) × Int × Int)) :=
 (F_spec_l1Cur_pick__io0 a0c0 a0c1 a0c2 5).bind fun z1 =>
 (F_spec_sGroup a1).bind fun z2 =>
 if (!z2) = true then (
 some ((Dealing.mk [1] [0]), (z1.2.1, z1.2.2.1, z1.2.2.2))) else (
 (F_spec_l1Cur_pick__io0 z1.2.1 z1.2.2.1 z1.2.2.2 (i64.wrap (1 + z1.1))).bind fun z4 =>
 (F_spec_l1Cur_coins__io0 z4.2.1 z4.2.2.1 z4.2.2.2 a1 (i64.wrap (1 + z4.1))).bind fun z5 =>
 (F_spec_sDeal a1 z5.1 (i64.wrap (1 + z1.1))).bind fun z6 =>
 some (z6, (z5.2.1, z5.2.2.1, z5.2.2.2)))
theorem c_spec_l1Cur_dealing__io0 : ∀ {a0c0} {a0c1} {a0c2} {a1} {r}, F_spec_l1Cur_dealing__io0 a0c0 a0c1 a0c2 a1 = some r → PCalls Tryz.prog 192 [(.io, vB a0c0 a0c1 a0c2), (.sh, vE a1)] (Eo (vK r.1) [vB r.2.1 r.2.2.1 r.2.2.2, .junk]) := by
 intro a0c0 a0c1 a0c2 a1 r hr
 apply pF 25 [0] [] [] [.cell 4 34] hr cl192 Tryz.func192
 intro Φ hΦ hF g
 unfold F_spec_l1Cur_dealing__io0 at hF
 refine wW ?_
 refine wC hF [.io, .sh] c_spec_l1Cur_pick__io0 (fun z1 hF => ?_)
 refine wW ?_
 refine wC hF [.sh] c_spec_sGroup (fun z2 hF => ?_)
 refine wW ?_
 refine wI hF (fun h3 hF => ?_) (fun h3 hF => ?_)
 ·refine wK [0, 4] ?_
  cases hΦ _ (Rn_some hF)
  try simp [go_sem, g]
 ·refine wW ?_
  refine wX D192_4 follows ?_
  refine wC hF [.io, .sh] c_spec_l1Cur_pick__io0 (fun z4 hF => ?_)
  refine wC hF [.io, .sh, .sh] c_spec_l1Cur_coins__io0 (fun z5 hF => ?_)
  refine wC hF [.sh, .sh, .sh] c_spec_sDeal (fun z6 hF => ?_)
  refine wK [0, 4] ?_
  cases hΦ _ (Rn_some hF)
  try simp [go_sem, g]
@[go_sem] def D194_3 : List DE := [d2 0 [3] 3 3, d1 1 [3] 3, d2 2 [14] 3 14, d1 3 [3] 3, d2 4 [16] 3 16, d0 6 [0], d2 7 [3] 3 3, d3 5 [15, 17], d3 8 [19, 20], d3 9 [13, 18, 21], d0 10 [22]]
noncomputable def F_spec_l1Cur_element__io0 (a0c0 : (List Int)) (a0c1 : Int) (a0c2 : Int) (a1 : Group) : Option (Int × ((List Int) × Int × Int)) :=
 ((if decide (a1.P < 3) = true then (
 some true) else (
 some (decide (a1.Q < 1))) : Option (Bool)).bind fun x3 =>
 if x3 = true then (
 some (1, (a0c0, a0c1, a0c2))) else (
 (F_spec_nMod a1.G a1.P).bind fun z6 =>
 (F_spec_l1Cur_expo__io0 a0c0 a0c1 a0c2 a1).bind fun z7 =>
 (F_spec_gExp a1 z6 z7.1).bind fun z8 =>
 some (z8, (z7.2.1, z7.2.2.1, z7.2.2.2))))
theorem c_spec_l1Cur_element__io0 : ∀ {a0c0} {a0c1} {a0c2} {a1} {r}, F_spec_l1Cur_element__io0 a0c0 a0c1 a0c2 a1 = some r → PCalls Tryz.prog 194 [(.io, vB a0c0 a0c1 a0c2), (.sh, vE a1)] (Eo (.int .i64 r.1) [vB r.2.1 r.2.2.1 r.2.2.2, .junk]) := by
 intro a0c0 a0c1 a0c2 a1 r hr
 apply pF 23 [0] [] [] [.tmp 4] hr cl194 Tryz.func194
 intro Φ hΦ hF g
 unfold F_spec_l1Cur_element__io0 at hF
 refine wW ?_
 refine wJ hF (fun x3 => [(0, .v (vB a0c0 a0c1 a0c2)), (3, .bl [.int .i64 a1.P, .int .i64 a1.Q, .int .i64 a1.G]), (12, .v (.bool x3))]) (fun x3 hF => ?_) fun _ hj1 hF => ?_
 ·refine wI hF (fun h5 hF => ?_) (fun h5 hF => ?_)
  ·cases hΦ _ (Rn_some hF)
   refine wW ?_
   try simp [go_sem, g]
  ·refine wW ?_
   refine wX D194_3 follows ?_
   refine wC hF [.sh, .sh] c_spec_nMod (fun z6 hF => ?_)
   refine wC hF [.io, .sh] c_spec_l1Cur_expo__io0 (fun z7 hF => ?_)
   refine wC hF [.sh, .sh, .sh] c_spec_gExp (fun z8 hF => ?_)
   refine wK [0, 4] ?_
   cases hΦ _ (Rn_some hF)
   try simp [go_sem, g]
 ·refine wG hF (fun h4 hF => ?_) fun h4 hF => ?_
  ·try simp [go_sem, g, h4]
   exact wT (hj1 _) (Rn_some hF)
  ·try simp [go_sem, g, h4]
   exact wT (hj1 _) (Rn_some hF)
noncomputable def F_spec_l1Cur_anyElement__io0 (a0c0 : (List Int)) (a0c1 : Int) (a0c2 : Int) (a1 : Group) : Option (Int × ((List Int) × Int × Int)) :=
 (F_spec_l1Cur_one__io0 a0c0 a0c1 a0c2 20).bind fun z1 =>
 if z1.1 = true then (
 (F_spec_l1Cur_among__io0_mv1 z1.2.1 z1.2.2.1 z1.2.2.2 [0, 1, i64.wrap (a1.P - 1), a1.P, (-1), 5]).bind fun z3 =>
 some (z3.1, (z3.2.1, z3.2.2.1, z3.2.2.2))) else (
 (F_spec_l1Cur_element__io0 z1.2.1 z1.2.2.1 z1.2.2.2 a1).bind fun z4 =>
 some (z4.1, (z4.2.1, z4.2.2.1, z4.2.2.2)))
theorem c_spec_l1Cur_anyElement__io0 : ∀ {a0c0} {a0c1} {a0c2} {a1} {r}, F_spec_l1Cur_anyElement__io0 a0c0 a0c1 a0c2 a1 = some r → PCalls Tryz.prog 169 [(.io, vB a0c0 a0c1 a0c2), (.sh, vE a1)] (Eo (.int .i64 r.1) [vB r.2.1 r.2.2.1 r.2.2.2, .junk]) := by
 intro a0c0 a0c1 a0c2 a1 r hr
 apply pF 18 [0] [] [] [.tmp 4] hr cl169 Tryz.func169
 intro Φ hΦ hF g
 unfold F_spec_l1Cur_anyElement__io0 at hF
 refine wW ?_
 refine wC hF [.io, .sh] c_spec_l1Cur_one__io0 (fun z1 hF => ?_)
 refine wW ?_
 refine wI hF (fun h2 hF => ?_) (fun h2 hF => ?_)
 ·refine wC hF [.io, .mv] c_spec_l1Cur_among__io0_mv1 (fun z3 hF => ?_)
  refine wK [0, 4] ?_
  cases hΦ _ (Rn_some hF)
  try simp [go_sem, g]
 ·refine wW ?_
  refine wC hF [.io, .sh] c_spec_l1Cur_element__io0 (fun z4 hF => ?_)
  cases hΦ _ (Rn_some hF)
  refine wW ?_
  try simp [go_sem, g]
@[go_sem] def D79_12 : List DE := [d1 0 [5] 5, d2 1 [42] 5 42, d0 2 [0], d0 3 [6], d0 5 [0], d2 6 [3] 3 3, d3 4 [44, 45], d3 7 [47, 48], d0 8 [43, 46], d0 9 [50, 49]]
@[go_sem] def D79_14 : List DE := [d1 0 [5] 5, d2 1 [53] 5 53, d0 2 [0], d1 3 [5] 5, d2 4 [56] 5 56, d0 5 [57], d0 7 [0], d2 8 [3] 3 3, d3 6 [55, 58], d3 9 [60, 61], d0 10 [54, 59], d0 11 [63, 62]]
@[go_sem] def D79_9 : List DE := [d1 0 [5] 5, d2 1 [28] 5 28, d0 2 [0], d0 3 [6], d0 5 [0], d1 6 [3] 3, d2 7 [34] 3 34, d0 8 [35], d3 4 [30, 31], ⟨9, [33, 36], [], none, true, true, true⟩, d0 10 [29, 32], d0 11 [38, 37]]
noncomputable def F_spec_l1Cur_anyDealing__io0 (a0c0 : (List Int)) (a0c1 : Int) (a0c2 : Int) (a1 : Group) : Option (Dealing × ((List Int) × Int × Int)) :=
 (F_spec_l1Cur_dealing__io0 a0c0 a0c1 a0c2 a1).bind fun z1 =>
 (F_spec_l1Cur_pick__io0 z1.2.1 z1.2.2.1 z1.2.2.2 16).bind fun z2 =>
 ((if (z2.1 == 0) = true then (
 some ((z2.2.1, z2.2.2.1, z2.2.2.2), [], z1.1.Shares)) else (
 if (z2.1 == 1) = true then (
 gd (0 ≤ (i64.wrap ((z1.1.Shares.length : Int) - 1))) <|
 gd (0 ≤ (i64.wrap ((z1.1.Shares.length : Int) - 1)).toNat ∧ (i64.wrap ((z1.1.Shares.length : Int) - 1)).toNat ≤ z1.1.Shares.length) <|
 some ((z2.2.1, z2.2.2.1, z2.2.2.2), z1.1.Commits, z1.1.Shares.take ((i64.wrap ((z1.1.Shares.length : Int) - 1)).toNat))) else (
 if (z2.1 == 2) = true then (
 (F_spec_l1Cur_pick__io0 z2.2.1 z2.2.2.1 z2.2.2.2 (z1.1.Shares.length : Int)).bind fun z9 =>
 (F_spec_l1Cur_among__io0_mv1 z9.2.1 z9.2.2.1 z9.2.2.2 [(-1), a1.Q, 0]).bind fun z10 =>
 (ix z1.1.Shares z9.1).bind fun x11 =>
 some ((z10.2.1, z10.2.2.1, z10.2.2.2), z1.1.Commits, z1.1.Shares.set z9.1.toNat z10.1)) else (
 ((if (z2.1 == 3) = true then (
 some (z2.1 == 3)) else (
 some (z2.1 == 4)) : Option (Bool)).bind fun x14 =>
 if x14 = true then (
 (F_spec_l1Cur_pick__io0 z2.2.1 z2.2.2.1 z2.2.2.2 (z1.1.Shares.length : Int)).bind fun z17 =>
 (F_spec_l1Cur_expo__io0 z17.2.1 z17.2.2.1 z17.2.2.2 a1).bind fun z18 =>
 (ix z1.1.Shares z17.1).bind fun x19 =>
 some ((z18.2.1, z18.2.2.1, z18.2.2.2), z1.1.Commits, z1.1.Shares.set z17.1.toNat z18.1)) else (
 if (z2.1 == 5) = true then (
 (F_spec_l1Cur_pick__io0 z2.2.1 z2.2.2.1 z2.2.2.2 (z1.1.Commits.length : Int)).bind fun z21 =>
 (F_spec_l1Cur_anyElement__io0 z21.2.1 z21.2.2.1 z21.2.2.2 a1).bind fun z22 =>
 (ix z1.1.Commits z21.1).bind fun x23 =>
 some ((z22.2.1, z22.2.2.1, z22.2.2.2), z1.1.Commits.set z21.1.toNat z22.1, z1.1.Shares)) else (
 some ((z2.2.1, z2.2.2.1, z2.2.2.2), z1.1.Commits, z1.1.Shares))))))) : Option ((((List Int) × Int × Int) × (List Int) × (List Int)))).bind fun x5 =>
 some ((Dealing.mk x5.2.1 x5.2.2), (x5.1.1, x5.1.2.1, x5.1.2.2)))
theorem c_spec_l1Cur_anyDealing__io0 : ∀ {a0c0} {a0c1} {a0c2} {a1} {r}, F_spec_l1Cur_anyDealing__io0 a0c0 a0c1 a0c2 a1 = some r → PCalls Tryz.prog 79 [(.io, vB a0c0 a0c1 a0c2), (.sh, vE a1)] (Eo (vK r.1) [vB r.2.1 r.2.2.1 r.2.2.2, .junk]) := by
 intro a0c0 a0c1 a0c2 a1 r hr
 apply pF 65 [0] [] [] [.cell 4 34] hr cl79 Tryz.func79
 intro Φ hΦ hF g
 unfold F_spec_l1Cur_anyDealing__io0 at hF
 refine wW ?_
 refine wC hF [.io, .sh] c_spec_l1Cur_dealing__io0 (fun z1 hF => ?_)
 try simp [go_sem, g]
 try intros
 refine pw_wk ?_
 try simp [go_sem, g]
 try intros
 refine wK [0, 3, 4, 5, 6] ?_
 refine wC hF [.io, .sh] c_spec_l1Cur_pick__io0 (fun z2 hF => ?_)
 refine wW ?_
 refine wJ hF (fun x5 => [(0, .v (vB x5.1.1 x5.1.2.1 x5.1.2.2)), (4, .bl [.sl true 1 [], .sl true 1 []]), (5, .bl [vD x5.2.1, vD x5.2.2])]) (fun x5 hF => ?_) fun _ hj3 hF => ?_
 ·cases hΦ _ (Rn_some hF)
  refine wW ?_
  try simp [go_sem, g]
 ·refine wB ?_
  refine wW ?_
  refine wI hF (fun h6 hF => ?_) (fun h6 hF => ?_)
  ·exact wT (hj3 _) (Rn_some hF)
  ·refine wW ?_
   refine wI hF (fun h7 hF => ?_) (fun h7 hF => ?_)
   ·obtain ⟨g, hF⟩ := Rg g hF
    obtain ⟨g, hF⟩ := Rg g hF
    exact wT (hj3 _) (Rn_some hF)
   ·refine wW ?_
    refine wI hF (fun h8 hF => ?_) (fun h8 hF => ?_)
    ·refine wX D79_9 follows ?_
     refine wC hF [.io, .sh] c_spec_l1Cur_pick__io0 (fun z9 hF => ?_)
     refine wC hF [.io, .mv] c_spec_l1Cur_among__io0_mv1 (fun z10 hF => ?_)
     obtain ⟨x11, g, hF⟩ := Rx g hF
     exact wT (hj3 _) (Rn_some hF)
    ·refine wK [0, 3, 4, 5, 6, 14, 39] ?_
     refine wJ hF (fun x14 => [(0, .v (vB z2.2.1 z2.2.2.1 z2.2.2.2)), (3, .bl [.int .i64 a1.P, .int .i64 a1.Q, .int .i64 a1.G]), (4, .bl [.sl true 1 [], .sl true 1 []]), (5, .bl [vD z1.1.Commits, vD z1.1.Shares]), (6, .v (.int .i64 (z1.1.Shares.length : Int))), (14, .v (.int .i64 z2.1)), (39, .v (.bool x14))]) (fun x14 hF => ?_) fun _ hj12 hF => ?_
     ·refine wI hF (fun h16 hF => ?_) (fun h16 hF => ?_)
      ·refine wX D79_12 follows ?_
       refine wC hF [.io, .sh] c_spec_l1Cur_pick__io0 (fun z17 hF => ?_)
       refine wC hF [.io, .sh] c_spec_l1Cur_expo__io0 (fun z18 hF => ?_)
       obtain ⟨x19, g, hF⟩ := Rx g hF
       exact wT (hj3 _) (Rn_some hF)
      ·refine wW ?_
       refine wI hF (fun h20 hF => ?_) (fun h20 hF => ?_)
       ·refine wX D79_14 follows ?_
        try simp [go_sem, g]
        try intros
        refine wC hF [.io, .sh] c_spec_l1Cur_pick__io0 (fun z21 hF => ?_)
        refine wC hF [.io, .sh] c_spec_l1Cur_anyElement__io0 (fun z22 hF => ?_)
        obtain ⟨x23, g, hF⟩ := Rx g hF
        exact wT (hj3 _) (Rn_some hF)
       ·exact wT (hj3 _) (Rn_some hF)
     ·refine wI hF (fun h15 hF => ?_) (fun h15 hF => ?_)
      ·exact wT (hj12 _) (Rn_some hF)
      ·exact wT (hj12 _) (Rn_some hF)
noncomputable def F_spec_l1Least (a0 : Int) (a1 : Int) : Option (Int) :=
 if decide (a0 < a1) = true then (
 some a0) else (
 some a1)
theorem c_spec_l1Least : ∀ {a0} {a1} {r}, F_spec_l1Least a0 a1 = some r → PCalls Tryz.prog 81 [(.sh, .int .i64 a0), (.sh, .int .i64 a1)] (Eo (.int .i64 r) [.junk, .junk]) := by
 intro a0 a1 r hr
 apply pF 10 [] [] [] [.tmp 4] hr cl81 Tryz.func81
 intro Φ hΦ hF g
 unfold F_spec_l1Least at hF
 iterate 2 refine wW ?_
 refine wI hF (fun h1 hF => ?_) (fun h1 hF => ?_)
 ·cases hΦ _ (Rn_some hF)
  refine wW ?_
  try simp [go_sem, g]
 ·cases hΦ _ (Rn_some hF)
  iterate 2 refine wW ?_
  try simp [go_sem, g]
noncomputable def F_spec_l1Own (a0 : (List Int)) : Option ((List Int)) :=
 gd (a0.length * 8 ≤ 140737488355328 ∧ a0.length ≤ 4611686018427387904) <|
 some a0
theorem c_spec_l1Own : ∀ {a0} {r}, F_spec_l1Own a0 = some r → PCalls Tryz.prog 193 [(.sh, vC a0)] (Eo (vD r) [.junk]) := by
 intro a0 r hr
 apply pF 6 [] [] [] [.tmp 2] hr cl193 Tryz.func193
 intro Φ hΦ hF g
 unfold F_spec_l1Own at hF
 obtain ⟨g, hF⟩ := Rg g hF
 cases hΦ _ (Rn_some hF)
 iterate 2 refine wW ?_
 try simp [go_sem, g]
@[go_sem] def D82_1 : List DE := [d1 0 [5] 5, d2 1 [9] 5 9, d1 3 [5] 5, d2 4 [12] 5 12, d1 6 [5] 5, d2 7 [15] 5 15, d3 2 [10], d3 5 [13], d3 8 [16], d0 9 [11, 14, 17], d2 10 [5, 18] 5 5]
@[go_sem] def D82_4 : List DE := [d1 0 [5] 5, d2 1 [23] 5 23, d1 2 [5] 5, d2 3 [25] 5 25, d1 4 [5] 5, d2 5 [27] 5 27, d0 6 [24, 26, 28], d0 7 [0], d3 8 [30], ⟨9, [29, 31], [], none, true, true, false⟩, d0 10 [32], d0 11 [33]]
@[go_sem] def D82_7x1 : List DE := [d0 0 [7], d0 1 [8], d0 2 [0], d0 3 [0], d2 4 [4] 4 4, d0 6 [0], d2 7 [4] 4 4, d1 9 [4] 4, d2 10 [50] 4 50, d0 11 [7], d0 12 [8], d0 13 [52, 53], d0 14 [54], d0 15 [55], d3 5 [44, 45], d3 8 [47, 48], d0 16 [46, 49, 51, 56], ⟨17, [43, 57], [], none, true, true, true⟩, d0 18 [41, 42], d0 19 [59, 58]]
@[go_sem] def D82_7x3 : List DE := [d0 0 [7], d0 1 [8], d0 2 [0], d0 3 [0], d2 4 [4] 4 4, d0 6 [0], d2 7 [4] 4 4, d1 9 [4] 4, d2 10 [50] 4 50, d0 11 [7], d0 12 [8], d0 13 [52, 53], d3 5 [44, 45], d0 14 [54], d0 15 [55], d3 8 [47, 48], d0 16 [46, 49, 51, 56], ⟨17, [43, 57], [], none, true, true, true⟩, d0 18 [41, 42], d0 19 [59, 58]]
@[go_sem] def D82_7x4 : List DE := [d0 0 [7], d0 1 [8], d0 2 [0], d0 3 [0], d2 4 [4] 4 4, d0 6 [0], d2 7 [4] 4 4, d1 9 [4] 4, d2 10 [50] 4 50, d0 11 [7], d0 12 [8], d0 13 [52, 53], d3 5 [44, 45], d3 8 [47, 48], d0 14 [54], d0 15 [55], d0 16 [46, 49, 51, 56], ⟨17, [43, 57], [], none, true, true, true⟩, d0 18 [41, 42], d0 19 [59, 58]]
noncomputable def F_spec_l1Cur_bent__io0 (a0c0 : (List Int)) (a0c1 : Int) (a0c2 : Int) (a1 : Group) (a2 : Proof) : Option (Proof × ((List Int) × Int × Int)) :=
 (F_spec_l1Own a2.Commits).bind fun z1 =>
 (F_spec_l1Own a2.Challenges).bind fun z2 =>
 (F_spec_l1Own a2.Responses).bind fun z3 =>
 (F_spec_l1Cur_one__io0 a0c0 a0c1 a0c2 3).bind fun z4 =>
 if (!z4.1) = true then (
 some ((Proof.mk z1 z2 z3), (z4.2.1, z4.2.2.1, z4.2.2.2))) else (
 (F_spec_l1Cur_pick__io0 z4.2.1 z4.2.2.1 z4.2.2.2 3).bind fun z6 =>
 if (z6.1 == 0) = true then (
 ((if decide (0 < (z1.length : Int)) = true then (
 (F_spec_l1Cur_pick__io0 z6.2.1 z6.2.2.1 z6.2.2.2 (z1.length : Int)).bind fun z11 =>
 (ix z1 z11.1).bind fun x12 =>
 (F_spec_l1Cur_expo__io0 z11.2.1 z11.2.2.1 z11.2.2.2 a1).bind fun z13 =>
 (F_spec_l1Cur_element__io0 z13.2.1 z13.2.2.1 z13.2.2.2 a1).bind fun z14 =>
 (F_spec_l1Cur_among__io0_mv1 z14.2.1 z14.2.2.1 z14.2.2.2 [z13.1, z14.1, (-1), a1.Q, i64.wrap (x12 + 1)]).bind fun z15 =>
 some ((z15.2.1, z15.2.2.1, z15.2.2.2), z1.set z11.1.toNat z15.1, z2, z3)) else (
 some ((z6.2.1, z6.2.2.1, z6.2.2.2), z1, z2, z3)) : Option ((((List Int) × Int × Int) × (List Int) × (List Int) × (List Int)))).bind fun x9 =>
 (F_spec_l1Cur_pick__io0 x9.1.1 x9.1.2.1 x9.1.2.2 10).bind fun z16 =>
 ((if (z16.1 == 0) = true then (
 gd ((x9.2.1.length + 1) * 8 ≤ 140737488355328 ∧ x9.2.1.length + 1 ≤ 4611686018427387904) <|
 some (x9.2.1 ++ [1], x9.2.2.1, x9.2.2.2)) else (
 if (z16.1 == 1) = true then (
 some (x9.2.1, x9.2.2.1, [])) else (
 if (z16.1 == 2) = true then (
 gd ((x9.2.2.1.length + 1) * 8 ≤ 140737488355328 ∧ x9.2.2.1.length + 1 ≤ 4611686018427387904) <|
 some (x9.2.1, x9.2.2.1 ++ [0], x9.2.2.2)) else (
 some (x9.2.1, x9.2.2.1, x9.2.2.2)))) : Option (((List Int) × (List Int) × (List Int)))).bind fun x19 =>
 some ((Proof.mk x19.1 x19.2.1 x19.2.2), (z16.2.1, z16.2.2.1, z16.2.2.2))))) else (
 if (z6.1 == 1) = true then (
 ((if decide (0 < (z2.length : Int)) = true then (
 (F_spec_l1Cur_pick__io0 z6.2.1 z6.2.2.1 z6.2.2.2 (z2.length : Int)).bind fun z27 =>
 (ix z2 z27.1).bind fun x28 =>
 (F_spec_l1Cur_expo__io0 z27.2.1 z27.2.2.1 z27.2.2.2 a1).bind fun z29 =>
 (F_spec_l1Cur_element__io0 z29.2.1 z29.2.2.1 z29.2.2.2 a1).bind fun z30 =>
 (F_spec_l1Cur_among__io0_mv1 z30.2.1 z30.2.2.1 z30.2.2.2 [z29.1, z30.1, (-1), a1.Q, i64.wrap (x28 + 1)]).bind fun z31 =>
 some ((z31.2.1, z31.2.2.1, z31.2.2.2), z1, z2.set z27.1.toNat z31.1, z3)) else (
 some ((z6.2.1, z6.2.2.1, z6.2.2.2), z1, z2, z3)) : Option ((((List Int) × Int × Int) × (List Int) × (List Int) × (List Int)))).bind fun x25 =>
 (F_spec_l1Cur_pick__io0 x25.1.1 x25.1.2.1 x25.1.2.2 10).bind fun z32 =>
 ((if (z32.1 == 0) = true then (
 gd ((x25.2.1.length + 1) * 8 ≤ 140737488355328 ∧ x25.2.1.length + 1 ≤ 4611686018427387904) <|
 some (x25.2.1 ++ [1], x25.2.2.1, x25.2.2.2)) else (
 if (z32.1 == 1) = true then (
 some (x25.2.1, x25.2.2.1, [])) else (
 if (z32.1 == 2) = true then (
 gd ((x25.2.2.1.length + 1) * 8 ≤ 140737488355328 ∧ x25.2.2.1.length + 1 ≤ 4611686018427387904) <|
 some (x25.2.1, x25.2.2.1 ++ [0], x25.2.2.2)) else (
 some (x25.2.1, x25.2.2.1, x25.2.2.2)))) : Option (((List Int) × (List Int) × (List Int)))).bind fun x35 =>
 some ((Proof.mk x35.1 x35.2.1 x35.2.2), (z32.2.1, z32.2.2.1, z32.2.2.2))))) else (
 if (z6.1 == 2) = true then (
 ((if decide (0 < (z3.length : Int)) = true then (
 (F_spec_l1Cur_pick__io0 z6.2.1 z6.2.2.1 z6.2.2.2 (z3.length : Int)).bind fun z43 =>
 (ix z3 z43.1).bind fun x44 =>
 (F_spec_l1Cur_expo__io0 z43.2.1 z43.2.2.1 z43.2.2.2 a1).bind fun z45 =>
 (F_spec_l1Cur_element__io0 z45.2.1 z45.2.2.1 z45.2.2.2 a1).bind fun z46 =>
 (F_spec_l1Cur_among__io0_mv1 z46.2.1 z46.2.2.1 z46.2.2.2 [z45.1, z46.1, (-1), a1.Q, i64.wrap (x44 + 1)]).bind fun z47 =>
 some ((z47.2.1, z47.2.2.1, z47.2.2.2), z1, z2, z3.set z43.1.toNat z47.1)) else (
 some ((z6.2.1, z6.2.2.1, z6.2.2.2), z1, z2, z3)) : Option ((((List Int) × Int × Int) × (List Int) × (List Int) × (List Int)))).bind fun x41 =>
 (F_spec_l1Cur_pick__io0 x41.1.1 x41.1.2.1 x41.1.2.2 10).bind fun z48 =>
 ((if (z48.1 == 0) = true then (
 gd ((x41.2.1.length + 1) * 8 ≤ 140737488355328 ∧ x41.2.1.length + 1 ≤ 4611686018427387904) <|
 some (x41.2.1 ++ [1], x41.2.2.1, x41.2.2.2)) else (
 if (z48.1 == 1) = true then (
 some (x41.2.1, x41.2.2.1, [])) else (
 if (z48.1 == 2) = true then (
 gd ((x41.2.2.1.length + 1) * 8 ≤ 140737488355328 ∧ x41.2.2.1.length + 1 ≤ 4611686018427387904) <|
 some (x41.2.1, x41.2.2.1 ++ [0], x41.2.2.2)) else (
 some (x41.2.1, x41.2.2.1, x41.2.2.2)))) : Option (((List Int) × (List Int) × (List Int)))).bind fun x51 =>
 some ((Proof.mk x51.1 x51.2.1 x51.2.2), (z48.2.1, z48.2.2.1, z48.2.2.2))))) else (
 none))))
set_option maxHeartbeats 1000000 in
theorem c_spec_l1Cur_bent__io0 : ∀ {a0c0} {a0c1} {a0c2} {a1} {a2} {r}, F_spec_l1Cur_bent__io0 a0c0 a0c1 a0c2 a1 a2 = some r → PCalls Tryz.prog 82 [(.io, vB a0c0 a0c1 a0c2), (.sh, vE a1), (.sh, vS a2)] (Eo (vR r.1) [vB r.2.1 r.2.2.1 r.2.2.2, .junk, .junk]) := by
 intro a0c0 a0c1 a0c2 a1 a2 r hr
 apply pF 80 [0] [167, 189] [] [.cell 6 36] hr cl82 Tryz.func82
 intro Φ hΦ hF g
 unfold F_spec_l1Cur_bent__io0 at hF
 refine wW ?_
 refine wX D82_1 follows ?_
 refine wC hF [.sh] c_spec_l1Own (fun z1 hF => ?_)
 refine wC hF [.sh] c_spec_l1Own (fun z2 hF => ?_)
 refine wC hF [.sh] c_spec_l1Own (fun z3 hF => ?_)
 refine wK [0, 4, 5, 6] ?_
 refine wC hF [.io, .sh] c_spec_l1Cur_one__io0 (fun z4 hF => ?_)
 refine wW ?_
 refine wI hF (fun h5 hF => ?_) (fun h5 hF => ?_)
 ·cases hΦ _ (Rn_some hF)
  refine wW ?_
  try simp [go_sem, g]
 ·refine wW ?_
  refine wX D82_4 follows ?_
  refine wC hF [.io, .sh] c_spec_l1Cur_pick__io0 (fun z6 hF => ?_)
  refine pX g hF (fun g hF => ?_) fun hF => ?_
  ·refine wK [0, 4, 5, 6, 7] ?_
   try simp [go_sem, g]
   try intros
   refine pw_wk ?_
   refine wJ hF (fun x9 => [(0, .v (vB x9.1.1 x9.1.2.1 x9.1.2.2)), (5, .bl [vD x9.2.1, vD x9.2.2.1, vD x9.2.2.2]), (6, .bl [.sl true 1 [], .sl true 1 [], .sl true 1 []])]) (fun x9 hF => ?_) fun _ hj7 hF => ?_
   ·refine wC hF [.io, .sh] c_spec_l1Cur_pick__io0 (fun z16 hF => ?_)
    refine wW ?_
    refine wJ hF (fun x19 => [(0, .v (vB z16.2.1 z16.2.2.1 z16.2.2.2)), (5, .bl [vD x19.1, vD x19.2.1, vD x19.2.2]), (6, .bl [.sl true 1 [], .sl true 1 [], .sl true 1 []])]) (fun x19 hF => ?_) fun _ hj17 hF => ?_
    ·cases hΦ _ (Rn_some hF)
     refine wW ?_
     try simp [go_sem, g]
    ·refine wB ?_
     refine wW ?_
     refine wI hF (fun h20 hF => ?_) (fun h20 hF => ?_)
     ·obtain ⟨g, hF⟩ := Rg g hF
      exact wT (hj17 _) (Rn_some hF)
     ·refine wW ?_
      refine wI hF (fun h21 hF => ?_) (fun h21 hF => ?_)
      ·exact wT (hj17 _) (Rn_some hF)
      ·refine wK [0, 5, 6, 72] ?_
       refine wI hF (fun h22 hF => ?_) (fun h22 hF => ?_)
       ·obtain ⟨g, hF⟩ := Rg g hF
        exact wT (hj17 _) (Rn_some hF)
       ·exact wT (hj17 _) (Rn_some hF)
   ·refine wI hF (fun h10 hF => ?_) (fun h10 hF => ?_)
    ·try simp [go_sem, g]
     try intros
     refine wC hF [.io, .sh] c_spec_l1Cur_pick__io0 (fun z11 hF => ?_)
     refine wW ?_
     repeat rw [sq]
     refine pw_draw3 14 5 14 8 0 1 D82_7x1 D82_7x3 D82_7x4 follows (by decide) (by kernel_rfl) (by kernel_rfl) (by kernel_rfl) (by kernel_rfl) rfl rfl rfl ?_ ?_ ?_
     ·obtain ⟨x12, g, hF⟩ := Rx g hF
      refine wC hF [.io, .sh] c_spec_l1Cur_expo__io0 (fun z13 hF => ?_)
      refine wC hF [.io, .sh] c_spec_l1Cur_element__io0 (fun z14 hF => ?_)
      refine wC hF [.io, .mv] c_spec_l1Cur_among__io0_mv1 (fun z15 hF => ?_)
      exact wT (hj7 _) (Rn_some hF)
     ·obtain ⟨x12, g, hF⟩ := Rx g hF
      refine wC hF [.io, .sh] c_spec_l1Cur_expo__io0 (fun z13 hF => ?_)
      refine wC hF [.io, .sh] c_spec_l1Cur_element__io0 (fun z14 hF => ?_)
      refine wC hF [.io, .mv] c_spec_l1Cur_among__io0_mv1 (fun z15 hF => ?_)
      exact wT (hj7 _) (Rn_some hF)
     ·obtain ⟨x12, g, hF⟩ := Rx g hF
      refine wC hF [.io, .sh] c_spec_l1Cur_expo__io0 (fun z13 hF => ?_)
      refine wC hF [.io, .sh] c_spec_l1Cur_element__io0 (fun z14 hF => ?_)
      refine wC hF [.io, .mv] c_spec_l1Cur_among__io0_mv1 (fun z15 hF => ?_)
      exact wT (hj7 _) (Rn_some hF)
    ·exact wT (hj7 _) (Rn_some hF)
  ·refine pX g hF (fun g hF => ?_) fun hF => ?_
   ·refine wK [0, 4, 5, 6, 7] ?_
    try simp [go_sem, g]
    try intros
    refine pw_wk ?_
    refine wJ hF (fun x25 => [(0, .v (vB x25.1.1 x25.1.2.1 x25.1.2.2)), (5, .bl [vD x25.2.1, vD x25.2.2.1, vD x25.2.2.2]), (6, .bl [.sl true 1 [], .sl true 1 [], .sl true 1 []])]) (fun x25 hF => ?_) fun _ hj23 hF => ?_
    ·refine wC hF [.io, .sh] c_spec_l1Cur_pick__io0 (fun z32 hF => ?_)
     refine wW ?_
     refine wJ hF (fun x35 => [(0, .v (vB z32.2.1 z32.2.2.1 z32.2.2.2)), (5, .bl [vD x35.1, vD x35.2.1, vD x35.2.2]), (6, .bl [.sl true 1 [], .sl true 1 [], .sl true 1 []])]) (fun x35 hF => ?_) fun _ hj33 hF => ?_
     ·cases hΦ _ (Rn_some hF)
      refine wW ?_
      try simp [go_sem, g]
     ·refine wB ?_
      refine wW ?_
      refine wI hF (fun h36 hF => ?_) (fun h36 hF => ?_)
      ·obtain ⟨g, hF⟩ := Rg g hF
       exact wT (hj33 _) (Rn_some hF)
      ·refine wW ?_
       refine wI hF (fun h37 hF => ?_) (fun h37 hF => ?_)
       ·exact wT (hj33 _) (Rn_some hF)
       ·refine wK [0, 5, 6, 72] ?_
        refine wI hF (fun h38 hF => ?_) (fun h38 hF => ?_)
        ·obtain ⟨g, hF⟩ := Rg g hF
         exact wT (hj33 _) (Rn_some hF)
        ·exact wT (hj33 _) (Rn_some hF)
    ·refine wI hF (fun h26 hF => ?_) (fun h26 hF => ?_)
     ·try simp [go_sem, g]
      try intros
      refine wC hF [.io, .sh] c_spec_l1Cur_pick__io0 (fun z27 hF => ?_)
      refine wW ?_
      repeat rw [sq]
      refine pw_draw3 14 5 14 8 0 1 D82_7x1 D82_7x3 D82_7x4 follows (by decide) (by kernel_rfl) (by kernel_rfl) (by kernel_rfl) (by kernel_rfl) rfl rfl rfl ?_ ?_ ?_
      ·obtain ⟨x28, g, hF⟩ := Rx g hF
       refine wC hF [.io, .sh] c_spec_l1Cur_expo__io0 (fun z29 hF => ?_)
       refine wC hF [.io, .sh] c_spec_l1Cur_element__io0 (fun z30 hF => ?_)
       refine wC hF [.io, .mv] c_spec_l1Cur_among__io0_mv1 (fun z31 hF => ?_)
       exact wT (hj23 _) (Rn_some hF)
      ·obtain ⟨x28, g, hF⟩ := Rx g hF
       refine wC hF [.io, .sh] c_spec_l1Cur_expo__io0 (fun z29 hF => ?_)
       refine wC hF [.io, .sh] c_spec_l1Cur_element__io0 (fun z30 hF => ?_)
       refine wC hF [.io, .mv] c_spec_l1Cur_among__io0_mv1 (fun z31 hF => ?_)
       exact wT (hj23 _) (Rn_some hF)
      ·obtain ⟨x28, g, hF⟩ := Rx g hF
       refine wC hF [.io, .sh] c_spec_l1Cur_expo__io0 (fun z29 hF => ?_)
       refine wC hF [.io, .sh] c_spec_l1Cur_element__io0 (fun z30 hF => ?_)
       refine wC hF [.io, .mv] c_spec_l1Cur_among__io0_mv1 (fun z31 hF => ?_)
       exact wT (hj23 _) (Rn_some hF)
     ·exact wT (hj23 _) (Rn_some hF)
   ·refine pX g hF (fun g hF => ?_) fun hF => ?_
    ·refine wK [0, 4, 5, 6, 7] ?_
     try simp [go_sem, g]
     try intros
     refine pw_wk ?_
     refine wJ hF (fun x41 => [(0, .v (vB x41.1.1 x41.1.2.1 x41.1.2.2)), (5, .bl [vD x41.2.1, vD x41.2.2.1, vD x41.2.2.2]), (6, .bl [.sl true 1 [], .sl true 1 [], .sl true 1 []])]) (fun x41 hF => ?_) fun _ hj39 hF => ?_
     ·refine wC hF [.io, .sh] c_spec_l1Cur_pick__io0 (fun z48 hF => ?_)
      refine wW ?_
      refine wJ hF (fun x51 => [(0, .v (vB z48.2.1 z48.2.2.1 z48.2.2.2)), (5, .bl [vD x51.1, vD x51.2.1, vD x51.2.2]), (6, .bl [.sl true 1 [], .sl true 1 [], .sl true 1 []])]) (fun x51 hF => ?_) fun _ hj49 hF => ?_
      ·cases hΦ _ (Rn_some hF)
       refine wW ?_
       try simp [go_sem, g]
      ·refine wB ?_
       refine wW ?_
       refine wI hF (fun h52 hF => ?_) (fun h52 hF => ?_)
       ·obtain ⟨g, hF⟩ := Rg g hF
        exact wT (hj49 _) (Rn_some hF)
       ·refine wW ?_
        refine wI hF (fun h53 hF => ?_) (fun h53 hF => ?_)
        ·exact wT (hj49 _) (Rn_some hF)
        ·refine wK [0, 5, 6, 72] ?_
         refine wI hF (fun h54 hF => ?_) (fun h54 hF => ?_)
         ·obtain ⟨g, hF⟩ := Rg g hF
          exact wT (hj49 _) (Rn_some hF)
         ·exact wT (hj49 _) (Rn_some hF)
     ·refine wI hF (fun h42 hF => ?_) (fun h42 hF => ?_)
      ·try simp [go_sem, g]
       try intros
       refine wC hF [.io, .sh] c_spec_l1Cur_pick__io0 (fun z43 hF => ?_)
       refine wW ?_
       repeat rw [sq]
       refine pw_draw3 14 5 14 8 0 1 D82_7x1 D82_7x3 D82_7x4 follows (by decide) (by kernel_rfl) (by kernel_rfl) (by kernel_rfl) (by kernel_rfl) rfl rfl rfl ?_ ?_ ?_
       ·obtain ⟨x44, g, hF⟩ := Rx g hF
        refine wC hF [.io, .sh] c_spec_l1Cur_expo__io0 (fun z45 hF => ?_)
        refine wC hF [.io, .sh] c_spec_l1Cur_element__io0 (fun z46 hF => ?_)
        refine wC hF [.io, .mv] c_spec_l1Cur_among__io0_mv1 (fun z47 hF => ?_)
        exact wT (hj39 _) (Rn_some hF)
       ·obtain ⟨x44, g, hF⟩ := Rx g hF
        refine wC hF [.io, .sh] c_spec_l1Cur_expo__io0 (fun z45 hF => ?_)
        refine wC hF [.io, .sh] c_spec_l1Cur_element__io0 (fun z46 hF => ?_)
        refine wC hF [.io, .mv] c_spec_l1Cur_among__io0_mv1 (fun z47 hF => ?_)
        exact wT (hj39 _) (Rn_some hF)
       ·obtain ⟨x44, g, hF⟩ := Rx g hF
        refine wC hF [.io, .sh] c_spec_l1Cur_expo__io0 (fun z45 hF => ?_)
        refine wC hF [.io, .sh] c_spec_l1Cur_element__io0 (fun z46 hF => ?_)
        refine wC hF [.io, .mv] c_spec_l1Cur_among__io0_mv1 (fun z47 hF => ?_)
        exact wT (hj39 _) (Rn_some hF)
      ·exact wT (hj39 _) (Rn_some hF)
    ·exact (Rn_none hF).elim
@[go_sem] def D11_6 : List DE := [d2 0 [6] 6 6, d0 1 [7], d0 2 [7], d0 3 [39], d0 4 [5], d3 5 [41], d0 6 [40, 42], d3 7 [43], d3 8 [37, 38, 44], d2 9 [11, 45] 11 11]
@[go_sem] def D11_7 : List DE := [d2 0 [6] 6 6, d2 1 [11] 11 11, d0 2 [5], d2 3 [6] 6 6, d2 4 [9] 9 9, d3 5 [48, 49, 50], d2 6 [2, 46] 2 2, d2 7 [3, 47] 3 3, d2 8 [4, 51] 4 4]
noncomputable def F_spec_DrawVerifyDealer (a0 : (List Int)) : Option (Group × Dealing × Proof) :=
 (F_spec_DrawProveDealer a0).bind fun z1 =>
 (F_spec_ProveDealer z1.1 z1.2.1 z1.2.2).bind fun z2 =>
 (F_spec_l1Cur_anyDealing__io0 a0 0 0 z1.1).bind fun z3 =>
 ((if z2.2 = true then (
 (F_spec_l1Cur_one__io0 z3.2.1 z3.2.2.1 z3.2.2.2 5).bind fun z8 =>
 some ((z8.2.1, z8.2.2.1, z8.2.2.2), (!z8.1))) else (
 some ((z3.2.1, z3.2.2.1, z3.2.2.2), false)) : Option ((((List Int) × Int × Int) × Bool))).bind fun x6 =>
 ((if x6.2 = true then (
 (F_spec_l1Cur_pick__io0 x6.1.1 x6.1.2.1 x6.1.2.2 3).bind fun z13 =>
 (F_spec_l1Least 7 (i64.wrap ((z1.2.1.length : Int) + z13.1))).bind fun z14 =>
 (F_spec_sDeal z1.1 z1.2.1 z14).bind fun z15 =>
 some ((z13.2.1, z13.2.2.1, z13.2.2.2), z15.Commits, z15.Shares)) else (
 some ((x6.1.1, x6.1.2.1, x6.1.2.2), z3.1.Commits, z3.1.Shares)) : Option ((((List Int) × Int × Int) × (List Int) × (List Int)))).bind fun x11 =>
 (F_spec_l1Cur_bent__io0 x11.1.1 x11.1.2.1 x11.1.2.2 z1.1 z2.1).bind fun z16 =>
 some (z1.1, (Dealing.mk x11.2.1 x11.2.2), z16.1)))
theorem c_spec_DrawVerifyDealer : ∀ {a0} {r}, F_spec_DrawVerifyDealer a0 = some r → PCalls Tryz.prog 11 [(.sh, vA a0)] (Eo (.tup [vE r.1, vK r.2.1, vR r.2.2]) [.junk]) := by
 intro a0 r hr
 apply pF 52 [] [50] [14] [.cell 2 24, .cell 3 34, .cell 4 36] hr cl11 Tryz.func11
 intro Φ hΦ hF g
 unfold F_spec_DrawVerifyDealer at hF
 iterate 2 refine wW ?_
 refine wC hF [.sh] c_spec_DrawProveDealer (fun z1 hF => ?_)
 refine wK [2, 3, 4, 5, 6, 7, 8] ?_
 refine wC hF [.sh, .sh, .sh] c_spec_ProveDealer (fun z2 hF => ?_)
 refine wK [2, 3, 4, 5, 6, 7, 9, 10] ?_
 refine wC hF [.io, .sh] c_spec_l1Cur_anyDealing__io0 (fun z3 hF => ?_)
 refine wW ?_
 refine wJ hF (fun x6 => [(2, .bl [.int .i64 0, .int .i64 0, .int .i64 0]), (3, .bl [.sl true 1 [], .sl true 1 []]), (4, .bl [.sl true 1 [], .sl true 1 [], .sl true 1 []]), (5, .v (vB x6.1.1 x6.1.2.1 x6.1.2.2)), (6, .bl [.int .i64 z1.1.P, .int .i64 z1.1.Q, .int .i64 z1.1.G]), (7, .v (vC z1.2.1)), (9, .bl [vD z2.1.Commits, vD z2.1.Challenges, vD z2.1.Responses]), (11, .bl [vD z3.1.Commits, vD z3.1.Shares]), (36, .v (.bool x6.2))]) (fun x6 hF => ?_) fun _ hj4 hF => ?_
 ·refine wJ hF (fun x11 => [(2, .bl [.int .i64 0, .int .i64 0, .int .i64 0]), (3, .bl [.sl true 1 [], .sl true 1 []]), (4, .bl [.sl true 1 [], .sl true 1 [], .sl true 1 []]), (5, .v (vB x11.1.1 x11.1.2.1 x11.1.2.2)), (6, .bl [.int .i64 z1.1.P, .int .i64 z1.1.Q, .int .i64 z1.1.G]), (9, .bl [vD z2.1.Commits, vD z2.1.Challenges, vD z2.1.Responses]), (11, .bl [vD x11.2.1, vD x11.2.2])]) (fun x11 hF => ?_) fun _ hj9 hF => ?_
  ·refine wX D11_7 follows ?_
   refine wC hF [.io, .sh, .sh] c_spec_l1Cur_bent__io0 (fun z16 hF => ?_)
   refine wK [2, 3, 4] ?_
   cases hΦ _ (Rn_some hF)
   try simp [go_sem, g]
  ·refine wI hF (fun h12 hF => ?_) (fun h12 hF => ?_)
   ·refine wX D11_6 follows ?_
    try simp [go_sem, g]
    try intros
    refine wC hF [.io, .sh] c_spec_l1Cur_pick__io0 (fun z13 hF => ?_)
    refine wC hF [.sh, .sh] c_spec_l1Least (fun z14 hF => ?_)
    refine wC hF [.sh, .sh, .sh] c_spec_sDeal (fun z15 hF => ?_)
    exact wT (hj9 _) (Rn_some hF)
   ·exact wT (hj9 _) (Rn_some hF)
 ·refine wG hF (fun h7 hF => ?_) fun h7 hF => ?_
  ·try simp [go_sem, g, h7]
   refine wC hF [.io, .sh] c_spec_l1Cur_one__io0 (fun z8 hF => ?_)
   try simp [go_sem, g, h7]
   exact wT (hj4 _) (Rn_some hF)
  ·try simp [go_sem, g, h7]
   exact wT (hj4 _) (Rn_some hF)
noncomputable def F_impl_Group_has (a0 : Group) (a1 : Int) : Option (Bool) :=
 (((F_impl_within a1 1 (i64.wrap (a0.P - 1))).bind fun z4 =>
 if z4 = true then (
 (F_impl_power a1 a0.Q a0.P).bind fun z6 =>
 some (z6 == 1)) else (
 some false) : Option (Bool)).bind fun x3 =>
 some x3)
theorem c_impl_Group_has : ∀ {a0} {a1} {r}, F_impl_Group_has a0 a1 = some r → PCalls Tryz.prog 116 [(.sh, vE a0), (.sh, .int .i64 a1)] (Eo (.bool r) [.junk, .junk]) := by
 intro a0 a1 r hr
 apply pF 19 [] [] [] [.tmp 4] hr cl116 Tryz.func116
 intro Φ hΦ hF g
 unfold F_impl_Group_has at hF
 refine wW ?_
 refine wJ hF (fun x3 => [(4, .v (.bool x3))]) (fun x3 hF => ?_) fun _ hj1 hF => ?_
 ·cases hΦ _ (Rn_some hF)
  try simp [go_sem, g]
 ·refine wC hF [.sh, .sh, .sh] c_impl_within (fun z4 hF => ?_)
  refine wG hF (fun h5 hF => ?_) fun h5 hF => ?_
  ·try simp [go_sem, g, h5]
   refine wC hF [.sh, .sh, .sh] c_impl_power (fun z6 hF => ?_)
   try simp [go_sem, g, h5]
   exact wT (hj1 _) (Rn_some hF)
  ·try simp [go_sem, g, h5]
   exact wT (hj1 _) (Rn_some hF)
noncomputable def F_impl_areAll_1__impl_Group_has (a0 : Int) (a1c0x0 : Group) : Option (Bool) :=
 (F_impl_Group_has a1c0x0 a0).bind fun z1 =>
 some (!z1)
theorem c_impl_areAll_1__impl_Group_has : ∀ {a0} {a1c0x0} {r}, F_impl_areAll_1__impl_Group_has a0 a1c0x0 = some r → PCalls Tryz.prog 290 [(.sh, .int .i64 a0), (.sh, .fp [.func (.func 116) [vE a1c0x0] []])] (Eo (.bool r) [.junk, .junk]) := by
 intro a0 a1c0x0 r hr
 apply pF 8 [] [] [] [.tmp 3] hr cl290 Tryz.func290
 intro Φ hΦ hF g
 unfold F_impl_areAll_1__impl_Group_has at hF
 refine wW ?_
 refine wC hF [.sh] c_impl_Group_has (fun z1 hF => ?_)
 cases hΦ _ (Rn_some hF)
 refine wW ?_
 try simp [go_sem, g]
noncomputable def F_slices_IndexFunc_int_int__impl_areAll_1_impl_Group_has (a0 : (List Int)) (a1u0c0x0 : Group) : Option (Int) :=
 ((rloop (σ := Unit) (fun i5 s4 =>
 (ix a0 i5).bind fun x11 =>
 (F_impl_areAll_1__impl_Group_has x11 a1u0c0x0).bind fun z12 =>
 if z12 = true then (
 some (.out (.inr i5))) else (
 some (.go ()))) (fun s4 => .inl ()) (a0.length) 0 () : Option (Unit ⊕ Int)).bind (Sum.elim (fun x3 =>
 some (-1)) some))
theorem c_slices_IndexFunc_int_int__impl_areAll_1_impl_Group_has : ∀ {a0} {a1u0c0x0} {r}, F_slices_IndexFunc_int_int__impl_areAll_1_impl_Group_has a0 a1u0c0x0 = some r → PCalls Tryz.prog 319 [(.sh, vC a0), (.sh, .func (.func 290) [] [.fp [.func (.func 116) [vE a1u0c0x0] []]])] (Eo (.int .i64 r) [.junk, .junk]) := by
 intro a0 a1u0c0x0 r hr
 apply pF 19 [] [] [] [.tmp 4] hr cl319 Tryz.func319
 intro Φ hΦ hF g
 unfold F_slices_IndexFunc_int_int__impl_areAll_1_impl_Group_has at hF
 iterate 2 (try simp [go_sem, g]; try intros; refine pw_wk ?_)
 refine wS hF (fun x3 => []) (fun x3 hF => ?_) fun _ hj1 hr2 hF => ?_
 ·cases hΦ _ (Rn_some hF)
  refine wW ?_
  try simp [go_sem, g]
 ·refine wB ?_
  obtain ⟨b14, hb15, hψ8⟩ := hF
  refine pR hb15 (fun i5 s4 => [(0, .v (vC a0)), (1, .v (.func (.func 290) [] [.fp [.func (.func 116) [vE a1u0c0x0] []]])), (7, .v (.int .i64 (a0.length : Int))), (8, .v (.int .i64 i5))]) (fun s4 _ hN16 => ?_) (fun i5 s4 _ _ hi9 hi10 ho6 hg7 hF => ?_)
  ·subst hN16
   refine wW ?_
   refine wf ?_
   exact wT (hj1 _) hψ8
  ·refine wW ?_
   refine wt ?_ (hb := by simp [go_sem, g, hi9, hi10])
   refine wW ?_
   refine wB ?_
   obtain ⟨x11, g, hF⟩ := Rx g hF
   refine wW ?_
   refine wC hF [.sh] c_impl_areAll_1__impl_Group_has (fun z12 hF => ?_)
   refine wK [0, 1, 5, 7, 8, 16] ?_
   refine wI hF (fun h13 hF => ?_) (fun h13 hF => ?_)
   ·cases ho6 _ (Rn_some hF)
    cases hΦ _ (hr2 _ hψ8)
    refine wW ?_
    try simp [go_sem, g]
   ·refine wW ?_
    exact wT (hg7 ()) (Rn_some hF) (a := by simp [go_sem, g, wr_i hi9 hi10 (by assumption)])
noncomputable def F_slices_ContainsFunc_int_int__impl_areAll_1_impl_Group_has (a0 : (List Int)) (a1u0c0x0 : Group) : Option (Bool) :=
 (F_slices_IndexFunc_int_int__impl_areAll_1_impl_Group_has a0 a1u0c0x0).bind fun z1 =>
 some (decide (0 ≤ z1))
theorem c_slices_ContainsFunc_int_int__impl_areAll_1_impl_Group_has : ∀ {a0} {a1u0c0x0} {r}, F_slices_ContainsFunc_int_int__impl_areAll_1_impl_Group_has a0 a1u0c0x0 = some r → PCalls Tryz.prog 289 [(.sh, vC a0), (.sh, .func (.func 290) [] [.fp [.func (.func 116) [vE a1u0c0x0] []]])] (Eo (.bool r) [.junk, .junk]) := by
 intro a0 a1u0c0x0 r hr
 apply pF 9 [] [] [] [.tmp 4] hr cl289 Tryz.func289
 intro Φ hΦ hF g
 unfold F_slices_ContainsFunc_int_int__impl_areAll_1_impl_Group_has at hF
 refine wW ?_
 refine wC hF [.sh, .sh] c_slices_IndexFunc_int_int__impl_areAll_1_impl_Group_has (fun z1 hF => ?_)
 cases hΦ _ (Rn_some hF)
 refine wW ?_
 try simp [go_sem, g]
noncomputable def F_impl_areAll__impl_Group_has (a0 : (List Int)) (a1x0 : Group) : Option (Bool) :=
 (F_slices_ContainsFunc_int_int__impl_areAll_1_impl_Group_has a0 a1x0).bind fun z1 =>
 some (!z1)
theorem c_impl_areAll__impl_Group_has : ∀ {a0} {a1x0} {r}, F_impl_areAll__impl_Group_has a0 a1x0 = some r → PCalls Tryz.prog 202 [(.sh, vC a0), (.sh, .func (.func 116) [vE a1x0] [])] (Eo (.bool r) [.junk, .junk]) := by
 intro a0 a1x0 r hr
 apply pF 9 [] [] [1000000] [.tmp 4] hr cl202 Tryz.func202
 intro Φ hΦ hF g
 unfold F_impl_areAll__impl_Group_has at hF
 refine wW ?_
 refine wC hF [.sh, .sh] c_slices_ContainsFunc_int_int__impl_areAll_1_impl_Group_has (fun z1 hF => ?_)
 cases hΦ _ (Rn_some hF)
 refine wW ?_
 try simp [go_sem, g]
noncomputable def F_impl_Group_hasAll (a0 : Group) (a1 : (List Int)) : Option (Bool) :=
 (F_impl_areAll__impl_Group_has a1 a0).bind fun z1 =>
 some z1
theorem c_impl_Group_hasAll : ∀ {a0} {a1} {r}, F_impl_Group_hasAll a0 a1 = some r → PCalls Tryz.prog 105 [(.sh, vE a0), (.sh, vC a1)] (Eo (.bool r) [.junk, .junk]) := by
 intro a0 a1 r hr
 apply pF 9 [] [] [] [.tmp 4] hr cl105 Tryz.func105
 intro Φ hΦ hF g
 unfold F_impl_Group_hasAll at hF
 refine wW ?_
 refine wC hF [.sh, .sh] c_impl_areAll__impl_Group_has (fun z1 hF => ?_)
 cases hΦ _ (Rn_some hF)
 refine wW ?_
 try simp [go_sem, g]
noncomputable def F_impl_Group_areCommits (a0 : Group) (a1 : (List Int)) : Option (Bool) :=
 (((F_impl_within (a1.length : Int) 1 7).bind fun z4 =>
 if z4 = true then (
 (F_impl_Group_hasAll a0 a1).bind fun z6 =>
 some z6) else (
 some false) : Option (Bool)).bind fun x3 =>
 some x3)
theorem c_impl_Group_areCommits : ∀ {a0} {a1} {r}, F_impl_Group_areCommits a0 a1 = some r → PCalls Tryz.prog 99 [(.sh, vE a0), (.sh, vC a1)] (Eo (.bool r) [.junk, .junk]) := by
 intro a0 a1 r hr
 apply pF 13 [] [] [] [.tmp 4] hr cl99 Tryz.func99
 intro Φ hΦ hF g
 unfold F_impl_Group_areCommits at hF
 refine wW ?_
 refine wJ hF (fun x3 => [(4, .v (.bool x3))]) (fun x3 hF => ?_) fun _ hj1 hF => ?_
 ·cases hΦ _ (Rn_some hF)
  try simp [go_sem, g]
 ·try simp [go_sem, g]
  try intros
  refine wC hF [.sh, .sh, .sh] c_impl_within (fun z4 hF => ?_)
  refine wG hF (fun h5 hF => ?_) fun h5 hF => ?_
  ·try simp [go_sem, g, h5]
   refine wC hF [.sh, .sh] c_impl_Group_hasAll (fun z6 hF => ?_)
   try simp [go_sem, g, h5]
   exact wT (hj1 _) (Rn_some hF)
  ·try simp [go_sem, g, h5]
   exact wT (hj1 _) (Rn_some hF)
noncomputable def F_impl_Group_hasDealing (a0 : Group) (a1 : Dealing) : Option (Bool) :=
 (((F_impl_Group_areCommits a0 a1.Commits).bind fun z4 =>
 if z4 = true then (
 (F_impl_within (a1.Shares.length : Int) (a1.Commits.length : Int) 7).bind fun z6 =>
 if z6 = true then (
 (F_impl_Group_areExps a0 a1.Shares).bind fun z8 =>
 some z8) else (
 some false)) else (
 some false) : Option (Bool)).bind fun x3 =>
 some x3)
theorem c_impl_Group_hasDealing : ∀ {a0} {a1} {r}, F_impl_Group_hasDealing a0 a1 = some r → PCalls Tryz.prog 195 [(.sh, vE a0), (.sh, vM a1)] (Eo (.bool r) [.junk, .junk]) := by
 intro a0 a1 r hr
 apply pF 24 [] [] [] [.tmp 4] hr cl195 Tryz.func195
 intro Φ hΦ hF g
 unfold F_impl_Group_hasDealing at hF
 refine wW ?_
 refine wJ hF (fun x3 => [(4, .v (.bool x3))]) (fun x3 hF => ?_) fun _ hj1 hF => ?_
 ·cases hΦ _ (Rn_some hF)
  try simp [go_sem, g]
 ·refine wC hF [.sh, .sh] c_impl_Group_areCommits (fun z4 hF => ?_)
  refine wG hF (fun h5 hF => ?_) fun h5 hF => ?_
  ·try simp [go_sem, g, h5]
   try intros
   refine wC hF [.sh, .sh, .sh] c_impl_within (fun z6 hF => ?_)
   try simp [go_sem, g, h5]
   refine wG hF (fun h7 hF => ?_) fun h7 hF => ?_
   ·try simp [go_sem, g, h7]
    refine wC hF [.sh, .sh] c_impl_Group_areExps (fun z8 hF => ?_)
    try simp [go_sem, g, h7]
    exact wT (hj1 _) (Rn_some hF)
   ·try simp [go_sem, g, h7]
    exact wT (hj1 _) (Rn_some hF)
  ·try simp [go_sem, g, h5]
   exact wT (hj1 _) (Rn_some hF)
noncomputable def F_impl_IsValidDealing (a0 : Group) (a1 : Dealing) : Option (Bool) :=
 (((F_impl_isSharing a0).bind fun z4 =>
 if z4 = true then (
 (F_impl_Group_hasDealing a0 a1).bind fun z6 =>
 some z6) else (
 some false) : Option (Bool)).bind fun x3 =>
 some x3)
theorem c_impl_IsValidDealing : ∀ {a0} {a1} {r}, F_impl_IsValidDealing a0 a1 = some r → PCalls Tryz.prog 83 [(.sh, vE a0), (.sh, vM a1)] (Eo (.bool r) [.junk, .junk]) := by
 intro a0 a1 r hr
 apply pF 12 [] [] [] [.tmp 4] hr cl83 Tryz.func83
 intro Φ hΦ hF g
 unfold F_impl_IsValidDealing at hF
 refine wW ?_
 refine wJ hF (fun x3 => [(4, .v (.bool x3))]) (fun x3 hF => ?_) fun _ hj1 hF => ?_
 ·cases hΦ _ (Rn_some hF)
  try simp [go_sem, g]
 ·refine wC hF [.sh] c_impl_isSharing (fun z4 hF => ?_)
  refine wG hF (fun h5 hF => ?_) fun h5 hF => ?_
  ·try simp [go_sem, g, h5]
   refine wC hF [.sh, .sh] c_impl_Group_hasDealing (fun z6 hF => ?_)
   try simp [go_sem, g, h5]
   exact wT (hj1 _) (Rn_some hF)
  ·try simp [go_sem, g, h5]
   exact wT (hj1 _) (Rn_some hF)
noncomputable def F_impl_isLabel (a0 : ByteArray) : Option (Bool) :=
 some (decide ((a0.size : Int) ≤ 40))
theorem c_impl_isLabel : ∀ {a0} {r}, F_impl_isLabel a0 = some r → PCalls Tryz.prog 283 [(.sh, .str a0)] (Eo (.bool r) [.junk]) := by
 intro a0 r hr
 apply pF 6 [] [] [] [.tmp 2] hr cl283 Tryz.func283
 intro Φ hΦ hF g
 unfold F_impl_isLabel at hF
 cases hΦ _ (Rn_some hF)
 iterate 2 refine wW ?_
 try simp [go_sem, g]
noncomputable def F_impl_Group_areRows_1_ (a0 : (List Int)) (a1c0 : (List (List Int))) (a2c0 : Int) (a2c1 : Int) (a2c2 : Int) : Option (Bool) :=
 (((ix a1c0 0).bind fun x4 =>
 if ((a0.length : Int) != (x4.length : Int)) = true then (
 some true) else (
 (F_impl_Group_hasAll (Group.mk a2c0 a2c1 a2c2) a0).bind fun z6 =>
 some (!z6)) : Option (Bool)).bind fun x3 =>
 some x3)
theorem c_impl_Group_areRows_1_ : ∀ {a0} {a1c0} {a2c0} {a2c1} {a2c2} {r}, F_impl_Group_areRows_1_ a0 a1c0 a2c0 a2c1 a2c2 = some r → PCalls Tryz.prog 318 [(.sh, vC a0), (.sh, .fp [vI a1c0]), (.sh, .fp [.int .i64 a2c0, .int .i64 a2c1, .int .i64 a2c2])] (Eo (.bool r) [.junk, .junk, .junk]) := by
 intro a0 a1c0 a2c0 a2c1 a2c2 r hr
 apply pF 18 [] [] [] [.tmp 4] hr cl318 Tryz.func318
 intro Φ hΦ hF g
 unfold F_impl_Group_areRows_1_ at hF
 refine wW ?_
 refine wJ hF (fun x3 => [(4, .v (.bool x3))]) (fun x3 hF => ?_) fun _ hj1 hF => ?_
 ·cases hΦ _ (Rn_some hF)
  try simp [go_sem, g]
 ·obtain ⟨x4, g, hF⟩ := Rxn g 0 hF
  try simp [go_sem, g]
  try intros
  refine wG hF (fun h5 hF => ?_) fun h5 hF => ?_
  ·try simp [go_sem, g, h5]
   exact wT (hj1 _) (Rn_some hF)
  ·try simp [go_sem, g, h5]
   refine wC hF [.sh, .sh] c_impl_Group_hasAll (fun z6 hF => ?_)
   try simp [go_sem, g, h5]
   exact wT (hj1 _) (Rn_some hF)
noncomputable def F_slices_IndexFunc_int_int__impl_Group_areRows_1 (a0 : (List (List Int))) (a1u0c0 : (List (List Int))) (a1u1c0 : Int) (a1u1c1 : Int) (a1u1c2 : Int) : Option (Int) :=
 ((rloop (σ := Unit) (fun i5 s4 =>
 (ix a0 i5).bind fun x11 =>
 (F_impl_Group_areRows_1_ x11 a1u0c0 a1u1c0 a1u1c1 a1u1c2).bind fun z12 =>
 if z12 = true then (
 some (.out (.inr i5))) else (
 some (.go ()))) (fun s4 => .inl ()) (a0.length) 0 () : Option (Unit ⊕ Int)).bind (Sum.elim (fun x3 =>
 some (-1)) some))
theorem c_slices_IndexFunc_int_int__impl_Group_areRows_1 : ∀ {a0} {a1u0c0} {a1u1c0} {a1u1c1} {a1u1c2} {r}, F_slices_IndexFunc_int_int__impl_Group_areRows_1 a0 a1u0c0 a1u1c0 a1u1c1 a1u1c2 = some r → PCalls Tryz.prog 278 [(.sh, vI a0), (.sh, .func (.func 318) [] [.fp [vI a1u0c0], .fp [.int .i64 a1u1c0, .int .i64 a1u1c1, .int .i64 a1u1c2]])] (Eo (.int .i64 r) [.junk, .junk]) := by
 intro a0 a1u0c0 a1u1c0 a1u1c1 a1u1c2 r hr
 apply pF 19 [] [] [] [.tmp 4] hr cl278 Tryz.func278
 intro Φ hΦ hF g
 unfold F_slices_IndexFunc_int_int__impl_Group_areRows_1 at hF
 iterate 2 (try simp [go_sem, g]; try intros; refine pw_wk ?_)
 refine wS hF (fun x3 => []) (fun x3 hF => ?_) fun _ hj1 hr2 hF => ?_
 ·cases hΦ _ (Rn_some hF)
  refine wW ?_
  try simp [go_sem, g]
 ·refine wB ?_
  obtain ⟨b14, hb15, hψ8⟩ := hF
  refine pR hb15 (fun i5 s4 => [(0, .v (vI a0)), (1, .v (.func (.func 318) [] [.fp [vI a1u0c0], .fp [.int .i64 a1u1c0, .int .i64 a1u1c1, .int .i64 a1u1c2]])), (7, .v (.int .i64 (a0.length : Int))), (8, .v (.int .i64 i5))]) (fun s4 _ hN16 => ?_) (fun i5 s4 _ _ hi9 hi10 ho6 hg7 hF => ?_)
  ·subst hN16
   refine wW ?_
   refine wf ?_
   exact wT (hj1 _) hψ8
  ·refine wW ?_
   refine wt ?_ (hb := by simp [go_sem, g, hi9, hi10])
   refine wW ?_
   refine wB ?_
   obtain ⟨x11, g, hF⟩ := Rx g hF
   refine wW ?_
   refine wC hF [.sh] c_impl_Group_areRows_1_ (fun z12 hF => ?_)
   refine wK [0, 1, 5, 7, 8, 16] ?_
   refine wI hF (fun h13 hF => ?_) (fun h13 hF => ?_)
   ·cases ho6 _ (Rn_some hF)
    cases hΦ _ (hr2 _ hψ8)
    refine wW ?_
    try simp [go_sem, g]
   ·refine wW ?_
    exact wT (hg7 ()) (Rn_some hF) (a := by simp [go_sem, g, wr_i hi9 hi10 (by assumption)])
noncomputable def F_slices_ContainsFunc_int_int__impl_Group_areRows_1 (a0 : (List (List Int))) (a1u0c0 : (List (List Int))) (a1u1c0 : Int) (a1u1c1 : Int) (a1u1c2 : Int) : Option (Bool) :=
 (F_slices_IndexFunc_int_int__impl_Group_areRows_1 a0 a1u0c0 a1u1c0 a1u1c1 a1u1c2).bind fun z1 =>
 some (decide (0 ≤ z1))
theorem c_slices_ContainsFunc_int_int__impl_Group_areRows_1 : ∀ {a0} {a1u0c0} {a1u1c0} {a1u1c1} {a1u1c2} {r}, F_slices_ContainsFunc_int_int__impl_Group_areRows_1 a0 a1u0c0 a1u1c0 a1u1c1 a1u1c2 = some r → PCalls Tryz.prog 181 [(.sh, vI a0), (.sh, .func (.func 318) [] [.fp [vI a1u0c0], .fp [.int .i64 a1u1c0, .int .i64 a1u1c1, .int .i64 a1u1c2]])] (Eo (.bool r) [.junk, .junk]) := by
 intro a0 a1u0c0 a1u1c0 a1u1c1 a1u1c2 r hr
 apply pF 9 [] [] [] [.tmp 4] hr cl181 Tryz.func181
 intro Φ hΦ hF g
 unfold F_slices_ContainsFunc_int_int__impl_Group_areRows_1 at hF
 refine wW ?_
 refine wC hF [.sh, .sh] c_slices_IndexFunc_int_int__impl_Group_areRows_1 (fun z1 hF => ?_)
 cases hΦ _ (Rn_some hF)
 refine wW ?_
 try simp [go_sem, g]
noncomputable def F_impl_Group_areRows (a0 : Group) (a1 : (List (List Int))) : Option (Bool) :=
 (((F_impl_within (a1.length : Int) 1 8).bind fun z4 =>
 if (!z4) = true then (
 some true) else (
 (ix a1 0).bind fun x6 =>
 (F_impl_within (x6.length : Int) 1 8).bind fun z7 =>
 some (!z7)) : Option (Bool)).bind fun x3 =>
 if x3 = true then (
 some false) else (
 (F_slices_ContainsFunc_int_int__impl_Group_areRows_1 a1 a1 a0.P a0.Q a0.G).bind fun z9 =>
 some (!z9)))
theorem c_impl_Group_areRows : ∀ {a0} {a1} {r}, F_impl_Group_areRows a0 a1 = some r → PCalls Tryz.prog 284 [(.sh, vE a0), (.sh, vI a1)] (Eo (.bool r) [.junk, .junk]) := by
 intro a0 a1 r hr
 apply pF 21 [] [] [1000000] [.tmp 4] hr cl284 Tryz.func284
 intro Φ hΦ hF g
 unfold F_impl_Group_areRows at hF
 refine wW ?_
 refine wJ hF (fun x3 => [(2, .bl [.int .i64 a0.P, .int .i64 a0.Q, .int .i64 a0.G]), (3, .bl [vI a1]), (16, .v (.bool x3))]) (fun x3 hF => ?_) fun _ hj1 hF => ?_
 ·refine wI hF (fun h8 hF => ?_) (fun h8 hF => ?_)
  ·cases hΦ _ (Rn_some hF)
   refine wW ?_
   try simp [go_sem, g]
  ·refine wW ?_
   refine wC hF [.sh, .sh] c_slices_ContainsFunc_int_int__impl_Group_areRows_1 (fun z9 hF => ?_)
   cases hΦ _ (Rn_some hF)
   refine wW ?_
   try simp [go_sem, g]
 ·try simp [go_sem, g]
  try intros
  refine wC hF [.sh, .sh, .sh] c_impl_within (fun z4 hF => ?_)
  refine wG hF (fun h5 hF => ?_) fun h5 hF => ?_
  ·try simp [go_sem, g, h5]
   exact wT (hj1 _) (Rn_some hF)
  ·obtain ⟨x6, g, hF⟩ := Rxn g 0 hF
   try simp [go_sem, g, h5]
   try intros
   refine wC hF [.sh, .sh, .sh] c_impl_within (fun z7 hF => ?_)
   try simp [go_sem, g, h5]
   exact wT (hj1 _) (Rn_some hF)
theorem gr301 : GrowC Tryz.prog 301 32 := by
 intro n H e b es by_ z e1 e2 h0 h1 h2 h3 h4 h5
 refine acalls_intro cl301 Tryz.func301 rfl rfl (by simp [Tryz.f301]) fun hw => ?_
 have hn : ¬ n < 0 := by omega
 have hw1 : i64.wrap n = n := wrI (by omega)
 have hw0 : i64.wrap 0 = 0 := wrI (by omega)
 have ei : (intTy Tryz.prog 3).isSome = true := by kernel_rfl
 by_cases hp : 0 < n
 ·have hne : n ≠ 0 := by omega
  have h5' := h5
  simp [okConst] at h5'
  simp [Tryz.f301, awp, aops, aop, ahp, aplain, plainOps, matl, mat, plainV, putO, athen, FR.put, FR.init, rdv, rda, binV, binInt, okConst, Am.lenV, sliceV, sliceBnds, bnd, bndM, aend, resL, resV, resT, hn, e1, e2, ei, hw1, hw0, hp, h1, h2, h3, h4, hne]
  first | exact h5' | exact .inl h5'
 ·have hz : n = 0 := by omega
  subst hz
  simp [Tryz.f301, awp, aops, aop, ahp, aplain, plainOps, matl, mat, plainV, putO, athen, FR.put, FR.init, rdv, rda, binV, binInt, okConst, Am.lenV, sliceV, sliceBnds, bnd, bndM, aend, resL, resV, resT, hn, e1, e2, hw1, hw0, hp]
noncomputable def F_slices_Concat_int_int (a0 : (List (List Int))) : Option ((List Int)) :=
 ((rloop (σ := Int) (fun i5 s4 =>
 (ix a0 i5).bind fun x11 =>
 if decide ((i64.wrap (s4 + (x11.length : Int))) < 0) = true then (
 none) else (
 some (.go (i64.wrap (s4 + (x11.length : Int)))))) (fun s4 => s4) (a0.length) 0 0 : Option (Int)).bind fun x3 =>
 gd (0 ≤ x3 ∧ 8 * x3 ≤ 140737488355328 ∧ x3 ≤ 4611686018427387904) <|
 ((rloop (σ := (List Int)) (fun i22 s21 =>
 (ix a0 i22).bind fun x28 =>
 gd ((s21.length + x28.length) * 8 ≤ 140737488355328 ∧ s21.length + x28.length ≤ 4611686018427387904) <|
 some (.go (s21 ++ x28))) (fun s21 => s21) (a0.length) 0 [] : Option ((List Int))).bind fun x20 =>
 some x20))
theorem c_slices_Concat_int_int : ∀ {a0} {r}, F_slices_Concat_int_int a0 = some r → PCalls Tryz.prog 223 [(.sh, vI a0)] (Eo (vD r) [.junk]) := by
 intro a0 r hr
 apply pF 36 [] [] [] [.tmp 2] hr cl223 Tryz.func223
 intro Φ hΦ hF g
 unfold F_slices_Concat_int_int at hF
 iterate 3 (try simp [go_sem, g]; try intros; refine pw_wk ?_)
 refine wJ hF (fun x3 => [(0, .v (vI a0)), (3, .v (.int .i64 x3))]) (fun x3 hF => ?_) fun _ hj1 hF => ?_
 ·obtain ⟨g17, hF⟩ := Rn_gd hF
  try simp [go_sem, g]
  refine pw_grow gr301 ez32 (by simp [go_sem, g]) g17 ?_
  try simp [go_sem, g]
  try intros
  refine pw_wk ?_
  try simp [go_sem, g]
  try intros
  refine wK [6, 25, 26, 27] ?_
  refine wJ hF (fun x20 => [(6, .v (vD x20))]) (fun x20 hF => ?_) fun _ hj18 hF => ?_
  ·cases hΦ _ (Rn_some hF)
   refine wW ?_
   try simp [go_sem, g]
  ·refine wB ?_
   obtain ⟨b29, hb30, hψ25⟩ := hF
   refine pR hb30 (fun i22 s21 => [(6, .v (vD s21)), (25, .v (vI a0)), (26, .v (.int .i64 (a0.length : Int))), (27, .v (.int .i64 i22))]) (fun s21 _ hN31 => ?_) (fun i22 s21 _ _ hi26 hi27 ho23 hg24 hF => ?_)
   ·subst hN31
    refine wW ?_
    refine wf ?_
    exact wT (hj18 _) hψ25
   ·refine wW ?_
    refine wt ?_ (hb := by simp [go_sem, g, hi26, hi27])
    refine wW ?_
    refine wB ?_
    obtain ⟨x28, g, hF⟩ := Rx g hF
    obtain ⟨g, hF⟩ := Rg g hF
    iterate 2 refine wW ?_
    exact wT (hg24 (s21 ++ x28)) (Rn_some hF) (a := by simp [go_sem, g, wr_i hi26 hi27 (by assumption)])
 ·refine wB ?_
  obtain ⟨b13, hb14, hψ8⟩ := hF
  refine pR hb14 (fun i5 s4 => [(0, .v (vI a0)), (3, .v (.int .i64 s4)), (9, .v (vI a0)), (10, .v (.int .i64 (a0.length : Int))), (11, .v (.int .i64 i5))]) (fun s4 _ hN15 => ?_) (fun i5 s4 _ _ hi9 hi10 ho6 hg7 hF => ?_)
  ·subst hN15
   refine wW ?_
   refine wf ?_
   exact wT (hj1 _) hψ8
  ·refine wW ?_
   refine wt ?_ (hb := by simp [go_sem, g, hi9, hi10])
   refine wW ?_
   refine wB ?_
   obtain ⟨x11, g, hF⟩ := Rx g hF
   try simp [go_sem, g]
   try intros
   refine pw_wk ?_
   try simp [go_sem, g]
   try intros
   refine wK [0, 3, 9, 10, 11] ?_
   refine wW ?_
   refine wI hF (fun h12 hF => ?_) (fun h12 hF => ?_)
   ·exact (Rn_none hF).elim
   ·refine wW ?_
    exact wT (hg7 (i64.wrap (s4 + (x11.length : Int)))) (Rn_some hF) (a := by simp [go_sem, g, wr_i hi9 hi10 (by assumption)])
noncomputable def F_impl_labelled (a0 : ByteArray) (a1 : (List Int)) : Option ((List Int)) :=
 ((wloop (σ := (List Int) × Int) (fun s4 =>
 if decide (s4.2 < (a0.size : Int)) = true then (
 (ixs a0 s4.2).bind fun x10 =>
 gd ((s4.1.length + 1) * 8 ≤ 140737488355328 ∧ s4.1.length + 1 ≤ 4611686018427387904) <|
 some (.go (s4.1 ++ [i64.wrap x10], i64.wrap (s4.2 + 1)))) else (
 some (.out s4.1))) ([(a0.size : Int)], 0) : Option ((List Int))).bind fun x3 =>
 gd ((x3.length + a1.length) * 8 ≤ 140737488355328 ∧ x3.length + a1.length ≤ 4611686018427387904) <|
 some (x3 ++ a1))
theorem c_impl_labelled : ∀ {a0} {a1} {r}, F_impl_labelled a0 a1 = some r → PCalls Tryz.prog 307 [(.sh, .str a0), (.sh, vC a1)] (Eo (vD r) [.junk, .junk]) := by
 intro a0 a1 r hr
 apply pF 26 [] [] [] [.tmp 4] hr cl307 Tryz.func307
 intro Φ hΦ hF g
 unfold F_impl_labelled at hF
 iterate 3 refine wW ?_
 refine wJ hF (fun x3 => [(1, .v (vC a1)), (5, .v (vD x3))]) (fun x3 hF => ?_) fun _ hj1 hF => ?_
 ·obtain ⟨g, hF⟩ := Rg g hF
  refine wK [4] ?_
  cases hΦ _ (Rn_some hF)
  try simp [go_sem, g]
 ·refine wB ?_
  obtain ⟨b11, hb12, hψ8⟩ := hF
  refine pL hb12 (fun s4 => [(0, .v (.str a0)), (1, .v (vC a1)), (5, .v (vD s4.1)), (11, .v (.int .i64 (a0.size : Int))), (12, .v (.int .i64 s4.2))]) (fun s4 _ _ ho6 hg7 hF => ?_)
  refine wW ?_
  refine wI hF (fun h9 hF => ?_) (fun h9 hF => ?_)
  ·refine wW ?_
   refine wB ?_
   refine wK [0, 1, 5, 6, 11, 12] ?_
   obtain ⟨x10, g, hF⟩ := Rxs g hF
   obtain ⟨g, hF⟩ := Rg g hF
   refine wW ?_
   exact wT (hg7 _) (Rn_some hF)
  ·cases ho6 _ (Rn_some hF)
   exact wT (hj1 _) hψ8
noncomputable def F_impl_isDigest (a0 : Int) : Option (Bool) :=
 (F_impl_within a0 0 4611686018427387903).bind fun z1 =>
 some z1
theorem c_impl_isDigest : ∀ {a0} {r}, F_impl_isDigest a0 = some r → PCalls Tryz.prog 326 [(.sh, .int .i64 a0)] (Eo (.bool r) [.junk]) := by
 intro a0 r hr
 apply pF 5 [] [] [] [.tmp 2] hr cl326 Tryz.func326
 intro Φ hΦ hF g
 unfold F_impl_isDigest at hF
 refine wW ?_
 refine wC hF [.sh, .sh, .sh] c_impl_within (fun z1 hF => ?_)
 cases hΦ _ (Rn_some hF)
 refine wW ?_
 try simp [go_sem, g]
noncomputable def F_impl_areAll_1__impl_isDigest (a0 : Int) : Option (Bool) :=
 (F_impl_isDigest a0).bind fun z1 =>
 some (!z1)
theorem c_impl_areAll_1__impl_isDigest : ∀ {a0} {r}, F_impl_areAll_1__impl_isDigest a0 = some r → PCalls Tryz.prog 290 [(.sh, .int .i64 a0), (.sh, .fp [.func (.func 326) [] []])] (Eo (.bool r) [.junk, .junk]) := by
 intro a0 r hr
 apply pF 8 [] [] [] [.tmp 3] hr cl290 Tryz.func290
 intro Φ hΦ hF g
 unfold F_impl_areAll_1__impl_isDigest at hF
 refine wW ?_
 refine wC hF [.sh] c_impl_isDigest (fun z1 hF => ?_)
 cases hΦ _ (Rn_some hF)
 refine wW ?_
 try simp [go_sem, g]
noncomputable def F_slices_IndexFunc_int_int__impl_areAll_1_impl_isDigest (a0 : (List Int)) : Option (Int) :=
 ((rloop (σ := Unit) (fun i5 s4 =>
 (ix a0 i5).bind fun x11 =>
 (F_impl_areAll_1__impl_isDigest x11).bind fun z12 =>
 if z12 = true then (
 some (.out (.inr i5))) else (
 some (.go ()))) (fun s4 => .inl ()) (a0.length) 0 () : Option (Unit ⊕ Int)).bind (Sum.elim (fun x3 =>
 some (-1)) some))
theorem c_slices_IndexFunc_int_int__impl_areAll_1_impl_isDigest : ∀ {a0} {r}, F_slices_IndexFunc_int_int__impl_areAll_1_impl_isDigest a0 = some r → PCalls Tryz.prog 319 [(.sh, vC a0), (.sh, .func (.func 290) [] [.fp [.func (.func 326) [] []]])] (Eo (.int .i64 r) [.junk, .junk]) := by
 intro a0 r hr
 apply pF 19 [] [] [] [.tmp 4] hr cl319 Tryz.func319
 intro Φ hΦ hF g
 unfold F_slices_IndexFunc_int_int__impl_areAll_1_impl_isDigest at hF
 iterate 2 (try simp [go_sem, g]; try intros; refine pw_wk ?_)
 refine wS hF (fun x3 => []) (fun x3 hF => ?_) fun _ hj1 hr2 hF => ?_
 ·cases hΦ _ (Rn_some hF)
  refine wW ?_
  try simp [go_sem, g]
 ·refine wB ?_
  obtain ⟨b14, hb15, hψ8⟩ := hF
  refine pR hb15 (fun i5 s4 => [(0, .v (vC a0)), (1, .v (.func (.func 290) [] [.fp [.func (.func 326) [] []]])), (7, .v (.int .i64 (a0.length : Int))), (8, .v (.int .i64 i5))]) (fun s4 _ hN16 => ?_) (fun i5 s4 _ _ hi9 hi10 ho6 hg7 hF => ?_)
  ·subst hN16
   refine wW ?_
   refine wf ?_
   exact wT (hj1 _) hψ8
  ·refine wW ?_
   refine wt ?_ (hb := by simp [go_sem, g, hi9, hi10])
   refine wW ?_
   refine wB ?_
   obtain ⟨x11, g, hF⟩ := Rx g hF
   refine wW ?_
   refine wC hF [.sh] c_impl_areAll_1__impl_isDigest (fun z12 hF => ?_)
   refine wK [0, 1, 5, 7, 8, 16] ?_
   refine wI hF (fun h13 hF => ?_) (fun h13 hF => ?_)
   ·cases ho6 _ (Rn_some hF)
    cases hΦ _ (hr2 _ hψ8)
    refine wW ?_
    try simp [go_sem, g]
   ·refine wW ?_
    exact wT (hg7 ()) (Rn_some hF) (a := by simp [go_sem, g, wr_i hi9 hi10 (by assumption)])
noncomputable def F_slices_ContainsFunc_int_int__impl_areAll_1_impl_isDigest (a0 : (List Int)) : Option (Bool) :=
 (F_slices_IndexFunc_int_int__impl_areAll_1_impl_isDigest a0).bind fun z1 =>
 some (decide (0 ≤ z1))
theorem c_slices_ContainsFunc_int_int__impl_areAll_1_impl_isDigest : ∀ {a0} {r}, F_slices_ContainsFunc_int_int__impl_areAll_1_impl_isDigest a0 = some r → PCalls Tryz.prog 289 [(.sh, vC a0), (.sh, .func (.func 290) [] [.fp [.func (.func 326) [] []]])] (Eo (.bool r) [.junk, .junk]) := by
 intro a0 r hr
 apply pF 9 [] [] [] [.tmp 4] hr cl289 Tryz.func289
 intro Φ hΦ hF g
 unfold F_slices_ContainsFunc_int_int__impl_areAll_1_impl_isDigest at hF
 refine wW ?_
 refine wC hF [.sh, .sh] c_slices_IndexFunc_int_int__impl_areAll_1_impl_isDigest (fun z1 hF => ?_)
 cases hΦ _ (Rn_some hF)
 refine wW ?_
 try simp [go_sem, g]
noncomputable def F_impl_areAll__impl_isDigest (a0 : (List Int)) : Option (Bool) :=
 (F_slices_ContainsFunc_int_int__impl_areAll_1_impl_isDigest a0).bind fun z1 =>
 some (!z1)
theorem c_impl_areAll__impl_isDigest : ∀ {a0} {r}, F_impl_areAll__impl_isDigest a0 = some r → PCalls Tryz.prog 202 [(.sh, vC a0), (.sh, .func (.func 326) [] [])] (Eo (.bool r) [.junk, .junk]) := by
 intro a0 r hr
 apply pF 9 [] [] [1000000] [.tmp 4] hr cl202 Tryz.func202
 intro Φ hΦ hF g
 unfold F_impl_areAll__impl_isDigest at hF
 refine wW ?_
 refine wC hF [.sh, .sh] c_slices_ContainsFunc_int_int__impl_areAll_1_impl_isDigest (fun z1 hF => ?_)
 cases hΦ _ (Rn_some hF)
 refine wW ?_
 try simp [go_sem, g]
noncomputable def F_impl_areDigests (a0 : (List Int)) : Option (Bool) :=
 ((if decide ((a0.length : Int) ≤ 400) = true then (
 (F_impl_areAll__impl_isDigest a0).bind fun z5 =>
 some z5) else (
 some false) : Option (Bool)).bind fun x3 =>
 some x3)
theorem c_impl_areDigests : ∀ {a0} {r}, F_impl_areDigests a0 = some r → PCalls Tryz.prog 322 [(.sh, vC a0)] (Eo (.bool r) [.junk]) := by
 intro a0 r hr
 apply pF 10 [] [] [] [.tmp 2] hr cl322 Tryz.func322
 intro Φ hΦ hF g
 unfold F_impl_areDigests at hF
 refine wW ?_
 refine wJ hF (fun x3 => [(2, .v (.bool x3))]) (fun x3 hF => ?_) fun _ hj1 hF => ?_
 ·cases hΦ _ (Rn_some hF)
  try simp [go_sem, g]
 ·try simp [go_sem, g]
  try intros
  refine wG hF (fun h4 hF => ?_) fun h4 hF => ?_
  ·try simp [go_sem, g, h4]
   refine wC hF [.sh, .sh] c_impl_areAll__impl_isDigest (fun z5 hF => ?_)
   try simp [go_sem, g, h4]
   exact wT (hj1 _) (Rn_some hF)
  ·try simp [go_sem, g, h4]
   exact wT (hj1 _) (Rn_some hF)
noncomputable def F_impl_hash (a0 : (List Int)) : Option (Int) :=
 gd (([(a0.length : Int)].length + a0.length) * 8 ≤ 140737488355328 ∧ [(a0.length : Int)].length + a0.length ≤ 4611686018427387904) <|
 (some ([(a0.length : Int)] ++ a0)).bind fun x1 =>
 ((rloop (σ := Int × Int) (fun i7 s6 =>
 (ix x1 i7).bind fun x13 =>
 some (.go ((i64.wrap ((i64.wrap ((i64.wrap (48271 * ((i64.wrap ((i64.wrap ((i64.wrap (48271 * s6.1)) + (i64.wrap ((BitVec.ofInt i64.bits x13 &&& BitVec.ofInt i64.bits 2147483647).toNat)))) + 1)).tmod 2147483647))) + (x13.fdiv 2147483648))) + 1)).tmod 2147483647, (i64.wrap ((i64.wrap ((i64.wrap (69621 * ((i64.wrap ((i64.wrap ((i64.wrap (69621 * s6.2)) + (i64.wrap ((BitVec.ofInt i64.bits x13 &&& BitVec.ofInt i64.bits 2147483647).toNat)))) + 1)).tmod 2147483647))) + (x13.fdiv 2147483648))) + 1)).tmod 2147483647))) (fun s6 => (s6.1, s6.2)) (x1.length) 0 (1, 2) : Option ((Int × Int))).bind fun x5 =>
 some (i64.wrap ((i64.wrap (x5.1 * 2147483648)) + x5.2)))
theorem c_impl_hash : ∀ {a0} {r}, F_impl_hash a0 = some r → PCalls Tryz.prog 323 [(.sh, vC a0)] (Eo (.int .i64 r) [.junk]) := by
 intro a0 r hr
 apply pF 52 [] [] [] [.tmp 2] hr cl323 Tryz.func323
 intro Φ hΦ hF g
 unfold F_impl_hash at hF
 obtain ⟨g, hF⟩ := Rg g hF
 obtain ⟨x1, e2, hF⟩ := Rn_bind hF
 have g := And.intro g (show [.int .i64 (a0.length : Int)] :: (List.map row_i64 a0) = x1.map row_i64 by injection e2 with e2; rw [← e2]; simp [go_sem])
 iterate 2 (try simp [go_sem, g]; try intros; refine pw_wk ?_)
 try simp [go_sem, g]
 try intros
 refine wK [3, 4, 13, 14, 15] ?_
 refine wJ hF (fun x5 => [(3, .v (.int .i64 x5.1)), (4, .v (.int .i64 x5.2))]) (fun x5 hF => ?_) fun _ hj3 hF => ?_
 ·have g := Ls g 31
  cases hΦ _ (Rn_some hF)
  refine wW ?_
  try simp [go_sem, g]
 ·refine wB ?_
  obtain ⟨b14, hb15, hψ10⟩ := hF
  refine pR hb15 (fun i7 s6 => [(3, .v (.int .i64 s6.1)), (4, .v (.int .i64 s6.2)), (13, .v (vD x1)), (14, .v (.int .i64 (x1.length : Int))), (15, .v (.int .i64 i7))]) (fun s6 _ hN16 => ?_) (fun i7 s6 _ _ hi11 hi12 ho8 hg9 hF => ?_)
  ·subst hN16
   refine wW ?_
   refine wf ?_
   exact wT (hj3 _) hψ10
  ·refine wW ?_
   refine wt ?_ (hb := by simp [go_sem, g, hi11, hi12])
   refine wW ?_
   refine wB ?_
   obtain ⟨x13, g, hF⟩ := Rx g hF
   have g := Ls g 31
   refine wW ?_
   refine wK [3, 4, 7, 8, 13, 14, 15] ?_
   have g := Ld g 2147483647
   refine wW ?_
   refine wK [3, 4, 7, 8, 13, 14, 15] ?_
   refine wW ?_
   refine wK [3, 4, 13, 14, 15] ?_
   exact wT (hg9 ((i64.wrap ((i64.wrap ((i64.wrap (48271 * ((i64.wrap ((i64.wrap ((i64.wrap (48271 * s6.1)) + (i64.wrap ((BitVec.ofInt i64.bits x13 &&& BitVec.ofInt i64.bits 2147483647).toNat)))) + 1)).tmod 2147483647))) + (x13.fdiv 2147483648))) + 1)).tmod 2147483647, (i64.wrap ((i64.wrap ((i64.wrap (69621 * ((i64.wrap ((i64.wrap ((i64.wrap (69621 * s6.2)) + (i64.wrap ((BitVec.ofInt i64.bits x13 &&& BitVec.ofInt i64.bits 2147483647).toNat)))) + 1)).tmod 2147483647))) + (x13.fdiv 2147483648))) + 1)).tmod 2147483647)) (Rn_some hF) (a := by simp [go_sem, g, wr_i hi11 hi12 (by assumption)])
noncomputable def F_impl_HashInts (a0 : (List Int)) : Option (Int × Bool) :=
 (F_impl_areDigests a0).bind fun z1 =>
 if (!z1) = true then (
 some (0, false)) else (
 (F_impl_hash a0).bind fun z3 =>
 some (z3, true))
theorem c_impl_HashInts : ∀ {a0} {r}, F_impl_HashInts a0 = some r → PCalls Tryz.prog 306 [(.sh, vC a0)] (Eo (.tup [.int .i64 r.1, .bool r.2]) [.junk]) := by
 intro a0 r hr
 apply pF 9 [] [] [] [.tmp 2, .tmp 3] hr cl306 Tryz.func306
 intro Φ hΦ hF g
 unfold F_impl_HashInts at hF
 refine wW ?_
 refine wC hF [.sh] c_impl_areDigests (fun z1 hF => ?_)
 refine wW ?_
 refine wI hF (fun h2 hF => ?_) (fun h2 hF => ?_)
 ·cases hΦ _ (Rn_some hF)
  refine wW ?_
  try simp [go_sem, g]
 ·refine wW ?_
  refine wC hF [.sh] c_impl_hash (fun z3 hF => ?_)
  cases hΦ _ (Rn_some hF)
  refine wW ?_
  try simp [go_sem, g]
noncomputable def F_impl_HashLabelled (a0 : ByteArray) (a1 : (List Int)) : Option (Int × Bool) :=
 ((if decide (40 < (a0.size : Int)) = true then (
 some true) else (
 some (decide (400 < (a1.length : Int)))) : Option (Bool)).bind fun x3 =>
 if x3 = true then (
 some (0, false)) else (
 (F_impl_labelled a0 a1).bind fun z6 =>
 (F_impl_HashInts z6).bind fun z7 =>
 some (z7.1, z7.2)))
theorem c_impl_HashLabelled : ∀ {a0} {a1} {r}, F_impl_HashLabelled a0 a1 = some r → PCalls Tryz.prog 260 [(.sh, .str a0), (.sh, vC a1)] (Eo (.tup [.int .i64 r.1, .bool r.2]) [.junk, .junk]) := by
 intro a0 a1 r hr
 apply pF 20 [] [] [] [.tmp 4, .tmp 5] hr cl260 Tryz.func260
 intro Φ hΦ hF g
 unfold F_impl_HashLabelled at hF
 refine wW ?_
 refine wJ hF (fun x3 => [(0, .v (.str a0)), (1, .v (vC a1)), (13, .v (.bool x3))]) (fun x3 hF => ?_) fun _ hj1 hF => ?_
 ·refine wI hF (fun h5 hF => ?_) (fun h5 hF => ?_)
  ·cases hΦ _ (Rn_some hF)
   refine wW ?_
   try simp [go_sem, g]
  ·refine wW ?_
   refine wC hF [.sh, .sh] c_impl_labelled (fun z6 hF => ?_)
   refine wC hF [.sh] c_impl_HashInts (fun z7 hF => ?_)
   refine wK [4, 5] ?_
   cases hΦ _ (Rn_some hF)
   try simp [go_sem, g]
 ·refine wG hF (fun h4 hF => ?_) fun h4 hF => ?_
  ·try simp [go_sem, g, h4]
   exact wT (hj1 _) (Rn_some hF)
  ·try simp [go_sem, g, h4]
   try intros
   exact wT (hj1 _) (Rn_some hF)
noncomputable def F_impl_Group_challenge (a0 : Group) (a1 : ByteArray) (a2 : (List Int)) : Option (Int × Bool) :=
 gd (([a0.P, a0.Q, a0.G].length + a2.length) * 8 ≤ 140737488355328 ∧ [a0.P, a0.Q, a0.G].length + a2.length ≤ 4611686018427387904) <|
 (F_impl_HashLabelled a1 ([a0.P, a0.Q, a0.G] ++ a2)).bind fun z1 =>
 if (!z1.2) = true then (
 some (0, false)) else (
 gd (a0.Q ≠ 0) <|
 some (z1.1.tmod a0.Q, true))
theorem c_impl_Group_challenge : ∀ {a0} {a1} {a2} {r}, F_impl_Group_challenge a0 a1 a2 = some r → PCalls Tryz.prog 150 [(.sh, vE a0), (.sh, .str a1), (.sh, vC a2)] (Eo (.tup [.int .i64 r.1, .bool r.2]) [.junk, .junk, .junk]) := by
 intro a0 a1 a2 r hr
 apply pF 30 [] [] [] [.tmp 6, .tmp 7] hr cl150 Tryz.func150
 intro Φ hΦ hF g
 unfold F_impl_Group_challenge at hF
 obtain ⟨g, hF⟩ := Rg g hF
 refine wW ?_
 refine wC hF [.sh, .sh] c_impl_HashLabelled (fun z1 hF => ?_)
 refine wK [3, 8, 9] ?_
 refine wW ?_
 refine wI hF (fun h2 hF => ?_) (fun h2 hF => ?_)
 ·cases hΦ _ (Rn_some hF)
  refine wW ?_
  try simp [go_sem, g]
 ·obtain ⟨g, hF⟩ := Rz g hF
  cases hΦ _ (Rn_some hF)
  iterate 2 refine wW ?_
  try simp [go_sem, g]
@[go_sem] def D114_5 : List DE := [d2 0 [3] 3 3, d0 1 [7], d2 2 [3] 3 3, d0 3 [9], d0 4 [2], d0 5 [8], d0 6 [21, 22], d0 7 [23], d3 8 [19, 20, 24], d0 9 [18, 25], ⟨10, [17, 26], [], none, true, true, true⟩, d0 11 [27]]
noncomputable def F_impl_Group_powers (a0 : Group) (a1 : (List Int)) (a2 : (List Int)) : Option (Int) :=
 ((rloop (σ := Int) (fun i5 s4 =>
 (ix a1 i5).bind fun x11 =>
 (ix a2 i5).bind fun x12 =>
 (F_impl_Group_pow a0 x11 x12).bind fun z13 =>
 (F_impl_Group_mul a0 [s4, z13]).bind fun z14 =>
 some (.go z14)) (fun s4 => s4) (a1.length) 0 1 : Option (Int)).bind fun x3 =>
 some x3)
end Go.Pm
