/-
  THE LAW 'FnExactCountViews', of the second form: the contract of the law's function turned into the row's statement.
-/
import Derived.Test.YthdjiekgolgmfaaW6
import Derived.Test.YthdjiekgolgmfaaPmY
import Derived.Test.YthdjiekgolgmfaaRows
import Derived.WalkKit
import Derived.ProofKit
import Derived.OpenShut
import Derived.JoinedCond
namespace Go.Proofs.Ythdjiekgolgmfaa.l6
open Go.ChangeShapes Go.WideShapes Go.ChangeAt Go.RowKit Go.Am Go.Pm
set_option linter.unusedVariables false
set_option linter.unusedSimpArgs false
set_option maxRecDepth 100000

theorem one_le {H : Type} (d : DataW H) : 1 ≤ Rows.uptoBulk d := by
  cases d with
  | lit l => cases l <;> simp [Rows.uptoBulk]
  | nil => simp [Rows.uptoBulk]
  | ptr d => simp [Rows.uptoBulk]
  | slice elems spare => simp [Rows.uptoBulk]
  | agg parts => simp [Rows.uptoBulk]
  | iface t d => simp [Rows.uptoBulk]
  | map entries => simp [Rows.uptoBulk]
  | held h => simp [Rows.uptoBulk]
theorem all_eq {H : Type} (l : List (DataW H)) : Rows.uptoBulkAll l = sumN (l.map Rows.uptoBulk) := by
  induction l with
  | nil => rfl
  | cons x r ih => simp only [Rows.uptoBulkAll, List.map_cons, sumN, ih]
theorem hu {H : Type} : Ub (X := H) Rows.uptoBulk := by
  refine ⟨one_le, fun D sp => ?_, fun D => ?_, fun s => ?_⟩
  · simp only [Rows.uptoBulk, all_eq]; omega
  · simp only [Rows.uptoBulk, all_eq]; omega
  · simp only [Rows.uptoBulk]; omega
theorem rd36 {X : Type} {enc : TypeId × Value → X} {W : World} {ub : DataW X → Nat} (hu : Ub ub) : Reads X enc Try.prog W 36 (List Int) (CR (Shp.sl 1 (Shp.int .i64)) ub) :=
  rd_sl hu Try.underlying36 (show Try.prog.cellsOf 3 = 1 by kernel_rfl) (by decide) (fun _ => rfl) (fun _ => Nat.le_refl 1) (rd_int hu Try.underlying3)
theorem rd52 {X : Type} {enc : TypeId × Value → X} {W : World} {ub : DataW X → Nat} (hu : Ub ub) : Reads X enc Try.prog W 52 (List (List Int)) (CR (Shp.sl 1 (Shp.sl 1 (Shp.int .i64))) ub) :=
  rd_sl hu Try.underlying52 (show Try.prog.cellsOf 36 = 1 by kernel_rfl) (by decide) (fun _ => rfl) (fun _ => by show 1 ≤ 1 + _; omega) (rd36 hu)
def sa : SA ((List (List Int)) × Unit) := (SA.cons false (Shp.sl 1 (Shp.sl 1 (Shp.int .i64))) SA.nil)
theorem argsR {X : Type} {enc : TypeId × Value → X} {W : World} {ub : DataW X → Nat} (hu : Ub ub) : ArgsR X enc Try.prog W [52] ((List (List Int)) × Unit) sa ub := (ar_cons (ra_sl Try.underlying52 (rd52 hu)) ar_nil)
theorem own : ownKnob Try.prog.godebug = none := by kernel_rfl
theorem laid : laidOutB Try.prog = true := by kernel_rfl
theorem plain0 (b : (List (List Int)) × Unit) (ho : sa.ok b) (hb : sa.bk b ≤ 1048576) : F_laws_FnExactCountViews (b.1) = some true := by
  obtain ⟨x, u⟩ := b
  have hb : (1 + sumN (x.map fun r : List Int => 1 + sumN (r.map fun _ => 1))) + _ ≤ 1048576 := hb
  have h1 : ∀ r : List Int, 1 ≤ (fun r : List Int => 1 + sumN (r.map fun _ => 1)) r := fun r => by show 1 ≤ 1 + _; omega
  have h2 : ∀ r : List Int, r.length ≤ (fun r : List Int => 1 + sumN (r.map fun _ => 1)) r := fun r => by
    have := len_sum (f := fun _ : Int => 1) (fun _ => Nat.le_refl 1) r
    show _ ≤ 1 + sumN (r.map fun _ => 1); omega
  have lx := len_sum h1 x
  exact law6 x (by omega) (fun r hr => by have h3 := mem_sum (f := fun r : List Int => 1 + sumN (r.map fun _ => 1)) hr; have h4 := h2 r; dsimp only at h3 h4; omega)
theorem plain (b : (List (List Int)) × Unit) (ho : sa.ok b) (hb : sa.bk b ≤ 1048576) : ∃ os, PCalls Try.prog 8 ((sa.pvs b).map fun x => (Md.sh, x)) (fun r o => r = .bool true ∧ o = os) :=
  ⟨_, c_laws_FnExactCountViews (plain0 b ho hb)⟩

theorem contract (H : Type) (enc : TypeId × Value → H) (W : World) (base : Nat) (args : Array Value) (ds gs : List (DataW H)) (before : List MemPlace)
    (hval : ∀ (j : Nat) t v, Try.f8.params[j]? = some t → args[j]? = some v → Value.okWide Try.prog W .any base t v)
    (hW : DataW.Whole enc Try.prog Try.f8.params.toList Rows.fnExactCountViewsSpec.vars false W args.toList ds gs before) (hk : Rows.uptoSmall H (ds ++ gs) = true) :
    Calls Try.prog 8 args W fun e W' => ∃ v, e = .returned v ∧ Rows.fnExactCountViewsSpec.post enc Try.prog Try.f8 false true false false W args v W' := by
  have hW' := hW
  obtain ⟨p, q, hA0, hV, rfl, hfz, hnd⟩ := hW
  have hA : DataW.TrodAll enc Try.prog W 0 (fun _ => true) true Try.f8.params.toList args.toList ds p := hA0
  rw [Try.params8] at hA hval
  obtain ⟨rfl, rfl⟩ := trodVars_none hV
  have hbulk : sumN (ds.map Rows.uptoBulk) ≤ 1048576 := by
    have : Rows.uptoBulkAll (ds ++ []) ≤ 1048576 := by simpa [Rows.uptoSmall] using hk
    rwa [List.append_nil, all_eq] at this
  have hcall := law_calls (P := Try.prog) (f := 8) (argsR hu) (by decide) plain (base := base) (args := args) (fun j t v h1 h2 => hval j t v (by simpa using h1) (by simpa using h2)) hA hbulk
  have hlt : ∀ x ∈ p, x.block < W.heap.size := fun x hx => by simpa using hW'.lt x (by simpa using hx)
  simp only [List.append_nil] at hW'
  refine hcall.mono fun e W' ⟨he, hg, hsame⟩ => ?_
  subst he
  have hA1 := hA
  obtain ⟨v0, w0, d0, e0, p0, q0, hv0, hd0, hp0, t0, hA1⟩ := trodAll_cons hA1
  obtain ⟨rw, rd, rp⟩ := trodAll_nil hA1
  subst rd
  subst hd0
  exact ⟨_, rfl, post_of_same (pa := p) (pv := []) hW' (fun _ _ _ => (trodAll_cons_mk (shut_bool Try.underlying4 _) trodAll_mk0))
    (fun sp hsp => trod_stays_all laid (by
        intro t ht
        rw [Try.params8] at ht
        simp only [List.mem_cons, List.not_mem_nil, or_false] at ht
        subst ht
        all_goals exact ⟨by kernel_rfl, of_decide_eq_true (by kernel_rfl)⟩) (show DataW.TrodAll enc Try.prog W 0 (fun _ => true) true Try.f8.params.toList args.toList _ p by rw [Try.params8]; exact hA) (fun x hx => by
      have := hsame _ (hlt x hx)
      cases x with
      | cell b off => simp only [World.sameAt, World.cell?]; rw [show W'.heap[b]? = W.heap[b]? from this]
      | map b => exact this) (fun x hx => hsp x hx)) (fun _ _ => rfl) (by simp)
    (hg.frame _) hg.2.1 (ok_one (by kernel_rfl) rfl (okWide_bool_mk Try.underlying4 _))⟩

theorem lifted (os : Os) (started : os.Started) (H : Type) (enc : TypeId × Value → H) (F : Stop.Interp) :
    ReturnsInHanded {} Try.checked os 8 .any ((Rows.OpenSpec.upto Rows.fnExactCountViewsSpec).pre6 enc Try.prog Try.f8 Rows.fnExactCountViewsUptoRow.domain false) (((Rows.OpenSpec.upto Rows.fnExactCountViewsSpec).at F).post enc Try.prog Try.f8 false true false false) := by
  refine returnsInHanded_of_cond (C := Try.checked) (s := Rows.OpenSpec.upto Rows.fnExactCountViewsSpec) (k := Rows.uptoSmall) rfl own started (by kernel_rfl) Try.func8
    (OpenSpec.witness (enc := enc) (C := Try.checked) (s := Rows.OpenSpec.upto Rows.fnExactCountViewsSpec) (k := Rows.uptoSmall) rfl false ⟨#[], #[.slice none 0 0], []⟩ 8 (by kernel_rfl) (by kernel_rfl) (by kernel_rfl)
      (x := ([.nil], [], [])) (by kernel_rfl) rfl (by kernel_rfl)) ?_
  intro W base args ds gs before hval hW _ hk _
  exact contract H enc W base args ds gs before hval hW hk

theorem over : Rows.fnExactCountViewsUptoRow.holds Try.pinned (Rows.OpenSpec.upto Rows.fnExactCountViewsSpec) :=
  OpenClaim.holds_of_cond 8 Try.f8 rfl rfl rfl rfl rfl rfl rfl ⟨rfl, rfl, rfl, rfl, rfl⟩ rfl rfl rfl rfl rfl (by kernel_rfl) Try.func8 (by kernel_rfl)
    (of_decide_eq_true (by kernel_rfl)) (by unfold Func.isWrapper; first | (rw [if_pos (by decide +kernel)]; kernel_rfl) | (rw [if_neg (by decide +kernel)]; exact ⟨rfl, rfl⟩))
    (fun os started H enc _ F => lifted os started H enc F)

theorem proved : Rows.FnExactCountViewsUptoSaid :=
  over
end Go.Proofs.Ythdjiekgolgmfaa.l6
