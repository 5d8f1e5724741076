/-
  THE LAW 'FnExactBlindViews', of the second form: the contract of the law's function turned into the row's statement.
-/
import Derived.Test.YthdjiekgolgmfaaY4
import Derived.Test.YthdjiekgolgmfaaPmY
import Derived.Test.YthdjiekgolgmfaaRows
import Derived.WalkKit
import Derived.ProofKit
import Derived.OpenShut
import Derived.JoinedCond
namespace Go.Proofs.Ythdjiekgolgmfaa.l4
open Go.ChangeShapes Go.WideShapes Go.ChangeAt Go.RowKit Go.Am Go.Pm
set_option linter.unusedVariables false
set_option maxRecDepth 100000

theorem one_le {H : Type} (d : DataW H) : 1 ≤ Rows.uptoBulk d := by
  cases d with
  | lit l => cases l <;> simp [Rows.uptoBulk]
  | nil => simp [Rows.uptoBulk]
  | ptr d => simp [Rows.uptoBulk]
  | slice elems spare => simp [Rows.uptoBulk]
  | agg parts => simp [Rows.uptoBulk]
  | iface t d => simp [Rows.uptoBulk]
  | map entries => simp [Rows.uptoBulk]
  | held h => simp [Rows.uptoBulk]
theorem all_eq {H : Type} (l : List (DataW H)) : Rows.uptoBulkAll l = sumN (l.map Rows.uptoBulk) := by
  induction l with
  | nil => rfl
  | cons x r ih => simp only [Rows.uptoBulkAll, List.map_cons, sumN, ih]
theorem hu {H : Type} : Ub (X := H) Rows.uptoBulk := by
  refine ⟨one_le, fun D sp => ?_, fun D => ?_, fun s => ?_⟩
  · simp only [Rows.uptoBulk, all_eq]; omega
  · simp only [Rows.uptoBulk, all_eq]; omega
  · simp only [Rows.uptoBulk]; omega

def sa : SA (Int × Int × Int × Unit) := (SA.cons false (Shp.int .i64) (SA.cons false (Shp.int .i64) (SA.cons false (Shp.int .i64) SA.nil)))
theorem argsR {X : Type} {enc : TypeId × Value → X} {W : World} {ub : DataW X → Nat} (hu : Ub ub) : ArgsR X enc Try.prog W [3, 3, 3] (Int × Int × Int × Unit) sa ub := (ar_cons (ra_int hu Try.underlying3) (ar_cons (ra_int hu Try.underlying3) (ar_cons (ra_int hu Try.underlying3) ar_nil)))
theorem own : ownKnob Try.prog.godebug = none := by kernel_rfl
theorem laid : laidOutB Try.prog = true := by kernel_rfl
theorem plain0 (b : Int × Int × Int × Unit) (ho : sa.ok b) (hb : sa.bk b ≤ 1048576) : F_laws_FnExactBlindViews (b.1) (b.2.1) (b.2.2.1) = some true := by
  obtain ⟨x, y, z, u⟩ := b
  exact law4 x y z
theorem plain (b : Int × Int × Int × Unit) (ho : sa.ok b) (hb : sa.bk b ≤ 1048576) : ∃ os, PCalls Try.prog 6 ((sa.pvs b).map fun x => (Md.sh, x)) (fun r o => r = .bool true ∧ o = os) :=
  ⟨_, c_laws_FnExactBlindViews (plain0 b ho hb)⟩

theorem contract (H : Type) (enc : TypeId × Value → H) (W : World) (base : Nat) (args : Array Value) (ds gs : List (DataW H)) (before : List MemPlace)
    (hval : ∀ (j : Nat) t v, Try.f6.params[j]? = some t → args[j]? = some v → Value.okWide Try.prog W .any base t v)
    (hW : DataW.Whole enc Try.prog Try.f6.params.toList Rows.fnExactBlindViewsSpec.vars false W args.toList ds gs before) (hk : Rows.uptoSmall H (ds ++ gs) = true) :
    Calls Try.prog 6 args W fun e W' => ∃ v, e = .returned v ∧ Rows.fnExactBlindViewsSpec.post enc Try.prog Try.f6 false true false false W args v W' := by
  have hW' := hW
  obtain ⟨p, q, hA0, hV, rfl, hfz, hnd⟩ := hW
  have hA : DataW.TrodAll enc Try.prog W 0 (fun _ => true) true Try.f6.params.toList args.toList ds p := hA0
  rw [Try.params6] at hA hval
  obtain ⟨rfl, rfl⟩ := trodVars_none hV
  have hbulk : sumN (ds.map Rows.uptoBulk) ≤ 1048576 := by
    have : Rows.uptoBulkAll (ds ++ []) ≤ 1048576 := by simpa [Rows.uptoSmall] using hk
    rwa [List.append_nil, all_eq] at this
  have hcall := law_calls (P := Try.prog) (f := 6) (argsR hu) (by decide) plain (base := base) (args := args) (fun j t v h1 h2 => hval j t v (by simpa using h1) (by simpa using h2)) hA hbulk
  have hlt : ∀ x ∈ p, x.block < W.heap.size := fun x hx => by simpa using hW'.lt x (by simpa using hx)
  simp only [List.append_nil] at hW'
  refine hcall.mono fun e W' ⟨he, hg, hsame⟩ => ?_
  subst he
  have hA1 := hA
  obtain ⟨v0, w0, d0, e0, p0, q0, hv0, hd0, hp0, t0, hA1⟩ := trodAll_cons hA1
  obtain ⟨v1, w1, d1, e1, p1, q1, hv1, hd1, hp1, t1, hA1⟩ := trodAll_cons hA1
  obtain ⟨v2, w2, d2, e2, p2, q2, hv2, hd2, hp2, t2, hA1⟩ := trodAll_cons hA1
  obtain ⟨rw, rd, rp⟩ := trodAll_nil hA1
  subst rd
  subst hd2
  subst hd1
  subst hd0
  exact ⟨_, rfl, post_of_same (pa := p) (pv := []) hW' (fun _ _ _ => (trodAll_cons_mk (shut_bool Try.underlying4 _) trodAll_mk0))
    (fun sp hsp => trod_stays_all laid (by
        intro t ht
        rw [Try.params6] at ht
        simp only [List.mem_cons, List.not_mem_nil, or_false] at ht
        rcases ht with rfl | rfl | rfl
        all_goals exact ⟨by kernel_rfl, of_decide_eq_true (by kernel_rfl)⟩) (show DataW.TrodAll enc Try.prog W 0 (fun _ => true) true Try.f6.params.toList args.toList _ p by rw [Try.params6]; exact hA) (fun x hx => by
      have := hsame _ (hlt x hx)
      cases x with
      | cell b off => simp only [World.sameAt, World.cell?]; rw [show W'.heap[b]? = W.heap[b]? from this]
      | map b => exact this) (fun x hx => hsp x hx)) (fun _ _ => rfl) (by simp)
    (hg.frame _) hg.2.1 (ok_one (by kernel_rfl) rfl (okWide_bool_mk Try.underlying4 _))⟩

theorem lifted (os : Os) (started : os.Started) (H : Type) (enc : TypeId × Value → H) (F : Stop.Interp) :
    ReturnsInHanded {} Try.checked os 6 .any ((Rows.OpenSpec.upto Rows.fnExactBlindViewsSpec).pre6 enc Try.prog Try.f6 Rows.fnExactBlindViewsUptoRow.domain false) (((Rows.OpenSpec.upto Rows.fnExactBlindViewsSpec).at F).post enc Try.prog Try.f6 false true false false) := by
  refine returnsInHanded_of_cond (C := Try.checked) (s := Rows.OpenSpec.upto Rows.fnExactBlindViewsSpec) (k := Rows.uptoSmall) rfl own started (by kernel_rfl) Try.func6
    (OpenSpec.witness (enc := enc) (C := Try.checked) (s := Rows.OpenSpec.upto Rows.fnExactBlindViewsSpec) (k := Rows.uptoSmall) rfl false ⟨#[], #[.int .i64 0, .int .i64 0, .int .i64 0], []⟩ 8 (by kernel_rfl) (by kernel_rfl) (by kernel_rfl)
      (x := ([.lit (.int .i64 0), .lit (.int .i64 0), .lit (.int .i64 0)], [], [])) (by kernel_rfl) rfl (by kernel_rfl)) ?_
  intro W base args ds gs before hval hW _ hk _
  exact contract H enc W base args ds gs before hval hW hk

theorem over : Rows.fnExactBlindViewsUptoRow.holds Try.pinned (Rows.OpenSpec.upto Rows.fnExactBlindViewsSpec) :=
  OpenClaim.holds_of_cond 6 Try.f6 rfl rfl rfl rfl rfl rfl rfl ⟨rfl, rfl, rfl, rfl, rfl⟩ rfl rfl rfl rfl rfl (by kernel_rfl) Try.func6 (by kernel_rfl)
    (of_decide_eq_true (by kernel_rfl)) (by unfold Func.isWrapper; first | (rw [if_pos (by decide +kernel)]; kernel_rfl) | (rw [if_neg (by decide +kernel)]; exact ⟨rfl, rfl⟩))
    (fun os started H enc _ F => lifted os started H enc F)

theorem proved : Rows.FnExactBlindViewsUptoSaid :=
  over
end Go.Proofs.Ythdjiekgolgmfaa.l4
