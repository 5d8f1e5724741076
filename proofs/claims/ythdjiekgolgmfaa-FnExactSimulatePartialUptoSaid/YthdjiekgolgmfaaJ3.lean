/-
  THE LAW 'FnExactSimulatePartial', of the second form: the contract of the law's function turned into the row's statement.
-/
import Derived.Test.YthdjiekgolgmfaaY3
import Derived.Test.YthdjiekgolgmfaaPmY
import Derived.Test.YthdjiekgolgmfaaRows
import Derived.WalkKit
import Derived.ProofKit
import Derived.OpenShut
import Derived.JoinedCond
namespace Go.Proofs.Ythdjiekgolgmfaa.l3
open Go.ChangeShapes Go.WideShapes Go.ChangeAt Go.RowKit Go.Am Go.Pm
set_option linter.unusedVariables false
set_option maxRecDepth 100000

theorem one_le {H : Type} (d : DataW H) : 1 ≤ Rows.uptoBulk d := by
  cases d with
  | lit l => cases l <;> simp [Rows.uptoBulk]
  | nil => simp [Rows.uptoBulk]
  | ptr d => simp [Rows.uptoBulk]
  | slice elems spare => simp [Rows.uptoBulk]
  | agg parts => simp [Rows.uptoBulk]
  | iface t d => simp [Rows.uptoBulk]
  | map entries => simp [Rows.uptoBulk]
  | held h => simp [Rows.uptoBulk]
theorem all_eq {H : Type} (l : List (DataW H)) : Rows.uptoBulkAll l = sumN (l.map Rows.uptoBulk) := by
  induction l with
  | nil => rfl
  | cons x r ih => simp only [Rows.uptoBulkAll, List.map_cons, sumN, ih]
theorem hu {H : Type} : Ub (X := H) Rows.uptoBulk := by
  refine ⟨one_le, fun D sp => ?_, fun D => ?_, fun s => ?_⟩
  · simp only [Rows.uptoBulk, all_eq]; omega
  · simp only [Rows.uptoBulk, all_eq]; omega
  · simp only [Rows.uptoBulk]; omega
def shp33 : Shp Group := Shp.st (Shp.cons (Shp.int .i64) (Shp.cons (Shp.int .i64) (Shp.cons (Shp.int .i64) Shp.nil))) (fun x => (x.P, x.Q, x.G, ()))
theorem fl33 {X : Type} {enc : TypeId × Value → X} {W : World} {fuel : Nat} {cs : List Value} {x : DataW X × List MemPlace} (h : DataW.trod enc Try.prog W 0 (fun _ => true) true fuel 33 cs = some x) :
    ∃ (fuel' : Nat) (xs : List (DataW X × List MemPlace)), x.1 = .agg (xs.map (·.1)) ∧ Flds X enc Try.prog W fuel' [(3, 1), (3, 1), (3, 1)] cs xs := by
  obtain ⟨xs, n, rfl, rfl, hl, hxs, hf⟩ := DataW.trod_struct Try.underlying33 h
  have hc : Try.prog.cellsOf 33 = 3 := by kernel_rfl
  have hc0 : Try.prog.cellsOf 3 = 1 := by kernel_rfl
  have hc1 : Try.prog.cellsOf 3 = 1 := by kernel_rfl
  have hc2 : Try.prog.cellsOf 3 = 1 := by kernel_rfl
  rw [hc] at hl
  have hxs : xs.length = 3 := hxs
  match cs, hl, xs, hxs with
  | [c0, c1, c2], _, [x0, x1, x2], _ =>
    have h0 := hf 0 _ rfl
    have h1 := hf 1 _ rfl
    have h2 := hf 2 _ rfl
    simp only [hc0, hc1, hc2, List.drop_zero, List.drop_succ_cons, List.take_succ_cons, List.take_zero, List.getElem?_cons_zero, List.getElem?_cons_succ] at h0 h1 h2
    exact ⟨n, _, rfl, x0, _, rfl, rfl, h0, x1, _, rfl, rfl, h1, x2, _, rfl, rfl, h2, rfl, rfl⟩
theorem rd33 {X : Type} {enc : TypeId × Value → X} {W : World} {ub : DataW X → Nat} (hu : Ub ub) : Reads X enc Try.prog W 33 Group (CR shp33 ub) :=
  rd_st (fun p => Group.mk p.1 p.2.1 p.2.2.1) (fun _ => rfl) hu (rf_cons (rd_int hu Try.underlying3) (rf_cons (rd_int hu Try.underlying3) (rf_cons (rd_int hu Try.underlying3) rf_nil))) fl33
def shp35 : Shp Cipher := Shp.st (Shp.cons (Shp.int .i64) (Shp.cons (Shp.int .i64) Shp.nil)) (fun x => (x.A, x.B, ()))
theorem fl35 {X : Type} {enc : TypeId × Value → X} {W : World} {fuel : Nat} {cs : List Value} {x : DataW X × List MemPlace} (h : DataW.trod enc Try.prog W 0 (fun _ => true) true fuel 35 cs = some x) :
    ∃ (fuel' : Nat) (xs : List (DataW X × List MemPlace)), x.1 = .agg (xs.map (·.1)) ∧ Flds X enc Try.prog W fuel' [(3, 1), (3, 1)] cs xs := by
  obtain ⟨xs, n, rfl, rfl, hl, hxs, hf⟩ := DataW.trod_struct Try.underlying35 h
  have hc : Try.prog.cellsOf 35 = 2 := by kernel_rfl
  have hc0 : Try.prog.cellsOf 3 = 1 := by kernel_rfl
  have hc1 : Try.prog.cellsOf 3 = 1 := by kernel_rfl
  rw [hc] at hl
  have hxs : xs.length = 2 := hxs
  match cs, hl, xs, hxs with
  | [c0, c1], _, [x0, x1], _ =>
    have h0 := hf 0 _ rfl
    have h1 := hf 1 _ rfl
    simp only [hc0, hc1, List.drop_zero, List.drop_succ_cons, List.take_succ_cons, List.take_zero, List.getElem?_cons_zero, List.getElem?_cons_succ] at h0 h1
    exact ⟨n, _, rfl, x0, _, rfl, rfl, h0, x1, _, rfl, rfl, h1, rfl, rfl⟩
theorem rd35 {X : Type} {enc : TypeId × Value → X} {W : World} {ub : DataW X → Nat} (hu : Ub ub) : Reads X enc Try.prog W 35 Cipher (CR shp35 ub) :=
  rd_st (fun p => Cipher.mk p.1 p.2.1) (fun _ => rfl) hu (rf_cons (rd_int hu Try.underlying3) (rf_cons (rd_int hu Try.underlying3) rf_nil)) fl35
theorem rd36 {X : Type} {enc : TypeId × Value → X} {W : World} {ub : DataW X → Nat} (hu : Ub ub) : Reads X enc Try.prog W 36 (List Int) (CR (Shp.sl 1 (Shp.int .i64)) ub) :=
  rd_sl hu Try.underlying36 (show Try.prog.cellsOf 3 = 1 by kernel_rfl) (by decide) (fun _ => rfl) (fun _ => Nat.le_refl 1) (rd_int hu Try.underlying3)
def sa : SA (Group × Cipher × Int × (List Int) × (List Int) × Int × Unit) := (SA.cons true shp33 (SA.cons true shp35 (SA.cons false (Shp.int .i64) (SA.cons false (Shp.sl 1 (Shp.int .i64)) (SA.cons false (Shp.sl 1 (Shp.int .i64)) (SA.cons false (Shp.int .i64) SA.nil))))))
theorem argsR {X : Type} {enc : TypeId × Value → X} {W : World} {ub : DataW X → Nat} (hu : Ub ub) : ArgsR X enc Try.prog W [33, 35, 3, 36, 36, 3] (Group × Cipher × Int × (List Int) × (List Int) × Int × Unit) sa ub := (ar_cons (ra_st Try.underlying33 (rd33 hu)) (ar_cons (ra_st Try.underlying35 (rd35 hu)) (ar_cons (ra_int hu Try.underlying3) (ar_cons (ra_sl Try.underlying36 (rd36 hu)) (ar_cons (ra_sl Try.underlying36 (rd36 hu)) (ar_cons (ra_int hu Try.underlying3) ar_nil))))))
theorem own : ownKnob Try.prog.godebug = none := by kernel_rfl
theorem laid : laidOutB Try.prog = true := by kernel_rfl
theorem plain0 (b : Group × Cipher × Int × (List Int) × (List Int) × Int × Unit) (ho : sa.ok b) (hb : sa.bk b ≤ 1048576) : F_laws_FnExactSimulatePartial (b.1) (b.2.1) (b.2.2.1) (b.2.2.2.1) (b.2.2.2.2.1) (b.2.2.2.2.2.1) = some true := by
  obtain ⟨x, y, z, w, s, i, u⟩ := b
  exact law3 x y z w s i
theorem plain (b : Group × Cipher × Int × (List Int) × (List Int) × Int × Unit) (ho : sa.ok b) (hb : sa.bk b ≤ 1048576) : ∃ os, PCalls Try.prog 5 ((sa.pvs b).map fun x => (Md.sh, x)) (fun r o => r = .bool true ∧ o = os) :=
  ⟨_, c_laws_FnExactSimulatePartial (plain0 b ho hb)⟩

theorem contract (H : Type) (enc : TypeId × Value → H) (W : World) (base : Nat) (args : Array Value) (ds gs : List (DataW H)) (before : List MemPlace)
    (hval : ∀ (j : Nat) t v, Try.f5.params[j]? = some t → args[j]? = some v → Value.okWide Try.prog W .any base t v)
    (hW : DataW.Whole enc Try.prog Try.f5.params.toList Rows.fnExactSimulatePartialSpec.vars false W args.toList ds gs before) (hk : Rows.uptoSmall H (ds ++ gs) = true) :
    Calls Try.prog 5 args W fun e W' => ∃ v, e = .returned v ∧ Rows.fnExactSimulatePartialSpec.post enc Try.prog Try.f5 false true false false W args v W' := by
  have hW' := hW
  obtain ⟨p, q, hA0, hV, rfl, hfz, hnd⟩ := hW
  have hA : DataW.TrodAll enc Try.prog W 0 (fun _ => true) true Try.f5.params.toList args.toList ds p := hA0
  rw [Try.params5] at hA hval
  obtain ⟨rfl, rfl⟩ := trodVars_none hV
  have hbulk : sumN (ds.map Rows.uptoBulk) ≤ 1048576 := by
    have : Rows.uptoBulkAll (ds ++ []) ≤ 1048576 := by simpa [Rows.uptoSmall] using hk
    rwa [List.append_nil, all_eq] at this
  have hcall := law_calls (P := Try.prog) (f := 5) (argsR hu) (by decide) plain (base := base) (args := args) (fun j t v h1 h2 => hval j t v (by simpa using h1) (by simpa using h2)) hA hbulk
  have hlt : ∀ x ∈ p, x.block < W.heap.size := fun x hx => by simpa using hW'.lt x (by simpa using hx)
  simp only [List.append_nil] at hW'
  refine hcall.mono fun e W' ⟨he, hg, hsame⟩ => ?_
  subst he
  have hA1 := hA
  obtain ⟨v0, w0, d0, e0, p0, q0, hv0, hd0, hp0, t0, hA1⟩ := trodAll_cons hA1
  obtain ⟨v1, w1, d1, e1, p1, q1, hv1, hd1, hp1, t1, hA1⟩ := trodAll_cons hA1
  obtain ⟨v2, w2, d2, e2, p2, q2, hv2, hd2, hp2, t2, hA1⟩ := trodAll_cons hA1
  obtain ⟨v3, w3, d3, e3, p3, q3, hv3, hd3, hp3, t3, hA1⟩ := trodAll_cons hA1
  obtain ⟨v4, w4, d4, e4, p4, q4, hv4, hd4, hp4, t4, hA1⟩ := trodAll_cons hA1
  obtain ⟨v5, w5, d5, e5, p5, q5, hv5, hd5, hp5, t5, hA1⟩ := trodAll_cons hA1
  obtain ⟨rw, rd, rp⟩ := trodAll_nil hA1
  subst rd
  subst hd5
  subst hd4
  subst hd3
  subst hd2
  subst hd1
  subst hd0
  exact ⟨_, rfl, post_of_same (pa := p) (pv := []) hW' (fun _ _ _ => (trodAll_cons_mk (shut_bool Try.underlying4 _) trodAll_mk0))
    (fun sp hsp => trod_stays_all laid (by
        intro t ht
        rw [Try.params5] at ht
        simp only [List.mem_cons, List.not_mem_nil, or_false] at ht
        rcases ht with rfl | rfl | rfl | rfl | rfl | rfl
        all_goals exact ⟨by kernel_rfl, of_decide_eq_true (by kernel_rfl)⟩) (show DataW.TrodAll enc Try.prog W 0 (fun _ => true) true Try.f5.params.toList args.toList _ p by rw [Try.params5]; exact hA) (fun x hx => by
      have := hsame _ (hlt x hx)
      cases x with
      | cell b off => simp only [World.sameAt, World.cell?]; rw [show W'.heap[b]? = W.heap[b]? from this]
      | map b => exact this) (fun x hx => hsp x hx)) (fun _ _ => rfl) (by simp)
    (hg.frame _) hg.2.1 (ok_one (by kernel_rfl) rfl (okWide_bool_mk Try.underlying4 _))⟩

theorem lifted (os : Os) (started : os.Started) (H : Type) (enc : TypeId × Value → H) (F : Stop.Interp) :
    ReturnsInHanded {} Try.checked os 5 .any ((Rows.OpenSpec.upto Rows.fnExactSimulatePartialSpec).pre6 enc Try.prog Try.f5 Rows.fnExactSimulatePartialUptoRow.domain false) (((Rows.OpenSpec.upto Rows.fnExactSimulatePartialSpec).at F).post enc Try.prog Try.f5 false true false false) := by
  refine returnsInHanded_of_cond (C := Try.checked) (s := Rows.OpenSpec.upto Rows.fnExactSimulatePartialSpec) (k := Rows.uptoSmall) rfl own started (by kernel_rfl) Try.func5
    (OpenSpec.witness (enc := enc) (C := Try.checked) (s := Rows.OpenSpec.upto Rows.fnExactSimulatePartialSpec) (k := Rows.uptoSmall) rfl false ⟨#[], #[.agg #[.int .i64 0, .int .i64 0, .int .i64 0], .agg #[.int .i64 0, .int .i64 0], .int .i64 0, .slice none 0 0, .slice none 0 0, .int .i64 0], []⟩ 8 (by kernel_rfl) (by kernel_rfl) (by kernel_rfl)
      (x := ([.agg [.lit (.int .i64 0), .lit (.int .i64 0), .lit (.int .i64 0)], .agg [.lit (.int .i64 0), .lit (.int .i64 0)], .lit (.int .i64 0), .nil, .nil, .lit (.int .i64 0)], [], [])) (by kernel_rfl) rfl (by kernel_rfl)) ?_
  intro W base args ds gs before hval hW _ hk _
  exact contract H enc W base args ds gs before hval hW hk

theorem over : Rows.fnExactSimulatePartialUptoRow.holds Try.pinned (Rows.OpenSpec.upto Rows.fnExactSimulatePartialSpec) :=
  OpenClaim.holds_of_cond 5 Try.f5 rfl rfl rfl rfl rfl rfl rfl ⟨rfl, rfl, rfl, rfl, rfl⟩ rfl rfl rfl rfl rfl (by kernel_rfl) Try.func5 (by kernel_rfl)
    (of_decide_eq_true (by kernel_rfl)) (by unfold Func.isWrapper; first | (rw [if_pos (by decide +kernel)]; kernel_rfl) | (rw [if_neg (by decide +kernel)]; exact ⟨rfl, rfl⟩))
    (fun os started H enc _ F => lifted os started H enc F)

theorem proved : Rows.FnExactSimulatePartialUptoSaid :=
  over
end Go.Proofs.Ythdjiekgolgmfaa.l3
