/-
  THE LAW 'FnExactPlainResult', of the second form: the contract of the law's function turned into the row's statement.
-/
import Derived.Test.YtoljmkdfamffmaaY18
import Derived.Test.YtoljmkdfamffmaaPmY
import Derived.Test.YtoljmkdfamffmaaRows
import Derived.WalkKit
import Derived.ProofKit
import Derived.OpenShut
import Derived.JoinedCond
namespace Go.Proofs.Ytoljmkdfamffmaa.l18
open Go.ChangeShapes Go.WideShapes Go.ChangeAt Go.RowKit Go.Am Go.Pm
set_option linter.unusedVariables false
set_option maxRecDepth 100000

theorem one_le {H : Type} (d : DataW H) : 1 ≤ Rows.uptoBulk d := by
  cases d with
  | lit l => cases l <;> simp [Rows.uptoBulk]
  | nil => simp [Rows.uptoBulk]
  | ptr d => simp [Rows.uptoBulk]
  | slice elems spare => simp [Rows.uptoBulk]
  | agg parts => simp [Rows.uptoBulk]
  | iface t d => simp [Rows.uptoBulk]
  | map entries => simp [Rows.uptoBulk]
  | held h => simp [Rows.uptoBulk]
theorem all_eq {H : Type} (l : List (DataW H)) : Rows.uptoBulkAll l = sumN (l.map Rows.uptoBulk) := by
  induction l with
  | nil => rfl
  | cons x r ih => simp only [Rows.uptoBulkAll, List.map_cons, sumN, ih]
theorem hu {H : Type} : Ub (X := H) Rows.uptoBulk := by
  refine ⟨one_le, fun D sp => ?_, fun D => ?_, fun s => ?_⟩
  · simp only [Rows.uptoBulk, all_eq]; omega
  · simp only [Rows.uptoBulk, all_eq]; omega
  · simp only [Rows.uptoBulk]; omega
def shp23 : Shp Group := Shp.st (Shp.cons (Shp.int .i64) (Shp.cons (Shp.int .i64) (Shp.cons (Shp.int .i64) Shp.nil))) (fun x => (x.P, x.Q, x.G, ()))
theorem fl23 {X : Type} {enc : TypeId × Value → X} {W : World} {fuel : Nat} {cs : List Value} {x : DataW X × List MemPlace} (h : DataW.trod enc Try.prog W 0 (fun _ => true) true fuel 23 cs = some x) :
    ∃ (fuel' : Nat) (xs : List (DataW X × List MemPlace)), x.1 = .agg (xs.map (·.1)) ∧ Flds X enc Try.prog W fuel' [(3, 1), (3, 1), (3, 1)] cs xs := by
  obtain ⟨xs, n, rfl, rfl, hl, hxs, hf⟩ := DataW.trod_struct Try.underlying23 h
  have hc : Try.prog.cellsOf 23 = 3 := by kernel_rfl
  have hc0 : Try.prog.cellsOf 3 = 1 := by kernel_rfl
  have hc1 : Try.prog.cellsOf 3 = 1 := by kernel_rfl
  have hc2 : Try.prog.cellsOf 3 = 1 := by kernel_rfl
  rw [hc] at hl
  have hxs : xs.length = 3 := hxs
  match cs, hl, xs, hxs with
  | [c0, c1, c2], _, [x0, x1, x2], _ =>
    have h0 := hf 0 _ rfl
    have h1 := hf 1 _ rfl
    have h2 := hf 2 _ rfl
    simp only [hc0, hc1, hc2, List.drop_zero, List.drop_succ_cons, List.take_succ_cons, List.take_zero, List.getElem?_cons_zero, List.getElem?_cons_succ] at h0 h1 h2
    exact ⟨n, _, rfl, x0, _, rfl, rfl, h0, x1, _, rfl, rfl, h1, x2, _, rfl, rfl, h2, rfl, rfl⟩
theorem rd23 {X : Type} {enc : TypeId × Value → X} {W : World} {ub : DataW X → Nat} (hu : Ub ub) : Reads X enc Try.prog W 23 Group (CR shp23 ub) :=
  rd_st (fun p => Group.mk p.1 p.2.1 p.2.2.1) (fun _ => rfl) hu (rf_cons (rd_int hu Try.underlying3) (rf_cons (rd_int hu Try.underlying3) (rf_cons (rd_int hu Try.underlying3) rf_nil))) fl23
def shp25 : Shp Contest := Shp.st (Shp.cons (Shp.int .i64) (Shp.cons (Shp.int .i64) (Shp.cons (Shp.int .i64) (Shp.cons (Shp.int .i64) (Shp.cons (Shp.int .i64) Shp.nil))))) (fun x => (x.Kind, x.Options, x.Least, x.Most, x.Points, ()))
theorem fl25 {X : Type} {enc : TypeId × Value → X} {W : World} {fuel : Nat} {cs : List Value} {x : DataW X × List MemPlace} (h : DataW.trod enc Try.prog W 0 (fun _ => true) true fuel 25 cs = some x) :
    ∃ (fuel' : Nat) (xs : List (DataW X × List MemPlace)), x.1 = .agg (xs.map (·.1)) ∧ Flds X enc Try.prog W fuel' [(3, 1), (3, 1), (3, 1), (3, 1), (3, 1)] cs xs := by
  obtain ⟨xs, n, rfl, rfl, hl, hxs, hf⟩ := DataW.trod_struct Try.underlying25 h
  have hc : Try.prog.cellsOf 25 = 5 := by kernel_rfl
  have hc0 : Try.prog.cellsOf 3 = 1 := by kernel_rfl
  have hc1 : Try.prog.cellsOf 3 = 1 := by kernel_rfl
  have hc2 : Try.prog.cellsOf 3 = 1 := by kernel_rfl
  have hc3 : Try.prog.cellsOf 3 = 1 := by kernel_rfl
  have hc4 : Try.prog.cellsOf 3 = 1 := by kernel_rfl
  rw [hc] at hl
  have hxs : xs.length = 5 := hxs
  match cs, hl, xs, hxs with
  | [c0, c1, c2, c3, c4], _, [x0, x1, x2, x3, x4], _ =>
    have h0 := hf 0 _ rfl
    have h1 := hf 1 _ rfl
    have h2 := hf 2 _ rfl
    have h3 := hf 3 _ rfl
    have h4 := hf 4 _ rfl
    simp only [hc0, hc1, hc2, hc3, hc4, List.drop_zero, List.drop_succ_cons, List.take_succ_cons, List.take_zero, List.getElem?_cons_zero, List.getElem?_cons_succ] at h0 h1 h2 h3 h4
    exact ⟨n, _, rfl, x0, _, rfl, rfl, h0, x1, _, rfl, rfl, h1, x2, _, rfl, rfl, h2, x3, _, rfl, rfl, h3, x4, _, rfl, rfl, h4, rfl, rfl⟩
theorem rd25 {X : Type} {enc : TypeId × Value → X} {W : World} {ub : DataW X → Nat} (hu : Ub ub) : Reads X enc Try.prog W 25 Contest (CR shp25 ub) :=
  rd_st (fun p => Contest.mk p.1 p.2.1 p.2.2.1 p.2.2.2.1 p.2.2.2.2.1) (fun _ => rfl) hu (rf_cons (rd_int hu Try.underlying3) (rf_cons (rd_int hu Try.underlying3) (rf_cons (rd_int hu Try.underlying3) (rf_cons (rd_int hu Try.underlying3) (rf_cons (rd_int hu Try.underlying3) rf_nil))))) fl25
def shp27 : Shp Plan := Shp.st (Shp.cons shp23 (Shp.cons shp25 (Shp.cons (Shp.int .i64) (Shp.cons (Shp.int .i64) (Shp.cons (Shp.int .i64) (Shp.cons (Shp.int .i64) (Shp.cons (Shp.int .i64) Shp.nil))))))) (fun x => (x.Gr, x.Ct, x.Threshold, x.Trustees, x.Mixers, x.Voters, x.Seed, ()))
theorem fl27 {X : Type} {enc : TypeId × Value → X} {W : World} {fuel : Nat} {cs : List Value} {x : DataW X × List MemPlace} (h : DataW.trod enc Try.prog W 0 (fun _ => true) true fuel 27 cs = some x) :
    ∃ (fuel' : Nat) (xs : List (DataW X × List MemPlace)), x.1 = .agg (xs.map (·.1)) ∧ Flds X enc Try.prog W fuel' [(23, 3), (25, 5), (3, 1), (3, 1), (3, 1), (3, 1), (3, 1)] cs xs := by
  obtain ⟨xs, n, rfl, rfl, hl, hxs, hf⟩ := DataW.trod_struct Try.underlying27 h
  have hc : Try.prog.cellsOf 27 = 13 := by kernel_rfl
  have hc0 : Try.prog.cellsOf 23 = 3 := by kernel_rfl
  have hc1 : Try.prog.cellsOf 25 = 5 := by kernel_rfl
  have hc2 : Try.prog.cellsOf 3 = 1 := by kernel_rfl
  have hc3 : Try.prog.cellsOf 3 = 1 := by kernel_rfl
  have hc4 : Try.prog.cellsOf 3 = 1 := by kernel_rfl
  have hc5 : Try.prog.cellsOf 3 = 1 := by kernel_rfl
  have hc6 : Try.prog.cellsOf 3 = 1 := by kernel_rfl
  rw [hc] at hl
  have hxs : xs.length = 7 := hxs
  match cs, hl, xs, hxs with
  | [c0, c1, c2, c3, c4, c5, c6, c7, c8, c9, c10, c11, c12], _, [x0, x1, x2, x3, x4, x5, x6], _ =>
    have h0 := hf 0 _ rfl
    have h1 := hf 1 _ rfl
    have h2 := hf 2 _ rfl
    have h3 := hf 3 _ rfl
    have h4 := hf 4 _ rfl
    have h5 := hf 5 _ rfl
    have h6 := hf 6 _ rfl
    simp only [hc0, hc1, hc2, hc3, hc4, hc5, hc6, List.drop_zero, List.drop_succ_cons, List.take_succ_cons, List.take_zero, List.getElem?_cons_zero, List.getElem?_cons_succ] at h0 h1 h2 h3 h4 h5 h6
    exact ⟨n, _, rfl, x0, _, rfl, rfl, h0, x1, _, rfl, rfl, h1, x2, _, rfl, rfl, h2, x3, _, rfl, rfl, h3, x4, _, rfl, rfl, h4, x5, _, rfl, rfl, h5, x6, _, rfl, rfl, h6, rfl, rfl⟩
theorem rd27 {X : Type} {enc : TypeId × Value → X} {W : World} {ub : DataW X → Nat} (hu : Ub ub) : Reads X enc Try.prog W 27 Plan (CR shp27 ub) :=
  rd_st (fun p => Plan.mk p.1 p.2.1 p.2.2.1 p.2.2.2.1 p.2.2.2.2.1 p.2.2.2.2.2.1 p.2.2.2.2.2.2.1) (fun _ => rfl) hu (rf_cons (rd23 hu) (rf_cons (rd25 hu) (rf_cons (rd_int hu Try.underlying3) (rf_cons (rd_int hu Try.underlying3) (rf_cons (rd_int hu Try.underlying3) (rf_cons (rd_int hu Try.underlying3) (rf_cons (rd_int hu Try.underlying3) rf_nil))))))) fl27
theorem rd31 {X : Type} {enc : TypeId × Value → X} {W : World} {ub : DataW X → Nat} (hu : Ub ub) : Reads X enc Try.prog W 31 (List Int) (CR (Shp.sl 1 (Shp.int .i64)) ub) :=
  rd_sl hu Try.underlying31 (show Try.prog.cellsOf 3 = 1 by kernel_rfl) (by decide) (fun _ => rfl) (fun _ => Nat.le_refl 1) (rd_int hu Try.underlying3)
def shp50 : Shp Casting := Shp.st (Shp.cons (Shp.int .i64) (Shp.cons (Shp.sl 1 (Shp.int .i64)) Shp.nil)) (fun x => (x.Voter, x.Vote, ()))
theorem fl50 {X : Type} {enc : TypeId × Value → X} {W : World} {fuel : Nat} {cs : List Value} {x : DataW X × List MemPlace} (h : DataW.trod enc Try.prog W 0 (fun _ => true) true fuel 50 cs = some x) :
    ∃ (fuel' : Nat) (xs : List (DataW X × List MemPlace)), x.1 = .agg (xs.map (·.1)) ∧ Flds X enc Try.prog W fuel' [(3, 1), (31, 1)] cs xs := by
  obtain ⟨xs, n, rfl, rfl, hl, hxs, hf⟩ := DataW.trod_struct Try.underlying50 h
  have hc : Try.prog.cellsOf 50 = 2 := by kernel_rfl
  have hc0 : Try.prog.cellsOf 3 = 1 := by kernel_rfl
  have hc1 : Try.prog.cellsOf 31 = 1 := by kernel_rfl
  rw [hc] at hl
  have hxs : xs.length = 2 := hxs
  match cs, hl, xs, hxs with
  | [c0, c1], _, [x0, x1], _ =>
    have h0 := hf 0 _ rfl
    have h1 := hf 1 _ rfl
    simp only [hc0, hc1, List.drop_zero, List.drop_succ_cons, List.take_succ_cons, List.take_zero, List.getElem?_cons_zero, List.getElem?_cons_succ] at h0 h1
    exact ⟨n, _, rfl, x0, _, rfl, rfl, h0, x1, _, rfl, rfl, h1, rfl, rfl⟩
theorem rd50 {X : Type} {enc : TypeId × Value → X} {W : World} {ub : DataW X → Nat} (hu : Ub ub) : Reads X enc Try.prog W 50 Casting (CR shp50 ub) :=
  rd_st (fun p => Casting.mk p.1 p.2.1) (fun _ => rfl) hu (rf_cons (rd_int hu Try.underlying3) (rf_cons (rd31 hu) rf_nil)) fl50
theorem rd28 {X : Type} {enc : TypeId × Value → X} {W : World} {ub : DataW X → Nat} (hu : Ub ub) : Reads X enc Try.prog W 28 (List Casting) (CR (Shp.sl 2 shp50) ub) :=
  rd_sl hu Try.underlying28 (show Try.prog.cellsOf 50 = 2 by kernel_rfl) (by decide) (fun _ => rfl) (fun _ => by show 1 ≤ 1 + _; omega) (rd50 hu)
def sa : SA (Plan × (List Casting) × Unit) := (SA.cons true shp27 (SA.cons false (Shp.sl 2 shp50) SA.nil))
theorem argsR {X : Type} {enc : TypeId × Value → X} {W : World} {ub : DataW X → Nat} (hu : Ub ub) : ArgsR X enc Try.prog W [27, 28] (Plan × (List Casting) × Unit) sa ub := (ar_cons (ra_st Try.underlying27 (rd27 hu)) (ar_cons (ra_sl Try.underlying28 (rd28 hu)) ar_nil))
theorem own : ownKnob Try.prog.godebug = none := by kernel_rfl
theorem laid : laidOutB Try.prog = true := by kernel_rfl
theorem plain0 (b : Plan × (List Casting) × Unit) (ho : sa.ok b) (hb : sa.bk b ≤ 1048576) : F_laws_FnExactPlainResult (b.1) (b.2.1) = some true := by
  obtain ⟨x, y, u⟩ := b
  have hb : _ + ((1 + sumN (y.map shp50.bk)) + _) ≤ 1048576 := hb
  have h1 : ∀ z : Casting, 1 ≤ shp50.bk z := fun z => by show 1 ≤ 1 + _; omega
  have h2 : ∀ z : Casting, z.Vote.length ≤ shp50.bk z := fun z => by
    have := len_sum (f := fun _ : Int => 1) (fun _ => Nat.le_refl 1) z.Vote
    show _ ≤ 1 + (_ + ((1 + sumN (z.Vote.map fun _ => 1)) + _)); omega
  have ly := len_sum h1 y
  exact law18 x y (by omega) (fun z hz => by have := mem_sum (f := shp50.bk) hz; have := h2 z; omega)
theorem plain (b : Plan × (List Casting) × Unit) (ho : sa.ok b) (hb : sa.bk b ≤ 1048576) : ∃ os, PCalls Try.prog 3 ((sa.pvs b).map fun x => (Md.sh, x)) (fun r o => r = .bool true ∧ o = os) :=
  ⟨_, c_laws_FnExactPlainResult (plain0 b ho hb)⟩

theorem contract (H : Type) (enc : TypeId × Value → H) (W : World) (base : Nat) (args : Array Value) (ds gs : List (DataW H)) (before : List MemPlace)
    (hval : ∀ (j : Nat) t v, Try.f3.params[j]? = some t → args[j]? = some v → Value.okWide Try.prog W .any base t v)
    (hW : DataW.Whole enc Try.prog Try.f3.params.toList Rows.fnExactPlainResultSpec.vars false W args.toList ds gs before) (hk : Rows.uptoSmall H (ds ++ gs) = true) :
    Calls Try.prog 3 args W fun e W' => ∃ v, e = .returned v ∧ Rows.fnExactPlainResultSpec.post enc Try.prog Try.f3 false true false false W args v W' := by
  have hW' := hW
  obtain ⟨p, q, hA0, hV, rfl, hfz, hnd⟩ := hW
  have hA : DataW.TrodAll enc Try.prog W 0 (fun _ => true) true Try.f3.params.toList args.toList ds p := hA0
  rw [Try.params3] at hA hval
  obtain ⟨rfl, rfl⟩ := trodVars_none hV
  have hbulk : sumN (ds.map Rows.uptoBulk) ≤ 1048576 := by
    have : Rows.uptoBulkAll (ds ++ []) ≤ 1048576 := by simpa [Rows.uptoSmall] using hk
    rwa [List.append_nil, all_eq] at this
  have hcall := law_calls (P := Try.prog) (f := 3) (argsR hu) (by decide) plain (base := base) (args := args) (fun j t v h1 h2 => hval j t v (by simpa using h1) (by simpa using h2)) hA hbulk
  have hlt : ∀ x ∈ p, x.block < W.heap.size := fun x hx => by simpa using hW'.lt x (by simpa using hx)
  simp only [List.append_nil] at hW'
  refine hcall.mono fun e W' ⟨he, hg, hsame⟩ => ?_
  subst he
  have hA1 := hA
  obtain ⟨v0, w0, d0, e0, p0, q0, hv0, hd0, hp0, t0, hA1⟩ := trodAll_cons hA1
  obtain ⟨v1, w1, d1, e1, p1, q1, hv1, hd1, hp1, t1, hA1⟩ := trodAll_cons hA1
  obtain ⟨rw, rd, rp⟩ := trodAll_nil hA1
  subst rd
  subst hd1
  subst hd0
  exact ⟨_, rfl, post_of_same (pa := p) (pv := []) hW' (fun _ _ _ => (trodAll_cons_mk (shut_bool Try.underlying4 _) trodAll_mk0))
    (fun sp hsp => trod_stays_all laid (by
        intro t ht
        rw [Try.params3] at ht
        simp only [List.mem_cons, List.not_mem_nil, or_false] at ht
        rcases ht with rfl | rfl
        all_goals exact ⟨by kernel_rfl, of_decide_eq_true (by kernel_rfl)⟩) (show DataW.TrodAll enc Try.prog W 0 (fun _ => true) true Try.f3.params.toList args.toList _ p by rw [Try.params3]; exact hA) (fun x hx => by
      have := hsame _ (hlt x hx)
      cases x with
      | cell b off => simp only [World.sameAt, World.cell?]; rw [show W'.heap[b]? = W.heap[b]? from this]
      | map b => exact this) (fun x hx => hsp x hx)) (fun _ _ => rfl) (by simp)
    (hg.frame _) hg.2.1 (ok_one (by kernel_rfl) rfl (okWide_bool_mk Try.underlying4 _))⟩

theorem lifted (os : Os) (started : os.Started) (H : Type) (enc : TypeId × Value → H) (F : Stop.Interp) :
    ReturnsInHanded {} Try.checked os 3 .any ((Rows.OpenSpec.upto Rows.fnExactPlainResultSpec).pre6 enc Try.prog Try.f3 Rows.fnExactPlainResultUptoRow.domain false) (((Rows.OpenSpec.upto Rows.fnExactPlainResultSpec).at F).post enc Try.prog Try.f3 false true false false) := by
  refine returnsInHanded_of_cond (C := Try.checked) (s := Rows.OpenSpec.upto Rows.fnExactPlainResultSpec) (k := Rows.uptoSmall) rfl own started (by kernel_rfl) Try.func3
    (OpenSpec.witness (enc := enc) (C := Try.checked) (s := Rows.OpenSpec.upto Rows.fnExactPlainResultSpec) (k := Rows.uptoSmall) rfl false ⟨#[], #[.agg #[.int .i64 0, .int .i64 0, .int .i64 0, .int .i64 0, .int .i64 0, .int .i64 0, .int .i64 0, .int .i64 0, .int .i64 0, .int .i64 0, .int .i64 0, .int .i64 0, .int .i64 0], .slice none 0 0], []⟩ 8 (by kernel_rfl) (by kernel_rfl) (by kernel_rfl)
      (x := ([.agg [.agg [.lit (.int .i64 0), .lit (.int .i64 0), .lit (.int .i64 0)], .agg [.lit (.int .i64 0), .lit (.int .i64 0), .lit (.int .i64 0), .lit (.int .i64 0), .lit (.int .i64 0)], .lit (.int .i64 0), .lit (.int .i64 0), .lit (.int .i64 0), .lit (.int .i64 0), .lit (.int .i64 0)], .nil], [], [])) (by kernel_rfl) rfl (by kernel_rfl)) ?_
  intro W base args ds gs before hval hW _ hk _
  exact contract H enc W base args ds gs before hval hW hk

theorem over : Rows.fnExactPlainResultUptoRow.holds Try.pinned (Rows.OpenSpec.upto Rows.fnExactPlainResultSpec) :=
  OpenClaim.holds_of_cond 3 Try.f3 rfl rfl rfl rfl rfl rfl rfl ⟨rfl, rfl, rfl, rfl, rfl⟩ rfl rfl rfl rfl rfl (by kernel_rfl) Try.func3 (by kernel_rfl)
    (of_decide_eq_true (by kernel_rfl)) (by unfold Func.isWrapper; first | (rw [if_pos (by decide +kernel)]; kernel_rfl) | (rw [if_neg (by decide +kernel)]; exact ⟨rfl, rfl⟩))
    (fun os started H enc _ F => lifted os started H enc F)

theorem proved : Rows.FnExactPlainResultUptoSaid :=
  over
end Go.Proofs.Ytoljmkdfamffmaa.l18
