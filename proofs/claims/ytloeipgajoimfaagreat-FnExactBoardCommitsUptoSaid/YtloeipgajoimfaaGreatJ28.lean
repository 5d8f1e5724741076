/-
  THE LAW 'FnExactBoardCommits', of the second form: the contract of the law's function turned into the row's statement.
-/
import Derived.Test.YtloeipgajoimfaaGreatY28
import Derived.Test.YtloeipgajoimfaaGreatPmY
import Derived.Test.YtloeipgajoimfaaGreatRows
import Derived.WalkKit
import Derived.ProofKit
import Derived.OpenShut
import Derived.JoinedCond
namespace Go.Proofs.YtloeipgajoimfaaGreat.l28
open Go.ChangeShapes Go.WideShapes Go.ChangeAt Go.RowKit Go.Am Go.Pm
set_option linter.unusedVariables false
set_option linter.unusedSimpArgs false
set_option maxRecDepth 100000

theorem one_le {H : Type} (d : DataW H) : 1 ≤ Rows.uptoBulk d := by
  cases d with
  | lit l => cases l <;> simp [Rows.uptoBulk]
  | nil => simp [Rows.uptoBulk]
  | ptr d => simp [Rows.uptoBulk]
  | slice elems spare => simp [Rows.uptoBulk]
  | agg parts => simp [Rows.uptoBulk]
  | iface t d => simp [Rows.uptoBulk]
  | map entries => simp [Rows.uptoBulk]
  | held h => simp [Rows.uptoBulk]
theorem all_eq {H : Type} (l : List (DataW H)) : Rows.uptoBulkAll l = sumN (l.map Rows.uptoBulk) := by
  induction l with
  | nil => rfl
  | cons x r ih => simp only [Rows.uptoBulkAll, List.map_cons, sumN, ih]
theorem hu {H : Type} : Ub (X := H) Rows.uptoBulk := by
  refine ⟨one_le, fun D sp => ?_, fun D => ?_, fun s => ?_⟩
  · simp only [Rows.uptoBulk, all_eq]; omega
  · simp only [Rows.uptoBulk, all_eq]; omega
  · simp only [Rows.uptoBulk]; omega
def shp23 : Shp Group := Shp.st (Shp.cons (Shp.int .i64) (Shp.cons (Shp.int .i64) (Shp.cons (Shp.int .i64) Shp.nil))) (fun x => (x.P, x.Q, x.G, ()))
theorem fl23 {X : Type} {enc : TypeId × Value → X} {W : World} {fuel : Nat} {cs : List Value} {x : DataW X × List MemPlace} (h : DataW.trod enc Tryz.prog W 0 (fun _ => true) true fuel 23 cs = some x) :
    ∃ (fuel' : Nat) (xs : List (DataW X × List MemPlace)), x.1 = .agg (xs.map (·.1)) ∧ Flds X enc Tryz.prog W fuel' [(3, 1), (3, 1), (3, 1)] cs xs := by
  obtain ⟨xs, n, rfl, rfl, hl, hxs, hf⟩ := DataW.trod_struct Tryz.underlying23 h
  have hc : Tryz.prog.cellsOf 23 = 3 := by kernel_rfl
  have hc0 : Tryz.prog.cellsOf 3 = 1 := by kernel_rfl
  have hc1 : Tryz.prog.cellsOf 3 = 1 := by kernel_rfl
  have hc2 : Tryz.prog.cellsOf 3 = 1 := by kernel_rfl
  rw [hc] at hl
  have hxs : xs.length = 3 := hxs
  match cs, hl, xs, hxs with
  | [c0, c1, c2], _, [x0, x1, x2], _ =>
    have h0 := hf 0 _ rfl
    have h1 := hf 1 _ rfl
    have h2 := hf 2 _ rfl
    simp only [hc0, hc1, hc2, List.drop_zero, List.drop_succ_cons, List.take_succ_cons, List.take_zero, List.getElem?_cons_zero, List.getElem?_cons_succ] at h0 h1 h2
    exact ⟨n, _, rfl, x0, _, rfl, rfl, h0, x1, _, rfl, rfl, h1, x2, _, rfl, rfl, h2, rfl, rfl⟩
theorem rd23 {X : Type} {enc : TypeId × Value → X} {W : World} {ub : DataW X → Nat} (hu : Ub ub) : Reads X enc Tryz.prog W 23 Group (CR shp23 ub) :=
  rd_st (fun p => Group.mk p.1 p.2.1 p.2.2.1) (fun _ => rfl) hu (rf_cons (rd_int hu Tryz.underlying3) (rf_cons (rd_int hu Tryz.underlying3) (rf_cons (rd_int hu Tryz.underlying3) rf_nil))) fl23
theorem rd24 {X : Type} {enc : TypeId × Value → X} {W : World} {ub : DataW X → Nat} (hu : Ub ub) : Reads X enc Tryz.prog W 24 (List Int) (CR (Shp.sl 1 (Shp.int .i64)) ub) :=
  rd_sl hu Tryz.underlying24 (show Tryz.prog.cellsOf 3 = 1 by kernel_rfl) (by decide) (fun _ => rfl) (fun _ => Nat.le_refl 1) (rd_int hu Tryz.underlying3)
def shp69 : Shp Proof := Shp.st (Shp.cons (Shp.sl 1 (Shp.int .i64)) (Shp.cons (Shp.sl 1 (Shp.int .i64)) (Shp.cons (Shp.sl 1 (Shp.int .i64)) Shp.nil))) (fun x => (x.Commits, x.Challenges, x.Responses, ()))
theorem fl69 {X : Type} {enc : TypeId × Value → X} {W : World} {fuel : Nat} {cs : List Value} {x : DataW X × List MemPlace} (h : DataW.trod enc Tryz.prog W 0 (fun _ => true) true fuel 69 cs = some x) :
    ∃ (fuel' : Nat) (xs : List (DataW X × List MemPlace)), x.1 = .agg (xs.map (·.1)) ∧ Flds X enc Tryz.prog W fuel' [(24, 1), (24, 1), (24, 1)] cs xs := by
  obtain ⟨xs, n, rfl, rfl, hl, hxs, hf⟩ := DataW.trod_struct Tryz.underlying69 h
  have hc : Tryz.prog.cellsOf 69 = 3 := by kernel_rfl
  have hc0 : Tryz.prog.cellsOf 24 = 1 := by kernel_rfl
  have hc1 : Tryz.prog.cellsOf 24 = 1 := by kernel_rfl
  have hc2 : Tryz.prog.cellsOf 24 = 1 := by kernel_rfl
  rw [hc] at hl
  have hxs : xs.length = 3 := hxs
  match cs, hl, xs, hxs with
  | [c0, c1, c2], _, [x0, x1, x2], _ =>
    have h0 := hf 0 _ rfl
    have h1 := hf 1 _ rfl
    have h2 := hf 2 _ rfl
    simp only [hc0, hc1, hc2, List.drop_zero, List.drop_succ_cons, List.take_succ_cons, List.take_zero, List.getElem?_cons_zero, List.getElem?_cons_succ] at h0 h1 h2
    exact ⟨n, _, rfl, x0, _, rfl, rfl, h0, x1, _, rfl, rfl, h1, x2, _, rfl, rfl, h2, rfl, rfl⟩
theorem rd69 {X : Type} {enc : TypeId × Value → X} {W : World} {ub : DataW X → Nat} (hu : Ub ub) : Reads X enc Tryz.prog W 69 Proof (CR shp69 ub) :=
  rd_st (fun p => Proof.mk p.1 p.2.1 p.2.2.1) (fun _ => rfl) hu (rf_cons (rd24 hu) (rf_cons (rd24 hu) (rf_cons (rd24 hu) rf_nil))) fl69
def shp71 : Shp Entry := Shp.st (Shp.cons (Shp.int .i64) (Shp.cons (Shp.int .i64) (Shp.cons (Shp.sl 1 (Shp.int .i64)) (Shp.cons shp69 Shp.nil)))) (fun x => (x.Kind, x.Author, x.Data, x.Sign, ()))
theorem fl71 {X : Type} {enc : TypeId × Value → X} {W : World} {fuel : Nat} {cs : List Value} {x : DataW X × List MemPlace} (h : DataW.trod enc Tryz.prog W 0 (fun _ => true) true fuel 71 cs = some x) :
    ∃ (fuel' : Nat) (xs : List (DataW X × List MemPlace)), x.1 = .agg (xs.map (·.1)) ∧ Flds X enc Tryz.prog W fuel' [(3, 1), (3, 1), (24, 1), (69, 3)] cs xs := by
  obtain ⟨xs, n, rfl, rfl, hl, hxs, hf⟩ := DataW.trod_struct Tryz.underlying71 h
  have hc : Tryz.prog.cellsOf 71 = 6 := by kernel_rfl
  have hc0 : Tryz.prog.cellsOf 3 = 1 := by kernel_rfl
  have hc1 : Tryz.prog.cellsOf 3 = 1 := by kernel_rfl
  have hc2 : Tryz.prog.cellsOf 24 = 1 := by kernel_rfl
  have hc3 : Tryz.prog.cellsOf 69 = 3 := by kernel_rfl
  rw [hc] at hl
  have hxs : xs.length = 4 := hxs
  match cs, hl, xs, hxs with
  | [c0, c1, c2, c3, c4, c5], _, [x0, x1, x2, x3], _ =>
    have h0 := hf 0 _ rfl
    have h1 := hf 1 _ rfl
    have h2 := hf 2 _ rfl
    have h3 := hf 3 _ rfl
    simp only [hc0, hc1, hc2, hc3, List.drop_zero, List.drop_succ_cons, List.take_succ_cons, List.take_zero, List.getElem?_cons_zero, List.getElem?_cons_succ] at h0 h1 h2 h3
    exact ⟨n, _, rfl, x0, _, rfl, rfl, h0, x1, _, rfl, rfl, h1, x2, _, rfl, rfl, h2, x3, _, rfl, rfl, h3, rfl, rfl⟩
theorem rd71 {X : Type} {enc : TypeId × Value → X} {W : World} {ub : DataW X → Nat} (hu : Ub ub) : Reads X enc Tryz.prog W 71 Entry (CR shp71 ub) :=
  rd_st (fun p => Entry.mk p.1 p.2.1 p.2.2.1 p.2.2.2.1) (fun _ => rfl) hu (rf_cons (rd_int hu Tryz.underlying3) (rf_cons (rd_int hu Tryz.underlying3) (rf_cons (rd24 hu) (rf_cons (rd69 hu) rf_nil)))) fl71
theorem rd25 {X : Type} {enc : TypeId × Value → X} {W : World} {ub : DataW X → Nat} (hu : Ub ub) : Reads X enc Tryz.prog W 25 (List Entry) (CR (Shp.sl 6 shp71) ub) :=
  rd_sl hu Tryz.underlying25 (show Tryz.prog.cellsOf 71 = 6 by kernel_rfl) (by decide) (fun _ => rfl) (fun _ => by show 1 ≤ 1 + _; omega) (rd71 hu)
def shp27 : Shp Board := Shp.st (Shp.cons (Shp.sl 1 (Shp.int .i64)) (Shp.cons (Shp.sl 6 shp71) Shp.nil)) (fun x => (x.Keys, x.Entries, ()))
theorem fl27 {X : Type} {enc : TypeId × Value → X} {W : World} {fuel : Nat} {cs : List Value} {x : DataW X × List MemPlace} (h : DataW.trod enc Tryz.prog W 0 (fun _ => true) true fuel 27 cs = some x) :
    ∃ (fuel' : Nat) (xs : List (DataW X × List MemPlace)), x.1 = .agg (xs.map (·.1)) ∧ Flds X enc Tryz.prog W fuel' [(24, 1), (25, 1)] cs xs := by
  obtain ⟨xs, n, rfl, rfl, hl, hxs, hf⟩ := DataW.trod_struct Tryz.underlying27 h
  have hc : Tryz.prog.cellsOf 27 = 2 := by kernel_rfl
  have hc0 : Tryz.prog.cellsOf 24 = 1 := by kernel_rfl
  have hc1 : Tryz.prog.cellsOf 25 = 1 := by kernel_rfl
  rw [hc] at hl
  have hxs : xs.length = 2 := hxs
  match cs, hl, xs, hxs with
  | [c0, c1], _, [x0, x1], _ =>
    have h0 := hf 0 _ rfl
    have h1 := hf 1 _ rfl
    simp only [hc0, hc1, List.drop_zero, List.drop_succ_cons, List.take_succ_cons, List.take_zero, List.getElem?_cons_zero, List.getElem?_cons_succ] at h0 h1
    exact ⟨n, _, rfl, x0, _, rfl, rfl, h0, x1, _, rfl, rfl, h1, rfl, rfl⟩
theorem rd27 {X : Type} {enc : TypeId × Value → X} {W : World} {ub : DataW X → Nat} (hu : Ub ub) : Reads X enc Tryz.prog W 27 Board (CR shp27 ub) :=
  rd_st (fun p => Board.mk p.1 p.2.1) (fun _ => rfl) hu (rf_cons (rd24 hu) (rf_cons (rd25 hu) rf_nil)) fl27
def sa : SA (Group × Board × Unit) := (SA.cons true shp23 (SA.cons true shp27 SA.nil))
theorem argsR {X : Type} {enc : TypeId × Value → X} {W : World} {ub : DataW X → Nat} (hu : Ub ub) : ArgsR X enc Tryz.prog W [23, 27] (Group × Board × Unit) sa ub := (ar_cons (ra_st Tryz.underlying23 (rd23 hu)) (ar_cons (ra_st Tryz.underlying27 (rd27 hu)) ar_nil))
theorem own : ownKnob Tryz.prog.godebug = none := by kernel_rfl
theorem laid : laidOutB Tryz.prog = true := by kernel_rfl
theorem plain0 (b : Group × Board × Unit) (ho : sa.ok b) (hb : sa.bk b ≤ 1048576) : F_laws_FnExactBoardCommits (b.1) (b.2.1) = some true := by
  obtain ⟨x, y, u⟩ := b
  have hb : _ + (shp27.bk y + _) ≤ 1048576 := hb
  have li : ∀ l : List Int, l.length ≤ 1 + sumN (l.map fun _ => 1) := fun l => by
    have := len_sum (f := fun _ : Int => 1) (fun _ => Nat.le_refl 1) l
    omega
  have hp : ∀ p : Proof, p.Commits.length ≤ shp69.bk p ∧ p.Challenges.length ≤ shp69.bk p ∧ p.Responses.length ≤ shp69.bk p := fun p => by
    have h1 := li p.Commits
    have h2 := li p.Challenges
    have h3 := li p.Responses
    have e : shp69.bk p = 1 + ((1 + sumN (p.Commits.map fun _ => 1)) + ((1 + sumN (p.Challenges.map fun _ => 1)) + ((1 + sumN (p.Responses.map fun _ => 1)) + 0))) := rfl
    omega
  have he : ∀ e : Entry, 1 ≤ shp71.bk e ∧ e.Data.length ≤ shp71.bk e ∧ shp69.bk e.Sign ≤ shp71.bk e := fun e => by
    have h1 := li e.Data
    have e : shp71.bk e = 1 + (1 + (1 + ((1 + sumN (e.Data.map fun _ => 1)) + (shp69.bk e.Sign + 0)))) := rfl
    omega
  have hbo : ∀ b : Board, shp27.bk b ≤ 1048576 → lensB b := fun b hb => by
    have h1 := li b.Keys
    have e : shp27.bk b = 1 + ((1 + sumN (b.Keys.map fun _ => 1)) + ((1 + sumN (b.Entries.map shp71.bk)) + 0)) := rfl
    have h2 := len_sum (fun z => (he z).1) b.Entries
    refine ⟨by omega, by omega, fun z hz => ?_⟩
    have h3 := mem_sum (f := shp71.bk) hz
    have h4 := he z
    have h5 := hp z.Sign
    exact ⟨by omega, by omega, by omega, by omega⟩
  exact law28 x y (hbo y (by omega))
theorem plain (b : Group × Board × Unit) (ho : sa.ok b) (hb : sa.bk b ≤ 1048576) : ∃ os, PCalls Tryz.prog 3 ((sa.pvs b).map fun x => (Md.sh, x)) (fun r o => r = .bool true ∧ o = os) :=
  ⟨_, c_laws_FnExactBoardCommits (plain0 b ho hb)⟩

theorem contract (H : Type) (enc : TypeId × Value → H) (W : World) (base : Nat) (args : Array Value) (ds gs : List (DataW H)) (before : List MemPlace)
    (hval : ∀ (j : Nat) t v, Tryz.f3.params[j]? = some t → args[j]? = some v → Value.okWide Tryz.prog W .any base t v)
    (hW : DataW.Whole enc Tryz.prog Tryz.f3.params.toList Rows.fnExactBoardCommitsSpec.vars false W args.toList ds gs before) (hk : Rows.uptoSmall H (ds ++ gs) = true) :
    Calls Tryz.prog 3 args W fun e W' => ∃ v, e = .returned v ∧ Rows.fnExactBoardCommitsSpec.post enc Tryz.prog Tryz.f3 false true false false W args v W' := by
  have hW' := hW
  obtain ⟨p, q, hA0, hV, rfl, hfz, hnd⟩ := hW
  have hA : DataW.TrodAll enc Tryz.prog W 0 (fun _ => true) true Tryz.f3.params.toList args.toList ds p := hA0
  rw [Tryz.params3] at hA hval
  obtain ⟨rfl, rfl⟩ := trodVars_none hV
  have hbulk : sumN (ds.map Rows.uptoBulk) ≤ 1048576 := by
    have : Rows.uptoBulkAll (ds ++ []) ≤ 1048576 := by simpa [Rows.uptoSmall] using hk
    rwa [List.append_nil, all_eq] at this
  have hcall := law_calls (P := Tryz.prog) (f := 3) (argsR hu) (by decide) plain (base := base) (args := args) (fun j t v h1 h2 => hval j t v (by simpa using h1) (by simpa using h2)) hA hbulk
  have hlt : ∀ x ∈ p, x.block < W.heap.size := fun x hx => by simpa using hW'.lt x (by simpa using hx)
  simp only [List.append_nil] at hW'
  refine hcall.mono fun e W' ⟨he, hg, hsame⟩ => ?_
  subst he
  have hA1 := hA
  obtain ⟨v0, w0, d0, e0, p0, q0, hv0, hd0, hp0, t0, hA1⟩ := trodAll_cons hA1
  obtain ⟨v1, w1, d1, e1, p1, q1, hv1, hd1, hp1, t1, hA1⟩ := trodAll_cons hA1
  obtain ⟨rw, rd, rp⟩ := trodAll_nil hA1
  subst rd
  subst hd1
  subst hd0
  exact ⟨_, rfl, post_of_same (pa := p) (pv := []) hW' (fun _ _ _ => (trodAll_cons_mk (shut_bool Tryz.underlying4 _) trodAll_mk0))
    (fun sp hsp => trod_stays_all laid (by
        intro t ht
        rw [Tryz.params3] at ht
        simp only [List.mem_cons, List.not_mem_nil, or_false] at ht
        rcases ht with rfl | rfl
        all_goals exact ⟨by kernel_rfl, of_decide_eq_true (by kernel_rfl)⟩) (show DataW.TrodAll enc Tryz.prog W 0 (fun _ => true) true Tryz.f3.params.toList args.toList _ p by rw [Tryz.params3]; exact hA) (fun x hx => by
      have := hsame _ (hlt x hx)
      cases x with
      | cell b off => simp only [World.sameAt, World.cell?]; rw [show W'.heap[b]? = W.heap[b]? from this]
      | map b => exact this) (fun x hx => hsp x hx)) (fun _ _ => rfl) (by simp)
    (hg.frame _) hg.2.1 (ok_one (by kernel_rfl) rfl (okWide_bool_mk Tryz.underlying4 _))⟩

theorem lifted (os : Os) (started : os.Started) (H : Type) (enc : TypeId × Value → H) (F : Stop.Interp) :
    ReturnsInHanded {} Tryz.checked os 3 .any ((Rows.OpenSpec.upto Rows.fnExactBoardCommitsSpec).pre6 enc Tryz.prog Tryz.f3 Rows.fnExactBoardCommitsUptoRow.domain false) (((Rows.OpenSpec.upto Rows.fnExactBoardCommitsSpec).at F).post enc Tryz.prog Tryz.f3 false true false false) := by
  refine returnsInHanded_of_cond (C := Tryz.checked) (s := Rows.OpenSpec.upto Rows.fnExactBoardCommitsSpec) (k := Rows.uptoSmall) rfl own started (by kernel_rfl) Tryz.func3
    (OpenSpec.witness (enc := enc) (C := Tryz.checked) (s := Rows.OpenSpec.upto Rows.fnExactBoardCommitsSpec) (k := Rows.uptoSmall) rfl false ⟨#[], #[.agg #[.int .i64 0, .int .i64 0, .int .i64 0], .agg #[.slice none 0 0, .slice none 0 0]], []⟩ 8 (by kernel_rfl) (by kernel_rfl) (by kernel_rfl)
      (x := ([.agg [.lit (.int .i64 0), .lit (.int .i64 0), .lit (.int .i64 0)], .agg [.nil, .nil]], [], [])) (by kernel_rfl) rfl (by kernel_rfl)) ?_
  intro W base args ds gs before hval hW _ hk _
  exact contract H enc W base args ds gs before hval hW hk

set_option maxHeartbeats 4000000 in
theorem closed : joinedFacts Tryz.pinned.checked.prog 3 Tryz.f3 (Rows.OpenSpec.upto Rows.fnExactBoardCommitsSpec).bare Rows.fnExactBoardCommitsUptoRow = true := by
  simp only [joinedFacts, Bool.and_eq_true]
  and_intros
  all_goals as_aux_lemma => kernel_rfl
theorem over : Rows.fnExactBoardCommitsUptoRow.holds Tryz.pinned (Rows.OpenSpec.upto Rows.fnExactBoardCommitsSpec) :=
  OpenClaim.holds_of_cond 3 Tryz.f3 rfl rfl rfl rfl rfl rfl rfl ⟨rfl, rfl, rfl, rfl, rfl⟩ rfl rfl rfl rfl rfl (by kernel_rfl) Tryz.func3 closed
    (of_decide_eq_true (by kernel_rfl)) (by unfold Func.isWrapper; first | (rw [if_pos (by decide +kernel)]; kernel_rfl) | (rw [if_neg (by decide +kernel)]; exact ⟨rfl, rfl⟩))
    (fun os started H enc _ F => lifted os started H enc F)

theorem proved : Rows.FnExactBoardCommitsUptoSaid :=
  over
end Go.Proofs.YtloeipgajoimfaaGreat.l28
