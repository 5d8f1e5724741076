/-
  THE LAW 'FnExactIsValidCount', of the second form: the contract over the abstract machine (R1c) turned into the row's statement.
-/
import Derived.Test.YthdjiekgolgmfaaR1c
import Derived.Test.YthdjiekgolgmfaaAmQ
import Derived.Test.YthdjiekgolgmfaaRows
import Derived.WalkKit
import Derived.ProofKit
import Derived.OpenShut
import Derived.JoinedCond
namespace Go.Proofs.Ythdjiekgolgmfaa.l1
open Go.ChangeShapes Go.WideShapes Go.ChangeAt Go.RowKit Go.Am
set_option linter.unusedVariables false

theorem one_le {H : Type} (d : DataW H) : 1 ≤ Rows.uptoBulk d := by
  cases d with
  | lit l => cases l <;> simp [Rows.uptoBulk]
  | nil => simp [Rows.uptoBulk]
  | ptr d => simp [Rows.uptoBulk]
  | slice elems spare => simp [Rows.uptoBulk]
  | agg parts => simp [Rows.uptoBulk]
  | iface t d => simp [Rows.uptoBulk]
  | map entries => simp [Rows.uptoBulk]
  | held h => simp [Rows.uptoBulk]
theorem part_le {H : Type} {d : DataW H} {l : List (DataW H)} (h : d ∈ l) : Rows.uptoBulk d ≤ Rows.uptoBulkAll l := by
  induction l with
  | nil => cases h
  | cons x r ih =>
    simp only [Rows.uptoBulkAll]
    cases List.mem_cons.1 h with
    | inl e => subst e; omega
    | inr e => have := ih e; omega
theorem length_le {H : Type} (l : List (DataW H)) : l.length ≤ Rows.uptoBulkAll l := by
  induction l with
  | nil => simp [Rows.uptoBulkAll]
  | cons x r ih => have := one_le x; simp only [Rows.uptoBulkAll, List.length_cons]; omega

section
variable {X : Type} {enc : TypeId × Value → X} {W : World}

def RI (_ : AH) (y : List Value) (n : Int) (_ : DataW X) : Prop := y = [.int .i64 n] ∧ (Lit.int .i64 n).wf = true
theorem sl_ints {H : AH} {p : Option Addr} {c : Nat} {ess : List (List Value)} {L : List Int} {D : List (DataW X)} (h : SlR (X := X) RI H 1 p c ess L D) : Ints H (.slice p L.length c) L := by
  have e : ess = L.map fun x => [Value.int .i64 x] := by
    apply List.ext_getElem?
    intro i
    rw [List.getElem?_map]
    cases hi : ess[i]? with
    | none =>
      have : L[i]? = none := by rw [List.getElem?_eq_none_iff] at hi ⊢; have := h.l; omega
      rw [this]; rfl
    | some y =>
      have hlt : i < L.length := by have := (List.getElem?_eq_some_iff.1 hi).1; have := h.l; omega
      obtain ⟨d, _, h1, _⟩ := h.e i y _ hi (List.getElem?_eq_getElem hlt)
      rw [List.getElem?_eq_getElem hlt, h1]; rfl
  have := h.s
  rw [e] at this
  exact this

def R61 (H : AH) (y : List Value) (a : VC) (d : DataW X) : Prop := y = a.cells ∧ Ints H (.slice a.p a.view.length a.c) a.view ∧ a.view.length ≤ Rows.uptoBulk d
theorem R61.mono (H H' : AH) (y : List Value) (a : VC) (d : DataW X) (h : R61 H y a d) (he : Ext H H') : R61 H' y a d := ⟨h.1, h.2.1.ext he, h.2.2⟩
set_option maxRecDepth 100000 in
theorem reads61 : Reads X enc Try.prog W 61 VC R61 := by
  intro m H fuel cs x r hro h
  obtain ⟨xs, n, rfl, rfl, hl, hxs, hf⟩ := DataW.trod_struct Try.underlying61 h
  have hc61 : Try.prog.cellsOf 61 = 2 := by kernel_rfl
  have hc36 : Try.prog.cellsOf 36 = 1 := by kernel_rfl
  have hc3 : Try.prog.cellsOf 3 = 1 := by kernel_rfl
  rw [hc61] at hl
  match cs, hl with
  | [c0, c1], _ =>
    have hxs : xs.length = 2 := hxs
    match xs, hxs with
    | [x0, x1], _ =>
      have h0 := hf 0 _ rfl
      have h1 := hf 1 _ rfl
      simp only [hc36, hc3, List.drop_zero, List.drop_succ_cons, List.take_succ_cons, List.take_zero, List.getElem?_cons_zero, List.getElem?_cons_succ] at h0 h1
      obtain ⟨m1, H1, p, c, ess, L, D, r1, ro1, le1, ext1, hv1, hS, hd⟩ := reads_slice (es := 1) (R := RI) Try.underlying36 hc3 (by decide) (fun _ _ _ _ _ h _ => h) (show Reads X enc Try.prog W 3 Int RI from reads_int Try.underlying3) r hro h0
      obtain ⟨n1, e1, e2, hw1⟩ := DataW.trod_int Try.underlying3 h1
      refine ⟨m1, H1, [.slice p L.length c, .int .i64 n1], ⟨p, c, L, n1⟩, r1, ro1, le1, ext1, ?_, rfl, sl_ints hS, ?_⟩
      · obtain ⟨y, ys, e3, e4, e5⟩ := hv1.cons_inv
        cases e3
        cases e1
        exact .cons e4 (.cons (.int .i64 n1) (.nil _))
      · have hD := hS.d
        simp only [List.map_cons, List.map_nil, Rows.uptoBulk, Rows.uptoBulkAll]
        rcases hd with ⟨_, e6⟩ | ⟨sp, e6⟩
        · subst e6; simp at hD; omega
        · rw [e6]
          have := length_le D
          simp only [Rows.uptoBulk]; omega

theorem own : ownKnob Try.prog.godebug = none := by kernel_rfl
theorem laid : laidOutB Try.prog = true := by kernel_rfl

set_option maxRecDepth 100000 in
theorem contract (H : Type) (enc : TypeId × Value → H) (W : World) (base : Nat) (args : Array Value) (ds gs : List (DataW H)) (before : List MemPlace)
    (hval : ∀ (j : Nat) t v, Try.f3.params[j]? = some t → args[j]? = some v → Value.okWide Try.prog W .any base t v)
    (hW : DataW.Whole enc Try.prog Try.f3.params.toList Rows.fnExactIsValidCountSpec.vars false W args.toList ds gs before) (hk : Rows.uptoSmall H (ds ++ gs) = true) :
    Calls Try.prog 3 args W fun e W' => ∃ v, e = .returned v ∧ Rows.fnExactIsValidCountSpec.post enc Try.prog Try.f3 false true false false W args v W' := by
  have hW' := hW
  obtain ⟨p, q, hA0, hV, rfl, hfz, hnd⟩ := hW
  have hA : DataW.TrodAll enc Try.prog W 0 (fun _ => true) true Try.f3.params.toList args.toList ds p := hA0
  rw [Try.params3] at hA hval
  obtain ⟨v0, vs0, d0, ds0, p0, q0, hargs, rfl, rfl, h0, r0⟩ := trodAll_cons hA
  obtain ⟨rfl, rfl, rfl⟩ := trodAll_nil r0
  obtain rfl : args = #[v0] := by cases args; simp_all
  obtain ⟨rfl, rfl⟩ := trodVars_none hV
  obtain ⟨a0, len0, cap0, rfl⟩ := okWide_slice Try.underlying22 (hval 0 22 v0 rfl rfl)
  clear hA0
  have h0k := h0
  obtain ⟨fuel, h0⟩ := h0
  have hc61 : Try.prog.cellsOf 61 = 2 := by kernel_rfl
  obtain ⟨m1, H1, pp, c, ess, L, D, r1, ro1, le1, ext1, hv1, hS, hd⟩ := reads_slice (es := 2) Try.underlying22 hc61 (by decide) R61.mono (reads61 (enc := enc) (W := W)) rel_none ro_none h0
  have hbulk : Rows.uptoBulk d0 ≤ 1048576 := by
    have : Rows.uptoBulkAll ([d0] ++ []) ≤ 1048576 := by simpa [Rows.uptoSmall] using hk
    simp only [List.append_nil, Rows.uptoBulkAll] at this
    omega
  have hD : Rows.uptoBulkAll D ≤ 1048576 := by
    rcases hd with ⟨_, e6⟩ | ⟨sp, e6⟩
    · subst e6; simp [Rows.uptoBulkAll]
    · have e6 : d0 = .slice D sp := e6
      rw [e6] at hbulk
      simp only [Rows.uptoBulk] at hbulk
      omega
  have hVC : VCs H1 pp c L := by
    have e : ess = L.map VC.cells := by
      apply List.ext_getElem?
      intro i
      rw [List.getElem?_map]
      cases hi : ess[i]? with
      | none =>
        have : L[i]? = none := by rw [List.getElem?_eq_none_iff] at hi ⊢; have := hS.l; omega
        rw [this]; rfl
      | some y =>
        have hlt : i < L.length := by have := (List.getElem?_eq_some_iff.1 hi).1; have := hS.l; omega
        obtain ⟨d, _, h1, _⟩ := hS.e i y _ hi (List.getElem?_eq_getElem hlt)
        rw [List.getElem?_eq_getElem hlt, h1]; rfl
    have hs := hS.s
    rw [e] at hs
    have hx : ∀ x, x ∈ L → Ints H1 (.slice x.p x.view.length x.c) x.view ∧ x.view.length ≤ 1048576 := by
      intro x hx
      obtain ⟨i, hi⟩ := List.getElem?_of_mem hx
      have hlt : i < ess.length := by have := (List.getElem?_eq_some_iff.1 hi).1; have := hS.l; omega
      obtain ⟨d, h1, _, h2, h3⟩ := hS.e i _ x (List.getElem?_eq_getElem hlt) hi
      have := part_le (List.mem_of_getElem? h1)
      exact ⟨h2, by omega⟩
    exact ⟨hs, fun x h => (hx x h).1, by have := length_le D; have := hS.d; omega, fun x h => (hx x h).2⟩
  have hcall := (c3 hVC).2 m1 W #[.slice a0 len0 cap0] r1 hv1
  have hlt : ∀ x ∈ p0, x.block < W.heap.size := fun x hx => by simpa using hW'.lt x (by simpa using hx)
  simp only [List.append_nil] at hW'
  refine hcall.mono fun e W' ⟨cv, v, H', m', he, ⟨hv, _⟩, hV2, _, _, hkeep, _⟩ => ?_
  subst he; subst hv
  have := bool_inv hV2
  subst this
  have hg := grown_of_keeps ro1 hkeep
  have hsame := same_of_keeps ro1 hkeep
  exact ⟨_, rfl, post_of_same (pa := p0) (pv := []) hW' (fun _ _ _ => (trodAll_cons_mk (shut_bool Try.underlying4 _) trodAll_mk0))
    (fun sp hsp => trodAll_mk1 (WideElems.Trod_stays laid (by kernel_rfl) (of_decide_eq_true (by kernel_rfl)) h0k (fun x hx => by
      have := hsame _ (hlt x hx)
      cases x with
      | cell b off => simp only [World.sameAt, World.cell?]; rw [show W'.heap[b]? = W.heap[b]? from this]
      | map b => exact this) (fun x hx => hsp x hx))) (fun _ _ => rfl) (by simp)
    (hg.frame _) hg.2.1 (ok_one (by kernel_rfl) rfl (okWide_bool_mk Try.underlying4 _))⟩

set_option maxRecDepth 100000 in
theorem lifted (os : Os) (started : os.Started) (H : Type) (enc : TypeId × Value → H) (F : Stop.Interp) :
    ReturnsInHanded {} Try.checked os 3 .any ((Rows.OpenSpec.upto Rows.fnExactIsValidCountSpec).pre6 enc Try.prog Try.f3 Rows.fnExactIsValidCountUptoRow.domain false) (((Rows.OpenSpec.upto Rows.fnExactIsValidCountSpec).at F).post enc Try.prog Try.f3 false true false false) := by
  refine returnsInHanded_of_cond (C := Try.checked) (s := Rows.OpenSpec.upto Rows.fnExactIsValidCountSpec) (k := Rows.uptoSmall) rfl own started (by kernel_rfl) Try.func3
    (OpenSpec.witness (enc := enc) (C := Try.checked) (s := Rows.OpenSpec.upto Rows.fnExactIsValidCountSpec) (k := Rows.uptoSmall) rfl false ⟨#[], #[.slice none 0 0], []⟩ 8 (by kernel_rfl) (by kernel_rfl) (by kernel_rfl)
      (x := ([.nil], [], [])) (by kernel_rfl) rfl (by kernel_rfl)) ?_
  intro W base args ds gs before hval hW _ hk _
  exact contract H enc W base args ds gs before hval hW hk

theorem over : Rows.fnExactIsValidCountUptoRow.holds Try.pinned (Rows.OpenSpec.upto Rows.fnExactIsValidCountSpec) :=
  OpenClaim.holds_of_cond 3 Try.f3 rfl rfl rfl rfl rfl rfl rfl ⟨rfl, rfl, rfl, rfl, rfl⟩ rfl rfl rfl rfl rfl (by kernel_rfl) Try.func3 (by kernel_rfl)
    (of_decide_eq_true (by kernel_rfl)) (by unfold Func.isWrapper; first | (rw [if_pos (by decide +kernel)]; kernel_rfl) | (rw [if_neg (by decide +kernel)]; exact ⟨rfl, rfl⟩))
    (fun os started H enc _ F => lifted os started H enc F)

theorem proved : Rows.FnExactIsValidCountUptoSaid :=
  over
end
end Go.Proofs.Ythdjiekgolgmfaa.l1
