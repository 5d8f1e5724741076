/-
  Plain laws of the functions that 'FnExactDistanceOf' reaches: valid counts, how often a view is in a count.
  No condition.
-/
import Derived.Test.YthdjiekgolgmfaaV2b
namespace Go.Pm
open Go.Am
set_option linter.unusedVariables false
set_option linter.unusedSimpArgs false

theorem goodAt_iff {l : List ViewCount} {k : Nat} {x y : ViewCount} (hy : 0 < k → l[k - 1]? = some y) : goodAt l k x ↔ 1 ≤ x.Times ∧ x.Times ≤ 1000000 ∧ x.View.length ≤ 24 ∧ (0 < k → lexC y.View x.View = -1) := by
  constructor
  · rintro ⟨h1, h2, h3, h4⟩; exact ⟨h1, h2, h3, fun h => h4 y h (hy h)⟩
  · rintro ⟨h1, h2, h3, h4⟩; exact ⟨h1, h2, h3, fun z h hz => by rw [hy h] at hz; cases hz; exact h4 h⟩
theorem prev_at {l : List ViewCount} {k : Nat} (hk : k < l.length) (hl : l.length ≤ 1048576) (h0 : 0 < k) : ix l (IntKind.i64.wrap ((k : Int) - 1)) = some (l[k - 1]'(by omega)) := by
  rw [wr64 (by omega) (by omega)]
  have : (k : Int) - 1 = ((k - 1 : Nat) : Int) := by omega
  rw [this, ix_at (by omega)]

theorem p_wGood (l : List ViewCount) (hl : l.length ≤ 1048576) (hv : ∀ x ∈ l, x.View.length ≤ 1048576) : ∃ b, F_spec_wGood l = some b ∧ (b = true ↔ GoodC l) := by
  unfold F_spec_wGood
  by_cases h3 : 3000 < (l.length : Int)
  · exact ⟨false, by simp [h3], by simp only [Bool.false_eq_true, false_iff]; rintro ⟨h, _⟩; omega⟩
  · simp only [h3, decide_false, Bool.false_eq_true, if_false]
    obtain ⟨b, hb, hp⟩ := rloop_post (σ := Unit) (β := Unit ⊕ Bool) (body := fun i15 s14 =>
      (ix l i15).bind fun x24 =>
      (((F_spec_l1In x24.Times 1 1000000).bind fun z37 =>
      if (!z37) = true then (
      some true) else (
      if decide (24 < (x24.View.length : Int)) = true then (
      some true) else (
      if decide (0 < i15) = true then (
      (ix l (IntKind.i64.wrap (i15 - 1))).bind fun x51 =>
      (F_spec_wLess x51.View x24.View).bind fun z58 =>
      some (!z58)) else (
      some false))) : Option (Bool)).bind fun (x35 : Bool) =>
      if x35 = true then (
      some (.out (.inr false))) else (
      some (.go ())))) (stop := fun s14 => .inl ()) (m := l.length) (i0 := 0) (s0 := ()) (fun n _ => ∀ k x, k < n → l[k]? = some x → goodAt l k x)
      (fun b => Sum.elim (fun _ => ∀ k x, l[k]? = some x → goodAt l k x) (fun b => b = false ∧ ¬ ∀ k x, l[k]? = some x → goodAt l k x) b) (fun k x h => by omega)
      (by
        rintro k s hk hI
        rw [Int.zero_add]
        have inner : ∃ b, ((F_spec_l1In l[k].Times 1 1000000).bind fun z37 =>
            if (!z37) = true then (
            some true) else (
            if decide (24 < (l[k].View.length : Int)) = true then (
            some true) else (
            if decide (0 < (k : Int)) = true then (
            (ix l (IntKind.i64.wrap ((k : Int) - 1))).bind fun x51 =>
            (F_spec_wLess x51.View l[k].View).bind fun z58 =>
            some (!z58)) else (
            some false)))) = some b ∧ (b = false ↔ goodAt l k l[k]) := by
          rw [p_l1In, Option.bind_some]
          by_cases h1 : 1 ≤ l[k].Times ∧ l[k].Times ≤ 1000000
          · by_cases h2 : 24 < (l[k].View.length : Int)
            · refine ⟨true, by simp [h1, h2], ?_⟩
              simp only [Bool.true_eq_false, false_iff]
              rintro ⟨_, _, h, _⟩; omega
            · by_cases h0 : 0 < k
              · rw [prev_at hk hl h0]
                have hm := hv (l[k - 1]'(by omega)) (List.getElem_mem _)
                have hm2 := hv l[k] (List.getElem_mem _)
                refine ⟨!decide (lexC (l[k - 1]'(by omega)).View l[k].View = -1), by simp [h1, h2, h0, p_wLess _ _ hm hm2], ?_⟩
                rw [goodAt_iff (y := l[k - 1]'(by omega)) (fun _ => List.getElem?_eq_getElem _)]
                simp [h1.1, h1.2, h0]; omega
              · refine ⟨false, by simp [h1, h2, h0], ?_⟩
                simp only [true_iff]
                exact ⟨h1.1, h1.2, by omega, fun y h => absurd h h0⟩
          · refine ⟨true, ?_, ?_⟩
            · have : (decide (1 ≤ l[k].Times) && decide (l[k].Times ≤ 1000000)) = false := by simp; omega
              simp [this]
            · simp only [Bool.true_eq_false, false_iff]
              rintro ⟨a, b, _⟩; exact h1 ⟨a, b⟩
        obtain ⟨b, hb, hb2⟩ := inner
        simp only [ix_at hk, Option.bind_some]
        rw [hb, Option.bind_some]
        cases b with
        | true =>
          refine .inr ⟨.inr false, rfl, rfl, fun h => ?_⟩
          have := hb2.2 (h k _ (List.getElem?_eq_getElem hk))
          cases this
        | false =>
          refine .inl ⟨(), rfl, fun j x hj hx => ?_⟩
          by_cases hjk : j = k
          · subst hjk
            rw [List.getElem?_eq_getElem hk] at hx; cases hx
            exact hb2.1 rfl
          · exact hI j x (by omega) hx)
      (by
        rintro s hI k x hx
        exact hI k x (List.getElem?_eq_some_iff.1 hx).1 hx)
    rw [hb, Option.bind_some]
    cases b with
    | inl u =>
      simp only [Sum.elim_inl] at hp ⊢
      have hT : ∀ x ∈ l, 1 ≤ x.Times ∧ x.Times ≤ 1000000 := by
        intro x hx
        obtain ⟨k, hk⟩ := List.getElem?_of_mem hx
        have := hp k x hk
        exact ⟨this.1, this.2.1⟩
      rw [p_wSum (by omega) hT, Option.bind_some]
      refine ⟨_, rfl, ?_⟩
      simp only [decide_eq_true_eq]
      exact ⟨fun h => ⟨by omega, hp, h⟩, fun h => h.2.2⟩
    | inr b =>
      simp only [Sum.elim_inr] at hp ⊢
      exact ⟨b, rfl, by rw [hp.1]; simp only [Bool.false_eq_true, false_iff]; exact fun h => hp.2 h.2.1⟩

theorem p_isCount (l : List ViewCount) (hl : l.length ≤ 1048576) (hv : ∀ x ∈ l, x.View.length ≤ 1048576) : ∃ b, F_impl_isCount l = some b ∧ (b = true ↔ GoodC l) := by
  unfold F_impl_isCount
  by_cases h3 : 3000 < (l.length : Int)
  · exact ⟨false, by simp [h3], by simp only [Bool.false_eq_true, false_iff]; rintro ⟨h, _⟩; omega⟩
  · simp only [h3, decide_false, Bool.false_eq_true, if_false]
    have mono : ∀ k, k ≤ l.length → (∀ x ∈ l, 1 ≤ x.Times) → sumT (l.take k) ≤ sumT l := by
      intro k hk h
      have e : sumT l = sumT (l.take k) + sumT (l.drop k) := by
        unfold sumT
        rw [← List.sum_append, ← List.map_append, List.take_append_drop]
      have := sumT_nonneg (l := l.drop k) fun x hx => by have := h x (List.mem_of_mem_drop hx); omega
      omega
    obtain ⟨b, hb, hp⟩ := rloop_post (σ := Int) (β := Unit ⊕ Bool) (body := fun i73 s72 =>
      (ix l i73).bind fun x82 =>
      ((if decide (24 < (x82.View.length : Int)) = true then (
      some true) else (
      (F_impl_within x82.Times 1 (IntKind.i64.wrap (1000000 - s72))).bind fun z100 =>
      if (!z100) = true then (
      some true) else (
      if decide (0 < i73) = true then (
      (ix l (IntKind.i64.wrap (i73 - 1))).bind fun x109 =>
      (F_slices_Compare_int_int x109.View x82.View).bind fun z116 =>
      some (decide (0 ≤ z116))) else (
      some false))) : Option (Bool)).bind fun (x93 : Bool) =>
      if x93 = true then (
      some (.out (.inr false))) else (
      some (.go (IntKind.i64.wrap (s72 + x82.Times)))))) (stop := fun s72 => .inl ()) (m := l.length) (i0 := 0) (s0 := 0)
      (fun n s => s = sumT (l.take n) ∧ 0 ≤ s ∧ s ≤ 1000000 ∧ ∀ k x, k < n → l[k]? = some x → goodAt l k x)
      (fun b => Sum.elim (fun _ => GoodC l) (fun b => b = false ∧ ¬ GoodC l) b) ⟨by simp [sumT], by omega, by omega, fun k x h => by omega⟩
      (by
        rintro k s hk ⟨hs, h0, h1, hI⟩
        rw [Int.zero_add]
        have inner : ∃ b, (if decide (24 < (l[k].View.length : Int)) = true then (
            some true) else (
            (F_impl_within l[k].Times 1 (IntKind.i64.wrap (1000000 - s))).bind fun z100 =>
            if (!z100) = true then (
            some true) else (
            if decide (0 < (k : Int)) = true then (
            (ix l (IntKind.i64.wrap ((k : Int) - 1))).bind fun x109 =>
            (F_slices_Compare_int_int x109.View l[k].View).bind fun z116 =>
            some (decide (0 ≤ z116))) else (
            some false)))) = some b ∧ (b = false ↔ goodAt l k l[k] ∧ l[k].Times ≤ 1000000 - s) := by
          rw [wr64 (by omega) (by omega), p_within, Option.bind_some]
          by_cases h2 : 24 < (l[k].View.length : Int)
          · refine ⟨true, by simp [h2], ?_⟩
            simp only [Bool.true_eq_false, false_iff]
            rintro ⟨⟨_, _, h, _⟩, _⟩; omega
          · by_cases h4 : 1 ≤ l[k].Times ∧ l[k].Times ≤ 1000000 - s
            · by_cases h5 : 0 < k
              · rw [prev_at hk hl h5]
                have hm := hv (l[k - 1]'(by omega)) (List.getElem_mem _)
                have hm2 := hv l[k] (List.getElem_mem _)
                refine ⟨decide (0 ≤ lexC (l[k - 1]'(by omega)).View l[k].View), by simp [h4, h2, h5, p_Compare _ _ hm hm2], ?_⟩
                rw [goodAt_iff (y := l[k - 1]'(by omega)) (fun _ => List.getElem?_eq_getElem _)]
                have hr := lexC_rng (l[k - 1]'(by omega)).View l[k].View
                simp [h4.1, h4.2, h5]; omega
              · refine ⟨false, by simp [h4, h2, h5], ?_⟩
                simp only [true_iff]
                exact ⟨⟨h4.1, by omega, by omega, fun y h => absurd h h5⟩, h4.2⟩
            · refine ⟨true, ?_, ?_⟩
              · have : (decide (1 ≤ l[k].Times) && decide (l[k].Times ≤ 1000000 - s)) = false := by simp; omega
                simp [this]
              · simp only [Bool.true_eq_false, false_iff]
                rintro ⟨⟨a, b, _⟩, c⟩; exact h4 ⟨a, c⟩
        obtain ⟨b, hb, hb2⟩ := inner
        simp only [ix_at hk, Option.bind_some]
        rw [hb, Option.bind_some]
        cases b with
        | true =>
          refine .inr ⟨.inr false, rfl, rfl, fun h => ?_⟩
          have hT : ∀ x ∈ l, 1 ≤ x.Times := by
            intro x hx
            obtain ⟨j, hj⟩ := List.getElem?_of_mem hx
            exact (h.2.1 j x hj).1
          have h6 := mono (k + 1) (by omega) hT
          rw [sumT_take hk, ← hs] at h6
          have := hb2.2 ⟨h.2.1 k _ (List.getElem?_eq_getElem hk), by have := h.2.2; omega⟩
          cases this
        | false =>
          obtain ⟨h6, h7⟩ := hb2.1 rfl
          have h8 := h6.1
          refine .inl ⟨s + l[k].Times, by simp only [Bool.false_eq_true, if_false]; rw [wr64 (by omega) (by omega)], by rw [sumT_take hk, hs], by omega, by omega, fun j x hj hx => ?_⟩
          by_cases hjk : j = k
          · subst hjk
            rw [List.getElem?_eq_getElem hk] at hx; cases hx
            exact h6
          · exact hI j x (by omega) hx)
      (by
        rintro s ⟨hs, h0, h1, hI⟩
        rw [List.take_length] at hs
        exact ⟨by omega, fun k x hx => hI k x (List.getElem?_eq_some_iff.1 hx).1 hx, by omega⟩)
    rw [hb, Option.bind_some]
    cases b with
    | inl u => exact ⟨true, rfl, by simpa using hp⟩
    | inr b =>
      simp only [Sum.elim_inr] at hp ⊢
      exact ⟨b, rfl, by rw [hp.1]; simp only [Bool.false_eq_true, false_iff]; exact hp.2⟩
end Go.Pm
