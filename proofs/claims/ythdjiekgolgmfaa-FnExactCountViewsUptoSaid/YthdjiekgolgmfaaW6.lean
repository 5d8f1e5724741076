/-
  The plain law of 'FnExactCountViews': the plain function answers true.
  Its conditions: the sizes of what is given are below 1048576.
-/
import Derived.Test.YthdjiekgolgmfaaXc
namespace Go.Pm
open Go.Am
set_option linter.unusedVariables false
set_option linter.unusedSimpArgs false

theorem p_szIntSS {l : List (List Int)} {n : Int} (h0 : 0 ≤ n) (h1 : n ≤ 1048576) (hl : l.length ≤ 1048576) (hv : ∀ x ∈ l, x.length ≤ 1048576) : ∃ z, F_laws_szIntSS l n = some z ∧ z ≤ 1048576 := by
  unfold F_laws_szIntSS
  rw [wr64 (by omega) (by omega)]
  by_cases h : n - (l.length : Int) < 0
  · exact ⟨-1, by simp [h], by omega⟩
  · simp only [h, decide_false, Bool.false_eq_true, if_false]
    obtain ⟨b, hb, hp⟩ := cloop_post (β := Int ⊕ Int) (σ := Int × Int) (step := fun s13 =>
      if decide (s13.2 < (l.length : Int)) = true then (
      (ix l s13.2).bind fun x24 =>
      (F_laws_szIntS x24 s13.1).bind fun z31 =>
      if decide (z31 < 0) = true then (
      some (.out (.inr (-1)))) else (
      some (.go (z31, IntKind.i64.wrap (s13.2 + 1))))) else (
      some (.out (.inl s13.1)))) (s0 := (n - (l.length : Int), 0)) l.length (fun k s => s.2 = (k : Int) ∧ 0 ≤ s.1 ∧ s.1 ≤ 1048576)
      (fun b => Sum.elim (fun z => z ≤ 1048576) (fun z => z ≤ 1048576) b) ⟨rfl, by omega, by show n - (l.length : Int) ≤ _; omega⟩
      (by
        rintro k ⟨a, b⟩ hk ⟨e, h2, h3⟩
        simp only at e h2 h3
        subst e
        obtain ⟨z, hz, hz1⟩ := p_szIntS (l := l[k]) h2 h3 (hv _ (List.getElem_mem hk))
        have hd : decide ((k : Int) < (l.length : Int)) = true := by simpa using hk
        simp only [hd, if_true, ix_at hk, Option.bind_some, hz]
        by_cases hz0 : z < 0
        · exact .inr ⟨.inr (-1), by simp [hz0], by simp⟩
        · exact .inl ⟨(z, (k : Int) + 1), by simp only [hz0, decide_false, Bool.false_eq_true, if_false]; rw [wr64 (by omega) (by omega)], by simp, by omega, hz1⟩)
      (by
        rintro ⟨a, b⟩ ⟨e, h2, h3⟩
        simp only at e h2 h3
        subst e
        exact ⟨.inl a, by simp, h3⟩)
    rw [hb, Option.bind_some]
    cases b with
    | inl z => exact ⟨z, rfl, hp⟩
    | inr z => exact ⟨z, rfl, hp⟩
theorem p_toIntSS {l : List (List Int)} (hl : l.length ≤ 1048576) (hv : ∀ x ∈ l, x.length ≤ 1048576) : F_laws_toIntSS l = some l := by
  unfold F_laws_toIntSS
  rw [gd_t (by omega), Option.bind_some]
  obtain ⟨b, hb, hp⟩ := cloop_post (β := List (List Int)) (σ := List (List Int) × Int) (step := fun s47 =>
    if decide (s47.2 < (l.length : Int)) = true then (
    (ix l s47.2).bind fun x58 =>
    (F_laws_toIntS x58).bind fun z65 =>
    (ix s47.1 s47.2).bind fun x68 =>
    some (.go (s47.1.set s47.2.toNat z65, IntKind.i64.wrap (s47.2 + 1)))) else (
    some (.out s47.1))) (s0 := (List.replicate l.length [], 0)) l.length (fun k s => s.2 = (k : Int) ∧ s.1.length = l.length ∧ s.1.take k = l.take k)
    (fun b => b = l) ⟨rfl, by simp, by simp⟩
    (by
      rintro k ⟨a, b⟩ hk ⟨e, h2, h3⟩
      simp only at e h2 h3
      subst e
      have hd : decide ((k : Int) < (l.length : Int)) = true := by simpa using hk
      refine .inl ⟨(a.set k l[k], (k : Int) + 1), ?_, by simp, by simp [h2], set_step hk h2 h3⟩
      simp only [hd, if_true, ix_at hk, Option.bind_some, p_toIntS (hv _ (List.getElem_mem hk)), ix_at (l := a) (k := k) (by omega)]
      rw [wr64 (by omega) (by omega)]
      simp)
    (by
      rintro ⟨a, b⟩ ⟨e, h2, h3⟩
      simp only at e h2 h3
      subst e
      refine ⟨a, by simp, ?_⟩
      rw [List.take_of_length_le (by omega), List.take_of_length_le (Nat.le_refl _)] at h3
      exact h3)
  rw [hb, Option.bind_some, hp]
theorem p_eqIntSS {l : List (List Int)} (hl : l.length ≤ 1048576) (hv : ∀ x ∈ l, x.length ≤ 1048576) : F_laws_eqIntSS l l = some true := by
  unfold F_laws_eqIntSS
  simp only [bne_self_eq_false, Bool.false_eq_true, if_false]
  obtain ⟨b, hb, hp⟩ := cloop_post (β := Unit ⊕ Bool) (σ := Int) (step := fun s14 =>
    if decide (s14 < (l.length : Int)) = true then (
    (ix l s14).bind fun x25 =>
    (ix l s14).bind fun x32 =>
    (F_laws_eqIntS x25 x32).bind fun z39 =>
    if (!z39) = true then (
    some (.out (.inr false))) else (
    some (.go (IntKind.i64.wrap (s14 + 1))))) else (
    some (.out (.inl ())))) (s0 := 0) l.length (fun k s => s = (k : Int)) (fun b => b = .inl ()) rfl
    (by
      rintro k a hk e
      subst e
      have hd : decide ((k : Int) < (l.length : Int)) = true := by simpa using hk
      refine .inl ⟨(k : Int) + 1, ?_, by simp⟩
      simp only [hd, if_true, ix_at hk, Option.bind_some, p_eqIntS (hv _ (List.getElem_mem hk)), Bool.not_true, Bool.false_eq_true, if_false]
      rw [wr64 (by omega) (by omega)])
    (by
      rintro a e
      subst e
      exact ⟨_, by simp, rfl⟩)
  rw [hb, Option.bind_some, hp]; rfl
theorem p_markSS (l : List (List Int)) (hl : l.length ≤ 1048576) (hv : ∀ x ∈ l, x.length ≤ 1048576) :
    ∃ z r, F_laws_markIntSS__io0 l 1 = some (z, r) ∧ 0 ≤ z := by
  unfold F_laws_markIntSS__io0
  obtain ⟨x, e, r, z, rfl, h1⟩ := cloop_post (σ := (List (List Int)) × Int × Int) (β := ((List (List Int)) × Int)) (step := fun s32 =>
    if decide (s32.2.2 < (s32.1.length : Int)) = true then (
    (ix s32.1 s32.2.2).bind fun x43 =>
    (F_laws_markIntS__io0 x43 s32.2.1).bind fun z50 =>
    some (.go (s32.1.set s32.2.2.toNat z50.2, z50.1, IntKind.i64.wrap (s32.2.2 + 1)))) else (
    some (.out (s32.1, s32.2.1)))) (s0 := (l, 1, 0)) l.length
    (fun i s => ∃ (r : List (List Int)) (k : Int), s = (r, k, (i : Int)) ∧ r.length = l.length ∧ (∀ x ∈ r, x.length ≤ 1048576) ∧ 1 ≤ k ∧ k ≤ 1 + (i : Int) * 1048576)
    (fun x => ∃ (r : List (List Int)) (k : Int), x = (r, k) ∧ 0 ≤ k)
    ⟨l, 1, rfl, rfl, hv, by omega, by omega⟩
    (by
      rintro i s hi ⟨r, k, rfl, h1, h2, h3, h4⟩
      have hir : i < r.length := by omega
      have hd : decide ((i : Int) < (r.length : Int)) = true := by simp only [decide_eq_true_eq]; omega
      have hvi := h2 r[i] (List.getElem_mem hir)
      obtain ⟨m, m1, m2, m3⟩ := p_markI r[i] k (by omega) (by omega) hvi
      refine .inl ⟨(r.set i m, k + (r[i].length : Int), ((i + 1 : Nat) : Int)), ?_, r.set i m, k + (r[i].length : Int), rfl, by simp [h1], fun x hx => ?_, by omega, ?_⟩
      · simp only [hd, if_true, ix_at hir, Option.bind_some, m1, Int.toNat_natCast]
        rw [wr64 (n := (i : Int) + 1) (by omega) (by omega)]
        rfl
      · rcases List.mem_or_eq_of_mem_set hx with h | h
        · exact h2 x h
        · rw [h, m2]; exact hvi
      · push_cast; omega)
    (by
      rintro s ⟨r, k, rfl, h1, h2, h3, h4⟩
      exact ⟨(r, k), by simp [h1], r, k, rfl, by omega⟩)
  rw [e, Option.bind_some]
  exact ⟨z, r, rfl, h1⟩

def oneL (l : List (List Int)) : List ViewCount := l.map fun v => ⟨v, 1⟩
theorem oneL_len (l : List (List Int)) : (oneL l).length = l.length := by simp [oneL]
theorem oneL_at {l : List (List Int)} {k : Nat} (h : k < l.length) : (oneL l)[k]'(by rw [oneL_len]; exact h) = ⟨l[k], 1⟩ := by simp [oneL]
theorem oneL_sum (l : List (List Int)) : sumT (oneL l) = (l.length : Int) := by
  induction l with
  | nil => simp [oneL, sumT]
  | cons x l ih =>
    simp only [oneL, sumT, List.map_cons, List.sum_cons, List.length_cons] at ih ⊢
    rw [ih]; push_cast; omega
theorem oneL_mem {l : List (List Int)} {x : ViewCount} (h : x ∈ oneL l) : x.View ∈ l ∧ x.Times = 1 := by
  obtain ⟨v, hv, rfl⟩ := List.mem_map.1 h
  exact ⟨hv, rfl⟩

theorem p_count (l : List (List Int)) (hl : l.length ≤ 1048576) (hv : ∀ x ∈ l, x.length ≤ 1048576) :
    ∃ r t, F_spec_CountViews l = some (r, t) ∧ F_impl_CountViews l = some (r, t) ∧ r.length ≤ 3000 ∧ ∀ x ∈ r, x.View.length ≤ 1048576 := by
  unfold F_spec_CountViews F_impl_CountViews
  by_cases hg : 3000 < (l.length : Int)
  · have d : decide (3000 < (l.length : Int)) = true := by simpa using hg
    simp only [d, if_true]
    exact ⟨[], false, rfl, rfl, by simp, fun x hx => by simp at hx⟩
  · have d : decide (3000 < (l.length : Int)) = false := by simpa using hg
    simp only [d, Bool.false_eq_true, if_false]
    have hl3 : l.length ≤ 3000 := by omega
    obtain ⟨out, e1, c1, c2, c3, c4⟩ := rloop_post (σ := (List ViewCount)) (β := (List ViewCount)) (body := fun i15 s14 =>
      (ix l i15).bind fun x24 =>
      (F_spec_wAdd__mv0 s14 x24 1).bind fun z31 =>
      some (.go z31)) (stop := fun s14 => s14) (m := l.length) (i0 := 0) (s0 := [])
      (fun k s => Canon s (cnt ((oneL l).take k)) ∧ sumT s = (k : Int) ∧ s.length ≤ k ∧ ∀ x ∈ s, x.View.length ≤ 1048576)
      (fun s => Canon s (cnt (oneL l)) ∧ sumT s = (l.length : Int) ∧ s.length ≤ l.length ∧ ∀ x ∈ s, x.View.length ≤ 1048576)
      ⟨by rw [List.take_zero]; exact canon_nil, by simp [sumT], Nat.le_refl _, fun x hx => by simp at hx⟩
      (by
        rintro k s hk ⟨q1, q2, q3, q4⟩
        have hk' : k < (oneL l).length := by rw [oneL_len]; exact hk
        have hvk := hv l[k] (List.getElem_mem hk)
        obtain ⟨s2, w1, w2, w3, w4, w5⟩ := p_wAdd s l[k] 1 q1 (by omega) q4 hvk (by omega) (by omega)
        rw [Int.zero_add]
        refine .inl ⟨s2, ?_, w2.congr fun v => by rw [cnt_take hk', oneL_at hk], by rw [w3, q2]; push_cast; rfl, by omega, fun x hx => ?_⟩
        · simp only [ix_at hk, Option.bind_some, w1]
        · rcases w5 x hx with h | ⟨y, hy, h⟩
          · rw [h]; exact hvk
          · rw [h]; exact q4 y hy)
      (by
        rintro s ⟨q1, q2, q3, q4⟩
        have e : (oneL l).take l.length = oneL l := List.take_of_length_le (by rw [oneL_len]; exact Nat.le_refl _)
        rw [e] at q1
        exact ⟨q1, q2, q3, q4⟩)
    rw [e1, Option.bind_some]
    have e2 : rloop (σ := (List ViewCount)) (β := (List ViewCount)) (fun i9 s8 =>
      (ix l i9).bind fun x18 =>
      gd ((s8.length + 1) * 32 ≤ 140737488355328 ∧ s8.length + 1 ≤ 4611686018427387904) <|
      some (.go (s8 ++ [(ViewCount.mk x18 1)]))) (fun s8 => s8) (l.length) 0 [] = some (oneL l) := by
      refine some_of (rloop_post (fun k s => s = (oneL l).take k) _ (by simp) ?_ (fun s h => by rw [h]; exact List.take_of_length_le (by rw [oneL_len]; exact Nat.le_refl _)))
      rintro k s hk rfl
      have hk' : k < (oneL l).length := by rw [oneL_len]; exact hk
      rw [Int.zero_add]
      refine .inl ⟨_, ?_, rfl⟩
      simp only [ix_at hk, Option.bind_some]
      rw [gd_t (by simp; omega), List.take_succ_eq_append_getElem hk', oneL_at hk]
    have ol := oneL_sum l
    obtain ⟨o2, o3, o4, o5, o6, o7⟩ := p_gathered (oneL l) (by rw [oneL_len]; exact hl) (fun x hx => hv _ (oneL_mem hx).1) (fun x hx => by rw [(oneL_mem hx).2]; omega) (by omega)
    have eo : out = o2 := canon_uniq c1 o3
    subst eo
    obtain ⟨g, g1, g2⟩ := p_wGood out (by omega) c4
    unfold F_impl_countedViews F_spec_wIf
    rw [e2, Option.bind_some, g1]
    rcases o7 with ⟨k1, k2⟩ | ⟨k1, k2⟩
    · have : g = true := g2.2 k1
      subst this
      rw [k2]
      exact ⟨out, true, rfl, rfl, by omega, c4⟩
    · have : g = false := by
        cases g with
        | false => rfl
        | true => exact absurd (g2.1 rfl) k1
      subst this
      rw [k2]
      exact ⟨[], false, rfl, rfl, by simp, fun x hx => by simp at hx⟩

theorem totV_le {l : List ViewCount} {c : Int} (h : ∀ x ∈ l, (x.View.length : Int) ≤ c) : totV l ≤ l.length * (c + 1) := by
  induction l with
  | nil => simp [totV]
  | cons x l ih =>
    have h1 := h x (List.mem_cons_self ..)
    have h2 := ih fun y hy => h y (List.mem_cons_of_mem _ hy)
    simp only [totV, List.map_cons, List.sum_cons, List.length_cons] at h2 ⊢
    push_cast
    rw [Int.add_mul]; omega
theorem totV_small {l : List ViewCount} (hl : l.length ≤ 1048576) (hv : ∀ x ∈ l, x.View.length ≤ 1048576) : totV l ≤ 1152921504606846970 := by
  have h1 := totV_le (l := l) (c := 1048576) fun x hx => by have := hv x hx; omega
  have h2 : (l.length : Int) * (1048576 + 1) ≤ 1048576 * (1048576 + 1) := Int.mul_le_mul_of_nonneg_right (by omega) (by omega)
  omega
theorem law6 (l : List (List Int)) (hl : l.length ≤ 1048576) (hv : ∀ x ∈ l, x.length ≤ 1048576) : F_laws_FnExactCountViews l = some true := by
  unfold F_laws_FnExactCountViews
  obtain ⟨z1, h1, h2⟩ := p_szIntSS (l := l) (n := 1048576) (by omega) (by omega) hl hv
  rw [h1, Option.bind_some]
  by_cases c1 : z1 < 0
  · simp [c1]
  · simp only [c1, decide_false, Bool.false_eq_true, if_false, p_toIntSS hl hv, Option.bind_some]
    obtain ⟨r, t, r1, r2, r3, rv⟩ := p_count l hl hv
    have rl : r.length ≤ 1048576 := by omega
    obtain ⟨z, m, m1, m2⟩ := p_markSS l hl hv
    obtain ⟨n, n1, n2, n3, n4⟩ := p_markV r rl rv (totV_small rl rv)
    have hh := p_heldV n (1 + totV r) (by omega) n4 (by have := totV_small rl rv; omega) n3
    have t2 := totV_nonneg r
    have q1 : ¬ (z < 0) := by omega
    have q2 : ¬ (1 + totV r < 0) := by omega
    rw [r1, r2]
    simp [p_eqViewCountS rl rv, p_eqIntSS hl hv, m1, n1, hh, q1, q2]
end Go.Pm
