/-
  Plain laws of the functions that 'FnExactDistanceOf' reaches: how often a view is in a count; the greatest common divisor; the distance.
  No condition.
-/
import Derived.Test.YthdjiekgolgmfaaV2c
namespace Go.Pm
open Go.Am
set_option linter.unusedVariables false
set_option linter.unusedSimpArgs false

theorem p_l1Same (a b : List Int) (ha : a.length ≤ 1048576) : F_spec_l1Same a b = some (decide (a = b)) := by
  unfold F_spec_l1Same
  by_cases hl : a.length = b.length
  · have e : ((a.length : Int) != (b.length : Int)) = false := by simp [hl]
    simp only [e, Bool.false_eq_true, if_false]
    obtain ⟨r, hb, hp⟩ := rloop_post (σ := Unit) (β := Unit ⊕ Bool) (body := fun i16 s15 =>
      (ix a i16).bind fun x25 =>
      (ix b i16).bind fun x32 =>
      if (x25 != x32) = true then (
      some (.out (.inr false))) else (
      some (.go ()))) (stop := fun s15 => .inl ()) (m := a.length) (i0 := 0) (s0 := ()) (fun k _ => a.take k = b.take k)
      (fun r => Sum.elim (fun _ => a = b) (fun r => r = false ∧ a ≠ b) r) (by simp)
      (by
        rintro k s hk hI
        have hk2 : k < b.length := by omega
        rw [Int.zero_add]
        simp only [ix_at hk, ix_at hk2, Option.bind_some]
        by_cases he : a[k] = b[k]
        · exact .inl ⟨(), by simp [he], take_step hk hk2 hI he⟩
        · exact .inr ⟨.inr false, by simp [he], rfl, fun h => by subst h; exact he rfl⟩)
      (by
        rintro s hI
        rw [List.take_length, hl, List.take_length] at hI
        exact hI)
    rw [hb, Option.bind_some]
    cases r with
    | inl u => have hp : a = b := hp; simp [hp]
    | inr r =>
      obtain ⟨h1, h2⟩ : r = false ∧ a ≠ b := hp
      simp [h1, h2]
  · have e : ((a.length : Int) != (b.length : Int)) = true := by simp; omega
    have : a ≠ b := fun h => hl (by rw [h])
    simp [e, this]

/-- How often a view is in a count. -/
def IsT (l : List ViewCount) (v : List Int) (t : Int) : Prop := (∃ (i : Nat) (x : ViewCount), l[i]? = some x ∧ x.View = v ∧ t = x.Times) ∨ ((∀ x ∈ l, x.View ≠ v) ∧ t = 0)
theorem good_sorted {l : List ViewCount} (h : GoodC l) : ∀ (j i : Nat) (x y : ViewCount), i < j → l[i]? = some x → l[j]? = some y → lexC x.View y.View = -1 := by
  intro j
  induction j with
  | zero => intro i x y hi; omega
  | succ j ih =>
    intro i x y hi hx hy
    have hj : j < l.length := by have := (List.getElem?_eq_some_iff.1 hy).1; omega
    have h1 := (h.2.1 (j + 1) y hy).2.2.2 l[j] (by omega) (by simp [List.getElem?_eq_getElem hj])
    by_cases hij : i = j
    · subst hij
      rw [List.getElem?_eq_getElem hj] at hx; cases hx
      exact h1
    · exact lexC_trans (ih i x l[j] (by omega) hx (List.getElem?_eq_getElem hj)) h1
theorem IsT_uniq {l : List ViewCount} (h : GoodC l) {v : List Int} {s t : Int} (h1 : IsT l v s) (h2 : IsT l v t) : s = t := by
  rcases h1 with ⟨i, x, a1, a2, a3⟩ | ⟨a1, a2⟩ <;> rcases h2 with ⟨j, y, b1, b2, b3⟩ | ⟨b1, b2⟩
  · rcases Nat.lt_trichotomy i j with hij | hij | hij
    · have := good_sorted h j i x y hij a1 b1
      rw [a2, b2, lexC_self] at this; omega
    · subst hij
      rw [a1] at b1; cases b1
      rw [a3, b3]
    · have := good_sorted h i j y x hij b1 a1
      rw [a2, b2, lexC_self] at this; omega
  · exact absurd a2 (b1 x (List.mem_of_getElem? a1))
  · exact absurd b2 (a1 y (List.mem_of_getElem? b1))
  · rw [a2, b2]

theorem p_wTimes (l : List ViewCount) (v : List Int) (hv : ∀ x ∈ l, x.View.length ≤ 1048576) : ∃ t, F_spec_wTimes l v = some t ∧ IsT l v t := by
  unfold F_spec_wTimes
  obtain ⟨r, hb, hp⟩ := rloop_post (σ := Unit) (β := Unit ⊕ Int) (body := fun i9 s8 =>
    (ix l i9).bind fun x18 =>
    (F_spec_l1Same x18.View v).bind fun z25 =>
    if z25 = true then (
    some (.out (.inr x18.Times))) else (
    some (.go ()))) (stop := fun s8 => .inl ()) (m := l.length) (i0 := 0) (s0 := ()) (fun n _ => ∀ k x, k < n → l[k]? = some x → x.View ≠ v)
    (fun r => Sum.elim (fun _ => IsT l v 0) (fun r => IsT l v r) r) (fun k x h => by omega)
    (by
      rintro k s hk hI
      rw [Int.zero_add]
      simp only [ix_at hk, Option.bind_some, p_l1Same _ _ (hv l[k] (List.getElem_mem hk))]
      by_cases he : l[k].View = v
      · exact .inr ⟨.inr l[k].Times, by simp [he], .inl ⟨k, l[k], List.getElem?_eq_getElem hk, he, rfl⟩⟩
      · refine .inl ⟨(), by simp [he], fun j x hj hx => ?_⟩
        by_cases hjk : j = k
        · subst hjk
          rw [List.getElem?_eq_getElem hk] at hx; cases hx; exact he
        · exact hI j x (by omega) hx)
    (by
      rintro s hI
      refine .inr ⟨fun x hx => ?_, rfl⟩
      obtain ⟨k, hk⟩ := List.getElem?_of_mem hx
      exact hI k x (List.getElem?_eq_some_iff.1 hk).1 hk)
  rw [hb, Option.bind_some]
  cases r with
  | inl u => exact ⟨0, rfl, hp⟩
  | inr r => exact ⟨r, rfl, hp⟩

theorem mid_eq {lo hi n : Nat} (h : lo ≤ hi) (hn : hi ≤ n) (hs : n ≤ 1048576) : IntKind.i64.wrap ((IntKind.u64.wrap (IntKind.i64.wrap ((lo : Int) + (hi : Int)))).fdiv 2) = (((lo + hi) / 2 : Nat) : Int) := by
  rw [wr64 (n := (lo : Int) + hi) (by omega) (by omega), wrU (by omega) (by omega)]
  have : ((lo : Int) + (hi : Int)).fdiv 2 = (((lo + hi) / 2 : Nat) : Int) := by
    rw [Int.fdiv_eq_ediv_of_nonneg _ (by omega)]; omega
  rw [this, wr64 (by omega) (by omega)]
theorem p_timesOf1 (x : ViewCount) (v : List Int) (h : x.View.length ≤ 1048576) (hv : v.length ≤ 1048576) : F_impl_timesOf_1 x v = some (lexC x.View v) := by
  unfold F_impl_timesOf_1
  rw [p_Compare _ _ h hv]; rfl
theorem p_bsearch (l : List ViewCount) (v : List Int) (hg : GoodC l) (hl : l.length ≤ 1048576) (hv : ∀ x ∈ l, x.View.length ≤ 1048576) (hw : v.length ≤ 1048576) :
    ∃ k : Nat, (∀ (i : Nat) (x : ViewCount), i < k → l[i]? = some x → lexC x.View v = -1) ∧ (∀ (i : Nat) (x : ViewCount), k ≤ i → l[i]? = some x → lexC x.View v ≠ -1) ∧
      F_slices_BinarySearchFunc_impl_ViewCount_impl_ViewCount_int__impl_timesOf_1 l v = some ((k : Int), match l[k]? with | some x => decide (lexC x.View v = 0) | none => false) := by
  unfold F_slices_BinarySearchFunc_impl_ViewCount_impl_ViewCount_int__impl_timesOf_1
  obtain ⟨r, hb, hp⟩ := wloop_post (σ := Int × Int) (β := Int) (step := fun s37 =>
    if decide (s37.1 < s37.2) = true then (
    (ix l (IntKind.i64.wrap ((IntKind.u64.wrap (IntKind.i64.wrap (s37.1 + s37.2))).fdiv 2))).bind fun x48 =>
    (F_impl_timesOf_1 x48 v).bind fun z55 =>
    if decide (z55 < 0) = true then (
    some (.go (IntKind.i64.wrap ((IntKind.i64.wrap ((IntKind.u64.wrap (IntKind.i64.wrap (s37.1 + s37.2))).fdiv 2)) + 1), s37.2))) else (
    some (.go (s37.1, IntKind.i64.wrap ((IntKind.u64.wrap (IntKind.i64.wrap (s37.1 + s37.2))).fdiv 2))))) else (
    some (.out s37.1)))
    (fun n s => ∃ lo hi : Nat, s = ((lo : Int), (hi : Int)) ∧ lo ≤ hi ∧ hi ≤ l.length ∧ n = hi - lo ∧ (∀ (i : Nat) (x : ViewCount), i < lo → l[i]? = some x → lexC x.View v = -1) ∧ (∀ (i : Nat) (x : ViewCount), hi ≤ i → l[i]? = some x → lexC x.View v ≠ -1))
    (fun r => ∃ k : Nat, r = (k : Int) ∧ (∀ (i : Nat) (x : ViewCount), i < k → l[i]? = some x → lexC x.View v = -1) ∧ (∀ (i : Nat) (x : ViewCount), k ≤ i → l[i]? = some x → lexC x.View v ≠ -1))
    (by
      rintro n s ⟨lo, hi, rfl, h1, h2, h3, h4, h5⟩
      simp only
      by_cases hlt : lo < hi
      · have hd : decide ((lo : Int) < (hi : Int)) = true := by simpa using hlt
        have hm : (lo + hi) / 2 < l.length := by omega
        rw [mid_eq h1 h2 hl]
        simp only [hd, if_true, ix_at hm, Option.bind_some, p_timesOf1 _ _ (hv _ (List.getElem_mem hm)) hw]
        have hr := lexC_rng l[(lo + hi) / 2].View v
        by_cases hc : lexC l[(lo + hi) / 2].View v = -1
        · refine .inl ⟨((((lo + hi) / 2 + 1 : Nat) : Int), (hi : Int)), hi - ((lo + hi) / 2 + 1), ?_, by omega, (lo + hi) / 2 + 1, hi, rfl, by omega, h2, rfl, fun i x hi' hx => ?_, h5⟩
          · rw [hc]; simp only [show decide ((-1 : Int) < 0) = true from rfl, if_true]
            rw [wr64 (by omega) (by omega)]; simp
          · by_cases him : i = (lo + hi) / 2
            · subst him
              rw [List.getElem?_eq_getElem hm] at hx; cases hx; exact hc
            · exact lexC_trans (good_sorted hg _ i x _ (by omega) hx (List.getElem?_eq_getElem hm)) hc
        · have hn : decide (lexC l[(lo + hi) / 2].View v < 0) = false := by simp; omega
          refine .inl ⟨((lo : Int), (((lo + hi) / 2 : Nat) : Int)), (lo + hi) / 2 - lo, by simp [hn], by omega, lo, (lo + hi) / 2, rfl, by omega, by omega, rfl, h4, fun i x hi' hx he => ?_⟩
          by_cases him : i = (lo + hi) / 2
          · subst him
            rw [List.getElem?_eq_getElem hm] at hx; cases hx; exact hc he
          · exact hc (lexC_trans (good_sorted hg i _ _ x (by omega) (List.getElem?_eq_getElem hm) hx) he)
      · have : lo = hi := by omega
        subst this
        exact .inr ⟨(lo : Int), by simp, lo, rfl, h4, h5⟩)
    l.length (0, (l.length : Int)) ⟨0, l.length, rfl, by omega, by omega, by omega, fun i x h => by omega, fun i x h hx => by have := (List.getElem?_eq_some_iff.1 hx).1; omega⟩
  obtain ⟨k, rfl, h1, h2⟩ := hp
  refine ⟨k, h1, h2, ?_⟩
  rw [hb, Option.bind_some]
  by_cases hk : k < l.length
  · have hd : decide ((k : Int) < (l.length : Int)) = true := by simpa using hk
    simp only [hd, if_true, ix_at hk, Option.bind_some, p_timesOf1 _ _ (hv _ (List.getElem_mem hk)) hw, List.getElem?_eq_getElem hk]
    rfl
  · have hd : decide ((k : Int) < (l.length : Int)) = false := by simp; omega
    simp only [hd, Bool.false_eq_true, if_false, Option.bind_some, List.getElem?_eq_none (Nat.le_of_not_lt hk)]
theorem p_timesOf (l : List ViewCount) (v : List Int) (hg : GoodC l) (hl : l.length ≤ 1048576) (hv : ∀ x ∈ l, x.View.length ≤ 1048576) (hw : v.length ≤ 1048576) : ∃ t, F_impl_timesOf l v = some t ∧ IsT l v t := by
  obtain ⟨k, h1, h2, h3⟩ := p_bsearch l v hg hl hv hw
  unfold F_impl_timesOf
  rw [h3, Option.bind_some]
  by_cases hk : k < l.length
  · rw [List.getElem?_eq_getElem hk]
    by_cases hc : lexC l[k].View v = 0
    · exact ⟨l[k].Times, by simp [hc, ix_at hk], .inl ⟨k, l[k], List.getElem?_eq_getElem hk, lexC_eq hc, rfl⟩⟩
    · refine ⟨0, by simp [hc], .inr ⟨fun x hx he => ?_, rfl⟩⟩
      obtain ⟨i, hi⟩ := List.getElem?_of_mem hx
      rcases Nat.lt_trichotomy i k with h | h | h
      · have := h1 i x h hi
        rw [he, lexC_self] at this; omega
      · subst h
        rw [List.getElem?_eq_getElem hk] at hi; cases hi
        rw [he, lexC_self] at hc; exact hc rfl
      · have h4 := good_sorted hg i k l[k] x h (List.getElem?_eq_getElem hk) hi
        rw [he] at h4
        exact h2 k l[k] (Nat.le_refl _) (List.getElem?_eq_getElem hk) h4
  · rw [List.getElem?_eq_none (Nat.le_of_not_lt hk)]
    refine ⟨0, by simp, .inr ⟨fun x hx he => ?_, rfl⟩⟩
    obtain ⟨i, hi⟩ := List.getElem?_of_mem hx
    have := h1 i x (by have := (List.getElem?_eq_some_iff.1 hi).1; omega) hi
    rw [he, lexC_self] at this; omega
theorem times_eq (l : List ViewCount) (v : List Int) (hg : GoodC l) (hl : l.length ≤ 1048576) (hv : ∀ x ∈ l, x.View.length ≤ 1048576) (hw : v.length ≤ 1048576) : ∃ t, F_impl_timesOf l v = some t ∧ F_spec_wTimes l v = some t := by
  obtain ⟨t, h1, h2⟩ := p_timesOf l v hg hl hv hw
  obtain ⟨s, h3, h4⟩ := p_wTimes l v hv
  exact ⟨t, h1, by rw [h3, IsT_uniq hg h4 h2]⟩

theorem p_gcd0 (a b : Int) (h : b ≠ 0) : ∃ g, wloop (σ := Int × Int) (β := Int) (fun s24 =>
    if (s24.2 != 0) = true then (
    gd (s24.2 ≠ 0) <|
    some (.go (s24.2, s24.1.tmod s24.2))) else (
    some (.out s24.1))) (a, b) = some g ∧ g ≠ 0 := by
  refine wloop_post (fun n s => n = s.2.natAbs ∧ (s.1 ≠ 0 ∨ s.2 ≠ 0)) (fun g => g ≠ 0) ?_ b.natAbs (a, b) ⟨rfl, .inr h⟩
  rintro n ⟨x, y⟩ ⟨h1, h2⟩
  simp only at h1 h2 ⊢
  by_cases hy : y = 0
  · subst hy
    exact .inr ⟨x, by simp, by simpa using h2⟩
  · refine .inl ⟨(y, x.tmod y), (x.tmod y).natAbs, ?_, ?_, rfl, .inl hy⟩
    · have : (y != 0) = true := by simpa using hy
      rw [if_pos this, gd_t hy]
    · rw [h1, Int.natAbs_tmod]
      exact Nat.mod_lt _ (by omega)
end Go.Pm
