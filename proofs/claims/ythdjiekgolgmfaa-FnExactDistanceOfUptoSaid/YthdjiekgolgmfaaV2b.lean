/-
  Plain laws of the functions that 'FnExactDistanceOf' reaches: order of views, valid counts.
  No condition.
-/
import Derived.Test.YthdjiekgolgmfaaV2
namespace Go.Pm
open Go.Am
set_option linter.unusedVariables false
set_option linter.unusedSimpArgs false

/-- The order of views. -/
def lexC : List Int → List Int → Int
  | [], [] => 0
  | [], _ :: _ => -1
  | _ :: _, [] => 1
  | a :: l, b :: r => if a < b then -1 else if b < a then 1 else lexC l r
theorem lexC_self : ∀ l : List Int, lexC l l = 0 := by
  intro l
  induction l with
  | nil => rfl
  | cons a l ih => simp [lexC, ih]
theorem lexC_eq : ∀ {l r : List Int}, lexC l r = 0 → l = r := by
  intro l
  induction l with
  | nil => intro r h; cases r with
    | nil => rfl
    | cons b r => simp [lexC] at h
  | cons a l ih => intro r h; cases r with
    | nil => simp [lexC] at h
    | cons b r =>
      simp only [lexC] at h
      split at h
      · omega
      · split at h
        · omega
        · rw [ih h]; congr 1; omega
theorem lexC_rng : ∀ l r : List Int, lexC l r = -1 ∨ lexC l r = 0 ∨ lexC l r = 1 := by
  intro l
  induction l with
  | nil => intro r; cases r <;> simp [lexC]
  | cons a l ih => intro r; cases r with
    | nil => simp [lexC]
    | cons b r =>
      simp only [lexC]
      split
      · simp
      · split
        · simp
        · exact ih r
theorem lexC_swap : ∀ l r : List Int, lexC r l = - lexC l r := by
  intro l
  induction l with
  | nil => intro r; cases r <;> simp [lexC]
  | cons a l ih => intro r; cases r with
    | nil => simp [lexC]
    | cons b r =>
      simp only [lexC]
      rcases Int.lt_trichotomy a b with h | h | h
      · rw [if_neg (by omega), if_pos h, if_pos h]; rfl
      · subst h; simp [ih r]
      · rw [if_pos h, if_neg (by omega), if_pos h]
theorem lexC_trans : ∀ {l r t : List Int}, lexC l r = -1 → lexC r t = -1 → lexC l t = -1 := by
  intro l
  induction l with
  | nil =>
    intro r t h1 h2
    cases t with
    | nil => cases r <;> simp [lexC] at h2
    | cons c t => rfl
  | cons a l ih => intro r t h1 h2; cases r with
    | nil => simp [lexC] at h1
    | cons b r => cases t with
      | nil => simp [lexC] at h2
      | cons c t =>
        simp only [lexC] at h1 h2 ⊢
        by_cases ab : a < b
        · by_cases bc : b < c
          · rw [if_pos (by omega)]
          · rw [if_neg bc] at h2
            split at h2
            · omega
            · rw [if_pos (by omega)]
        · rw [if_neg ab] at h1
          split at h1
          · omega
          · by_cases bc : b < c
            · rw [if_pos (by omega)]
            · rw [if_neg bc] at h2
              split at h2
              · omega
              · rw [if_neg (by omega), if_neg (by omega)]
                exact ih h1 h2
theorem lexC_drop {l r : List Int} : ∀ {k : Nat}, l.take k = r.take k → k ≤ l.length → k ≤ r.length → lexC l r = lexC (l.drop k) (r.drop k) := by
  intro k
  induction k generalizing l r with
  | zero => intro _ _ _; simp
  | succ k ih =>
    intro h h1 h2
    cases l with
    | nil => simp at h1
    | cons a l => cases r with
      | nil => simp at h2
      | cons b r =>
        simp only [List.take_succ_cons, List.cons.injEq] at h
        obtain ⟨rfl, h⟩ := h
        simp only [lexC, Int.lt_irrefl, if_false, List.drop_succ_cons]
        exact ih h (by simpa using h1) (by simpa using h2)

theorem lexC_end {l r : List Int} {k : Nat} (h : l.take k = r.take k) (h1 : k < l.length) (h2 : k = r.length) : lexC l r = 1 := by
  subst h2
  rw [lexC_drop h (by omega) (by omega), List.drop_length, List.drop_eq_getElem_cons h1]
  rfl
theorem lexC_mid {l r : List Int} {k : Nat} (h : l.take k = r.take k) (h1 : k < l.length) (h2 : k < r.length) : lexC l r = if l[k] < r[k] then -1 else if r[k] < l[k] then 1 else lexC (l.drop (k + 1)) (r.drop (k + 1)) := by
  rw [lexC_drop h (by omega) (by omega), List.drop_eq_getElem_cons h1, List.drop_eq_getElem_cons h2]
  rfl
theorem take_step {l r : List Int} {k : Nat} (h1 : k < l.length) (h2 : k < r.length) (h : l.take k = r.take k) (he : l[k] = r[k]) : l.take (k + 1) = r.take (k + 1) := by
  rw [List.take_succ_eq_append_getElem h1, List.take_succ_eq_append_getElem h2, h, he]
theorem drop_at {l : List Int} {k : Nat} (h : k < l.length) : l.drop k = l[k] :: l.drop (k + 1) := List.drop_eq_getElem_cons h

theorem p_wLess (l r : List Int) (hl : l.length ≤ 1048576) (hr : r.length ≤ 1048576) : F_spec_wLess l r = some (decide (lexC l r = -1)) := by
  unfold F_spec_wLess
  obtain ⟨b, hb, hp⟩ := rloop_post (σ := Unit) (β := Unit ⊕ Bool) (body := fun i9 s8 =>
    if (i9 == (r.length : Int)) = true then (
    some (.out (.inr false))) else (
    (ix l i9).bind fun x26 =>
    (ix r i9).bind fun x33 =>
    if (x26 != x33) = true then (
    some (.out (.inr (decide (x26 < x33))))) else (
    some (.go ())))) (stop := fun s8 => .inl ()) (m := l.length) (i0 := 0) (s0 := ()) (fun k _ => k ≤ r.length ∧ l.take k = r.take k)
    (fun b => Sum.elim (fun _ => decide ((l.length : Int) < (r.length : Int))) id b = decide (lexC l r = -1)) ⟨by omega, by simp⟩
    (by
      rintro k s hk ⟨h1, h2⟩
      rw [Int.zero_add]
      by_cases hkr : k = r.length
      · subst hkr
        refine .inr ⟨.inr false, by simp, ?_⟩
        have := lexC_end h2 hk rfl
        simp [this]
      · have hk2 : k < r.length := by omega
        have hne : ((k : Int) == (r.length : Int)) = false := by simpa using by omega
        simp only [hne, Bool.false_eq_true, if_false, ix_at hk, ix_at hk2, Option.bind_some]
        by_cases he : l[k] = r[k]
        · exact .inl ⟨(), by simp [he], by omega, take_step hk hk2 h2 he⟩
        · refine .inr ⟨.inr (decide (l[k] < r[k])), by simp [he], ?_⟩
          have hv := lexC_mid h2 hk hk2
          by_cases hlt : l[k] < r[k]
          · rw [if_pos hlt] at hv; simp [hlt, hv]
          · rw [if_neg hlt, if_pos (by omega)] at hv; simp [hlt, hv])
    (by
      rintro s ⟨h1, h2⟩
      simp only [Sum.elim_inl]
      rw [lexC_drop h2 (by omega) h1, List.drop_length]
      cases hd : r.drop l.length with
      | nil =>
        have := congrArg List.length hd
        simp at this
        simp [lexC]; omega
      | cons c t =>
        have := congrArg List.length hd
        simp at this
        simp [lexC]; omega)
  rw [hb, Option.bind_some]
  cases b with
  | inl u => simpa using hp
  | inr b => simpa using hp
theorem p_cmp (a b : Int) : F_cmp_Compare_int a b = some (if a < b then -1 else if b < a then 1 else 0) := by
  unfold F_cmp_Compare_int F_cmp_isNaN_int
  simp only [bne_self_eq_false, Option.bind_some, Bool.false_eq_true, if_false, decide_eq_true_eq]
  split
  · rfl
  · split <;> rfl
theorem p_Compare (l r : List Int) (hl : l.length ≤ 1048576) (hr : r.length ≤ 1048576) : F_slices_Compare_int_int l r = some (lexC l r) := by
  unfold F_slices_Compare_int_int
  obtain ⟨b, hb, hp⟩ := rloop_post (σ := Unit) (β := Unit ⊕ Int) (body := fun i9 s8 =>
    (ix l i9).bind fun x18 =>
    if decide ((r.length : Int) ≤ i9) = true then (
    some (.out (.inr 1))) else (
    (ix r i9).bind fun x33 =>
    (F_cmp_Compare_int x18 x33).bind fun z40 =>
    if (z40 != 0) = true then (
    some (.out (.inr z40))) else (
    some (.go ())))) (stop := fun s8 => .inl ()) (m := l.length) (i0 := 0) (s0 := ()) (fun k _ => k ≤ r.length ∧ l.take k = r.take k)
    (fun b => Sum.elim (fun _ => if decide ((l.length : Int) < (r.length : Int)) = true then -1 else 0) id b = lexC l r) ⟨by omega, by simp⟩
    (by
      rintro k s hk ⟨h1, h2⟩
      rw [Int.zero_add]
      simp only [ix_at hk, Option.bind_some]
      by_cases hkr : k = r.length
      · subst hkr
        refine .inr ⟨.inr 1, by simp, ?_⟩
        have := lexC_end h2 hk rfl
        simp [this]
      · have hk2 : k < r.length := by omega
        have hne : decide ((r.length : Int) ≤ (k : Int)) = false := by simpa using by omega
        simp only [hne, Bool.false_eq_true, if_false, ix_at hk2, Option.bind_some, p_cmp]
        rcases Int.lt_trichotomy l[k] r[k] with he | he | he
        · refine .inr ⟨.inr (-1), by simp [he], ?_⟩
          have hv := lexC_mid h2 hk hk2
          rw [if_pos he] at hv; simp [hv]
        · exact .inl ⟨(), by simp [he], by omega, take_step hk hk2 h2 he⟩
        · have hn : ¬ l[k] < r[k] := by omega
          refine .inr ⟨.inr 1, by simp [he, hn], ?_⟩
          have hv := lexC_mid h2 hk hk2
          rw [if_neg hn, if_pos he] at hv; simp [hv])
    (by
      rintro s ⟨h1, h2⟩
      simp only [Sum.elim_inl]
      rw [lexC_drop h2 (by omega) h1, List.drop_length]
      cases hd : r.drop l.length with
      | nil =>
        have := congrArg List.length hd
        simp at this
        rw [if_neg (by simp; omega)]; rfl
      | cons c t =>
        have := congrArg List.length hd
        simp at this
        rw [if_pos (by simp; omega)]; rfl)
  rw [hb, Option.bind_some]
  cases b with
  | inl u =>
    simp only [Sum.elim_inl] at hp ⊢
    rw [← hp]; split <;> rfl
  | inr b => simpa using hp

-- valid counts
def sumT (l : List ViewCount) : Int := (l.map (·.Times)).sum
theorem sumT_take {l : List ViewCount} {k : Nat} (h : k < l.length) : sumT (l.take (k + 1)) = sumT (l.take k) + l[k].Times := by
  unfold sumT
  rw [List.take_succ_eq_append_getElem h, List.map_append, List.sum_append]
  simp
/-- One element of a valid count, behind those before it. -/
def goodAt (l : List ViewCount) (k : Nat) (x : ViewCount) : Prop := 1 ≤ x.Times ∧ x.Times ≤ 1000000 ∧ x.View.length ≤ 24 ∧ ∀ y, 0 < k → l[k - 1]? = some y → lexC y.View x.View = -1
def GoodC (l : List ViewCount) : Prop := l.length ≤ 3000 ∧ (∀ k x, l[k]? = some x → goodAt l k x) ∧ sumT l ≤ 1000000
theorem p_within (a b c : Int) : F_impl_within a b c = some (decide (b ≤ a) && decide (a ≤ c)) := by
  unfold F_impl_within
  by_cases h : b ≤ a <;> simp [h]
theorem p_l1In (a b c : Int) : F_spec_l1In a b c = some (decide (b ≤ a) && decide (a ≤ c)) := by
  unfold F_spec_l1In
  by_cases h : b ≤ a <;> simp [h]
theorem sumT_nonneg {l : List ViewCount} (h : ∀ x ∈ l, 0 ≤ x.Times) : 0 ≤ sumT l := by
  induction l with
  | nil => exact Int.le_refl _
  | cons a l ih =>
    have h1 := h a (List.mem_cons_self ..)
    have h2 := ih fun x hx => h x (List.mem_cons_of_mem _ hx)
    simp only [sumT, List.map_cons, List.sum_cons] at h2 ⊢
    omega
theorem sumT_le {l : List ViewCount} {c : Int} (h : ∀ x ∈ l, x.Times ≤ c) : sumT l ≤ l.length * c := by
  induction l with
  | nil => simp [sumT]
  | cons a l ih =>
    have h1 := h a (List.mem_cons_self ..)
    have h2 := ih fun x hx => h x (List.mem_cons_of_mem _ hx)
    simp only [sumT, List.map_cons, List.sum_cons, List.length_cons] at h2 ⊢
    push_cast
    rw [Int.add_mul]; omega
theorem p_sum0 {l : List ViewCount} (hl : l.length ≤ 3000) (h : ∀ x ∈ l, 1 ≤ x.Times ∧ x.Times ≤ 1000000) : rloop (σ := Int) (β := Int) (fun i27 s26 =>
    (ix l i27).bind fun x36 =>
    some (.go (IntKind.i64.wrap (s26 + x36.Times)))) (fun s26 => s26) (l.length) 0 0 = some (sumT l) := by
  refine some_of (rloop_post (fun k s => s = sumT (l.take k)) _ (by simp [sumT]) ?_ (fun s h => by rw [h, List.take_length]))
  rintro k s hk rfl
  rw [Int.zero_add, ix_at hk]
  have h0 := sumT_nonneg (l := l.take k) fun x hx => by have := (h x (List.mem_of_mem_take hx)).1; omega
  have h1 := sumT_le (l := l.take k) (c := 1000000) fun x hx => (h x (List.mem_of_mem_take hx)).2
  have h2 := h l[k] (List.getElem_mem hk)
  have h3 : ((l.take k).length : Int) ≤ 3000 := by simp; omega
  have h4 : ((l.take k).length : Int) * 1000000 ≤ 3000 * 1000000 := Int.mul_le_mul_of_nonneg_right h3 (by omega)
  refine .inl ⟨_, by rw [Option.bind_some, wr64 (by omega) (by omega)], ?_⟩
  rw [sumT_take hk]
theorem p_wSum {l : List ViewCount} (hl : l.length ≤ 3000) (h : ∀ x ∈ l, 1 ≤ x.Times ∧ x.Times ≤ 1000000) : F_spec_wSum l = some (sumT l) := by
  unfold F_spec_wSum
  rw [p_sum0 hl h]; rfl
theorem p_total {l : List ViewCount} (hl : l.length ≤ 3000) (h : ∀ x ∈ l, 1 ≤ x.Times ∧ x.Times ≤ 1000000) : F_impl_total l = some (sumT l) := by
  unfold F_impl_total
  rw [p_sum0 hl h]; rfl
end Go.Pm
