/-
  FnExactCountViews: plain laws of the number functions, calls, insertion sort.
  No condition.
-/
import Derived.Test.YthdjiekgolgmfaaL6b
import Derived.Test.YthdjiekgolgmfaaPmZ
namespace Go.Pm
open Go.Am
set_option linter.unusedVariables false
set_option linter.unusedSimpArgs false

-- arguments: sizes, copies, equality
theorem p_szIntS {l : List Int} {n : Int} (h0 : 0 ≤ n) (h1 : n ≤ 1048576) (hl : l.length ≤ 1048576) : ∃ z, F_laws_szIntS l n = some z ∧ z ≤ 1048576 := by
  unfold F_laws_szIntS
  rw [wr64 (by omega) (by omega)]
  by_cases h : n - (l.length : Int) < 0
  · exact ⟨-1, by simp [h], by omega⟩
  · exact ⟨n - l.length, by simp [h], by omega⟩
theorem set_step {α : Type} {l r : List α} {k : Nat} (hk : k < l.length) (hr : r.length = l.length) (h : r.take k = l.take k) : (r.set k l[k]).take (k + 1) = l.take (k + 1) := by
  rw [List.take_succ_eq_append_getElem (by simpa [hr] using hk), List.take_succ_eq_append_getElem hk]
  simp [List.take_set_of_le, h]
theorem p_toIntS {l : List Int} (hl : l.length ≤ 1048576) : F_laws_toIntS l = some l := by
  unfold F_laws_toIntS
  rw [gd_t (by omega), Option.bind_some]
  obtain ⟨b, hb, hp⟩ := cloop_post (β := List Int) (σ := List Int × Int) (step := fun s42 =>
    if decide (s42.2 < (l.length : Int)) = true then (
    (ix l s42.2).bind fun x53 =>
    (ix s42.1 s42.2).bind fun x60 =>
    some (.go (s42.1.set s42.2.toNat x53, IntKind.i64.wrap (s42.2 + 1)))) else (
    some (.out s42.1))) (s0 := (List.replicate l.length 0, 0)) l.length (fun k s => s.2 = (k : Int) ∧ s.1.length = l.length ∧ s.1.take k = l.take k)
    (fun b => b = l) ⟨rfl, by simp, by simp⟩
    (by
      rintro k ⟨a, b⟩ hk ⟨e, h2, h3⟩
      simp only at e h2 h3
      subst e
      have hd : decide ((k : Int) < (l.length : Int)) = true := by simpa using hk
      refine .inl ⟨(a.set k l[k], (k : Int) + 1), ?_, by simp, by simp [h2], set_step hk h2 h3⟩
      simp only [hd, if_true, ix_at hk, Option.bind_some, ix_at (l := a) (k := k) (by omega)]
      rw [wr64 (by omega) (by omega)]
      simp)
    (by
      rintro ⟨a, b⟩ ⟨e, h2, h3⟩
      simp only at e h2 h3
      subst e
      refine ⟨a, by simp, ?_⟩
      rw [List.take_of_length_le (by omega), List.take_of_length_le (Nat.le_refl _)] at h3
      exact h3)
  rw [hb, Option.bind_some, hp]
theorem p_eqIntS {l : List Int} (hl : l.length ≤ 1048576) : F_laws_eqIntS l l = some true := by
  unfold F_laws_eqIntS
  simp only [bne_self_eq_false, Bool.false_eq_true, if_false]
  obtain ⟨b, hb, hp⟩ := cloop_post (β := Unit ⊕ Bool) (σ := Int) (step := fun s52 =>
    if decide (s52 < (l.length : Int)) = true then (
    (ix l s52).bind fun x63 =>
    (ix l s52).bind fun x70 =>
    if (x63 != x70) = true then (
    some (.out (.inr false))) else (
    some (.go (IntKind.i64.wrap (s52 + 1))))) else (
    some (.out (.inl ())))) (s0 := 0) l.length (fun k s => s = (k : Int)) (fun b => b = .inl ()) rfl
    (by
      rintro k a hk e
      subst e
      have hd : decide ((k : Int) < (l.length : Int)) = true := by simpa using hk
      refine .inl ⟨(k : Int) + 1, ?_, by simp⟩
      simp only [hd, if_true, ix_at hk, Option.bind_some, bne_self_eq_false, Bool.false_eq_true, if_false]
      rw [wr64 (by omega) (by omega)])
    (by
      rintro a e
      subst e
      exact ⟨_, by simp, rfl⟩)
  rw [hb, Option.bind_some, hp]; rfl
theorem p_eqViewCount {x : ViewCount} (hl : x.View.length ≤ 1048576) : F_laws_eqViewCount x x = some true := by
  unfold F_laws_eqViewCount
  simp [p_eqIntS hl]
theorem p_eqViewCountS {l : List ViewCount} (hl : l.length ≤ 1048576) (hv : ∀ x ∈ l, x.View.length ≤ 1048576) : F_laws_eqViewCountS l l = some true := by
  unfold F_laws_eqViewCountS
  simp only [bne_self_eq_false, Bool.false_eq_true, if_false]
  obtain ⟨b, hb, hp⟩ := cloop_post (β := Unit ⊕ Bool) (σ := Int) (step := fun s55 =>
    if decide (s55 < (l.length : Int)) = true then (
    (ix l s55).bind fun x66 =>
    (ix l s55).bind fun x73 =>
    (F_laws_eqViewCount x66 x73).bind fun z80 =>
    if (!z80) = true then (
    some (.out (.inr false))) else (
    some (.go (IntKind.i64.wrap (s55 + 1))))) else (
    some (.out (.inl ())))) (s0 := 0) l.length (fun k s => s = (k : Int)) (fun b => b = .inl ()) rfl
    (by
      rintro k a hk e
      subst e
      have hd : decide ((k : Int) < (l.length : Int)) = true := by simpa using hk
      refine .inl ⟨(k : Int) + 1, ?_, by simp⟩
      simp only [hd, if_true, ix_at hk, Option.bind_some, p_eqViewCount (hv _ (List.getElem_mem hk)), Bool.not_true, Bool.false_eq_true, if_false]
      rw [wr64 (by omega) (by omega)])
    (by
      rintro a e
      subst e
      exact ⟨_, by simp, rfl⟩)
  rw [hb, Option.bind_some, hp]; rfl
/-- The order of views. -/
def lexC : List Int → List Int → Int
  | [], [] => 0
  | [], _ :: _ => -1
  | _ :: _, [] => 1
  | a :: l, b :: r => if a < b then -1 else if b < a then 1 else lexC l r
theorem lexC_self : ∀ l : List Int, lexC l l = 0 := by
  intro l
  induction l with
  | nil => rfl
  | cons a l ih => simp [lexC, ih]
theorem lexC_eq : ∀ {l r : List Int}, lexC l r = 0 → l = r := by
  intro l
  induction l with
  | nil => intro r h; cases r with
    | nil => rfl
    | cons b r => simp [lexC] at h
  | cons a l ih => intro r h; cases r with
    | nil => simp [lexC] at h
    | cons b r =>
      simp only [lexC] at h
      split at h
      · omega
      · split at h
        · omega
        · rw [ih h]; congr 1; omega
theorem lexC_rng : ∀ l r : List Int, lexC l r = -1 ∨ lexC l r = 0 ∨ lexC l r = 1 := by
  intro l
  induction l with
  | nil => intro r; cases r <;> simp [lexC]
  | cons a l ih => intro r; cases r with
    | nil => simp [lexC]
    | cons b r =>
      simp only [lexC]
      split
      · simp
      · split
        · simp
        · exact ih r
theorem lexC_swap : ∀ l r : List Int, lexC r l = - lexC l r := by
  intro l
  induction l with
  | nil => intro r; cases r <;> simp [lexC]
  | cons a l ih => intro r; cases r with
    | nil => simp [lexC]
    | cons b r =>
      simp only [lexC]
      rcases Int.lt_trichotomy a b with h | h | h
      · rw [if_neg (by omega), if_pos h, if_pos h]; rfl
      · subst h; simp [ih r]
      · rw [if_pos h, if_neg (by omega), if_pos h]
theorem lexC_trans : ∀ {l r t : List Int}, lexC l r = -1 → lexC r t = -1 → lexC l t = -1 := by
  intro l
  induction l with
  | nil =>
    intro r t h1 h2
    cases t with
    | nil => cases r <;> simp [lexC] at h2
    | cons c t => rfl
  | cons a l ih => intro r t h1 h2; cases r with
    | nil => simp [lexC] at h1
    | cons b r => cases t with
      | nil => simp [lexC] at h2
      | cons c t =>
        simp only [lexC] at h1 h2 ⊢
        by_cases ab : a < b
        · by_cases bc : b < c
          · rw [if_pos (by omega)]
          · rw [if_neg bc] at h2
            split at h2
            · omega
            · rw [if_pos (by omega)]
        · rw [if_neg ab] at h1
          split at h1
          · omega
          · by_cases bc : b < c
            · rw [if_pos (by omega)]
            · rw [if_neg bc] at h2
              split at h2
              · omega
              · rw [if_neg (by omega), if_neg (by omega)]
                exact ih h1 h2
theorem lexC_drop {l r : List Int} : ∀ {k : Nat}, l.take k = r.take k → k ≤ l.length → k ≤ r.length → lexC l r = lexC (l.drop k) (r.drop k) := by
  intro k
  induction k generalizing l r with
  | zero => intro _ _ _; simp
  | succ k ih =>
    intro h h1 h2
    cases l with
    | nil => simp at h1
    | cons a l => cases r with
      | nil => simp at h2
      | cons b r =>
        simp only [List.take_succ_cons, List.cons.injEq] at h
        obtain ⟨rfl, h⟩ := h
        simp only [lexC, Int.lt_irrefl, if_false, List.drop_succ_cons]
        exact ih h (by simpa using h1) (by simpa using h2)
theorem lexC_end {l r : List Int} {k : Nat} (h : l.take k = r.take k) (h1 : k < l.length) (h2 : k = r.length) : lexC l r = 1 := by
  subst h2
  rw [lexC_drop h (by omega) (by omega), List.drop_length, List.drop_eq_getElem_cons h1]
  rfl
theorem lexC_mid {l r : List Int} {k : Nat} (h : l.take k = r.take k) (h1 : k < l.length) (h2 : k < r.length) : lexC l r = if l[k] < r[k] then -1 else if r[k] < l[k] then 1 else lexC (l.drop (k + 1)) (r.drop (k + 1)) := by
  rw [lexC_drop h (by omega) (by omega), List.drop_eq_getElem_cons h1, List.drop_eq_getElem_cons h2]
  rfl
theorem take_step {l r : List Int} {k : Nat} (h1 : k < l.length) (h2 : k < r.length) (h : l.take k = r.take k) (he : l[k] = r[k]) : l.take (k + 1) = r.take (k + 1) := by
  rw [List.take_succ_eq_append_getElem h1, List.take_succ_eq_append_getElem h2, h, he]
theorem drop_at {l : List Int} {k : Nat} (h : k < l.length) : l.drop k = l[k] :: l.drop (k + 1) := List.drop_eq_getElem_cons h
theorem p_wLess (l r : List Int) : F_spec_wLess l r = some (decide (lexC l r = -1)) := by
  unfold F_spec_wLess
  obtain ⟨b, hb, hp⟩ := rloop_post (σ := Unit) (β := Unit ⊕ Bool) (body := fun i9 s8 =>
    if (i9 == (r.length : Int)) = true then (
    some (.out (.inr false))) else (
    (ix l i9).bind fun x26 =>
    (ix r i9).bind fun x33 =>
    if (x26 != x33) = true then (
    some (.out (.inr (decide (x26 < x33))))) else (
    some (.go ())))) (stop := fun s8 => .inl ()) (m := l.length) (i0 := 0) (s0 := ()) (fun k _ => k ≤ r.length ∧ l.take k = r.take k)
    (fun b => Sum.elim (fun _ => decide ((l.length : Int) < (r.length : Int))) id b = decide (lexC l r = -1)) ⟨by omega, by simp⟩
    (by
      rintro k s hk ⟨h1, h2⟩
      rw [Int.zero_add]
      by_cases hkr : k = r.length
      · subst hkr
        refine .inr ⟨.inr false, by simp, ?_⟩
        have := lexC_end h2 hk rfl
        simp [this]
      · have hk2 : k < r.length := by omega
        have hne : ((k : Int) == (r.length : Int)) = false := by simpa using by omega
        simp only [hne, Bool.false_eq_true, if_false, ix_at hk, ix_at hk2, Option.bind_some]
        by_cases he : l[k] = r[k]
        · exact .inl ⟨(), by simp [he], by omega, take_step hk hk2 h2 he⟩
        · refine .inr ⟨.inr (decide (l[k] < r[k])), by simp [he], ?_⟩
          have hv := lexC_mid h2 hk hk2
          by_cases hlt : l[k] < r[k]
          · rw [if_pos hlt] at hv; simp [hlt, hv]
          · rw [if_neg hlt, if_pos (by omega)] at hv; simp [hlt, hv])
    (by
      rintro s ⟨h1, h2⟩
      simp only [Sum.elim_inl]
      rw [lexC_drop h2 (by omega) h1, List.drop_length]
      cases hd : r.drop l.length with
      | nil =>
        have := congrArg List.length hd
        simp at this
        simp [lexC]; omega
      | cons c t =>
        have := congrArg List.length hd
        simp at this
        simp [lexC]; omega)
  rw [hb, Option.bind_some]
  cases b with
  | inl u => simpa using hp
  | inr b => simpa using hp
theorem p_cmp (a b : Int) : F_cmp_Compare_int a b = some (if a < b then -1 else if b < a then 1 else 0) := by
  unfold F_cmp_Compare_int F_cmp_isNaN_int
  simp only [bne_self_eq_false, Option.bind_some, Bool.false_eq_true, if_false, decide_eq_true_eq]
  split
  · rfl
  · split <;> rfl
theorem p_Compare (l r : List Int) : F_slices_Compare_int_int l r = some (lexC l r) := by
  unfold F_slices_Compare_int_int
  obtain ⟨b, hb, hp⟩ := rloop_post (σ := Unit) (β := Unit ⊕ Int) (body := fun i9 s8 =>
    (ix l i9).bind fun x18 =>
    if decide ((r.length : Int) ≤ i9) = true then (
    some (.out (.inr 1))) else (
    (ix r i9).bind fun x33 =>
    (F_cmp_Compare_int x18 x33).bind fun z40 =>
    if (z40 != 0) = true then (
    some (.out (.inr z40))) else (
    some (.go ())))) (stop := fun s8 => .inl ()) (m := l.length) (i0 := 0) (s0 := ()) (fun k _ => k ≤ r.length ∧ l.take k = r.take k)
    (fun b => Sum.elim (fun _ => if decide ((l.length : Int) < (r.length : Int)) = true then -1 else 0) id b = lexC l r) ⟨by omega, by simp⟩
    (by
      rintro k s hk ⟨h1, h2⟩
      rw [Int.zero_add]
      simp only [ix_at hk, Option.bind_some]
      by_cases hkr : k = r.length
      · subst hkr
        refine .inr ⟨.inr 1, by simp, ?_⟩
        have := lexC_end h2 hk rfl
        simp [this]
      · have hk2 : k < r.length := by omega
        have hne : decide ((r.length : Int) ≤ (k : Int)) = false := by simpa using by omega
        simp only [hne, Bool.false_eq_true, if_false, ix_at hk2, Option.bind_some, p_cmp]
        rcases Int.lt_trichotomy l[k] r[k] with he | he | he
        · refine .inr ⟨.inr (-1), by simp [he], ?_⟩
          have hv := lexC_mid h2 hk hk2
          rw [if_pos he] at hv; simp [hv]
        · exact .inl ⟨(), by simp [he], by omega, take_step hk hk2 h2 he⟩
        · have hn : ¬ l[k] < r[k] := by omega
          refine .inr ⟨.inr 1, by simp [he, hn], ?_⟩
          have hv := lexC_mid h2 hk hk2
          rw [if_neg hn, if_pos he] at hv; simp [hv])
    (by
      rintro s ⟨h1, h2⟩
      simp only [Sum.elim_inl]
      rw [lexC_drop h2 (by omega) h1, List.drop_length]
      cases hd : r.drop l.length with
      | nil =>
        have := congrArg List.length hd
        simp at this
        rw [if_neg (by simp; omega)]; rfl
      | cons c t =>
        have := congrArg List.length hd
        simp at this
        rw [if_pos (by simp; omega)]; rfl)
  rw [hb, Option.bind_some]
  cases b with
  | inl u =>
    simp only [Sum.elim_inl] at hp ⊢
    rw [← hp]; split <;> rfl
  | inr b => simpa using hp
-- valid counts
def sumT (l : List ViewCount) : Int := (l.map (·.Times)).sum
theorem sumT_take {l : List ViewCount} {k : Nat} (h : k < l.length) : sumT (l.take (k + 1)) = sumT (l.take k) + l[k].Times := by
  unfold sumT
  rw [List.take_succ_eq_append_getElem h, List.map_append, List.sum_append]
  simp
/-- One element of a valid count, behind those before it. -/
def goodAt (l : List ViewCount) (k : Nat) (x : ViewCount) : Prop := 1 ≤ x.Times ∧ x.Times ≤ 1000000 ∧ x.View.length ≤ 24 ∧ ∀ y, 0 < k → l[k - 1]? = some y → lexC y.View x.View = -1
def GoodC (l : List ViewCount) : Prop := l.length ≤ 3000 ∧ (∀ k x, l[k]? = some x → goodAt l k x) ∧ sumT l ≤ 1000000
theorem p_within (a b c : Int) : F_impl_within a b c = some (decide (b ≤ a) && decide (a ≤ c)) := by
  unfold F_impl_within
  by_cases h : b ≤ a <;> simp [h]
theorem p_l1In (a b c : Int) : F_spec_l1In a b c = some (decide (b ≤ a) && decide (a ≤ c)) := by
  unfold F_spec_l1In
  by_cases h : b ≤ a <;> simp [h]
theorem sumT_nonneg {l : List ViewCount} (h : ∀ x ∈ l, 0 ≤ x.Times) : 0 ≤ sumT l := by
  induction l with
  | nil => exact Int.le_refl _
  | cons a l ih =>
    have h1 := h a (List.mem_cons_self ..)
    have h2 := ih fun x hx => h x (List.mem_cons_of_mem _ hx)
    simp only [sumT, List.map_cons, List.sum_cons] at h2 ⊢
    omega
theorem sumT_le {l : List ViewCount} {c : Int} (h : ∀ x ∈ l, x.Times ≤ c) : sumT l ≤ l.length * c := by
  induction l with
  | nil => simp [sumT]
  | cons a l ih =>
    have h1 := h a (List.mem_cons_self ..)
    have h2 := ih fun x hx => h x (List.mem_cons_of_mem _ hx)
    simp only [sumT, List.map_cons, List.sum_cons, List.length_cons] at h2 ⊢
    push_cast
    rw [Int.add_mul]; omega
theorem p_sum0 {l : List ViewCount} (hl : l.length ≤ 3000) (h : ∀ x ∈ l, 1 ≤ x.Times ∧ x.Times ≤ 1000000) : rloop (σ := Int) (β := Int) (fun i27 s26 =>
    (ix l i27).bind fun x36 =>
    some (.go (IntKind.i64.wrap (s26 + x36.Times)))) (fun s26 => s26) (l.length) 0 0 = some (sumT l) := by
  refine some_of (rloop_post (fun k s => s = sumT (l.take k)) _ (by simp [sumT]) ?_ (fun s h => by rw [h, List.take_length]))
  rintro k s hk rfl
  rw [Int.zero_add, ix_at hk]
  have h0 := sumT_nonneg (l := l.take k) fun x hx => by have := (h x (List.mem_of_mem_take hx)).1; omega
  have h1 := sumT_le (l := l.take k) (c := 1000000) fun x hx => (h x (List.mem_of_mem_take hx)).2
  have h2 := h l[k] (List.getElem_mem hk)
  have h3 : ((l.take k).length : Int) ≤ 3000 := by simp; omega
  have h4 : ((l.take k).length : Int) * 1000000 ≤ 3000 * 1000000 := Int.mul_le_mul_of_nonneg_right h3 (by omega)
  refine .inl ⟨_, by rw [Option.bind_some, wr64 (by omega) (by omega)], ?_⟩
  rw [sumT_take hk]
theorem p_wSum {l : List ViewCount} (hl : l.length ≤ 3000) (h : ∀ x ∈ l, 1 ≤ x.Times ∧ x.Times ≤ 1000000) : F_spec_wSum l = some (sumT l) := by
  unfold F_spec_wSum
  rw [p_sum0 hl h]; rfl
theorem goodAt_iff {l : List ViewCount} {k : Nat} {x y : ViewCount} (hy : 0 < k → l[k - 1]? = some y) : goodAt l k x ↔ 1 ≤ x.Times ∧ x.Times ≤ 1000000 ∧ x.View.length ≤ 24 ∧ (0 < k → lexC y.View x.View = -1) := by
  constructor
  · rintro ⟨h1, h2, h3, h4⟩; exact ⟨h1, h2, h3, fun h => h4 y h (hy h)⟩
  · rintro ⟨h1, h2, h3, h4⟩; exact ⟨h1, h2, h3, fun z h hz => by rw [hy h] at hz; cases hz; exact h4 h⟩
theorem prev_at {l : List ViewCount} {k : Nat} (hk : k < l.length) (hl : l.length ≤ 1048576) (h0 : 0 < k) : ix l (IntKind.i64.wrap ((k : Int) - 1)) = some (l[k - 1]'(by omega)) := by
  rw [wr64 (by omega) (by omega)]
  have : (k : Int) - 1 = ((k - 1 : Nat) : Int) := by omega
  rw [this, ix_at (by omega)]
theorem p_wGood (l : List ViewCount) (hl : l.length ≤ 1048576) (hv : ∀ x ∈ l, x.View.length ≤ 1048576) : ∃ b, F_spec_wGood l = some b ∧ (b = true ↔ GoodC l) := by
  unfold F_spec_wGood
  by_cases h3 : 3000 < (l.length : Int)
  · exact ⟨false, by simp [h3], by simp only [Bool.false_eq_true, false_iff]; rintro ⟨h, _⟩; omega⟩
  · simp only [h3, decide_false, Bool.false_eq_true, if_false]
    obtain ⟨b, hb, hp⟩ := rloop_post (σ := Unit) (β := Unit ⊕ Bool) (body := fun i15 s14 =>
      (ix l i15).bind fun x24 =>
      (((F_spec_l1In x24.Times 1 1000000).bind fun z37 =>
      if (!z37) = true then (
      some true) else (
      if decide (24 < (x24.View.length : Int)) = true then (
      some true) else (
      if decide (0 < i15) = true then (
      (ix l (IntKind.i64.wrap (i15 - 1))).bind fun x51 =>
      (F_spec_wLess x51.View x24.View).bind fun z58 =>
      some (!z58)) else (
      some false))) : Option (Bool)).bind fun (x35 : Bool) =>
      if x35 = true then (
      some (.out (.inr false))) else (
      some (.go ())))) (stop := fun s14 => .inl ()) (m := l.length) (i0 := 0) (s0 := ()) (fun n _ => ∀ k x, k < n → l[k]? = some x → goodAt l k x)
      (fun b => Sum.elim (fun _ => ∀ k x, l[k]? = some x → goodAt l k x) (fun b => b = false ∧ ¬ ∀ k x, l[k]? = some x → goodAt l k x) b) (fun k x h => by omega)
      (by
        rintro k s hk hI
        rw [Int.zero_add]
        have inner : ∃ b, ((F_spec_l1In l[k].Times 1 1000000).bind fun z37 =>
            if (!z37) = true then (
            some true) else (
            if decide (24 < (l[k].View.length : Int)) = true then (
            some true) else (
            if decide (0 < (k : Int)) = true then (
            (ix l (IntKind.i64.wrap ((k : Int) - 1))).bind fun x51 =>
            (F_spec_wLess x51.View l[k].View).bind fun z58 =>
            some (!z58)) else (
            some false)))) = some b ∧ (b = false ↔ goodAt l k l[k]) := by
          rw [p_l1In, Option.bind_some]
          by_cases h1 : 1 ≤ l[k].Times ∧ l[k].Times ≤ 1000000
          · by_cases h2 : 24 < (l[k].View.length : Int)
            · refine ⟨true, by simp [h1, h2], ?_⟩
              simp only [Bool.true_eq_false, false_iff]
              rintro ⟨_, _, h, _⟩; omega
            · by_cases h0 : 0 < k
              · rw [prev_at hk hl h0]
                have hm := hv (l[k - 1]'(by omega)) (List.getElem_mem _)
                have hm2 := hv l[k] (List.getElem_mem _)
                refine ⟨!decide (lexC (l[k - 1]'(by omega)).View l[k].View = -1), by simp [h1, h2, h0, p_wLess _ _], ?_⟩
                rw [goodAt_iff (y := l[k - 1]'(by omega)) (fun _ => List.getElem?_eq_getElem _)]
                simp [h1.1, h1.2, h0]; omega
              · refine ⟨false, by simp [h1, h2, h0], ?_⟩
                simp only [true_iff]
                exact ⟨h1.1, h1.2, by omega, fun y h => absurd h h0⟩
          · refine ⟨true, ?_, ?_⟩
            · have : (decide (1 ≤ l[k].Times) && decide (l[k].Times ≤ 1000000)) = false := by simp; omega
              simp [this]
            · simp only [Bool.true_eq_false, false_iff]
              rintro ⟨a, b, _⟩; exact h1 ⟨a, b⟩
        obtain ⟨b, hb, hb2⟩ := inner
        simp only [ix_at hk, Option.bind_some]
        rw [hb, Option.bind_some]
        cases b with
        | true =>
          refine .inr ⟨.inr false, rfl, rfl, fun h => ?_⟩
          have := hb2.2 (h k _ (List.getElem?_eq_getElem hk))
          cases this
        | false =>
          refine .inl ⟨(), rfl, fun j x hj hx => ?_⟩
          by_cases hjk : j = k
          · subst hjk
            rw [List.getElem?_eq_getElem hk] at hx; cases hx
            exact hb2.1 rfl
          · exact hI j x (by omega) hx)
      (by
        rintro s hI k x hx
        exact hI k x (List.getElem?_eq_some_iff.1 hx).1 hx)
    rw [hb, Option.bind_some]
    cases b with
    | inl u =>
      simp only [Sum.elim_inl] at hp ⊢
      have hT : ∀ x ∈ l, 1 ≤ x.Times ∧ x.Times ≤ 1000000 := by
        intro x hx
        obtain ⟨k, hk⟩ := List.getElem?_of_mem hx
        have := hp k x hk
        exact ⟨this.1, this.2.1⟩
      rw [p_wSum (by omega) hT, Option.bind_some]
      refine ⟨_, rfl, ?_⟩
      simp only [decide_eq_true_eq]
      exact ⟨fun h => ⟨by omega, hp, h⟩, fun h => h.2.2⟩
    | inr b =>
      simp only [Sum.elim_inr] at hp ⊢
      exact ⟨b, rfl, by rw [hp.1]; simp only [Bool.false_eq_true, false_iff]; exact fun h => hp.2 h.2.1⟩
theorem p_isCount (l : List ViewCount) (hl : l.length ≤ 1048576) (hv : ∀ x ∈ l, x.View.length ≤ 1048576) : ∃ b, F_impl_isCount l = some b ∧ (b = true ↔ GoodC l) := by
  unfold F_impl_isCount
  by_cases h3 : 3000 < (l.length : Int)
  · exact ⟨false, by simp [h3], by simp only [Bool.false_eq_true, false_iff]; rintro ⟨h, _⟩; omega⟩
  · simp only [h3, decide_false, Bool.false_eq_true, if_false]
    have mono : ∀ k, k ≤ l.length → (∀ x ∈ l, 1 ≤ x.Times) → sumT (l.take k) ≤ sumT l := by
      intro k hk h
      have e : sumT l = sumT (l.take k) + sumT (l.drop k) := by
        unfold sumT
        rw [← List.sum_append, ← List.map_append, List.take_append_drop]
      have := sumT_nonneg (l := l.drop k) fun x hx => by have := h x (List.mem_of_mem_drop hx); omega
      omega
    obtain ⟨b, hb, hp⟩ := rloop_post (σ := Int) (β := Unit ⊕ Bool) (body := fun i73 s72 =>
      (ix l i73).bind fun x82 =>
      ((if decide (24 < (x82.View.length : Int)) = true then (
      some true) else (
      (F_impl_within x82.Times 1 (IntKind.i64.wrap (1000000 - s72))).bind fun z100 =>
      if (!z100) = true then (
      some true) else (
      if decide (0 < i73) = true then (
      (ix l (IntKind.i64.wrap (i73 - 1))).bind fun x109 =>
      (F_slices_Compare_int_int x109.View x82.View).bind fun z116 =>
      some (decide (0 ≤ z116))) else (
      some false))) : Option (Bool)).bind fun (x93 : Bool) =>
      if x93 = true then (
      some (.out (.inr false))) else (
      some (.go (IntKind.i64.wrap (s72 + x82.Times)))))) (stop := fun s72 => .inl ()) (m := l.length) (i0 := 0) (s0 := 0)
      (fun n s => s = sumT (l.take n) ∧ 0 ≤ s ∧ s ≤ 1000000 ∧ ∀ k x, k < n → l[k]? = some x → goodAt l k x)
      (fun b => Sum.elim (fun _ => GoodC l) (fun b => b = false ∧ ¬ GoodC l) b) ⟨by simp [sumT], by omega, by omega, fun k x h => by omega⟩
      (by
        rintro k s hk ⟨hs, h0, h1, hI⟩
        rw [Int.zero_add]
        have inner : ∃ b, (if decide (24 < (l[k].View.length : Int)) = true then (
            some true) else (
            (F_impl_within l[k].Times 1 (IntKind.i64.wrap (1000000 - s))).bind fun z100 =>
            if (!z100) = true then (
            some true) else (
            if decide (0 < (k : Int)) = true then (
            (ix l (IntKind.i64.wrap ((k : Int) - 1))).bind fun x109 =>
            (F_slices_Compare_int_int x109.View l[k].View).bind fun z116 =>
            some (decide (0 ≤ z116))) else (
            some false)))) = some b ∧ (b = false ↔ goodAt l k l[k] ∧ l[k].Times ≤ 1000000 - s) := by
          rw [wr64 (by omega) (by omega), p_within, Option.bind_some]
          by_cases h2 : 24 < (l[k].View.length : Int)
          · refine ⟨true, by simp [h2], ?_⟩
            simp only [Bool.true_eq_false, false_iff]
            rintro ⟨⟨_, _, h, _⟩, _⟩; omega
          · by_cases h4 : 1 ≤ l[k].Times ∧ l[k].Times ≤ 1000000 - s
            · by_cases h5 : 0 < k
              · rw [prev_at hk hl h5]
                have hm := hv (l[k - 1]'(by omega)) (List.getElem_mem _)
                have hm2 := hv l[k] (List.getElem_mem _)
                refine ⟨decide (0 ≤ lexC (l[k - 1]'(by omega)).View l[k].View), by simp [h4, h2, h5, p_Compare _ _], ?_⟩
                rw [goodAt_iff (y := l[k - 1]'(by omega)) (fun _ => List.getElem?_eq_getElem _)]
                have hr := lexC_rng (l[k - 1]'(by omega)).View l[k].View
                simp [h4.1, h4.2, h5]; omega
              · refine ⟨false, by simp [h4, h2, h5], ?_⟩
                simp only [true_iff]
                exact ⟨⟨h4.1, by omega, by omega, fun y h => absurd h h5⟩, h4.2⟩
            · refine ⟨true, ?_, ?_⟩
              · have : (decide (1 ≤ l[k].Times) && decide (l[k].Times ≤ 1000000 - s)) = false := by simp; omega
                simp [this]
              · simp only [Bool.true_eq_false, false_iff]
                rintro ⟨⟨a, b, _⟩, c⟩; exact h4 ⟨a, c⟩
        obtain ⟨b, hb, hb2⟩ := inner
        simp only [ix_at hk, Option.bind_some]
        rw [hb, Option.bind_some]
        cases b with
        | true =>
          refine .inr ⟨.inr false, rfl, rfl, fun h => ?_⟩
          have hT : ∀ x ∈ l, 1 ≤ x.Times := by
            intro x hx
            obtain ⟨j, hj⟩ := List.getElem?_of_mem hx
            exact (h.2.1 j x hj).1
          have h6 := mono (k + 1) (by omega) hT
          rw [sumT_take hk, ← hs] at h6
          have := hb2.2 ⟨h.2.1 k _ (List.getElem?_eq_getElem hk), by have := h.2.2; omega⟩
          cases this
        | false =>
          obtain ⟨h6, h7⟩ := hb2.1 rfl
          have h8 := h6.1
          refine .inl ⟨s + l[k].Times, by simp only [Bool.false_eq_true, if_false]; rw [wr64 (by omega) (by omega)], by rw [sumT_take hk, hs], by omega, by omega, fun j x hj hx => ?_⟩
          by_cases hjk : j = k
          · subst hjk
            rw [List.getElem?_eq_getElem hk] at hx; cases hx
            exact h6
          · exact hI j x (by omega) hx)
      (by
        rintro s ⟨hs, h0, h1, hI⟩
        rw [List.take_length] at hs
        exact ⟨by omega, fun k x hx => hI k x (List.getElem?_eq_some_iff.1 hx).1 hx, by omega⟩)
    rw [hb, Option.bind_some]
    cases b with
    | inl u => exact ⟨true, rfl, by simpa using hp⟩
    | inr b =>
      simp only [Sum.elim_inr] at hp ⊢
      exact ⟨b, rfl, by rw [hp.1]; simp only [Bool.false_eq_true, false_iff]; exact hp.2⟩
theorem p_l1Same (a b : List Int) (ha : a.length ≤ 1048576) : F_spec_l1Same a b = some (decide (a = b)) := by
  unfold F_spec_l1Same
  by_cases hl : a.length = b.length
  · have e : ((a.length : Int) != (b.length : Int)) = false := by simp [hl]
    simp only [e, Bool.false_eq_true, if_false]
    obtain ⟨r, hb, hp⟩ := rloop_post (σ := Unit) (β := Unit ⊕ Bool) (body := fun i16 s15 =>
      (ix a i16).bind fun x25 =>
      (ix b i16).bind fun x32 =>
      if (x25 != x32) = true then (
      some (.out (.inr false))) else (
      some (.go ()))) (stop := fun s15 => .inl ()) (m := a.length) (i0 := 0) (s0 := ()) (fun k _ => a.take k = b.take k)
      (fun r => Sum.elim (fun _ => a = b) (fun r => r = false ∧ a ≠ b) r) (by simp)
      (by
        rintro k s hk hI
        have hk2 : k < b.length := by omega
        rw [Int.zero_add]
        simp only [ix_at hk, ix_at hk2, Option.bind_some]
        by_cases he : a[k] = b[k]
        · exact .inl ⟨(), by simp [he], take_step hk hk2 hI he⟩
        · exact .inr ⟨.inr false, by simp [he], rfl, fun h => by subst h; exact he rfl⟩)
      (by
        rintro s hI
        rw [List.take_length, hl, List.take_length] at hI
        exact hI)
    rw [hb, Option.bind_some]
    cases r with
    | inl u => have hp : a = b := hp; simp [hp]
    | inr r =>
      obtain ⟨h1, h2⟩ : r = false ∧ a ≠ b := hp
      simp [h1, h2]
  · have e : ((a.length : Int) != (b.length : Int)) = true := by simp; omega
    have : a ≠ b := fun h => hl (by rw [h])
    simp [e, this]
theorem good_sorted {l : List ViewCount} (h : GoodC l) : ∀ (j i : Nat) (x y : ViewCount), i < j → l[i]? = some x → l[j]? = some y → lexC x.View y.View = -1 := by
  intro j
  induction j with
  | zero => intro i x y hi; omega
  | succ j ih =>
    intro i x y hi hx hy
    have hj : j < l.length := by have := (List.getElem?_eq_some_iff.1 hy).1; omega
    have h1 := (h.2.1 (j + 1) y hy).2.2.2 l[j] (by omega) (by simp [List.getElem?_eq_getElem hj])
    by_cases hij : i = j
    · subst hij
      rw [List.getElem?_eq_getElem hj] at hx; cases hx
      exact h1
    · exact lexC_trans (ih i x l[j] (by omega) hx (List.getElem?_eq_getElem hj)) h1
theorem mid_eq {lo hi n : Nat} (h : lo ≤ hi) (hn : hi ≤ n) (hs : n ≤ 1048576) : IntKind.i64.wrap ((IntKind.u64.wrap (IntKind.i64.wrap ((lo : Int) + (hi : Int)))).fdiv 2) = (((lo + hi) / 2 : Nat) : Int) := by
  rw [wr64 (n := (lo : Int) + hi) (by omega) (by omega), wrU (by omega) (by omega)]
  have : ((lo : Int) + (hi : Int)).fdiv 2 = (((lo + hi) / 2 : Nat) : Int) := by
    rw [Int.fdiv_eq_ediv_of_nonneg _ (by omega)]; omega
  rw [this, wr64 (by omega) (by omega)]
/-- The element at a place. -/
def gv (l : List ViewCount) (i : Nat) : ViewCount := l.getD i ⟨[], 0⟩
theorem gv_at {l : List ViewCount} {i : Nat} (h : i < l.length) : gv l i = l[i] := by simp [gv, h]
theorem gv_get {l : List ViewCount} {i : Nat} (h : i < l.length) : l[i]? = some (gv l i) := by rw [gv_at h, List.getElem?_eq_getElem h]
theorem gv_ix {l : List ViewCount} {i : Nat} (h : i < l.length) : ix l (i : Int) = some (gv l i) := by rw [ix_at h, gv_at h]
theorem gv_set {l : List ViewCount} {i j : Nat} {x : ViewCount} (h : i < l.length) : gv (l.set i x) j = if j = i then x else gv l j := by
  unfold gv
  simp only [List.getD_eq_getElem?_getD, List.getElem?_set]
  by_cases e : i = j
  · subst e; simp [h]
  · have e' : ¬ j = i := fun h => e h.symm
    simp [e, e']
theorem gv_ext {l r : List ViewCount} (h : l.length = r.length) (he : ∀ i, i < l.length → gv l i = gv r i) : l = r := by
  apply List.ext_getElem h
  intro i h1 h2
  have := he i h1
  rwa [gv_at h1, gv_at h2] at this
/-- The order of elements, by their views. -/
def leV (x y : ViewCount) : Prop := lexC x.View y.View ≠ 1
def ltV (x y : ViewCount) : Prop := lexC x.View y.View = -1
theorem leV_of_lt {x y : ViewCount} (h : ltV x y) : leV x y := by unfold leV ltV at *; omega
theorem leV_of_nlt {x y : ViewCount} (h : ¬ ltV x y) : leV y x := by
  unfold leV ltV at *
  have := lexC_swap x.View y.View
  have := lexC_rng x.View y.View
  omega
theorem leV_refl (x : ViewCount) : leV x x := by unfold leV; rw [lexC_self]; omega
theorem leV_trans {x y z : ViewCount} (h1 : leV x y) (h2 : leV y z) : leV x z := by
  unfold leV at *
  intro h
  have r1 := lexC_rng x.View y.View
  have r2 := lexC_rng y.View z.View
  rcases r1 with r1 | r1 | r1
  · rcases r2 with r2 | r2 | r2
    · rw [lexC_trans r1 r2] at h; omega
    · rw [← lexC_eq r2] at h; omega
    · exact h2 r2
  · rw [lexC_eq r1] at h; exact h2 h
  · exact h1 r1
theorem p_cmpV (x y : ViewCount) : F_impl_gathered_1 x y = some (lexC x.View y.View) := by
  unfold F_impl_gathered_1
  rw [p_Compare]; rfl
/-- Only places of a row have changed; what is in it is the same, in another order. -/
structure Seg (l r : List ViewCount) (a b : Nat) : Prop where
  len : r.length = l.length
  perm : r.Perm l
  out : ∀ i, i < a ∨ b ≤ i → gv r i = gv l i
  all : ∀ p : ViewCount → Prop, (∀ i, a ≤ i → i < b → p (gv l i)) → ∀ i, a ≤ i → i < b → p (gv r i)
theorem Seg.refl (l : List ViewCount) (a b : Nat) : Seg l l a b := ⟨rfl, .refl _, fun _ _ => rfl, fun _ h => h⟩
theorem Seg.trans {l r t : List ViewCount} {a b : Nat} (h : Seg l r a b) (h' : Seg r t a b) : Seg l t a b :=
  ⟨h'.len.trans h.len, h'.perm.trans h.perm, fun i hi => (h'.out i hi).trans (h.out i hi), fun p hp => h'.all p (h.all p hp)⟩
theorem Seg.wide {l r : List ViewCount} {a b a' b' : Nat} (h : Seg l r a b) (ha : a' ≤ a) (hb : b ≤ b') : Seg l r a' b' :=
  ⟨h.len, h.perm, fun i hi => h.out i (by omega), fun p hp i h1 h2 => by
    by_cases hi : a ≤ i ∧ i < b
    · exact h.all p (fun j h3 h4 => hp j (by omega) (by omega)) i hi.1 hi.2
    · rw [h.out i (by omega)]; exact hp i h1 h2⟩
theorem swap_perm : ∀ {l : List ViewCount} {i j : Nat}, i < j → j < l.length → ((l.set i (gv l j)).set j (gv l i)).Perm l := by
  intro l
  induction l with
  | nil => intro i j _ h; simp at h
  | cons x l ih =>
    intro i j hij hj
    cases j with
    | zero => omega
    | succ j =>
      cases i with
      | succ i =>
        have := ih (i := i) (j := j) (by omega) (by simpa using hj)
        simpa [gv] using this
      | zero =>
        have hj' : j < l.length := by simpa using hj
        have e1 : gv (x :: l) (j + 1) = l[j] := by rw [gv_at hj]; rfl
        have e2 : gv (x :: l) 0 = x := rfl
        rw [e1, e2]
        simp only [List.set_cons_zero, List.set_cons_succ]
        have h1 : l.set j x = l.take j ++ x :: l.drop (j + 1) := by rw [List.set_eq_take_append_cons_drop, if_pos hj']
        have h2 : l = l.take j ++ l[j] :: l.drop (j + 1) := by
          rw [← List.drop_eq_getElem_cons hj', List.take_append_drop]
        rw [h1]
        have p1 : (l[j] :: (l.take j ++ x :: l.drop (j + 1))).Perm (l[j] :: x :: (l.take j ++ l.drop (j + 1))) := .cons _ List.perm_middle
        have p2 : (x :: l).Perm (x :: l[j] :: (l.take j ++ l.drop (j + 1))) := .cons _ (by
          have := List.perm_middle (a := l[j]) (l₁ := l.take j) (l₂ := l.drop (j + 1))
          rw [← h2] at this; exact this)
        exact (p1.trans (.swap _ _ _)).trans p2.symm
theorem swap_perm' {l : List ViewCount} {i j : Nat} (h : i ≠ j) (hi : i < l.length) (hj : j < l.length) : ((l.set i (gv l j)).set j (gv l i)).Perm l := by
  rcases Nat.lt_or_ge i j with h1 | h1
  · exact swap_perm h1 hj
  · have := swap_perm (l := l) (i := j) (j := i) (by omega) hi
    rwa [List.set_comm _ _ (by omega)] at this
theorem gv_swap {l : List ViewCount} {i j k : Nat} (hi : i < l.length) (hj : j < l.length) : gv ((l.set i (gv l j)).set j (gv l i)) k = if k = j then gv l i else if k = i then gv l j else gv l k := by
  rw [gv_set (by simpa using hj), gv_set hi]
theorem seg_swap {l : List ViewCount} {i j a b : Nat} (h : i ≠ j) (hi : i < l.length) (hj : j < l.length) (a1 : a ≤ i) (a2 : i < b) (b1 : a ≤ j) (b2 : j < b) : Seg l ((l.set i (gv l j)).set j (gv l i)) a b := by
  refine ⟨by simp, swap_perm' h hi hj, fun k hk => ?_, fun p hp k h1 h2 => ?_⟩
  · rw [gv_swap hi hj, if_neg (by omega), if_neg (by omega)]
  · rw [gv_swap hi hj]
    split
    · exact hp i a1 a2
    · split
      · exact hp j b1 b2
      · exact hp k h1 h2
/-- A row is in order. -/
def Srt (l : List ViewCount) (a b : Nat) : Prop := ∀ i j, a ≤ i → i < j → j < b → leV (gv l i) (gv l j)
theorem Srt.le {l : List ViewCount} {a b i j : Nat} (h : Srt l a b) (h1 : a ≤ i) (h2 : i ≤ j) (h3 : j < b) : leV (gv l i) (gv l j) := by
  rcases Nat.lt_or_ge i j with h4 | h4
  · exact h i j h1 h4 h3
  · have : i = j := by omega
    subst this; exact leV_refl _
theorem p_insertion (l : List ViewCount) (a b : Nat) (hab : a ≤ b) (hb : b ≤ l.length) (hl : l.length ≤ 1048576) :
    ∃ r, F_slices_insertionSortCmpFunc_impl_ViewCount__io0_impl_gathered_1 l (a : Int) (b : Int) = some r ∧ Seg l r a b ∧ Srt r a b := by
  unfold F_slices_insertionSortCmpFunc_impl_ViewCount__io0_impl_gathered_1
  rw [wr64 (by omega) (by omega)]
  refine wloop_post (fun n s => ∃ (r : List ViewCount) (i : Nat), s = (r, (i : Int)) ∧ a < i ∧ n = b - i ∧ Seg l r a b ∧ Srt r a (min i b)) (fun r => Seg l r a b ∧ Srt r a b) ?_ (b - (a + 1)) (l, (a : Int) + 1)
    ⟨l, a + 1, by simp, by omega, rfl, .refl l a b, fun i j h1 h2 h3 => by omega⟩
  rintro n s ⟨r, i, rfl, h1, h2, h3, h4⟩
  simp only
  have hrl := h3.len
  by_cases hib : i < b
  · have hd : decide ((i : Int) < (b : Int)) = true := by simpa using hib
    simp only [hd, if_true]
    obtain ⟨r2, e1, e2⟩ := wloop_post (σ := (List ViewCount) × Int) (β := (List ViewCount)) (step := fun s229 =>
      ((if decide ((a : Int) < s229.2) = true then (
      (ix s229.1 s229.2).bind fun x245 =>
      (ix s229.1 (IntKind.i64.wrap (s229.2 - 1))).bind fun x252 =>
      (F_impl_gathered_1 x245 x252).bind fun z259 =>
      some (decide (z259 < 0))) else (
      some false) : Option (Bool)).bind fun (x241 : Bool) =>
      if x241 = true then (
      (ix s229.1 (IntKind.i64.wrap (s229.2 - 1))).bind fun x267 =>
      (ix s229.1 s229.2).bind fun x274 =>
      (ix (s229.1.set s229.2.toNat x267) (IntKind.i64.wrap (s229.2 - 1))).bind fun x281 =>
      some (.go ((s229.1.set s229.2.toNat x267).set ((IntKind.i64.wrap (s229.2 - 1)).toNat) x274, IntKind.i64.wrap (s229.2 - 1)))) else (
      some (.out s229.1))))
      (fun n s => ∃ (q : List ViewCount) (j : Nat), s = (q, (j : Int)) ∧ n = j ∧ a ≤ j ∧ j ≤ i ∧ Seg l q a b ∧ ∀ x y, a ≤ x → x < y → y ≤ i → y ≠ j → leV (gv q x) (gv q y))
      (fun q => Seg l q a b ∧ Srt q a (i + 1))
      (by
        rintro n s ⟨q, j, rfl, k1, k2, k3, k4, k5⟩
        simp only
        have hql := k4.len
        by_cases haj : a < j
        · have hd : decide ((a : Int) < (j : Int)) = true := by simpa using haj
          have ej : (j : Int) - 1 = ((j - 1 : Nat) : Int) := by omega
          rw [wr64 (n := (j : Int) - 1) (by omega) (by omega), ej]
          simp only [hd, if_true, gv_ix (l := q) (i := j) (by omega), gv_ix (l := q) (i := j - 1) (by omega), Option.bind_some, p_cmpV]
          by_cases hc : ltV (gv q j) (gv q (j - 1))
          · have hc' : lexC (gv q j).View (gv q (j - 1)).View = -1 := hc
            rw [hc']
            refine .inl ⟨((q.set j (gv q (j - 1))).set (j - 1) (gv q j), ((j - 1 : Nat) : Int)), j - 1, ?_, by omega, _, j - 1, rfl, rfl, by omega, by omega, k4.trans (seg_swap (by omega) (by omega) (by omega) (by omega) (by omega) (by omega) (by omega)), ?_⟩
            · simp only [show decide ((-1 : Int) < 0) = true from rfl, if_true, Int.toNat_natCast]
              rw [gv_ix (by simp; omega)]
              rfl
            · intro x y x1 x2 x3 x4
              rw [gv_swap (by omega) (by omega), gv_swap (by omega) (by omega), if_neg x4]
              by_cases y1 : y = j
              · rw [if_pos y1]
                by_cases x5 : x = j - 1
                · rw [if_pos x5]; exact leV_of_lt hc
                · rw [if_neg x5, if_neg (by omega)]
                  exact k5 x (j - 1) x1 (by omega) (by omega) (by omega)
              · rw [if_neg y1]
                by_cases x5 : x = j - 1
                · rw [if_pos x5]; exact k5 j y (by omega) (by omega) x3 y1
                · rw [if_neg x5]
                  by_cases x6 : x = j
                  · rw [if_pos x6]; exact k5 (j - 1) y (by omega) (by omega) x3 y1
                  · rw [if_neg x6]; exact k5 x y x1 x2 x3 y1
          · have hn : decide (lexC (gv q j).View (gv q (j - 1)).View < 0) = false := by
              have := lexC_rng (gv q j).View (gv q (j - 1)).View
              have hc : ¬ lexC (gv q j).View (gv q (j - 1)).View = -1 := hc
              simp; omega
            refine .inr ⟨q, by simp [hn], k4, fun x y x1 x2 x3 => ?_⟩
            by_cases y1 : y = j
            · subst y1
              by_cases x5 : x = y - 1
              · rw [x5]; exact leV_of_nlt hc
              · exact leV_trans (k5 x (y - 1) x1 (by omega) (by omega) (by omega)) (leV_of_nlt hc)
            · exact k5 x y x1 x2 (by omega) y1
        · have hd : decide ((a : Int) < (j : Int)) = false := by simpa using haj
          refine .inr ⟨q, by simp [haj], k4, fun x y x1 x2 x3 => k5 x y x1 x2 (by omega) (by omega)⟩)
      i (r, (i : Int)) ⟨r, i, rfl, rfl, by omega, by omega, h3, fun x y x1 x2 x3 x4 => h4 x y x1 x2 (by omega)⟩
    rw [e1, Option.bind_some]
    refine .inl ⟨(r2, (i : Int) + 1), b - (i + 1), by rw [wr64 (by omega) (by omega)], by omega, r2, i + 1, by simp, by omega, rfl, e2.1, ?_⟩
    rw [Nat.min_eq_left (by omega)]
    exact e2.2
  · have hd : decide ((i : Int) < (b : Int)) = false := by simpa using hib
    refine .inr ⟨r, by simp [hib], h3, ?_⟩
    rw [Nat.min_eq_right (by omega)] at h4
    exact h4
end Go.Pm
