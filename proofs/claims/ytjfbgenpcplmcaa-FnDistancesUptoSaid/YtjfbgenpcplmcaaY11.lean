/-
  FnDistances: plain laws.
  No condition.
-/
import Derived.Test.YtjfbgenpcplmcaaM11
import Derived.Test.YtjfbgenpcplmcaaPmZ
namespace Go.Pm
open Go.Am
set_option linter.unusedVariables false
set_option linter.unusedSimpArgs false
def lexC : List Int → List Int → Int
  | [], [] => 0
  | [], _ :: _ => -1
  | _ :: _, [] => 1
  | a :: l, b :: r => if a < b then -1 else if b < a then 1 else lexC l r
theorem lexC_self : ∀ l : List Int, lexC l l = 0 := by
  intro l
  induction l with
  | nil => rfl
  | cons a l ih => simp [lexC, ih]
theorem lexC_eq : ∀ {l r : List Int}, lexC l r = 0 → l = r := by
  intro l
  induction l with
  | nil => intro r h; cases r with
    | nil => rfl
    | cons b r => simp [lexC] at h
  | cons a l ih => intro r h; cases r with
    | nil => simp [lexC] at h
    | cons b r =>
      simp only [lexC] at h
      split at h
      · omega
      · split at h
        · omega
        · rw [ih h]; congr 1; omega
theorem lexC_rng : ∀ l r : List Int, lexC l r = -1 ∨ lexC l r = 0 ∨ lexC l r = 1 := by
  intro l
  induction l with
  | nil => intro r; cases r <;> simp [lexC]
  | cons a l ih => intro r; cases r with
    | nil => simp [lexC]
    | cons b r =>
      simp only [lexC]
      split
      · simp
      · split
        · simp
        · exact ih r
theorem lexC_swap : ∀ l r : List Int, lexC r l = - lexC l r := by
  intro l
  induction l with
  | nil => intro r; cases r <;> simp [lexC]
  | cons a l ih => intro r; cases r with
    | nil => simp [lexC]
    | cons b r =>
      simp only [lexC]
      rcases Int.lt_trichotomy a b with h | h | h
      · rw [if_neg (by omega), if_pos h, if_pos h]; rfl
      · subst h; simp [ih r]
      · rw [if_pos h, if_neg (by omega), if_pos h]
theorem lexC_trans : ∀ {l r t : List Int}, lexC l r = -1 → lexC r t = -1 → lexC l t = -1 := by
  intro l
  induction l with
  | nil =>
    intro r t h1 h2
    cases t with
    | nil => cases r <;> simp [lexC] at h2
    | cons c t => rfl
  | cons a l ih => intro r t h1 h2; cases r with
    | nil => simp [lexC] at h1
    | cons b r => cases t with
      | nil => simp [lexC] at h2
      | cons c t =>
        simp only [lexC] at h1 h2 ⊢
        by_cases ab : a < b
        · by_cases bc : b < c
          · rw [if_pos (by omega)]
          · rw [if_neg bc] at h2
            split at h2
            · omega
            · rw [if_pos (by omega)]
        · rw [if_neg ab] at h1
          split at h1
          · omega
          · by_cases bc : b < c
            · rw [if_pos (by omega)]
            · rw [if_neg bc] at h2
              split at h2
              · omega
              · rw [if_neg (by omega), if_neg (by omega)]
                exact ih h1 h2
theorem lexC_drop {l r : List Int} : ∀ {k : Nat}, l.take k = r.take k → k ≤ l.length → k ≤ r.length → lexC l r = lexC (l.drop k) (r.drop k) := by
  intro k
  induction k generalizing l r with
  | zero => intro _ _ _; simp
  | succ k ih =>
    intro h h1 h2
    cases l with
    | nil => simp at h1
    | cons a l => cases r with
      | nil => simp at h2
      | cons b r =>
        simp only [List.take_succ_cons, List.cons.injEq] at h
        obtain ⟨rfl, h⟩ := h
        simp only [lexC, Int.lt_irrefl, if_false, List.drop_succ_cons]
        exact ih h (by simpa using h1) (by simpa using h2)
theorem lexC_end {l r : List Int} {k : Nat} (h : l.take k = r.take k) (h1 : k < l.length) (h2 : k = r.length) : lexC l r = 1 := by
  subst h2
  rw [lexC_drop h (by omega) (by omega), List.drop_length, List.drop_eq_getElem_cons h1]
  rfl
theorem lexC_mid {l r : List Int} {k : Nat} (h : l.take k = r.take k) (h1 : k < l.length) (h2 : k < r.length) : lexC l r = if l[k] < r[k] then -1 else if r[k] < l[k] then 1 else lexC (l.drop (k + 1)) (r.drop (k + 1)) := by
  rw [lexC_drop h (by omega) (by omega), List.drop_eq_getElem_cons h1, List.drop_eq_getElem_cons h2]
  rfl
theorem take_step {l r : List Int} {k : Nat} (h1 : k < l.length) (h2 : k < r.length) (h : l.take k = r.take k) (he : l[k] = r[k]) : l.take (k + 1) = r.take (k + 1) := by
  rw [List.take_succ_eq_append_getElem h1, List.take_succ_eq_append_getElem h2, h, he]
theorem p_wLess (l r : List Int) : F_spec_wLess l r = some (decide (lexC l r = -1)) := by
  unfold F_spec_wLess
  obtain ⟨b, hb, hp⟩ := rloop_post (σ := Unit) (β := Unit ⊕ Bool) (body := fun i9 s8 =>
    if (i9 == (r.length : Int)) = true then (
    some (.out (.inr false))) else (
    (ix l i9).bind fun x26 =>
    (ix r i9).bind fun x33 =>
    if (x26 != x33) = true then (
    some (.out (.inr (decide (x26 < x33))))) else (
    some (.go ())))) (stop := fun s8 => .inl ()) (m := l.length) (i0 := 0) (s0 := ()) (fun k _ => k ≤ r.length ∧ l.take k = r.take k)
    (fun b => Sum.elim (fun _ => decide ((l.length : Int) < (r.length : Int))) id b = decide (lexC l r = -1)) ⟨by omega, by simp⟩
    (by
      rintro k s hk ⟨h1, h2⟩
      rw [Int.zero_add]
      by_cases hkr : k = r.length
      · subst hkr
        refine .inr ⟨.inr false, by simp, ?_⟩
        have := lexC_end h2 hk rfl
        simp [this]
      · have hk2 : k < r.length := by omega
        have hne : ((k : Int) == (r.length : Int)) = false := by simpa using by omega
        simp only [hne, Bool.false_eq_true, if_false, ix_at hk, ix_at hk2, Option.bind_some]
        by_cases he : l[k] = r[k]
        · exact .inl ⟨(), by simp [he], by omega, take_step hk hk2 h2 he⟩
        · refine .inr ⟨.inr (decide (l[k] < r[k])), by simp [he], ?_⟩
          have hv := lexC_mid h2 hk hk2
          by_cases hlt : l[k] < r[k]
          · rw [if_pos hlt] at hv; simp [hlt, hv]
          · rw [if_neg hlt, if_pos (by omega)] at hv; simp [hlt, hv])
    (by
      rintro s ⟨h1, h2⟩
      simp only [Sum.elim_inl]
      rw [lexC_drop h2 (by omega) h1, List.drop_length]
      cases hd : r.drop l.length with
      | nil =>
        have := congrArg List.length hd
        simp at this
        simp [lexC]; omega
      | cons c t =>
        have := congrArg List.length hd
        simp at this
        simp [lexC]; omega)
  rw [hb, Option.bind_some]
  cases b with
  | inl u => simpa using hp
  | inr b => simpa using hp
theorem p_cmp (a b : Int) : F_cmp_Compare_int a b = some (if a < b then -1 else if b < a then 1 else 0) := by
  unfold F_cmp_Compare_int F_cmp_isNaN_int
  simp only [bne_self_eq_false, Option.bind_some, Bool.false_eq_true, if_false, decide_eq_true_eq]
  split
  · rfl
  · split <;> rfl
theorem p_Compare (l r : List Int) : F_slices_Compare_int_int l r = some (lexC l r) := by
  unfold F_slices_Compare_int_int
  obtain ⟨b, hb, hp⟩ := rloop_post (σ := Unit) (β := Unit ⊕ Int) (body := fun i9 s8 =>
    (ix l i9).bind fun x18 =>
    if decide ((r.length : Int) ≤ i9) = true then (
    some (.out (.inr 1))) else (
    (ix r i9).bind fun x33 =>
    (F_cmp_Compare_int x18 x33).bind fun z40 =>
    if (z40 != 0) = true then (
    some (.out (.inr z40))) else (
    some (.go ())))) (stop := fun s8 => .inl ()) (m := l.length) (i0 := 0) (s0 := ()) (fun k _ => k ≤ r.length ∧ l.take k = r.take k)
    (fun b => Sum.elim (fun _ => if decide ((l.length : Int) < (r.length : Int)) = true then -1 else 0) id b = lexC l r) ⟨by omega, by simp⟩
    (by
      rintro k s hk ⟨h1, h2⟩
      rw [Int.zero_add]
      simp only [ix_at hk, Option.bind_some]
      by_cases hkr : k = r.length
      · subst hkr
        refine .inr ⟨.inr 1, by simp, ?_⟩
        have := lexC_end h2 hk rfl
        simp [this]
      · have hk2 : k < r.length := by omega
        have hne : decide ((r.length : Int) ≤ (k : Int)) = false := by simpa using by omega
        simp only [hne, Bool.false_eq_true, if_false, ix_at hk2, Option.bind_some, p_cmp]
        rcases Int.lt_trichotomy l[k] r[k] with he | he | he
        · refine .inr ⟨.inr (-1), by simp [he], ?_⟩
          have hv := lexC_mid h2 hk hk2
          rw [if_pos he] at hv; simp [hv]
        · exact .inl ⟨(), by simp [he], by omega, take_step hk hk2 h2 he⟩
        · have hn : ¬ l[k] < r[k] := by omega
          refine .inr ⟨.inr 1, by simp [he, hn], ?_⟩
          have hv := lexC_mid h2 hk hk2
          rw [if_neg hn, if_pos he] at hv; simp [hv])
    (by
      rintro s ⟨h1, h2⟩
      simp only [Sum.elim_inl]
      rw [lexC_drop h2 (by omega) h1, List.drop_length]
      cases hd : r.drop l.length with
      | nil =>
        have := congrArg List.length hd
        simp at this
        rw [if_neg (by simp; omega)]; rfl
      | cons c t =>
        have := congrArg List.length hd
        simp at this
        rw [if_pos (by simp; omega)]; rfl)
  rw [hb, Option.bind_some]
  cases b with
  | inl u =>
    simp only [Sum.elim_inl] at hp ⊢
    rw [← hp]; split <;> rfl
  | inr b => simpa using hp
-- valid counts
def sumT (l : List ViewCount) : Int := (l.map (·.Times)).sum
theorem sumT_take {l : List ViewCount} {k : Nat} (h : k < l.length) : sumT (l.take (k + 1)) = sumT (l.take k) + l[k].Times := by
  unfold sumT
  rw [List.take_succ_eq_append_getElem h, List.map_append, List.sum_append]
  simp
def goodAt (l : List ViewCount) (k : Nat) (x : ViewCount) : Prop := 1 ≤ x.Times ∧ x.Times ≤ 1000000 ∧ x.View.length ≤ 24 ∧ ∀ y, 0 < k → l[k - 1]? = some y → lexC y.View x.View = -1
def GoodC (l : List ViewCount) : Prop := l.length ≤ 3000 ∧ (∀ k x, l[k]? = some x → goodAt l k x) ∧ sumT l ≤ 1000000
theorem p_within (a b c : Int) : F_impl_within a b c = some (decide (b ≤ a) && decide (a ≤ c)) := by
  unfold F_impl_within
  by_cases h : b ≤ a <;> simp [h]
theorem p_l1In (a b c : Int) : F_spec_l1In a b c = some (decide (b ≤ a) && decide (a ≤ c)) := by
  unfold F_spec_l1In
  by_cases h : b ≤ a <;> simp [h]
theorem sumT_nonneg {l : List ViewCount} (h : ∀ x ∈ l, 0 ≤ x.Times) : 0 ≤ sumT l := by
  induction l with
  | nil => exact Int.le_refl _
  | cons a l ih =>
    have h1 := h a (List.mem_cons_self ..)
    have h2 := ih fun x hx => h x (List.mem_cons_of_mem _ hx)
    simp only [sumT, List.map_cons, List.sum_cons] at h2 ⊢
    omega
theorem sumT_le {l : List ViewCount} {c : Int} (h : ∀ x ∈ l, x.Times ≤ c) : sumT l ≤ l.length * c := by
  induction l with
  | nil => simp [sumT]
  | cons a l ih =>
    have h1 := h a (List.mem_cons_self ..)
    have h2 := ih fun x hx => h x (List.mem_cons_of_mem _ hx)
    simp only [sumT, List.map_cons, List.sum_cons, List.length_cons] at h2 ⊢
    push_cast
    rw [Int.add_mul]; omega
theorem p_sum0 {l : List ViewCount} (hl : l.length ≤ 3000) (h : ∀ x ∈ l, 1 ≤ x.Times ∧ x.Times ≤ 1000000) : rloop (σ := Int) (β := Int) (fun i27 s26 =>
    (ix l i27).bind fun x36 =>
    some (.go (IntKind.i64.wrap (s26 + x36.Times)))) (fun s26 => s26) (l.length) 0 0 = some (sumT l) := by
  refine some_of (rloop_post (fun k s => s = sumT (l.take k)) _ (by simp [sumT]) ?_ (fun s h => by rw [h, List.take_length]))
  rintro k s hk rfl
  rw [Int.zero_add, ix_at hk]
  have h0 := sumT_nonneg (l := l.take k) fun x hx => by have := (h x (List.mem_of_mem_take hx)).1; omega
  have h1 := sumT_le (l := l.take k) (c := 1000000) fun x hx => (h x (List.mem_of_mem_take hx)).2
  have h2 := h l[k] (List.getElem_mem hk)
  have h3 : ((l.take k).length : Int) ≤ 3000 := by simp; omega
  have h4 : ((l.take k).length : Int) * 1000000 ≤ 3000 * 1000000 := Int.mul_le_mul_of_nonneg_right h3 (by omega)
  refine .inl ⟨_, by rw [Option.bind_some, wr64 (by omega) (by omega)], ?_⟩
  rw [sumT_take hk]
theorem p_wSum {l : List ViewCount} (hl : l.length ≤ 3000) (h : ∀ x ∈ l, 1 ≤ x.Times ∧ x.Times ≤ 1000000) : F_spec_wSum l = some (sumT l) := by
  unfold F_spec_wSum
  rw [p_sum0 hl h]; rfl
theorem p_total {l : List ViewCount} (hl : l.length ≤ 3000) (h : ∀ x ∈ l, 1 ≤ x.Times ∧ x.Times ≤ 1000000) : F_impl_total l = some (sumT l) := by
  unfold F_impl_total
  rw [p_sum0 hl h]; rfl
theorem goodAt_iff {l : List ViewCount} {k : Nat} {x y : ViewCount} (hy : 0 < k → l[k - 1]? = some y) : goodAt l k x ↔ 1 ≤ x.Times ∧ x.Times ≤ 1000000 ∧ x.View.length ≤ 24 ∧ (0 < k → lexC y.View x.View = -1) := by
  constructor
  · rintro ⟨h1, h2, h3, h4⟩; exact ⟨h1, h2, h3, fun h => h4 y h (hy h)⟩
  · rintro ⟨h1, h2, h3, h4⟩; exact ⟨h1, h2, h3, fun z h hz => by rw [hy h] at hz; cases hz; exact h4 h⟩
theorem prev_at {l : List ViewCount} {k : Nat} (hk : k < l.length) (hl : l.length ≤ 1048576) (h0 : 0 < k) : ix l (IntKind.i64.wrap ((k : Int) - 1)) = some (l[k - 1]'(by omega)) := by
  rw [wr64 (by omega) (by omega)]
  have : (k : Int) - 1 = ((k - 1 : Nat) : Int) := by omega
  rw [this, ix_at (by omega)]
theorem p_wGood (l : List ViewCount) (hl : l.length ≤ 1048576) (hv : ∀ x ∈ l, x.View.length ≤ 1048576) : ∃ b, F_spec_wGood l = some b ∧ (b = true ↔ GoodC l) := by
  unfold F_spec_wGood
  by_cases h3 : 3000 < (l.length : Int)
  · exact ⟨false, by simp [h3], by simp only [Bool.false_eq_true, false_iff]; rintro ⟨h, _⟩; omega⟩
  · simp only [h3, decide_false, Bool.false_eq_true, if_false]
    obtain ⟨b, hb, hp⟩ := rloop_post (σ := Unit) (β := Unit ⊕ Bool) (body := fun i15 s14 =>
      (ix l i15).bind fun x24 =>
      (((F_spec_l1In x24.Times 1 1000000).bind fun z37 =>
      if (!z37) = true then (
      some true) else (
      if decide (24 < (x24.View.length : Int)) = true then (
      some true) else (
      if decide (0 < i15) = true then (
      (ix l (IntKind.i64.wrap (i15 - 1))).bind fun x51 =>
      (F_spec_wLess x51.View x24.View).bind fun z58 =>
      some (!z58)) else (
      some false))) : Option (Bool)).bind fun (x35 : Bool) =>
      if x35 = true then (
      some (.out (.inr false))) else (
      some (.go ())))) (stop := fun s14 => .inl ()) (m := l.length) (i0 := 0) (s0 := ()) (fun n _ => ∀ k x, k < n → l[k]? = some x → goodAt l k x)
      (fun b => Sum.elim (fun _ => ∀ k x, l[k]? = some x → goodAt l k x) (fun b => b = false ∧ ¬ ∀ k x, l[k]? = some x → goodAt l k x) b) (fun k x h => by omega)
      (by
        rintro k s hk hI
        rw [Int.zero_add]
        have inner : ∃ b, ((F_spec_l1In l[k].Times 1 1000000).bind fun z37 =>
            if (!z37) = true then (
            some true) else (
            if decide (24 < (l[k].View.length : Int)) = true then (
            some true) else (
            if decide (0 < (k : Int)) = true then (
            (ix l (IntKind.i64.wrap ((k : Int) - 1))).bind fun x51 =>
            (F_spec_wLess x51.View l[k].View).bind fun z58 =>
            some (!z58)) else (
            some false)))) = some b ∧ (b = false ↔ goodAt l k l[k]) := by
          rw [p_l1In, Option.bind_some]
          by_cases h1 : 1 ≤ l[k].Times ∧ l[k].Times ≤ 1000000
          · by_cases h2 : 24 < (l[k].View.length : Int)
            · refine ⟨true, by simp [h1, h2], ?_⟩
              simp only [Bool.true_eq_false, false_iff]
              rintro ⟨_, _, h, _⟩; omega
            · by_cases h0 : 0 < k
              · rw [prev_at hk hl h0]
                have hm := hv (l[k - 1]'(by omega)) (List.getElem_mem _)
                have hm2 := hv l[k] (List.getElem_mem _)
                refine ⟨!decide (lexC (l[k - 1]'(by omega)).View l[k].View = -1), by simp [h1, h2, h0, p_wLess _ _], ?_⟩
                rw [goodAt_iff (y := l[k - 1]'(by omega)) (fun _ => List.getElem?_eq_getElem _)]
                simp [h1.1, h1.2, h0]; omega
              · refine ⟨false, by simp [h1, h2, h0], ?_⟩
                simp only [true_iff]
                exact ⟨h1.1, h1.2, by omega, fun y h => absurd h h0⟩
          · refine ⟨true, ?_, ?_⟩
            · have : (decide (1 ≤ l[k].Times) && decide (l[k].Times ≤ 1000000)) = false := by simp; omega
              simp [this]
            · simp only [Bool.true_eq_false, false_iff]
              rintro ⟨a, b, _⟩; exact h1 ⟨a, b⟩
        obtain ⟨b, hb, hb2⟩ := inner
        simp only [ix_at hk, Option.bind_some]
        rw [hb, Option.bind_some]
        cases b with
        | true =>
          refine .inr ⟨.inr false, rfl, rfl, fun h => ?_⟩
          have := hb2.2 (h k _ (List.getElem?_eq_getElem hk))
          cases this
        | false =>
          refine .inl ⟨(), rfl, fun j x hj hx => ?_⟩
          by_cases hjk : j = k
          · subst hjk
            rw [List.getElem?_eq_getElem hk] at hx; cases hx
            exact hb2.1 rfl
          · exact hI j x (by omega) hx)
      (by
        rintro s hI k x hx
        exact hI k x (List.getElem?_eq_some_iff.1 hx).1 hx)
    rw [hb, Option.bind_some]
    cases b with
    | inl u =>
      simp only [Sum.elim_inl] at hp ⊢
      have hT : ∀ x ∈ l, 1 ≤ x.Times ∧ x.Times ≤ 1000000 := by
        intro x hx
        obtain ⟨k, hk⟩ := List.getElem?_of_mem hx
        have := hp k x hk
        exact ⟨this.1, this.2.1⟩
      rw [p_wSum (by omega) hT, Option.bind_some]
      refine ⟨_, rfl, ?_⟩
      simp only [decide_eq_true_eq]
      exact ⟨fun h => ⟨by omega, hp, h⟩, fun h => h.2.2⟩
    | inr b =>
      simp only [Sum.elim_inr] at hp ⊢
      exact ⟨b, rfl, by rw [hp.1]; simp only [Bool.false_eq_true, false_iff]; exact fun h => hp.2 h.2.1⟩
theorem p_isCount (l : List ViewCount) (hl : l.length ≤ 1048576) (hv : ∀ x ∈ l, x.View.length ≤ 1048576) : ∃ b, F_impl_isCount l = some b ∧ (b = true ↔ GoodC l) := by
  unfold F_impl_isCount
  by_cases h3 : 3000 < (l.length : Int)
  · exact ⟨false, by simp [h3], by simp only [Bool.false_eq_true, false_iff]; rintro ⟨h, _⟩; omega⟩
  · simp only [h3, decide_false, Bool.false_eq_true, if_false]
    have mono : ∀ k, k ≤ l.length → (∀ x ∈ l, 1 ≤ x.Times) → sumT (l.take k) ≤ sumT l := by
      intro k hk h
      have e : sumT l = sumT (l.take k) + sumT (l.drop k) := by
        unfold sumT
        rw [← List.sum_append, ← List.map_append, List.take_append_drop]
      have := sumT_nonneg (l := l.drop k) fun x hx => by have := h x (List.mem_of_mem_drop hx); omega
      omega
    obtain ⟨b, hb, hp⟩ := rloop_post (σ := Int) (β := Unit ⊕ Bool) (body := fun i73 s72 =>
      (ix l i73).bind fun x82 =>
      ((if decide (24 < (x82.View.length : Int)) = true then (
      some true) else (
      (F_impl_within x82.Times 1 (IntKind.i64.wrap (1000000 - s72))).bind fun z100 =>
      if (!z100) = true then (
      some true) else (
      if decide (0 < i73) = true then (
      (ix l (IntKind.i64.wrap (i73 - 1))).bind fun x109 =>
      (F_slices_Compare_int_int x109.View x82.View).bind fun z116 =>
      some (decide (0 ≤ z116))) else (
      some false))) : Option (Bool)).bind fun (x93 : Bool) =>
      if x93 = true then (
      some (.out (.inr false))) else (
      some (.go (IntKind.i64.wrap (s72 + x82.Times)))))) (stop := fun s72 => .inl ()) (m := l.length) (i0 := 0) (s0 := 0)
      (fun n s => s = sumT (l.take n) ∧ 0 ≤ s ∧ s ≤ 1000000 ∧ ∀ k x, k < n → l[k]? = some x → goodAt l k x)
      (fun b => Sum.elim (fun _ => GoodC l) (fun b => b = false ∧ ¬ GoodC l) b) ⟨by simp [sumT], by omega, by omega, fun k x h => by omega⟩
      (by
        rintro k s hk ⟨hs, h0, h1, hI⟩
        rw [Int.zero_add]
        have inner : ∃ b, (if decide (24 < (l[k].View.length : Int)) = true then (
            some true) else (
            (F_impl_within l[k].Times 1 (IntKind.i64.wrap (1000000 - s))).bind fun z100 =>
            if (!z100) = true then (
            some true) else (
            if decide (0 < (k : Int)) = true then (
            (ix l (IntKind.i64.wrap ((k : Int) - 1))).bind fun x109 =>
            (F_slices_Compare_int_int x109.View l[k].View).bind fun z116 =>
            some (decide (0 ≤ z116))) else (
            some false)))) = some b ∧ (b = false ↔ goodAt l k l[k] ∧ l[k].Times ≤ 1000000 - s) := by
          rw [wr64 (by omega) (by omega), p_within, Option.bind_some]
          by_cases h2 : 24 < (l[k].View.length : Int)
          · refine ⟨true, by simp [h2], ?_⟩
            simp only [Bool.true_eq_false, false_iff]
            rintro ⟨⟨_, _, h, _⟩, _⟩; omega
          · by_cases h4 : 1 ≤ l[k].Times ∧ l[k].Times ≤ 1000000 - s
            · by_cases h5 : 0 < k
              · rw [prev_at hk hl h5]
                have hm := hv (l[k - 1]'(by omega)) (List.getElem_mem _)
                have hm2 := hv l[k] (List.getElem_mem _)
                refine ⟨decide (0 ≤ lexC (l[k - 1]'(by omega)).View l[k].View), by simp [h4, h2, h5, p_Compare _ _], ?_⟩
                rw [goodAt_iff (y := l[k - 1]'(by omega)) (fun _ => List.getElem?_eq_getElem _)]
                have hr := lexC_rng (l[k - 1]'(by omega)).View l[k].View
                simp [h4.1, h4.2, h5]; omega
              · refine ⟨false, by simp [h4, h2, h5], ?_⟩
                simp only [true_iff]
                exact ⟨⟨h4.1, by omega, by omega, fun y h => absurd h h5⟩, h4.2⟩
            · refine ⟨true, ?_, ?_⟩
              · have : (decide (1 ≤ l[k].Times) && decide (l[k].Times ≤ 1000000 - s)) = false := by simp; omega
                simp [this]
              · simp only [Bool.true_eq_false, false_iff]
                rintro ⟨⟨a, b, _⟩, c⟩; exact h4 ⟨a, c⟩
        obtain ⟨b, hb, hb2⟩ := inner
        simp only [ix_at hk, Option.bind_some]
        rw [hb, Option.bind_some]
        cases b with
        | true =>
          refine .inr ⟨.inr false, rfl, rfl, fun h => ?_⟩
          have hT : ∀ x ∈ l, 1 ≤ x.Times := by
            intro x hx
            obtain ⟨j, hj⟩ := List.getElem?_of_mem hx
            exact (h.2.1 j x hj).1
          have h6 := mono (k + 1) (by omega) hT
          rw [sumT_take hk, ← hs] at h6
          have := hb2.2 ⟨h.2.1 k _ (List.getElem?_eq_getElem hk), by have := h.2.2; omega⟩
          cases this
        | false =>
          obtain ⟨h6, h7⟩ := hb2.1 rfl
          have h8 := h6.1
          refine .inl ⟨s + l[k].Times, by simp only [Bool.false_eq_true, if_false]; rw [wr64 (by omega) (by omega)], by rw [sumT_take hk, hs], by omega, by omega, fun j x hj hx => ?_⟩
          by_cases hjk : j = k
          · subst hjk
            rw [List.getElem?_eq_getElem hk] at hx; cases hx
            exact h6
          · exact hI j x (by omega) hx)
      (by
        rintro s ⟨hs, h0, h1, hI⟩
        rw [List.take_length] at hs
        exact ⟨by omega, fun k x hx => hI k x (List.getElem?_eq_some_iff.1 hx).1 hx, by omega⟩)
    rw [hb, Option.bind_some]
    cases b with
    | inl u => exact ⟨true, rfl, by simpa using hp⟩
    | inr b =>
      simp only [Sum.elim_inr] at hp ⊢
      exact ⟨b, rfl, by rw [hp.1]; simp only [Bool.false_eq_true, false_iff]; exact hp.2⟩
theorem p_l1Same (a b : List Int) (ha : a.length ≤ 1048576) : F_spec_l1Same a b = some (decide (a = b)) := by
  unfold F_spec_l1Same
  by_cases hl : a.length = b.length
  · have e : ((a.length : Int) != (b.length : Int)) = false := by simp [hl]
    simp only [e, Bool.false_eq_true, if_false]
    obtain ⟨r, hb, hp⟩ := rloop_post (σ := Unit) (β := Unit ⊕ Bool) (body := fun i16 s15 =>
      (ix a i16).bind fun x25 =>
      (ix b i16).bind fun x32 =>
      if (x25 != x32) = true then (
      some (.out (.inr false))) else (
      some (.go ()))) (stop := fun s15 => .inl ()) (m := a.length) (i0 := 0) (s0 := ()) (fun k _ => a.take k = b.take k)
      (fun r => Sum.elim (fun _ => a = b) (fun r => r = false ∧ a ≠ b) r) (by simp)
      (by
        rintro k s hk hI
        have hk2 : k < b.length := by omega
        rw [Int.zero_add]
        simp only [ix_at hk, ix_at hk2, Option.bind_some]
        by_cases he : a[k] = b[k]
        · exact .inl ⟨(), by simp [he], take_step hk hk2 hI he⟩
        · exact .inr ⟨.inr false, by simp [he], rfl, fun h => by subst h; exact he rfl⟩)
      (by
        rintro s hI
        rw [List.take_length, hl, List.take_length] at hI
        exact hI)
    rw [hb, Option.bind_some]
    cases r with
    | inl u => have hp : a = b := hp; simp [hp]
    | inr r =>
      obtain ⟨h1, h2⟩ : r = false ∧ a ≠ b := hp
      simp [h1, h2]
  · have e : ((a.length : Int) != (b.length : Int)) = true := by simp; omega
    have : a ≠ b := fun h => hl (by rw [h])
    simp [e, this]
def IsT (l : List ViewCount) (v : List Int) (t : Int) : Prop := (∃ (i : Nat) (x : ViewCount), l[i]? = some x ∧ x.View = v ∧ t = x.Times) ∨ ((∀ x ∈ l, x.View ≠ v) ∧ t = 0)
theorem good_sorted {l : List ViewCount} (h : GoodC l) : ∀ (j i : Nat) (x y : ViewCount), i < j → l[i]? = some x → l[j]? = some y → lexC x.View y.View = -1 := by
  intro j
  induction j with
  | zero => intro i x y hi; omega
  | succ j ih =>
    intro i x y hi hx hy
    have hj : j < l.length := by have := (List.getElem?_eq_some_iff.1 hy).1; omega
    have h1 := (h.2.1 (j + 1) y hy).2.2.2 l[j] (by omega) (by simp [List.getElem?_eq_getElem hj])
    by_cases hij : i = j
    · subst hij
      rw [List.getElem?_eq_getElem hj] at hx; cases hx
      exact h1
    · exact lexC_trans (ih i x l[j] (by omega) hx (List.getElem?_eq_getElem hj)) h1
theorem IsT_uniq {l : List ViewCount} (h : GoodC l) {v : List Int} {s t : Int} (h1 : IsT l v s) (h2 : IsT l v t) : s = t := by
  rcases h1 with ⟨i, x, a1, a2, a3⟩ | ⟨a1, a2⟩ <;> rcases h2 with ⟨j, y, b1, b2, b3⟩ | ⟨b1, b2⟩
  · rcases Nat.lt_trichotomy i j with hij | hij | hij
    · have := good_sorted h j i x y hij a1 b1
      rw [a2, b2, lexC_self] at this; omega
    · subst hij
      rw [a1] at b1; cases b1
      rw [a3, b3]
    · have := good_sorted h i j y x hij b1 a1
      rw [a2, b2, lexC_self] at this; omega
  · exact absurd a2 (b1 x (List.mem_of_getElem? a1))
  · exact absurd b2 (a1 y (List.mem_of_getElem? b1))
  · rw [a2, b2]
theorem p_wTimes (l : List ViewCount) (v : List Int) (hv : ∀ x ∈ l, x.View.length ≤ 1048576) : ∃ t, F_spec_wTimes l v = some t ∧ IsT l v t := by
  unfold F_spec_wTimes
  obtain ⟨r, hb, hp⟩ := rloop_post (σ := Unit) (β := Unit ⊕ Int) (body := fun i9 s8 =>
    (ix l i9).bind fun x18 =>
    (F_spec_l1Same x18.View v).bind fun z25 =>
    if z25 = true then (
    some (.out (.inr x18.Times))) else (
    some (.go ()))) (stop := fun s8 => .inl ()) (m := l.length) (i0 := 0) (s0 := ()) (fun n _ => ∀ k x, k < n → l[k]? = some x → x.View ≠ v)
    (fun r => Sum.elim (fun _ => IsT l v 0) (fun r => IsT l v r) r) (fun k x h => by omega)
    (by
      rintro k s hk hI
      rw [Int.zero_add]
      simp only [ix_at hk, Option.bind_some, p_l1Same _ _ (hv l[k] (List.getElem_mem hk))]
      by_cases he : l[k].View = v
      · exact .inr ⟨.inr l[k].Times, by simp [he], .inl ⟨k, l[k], List.getElem?_eq_getElem hk, he, rfl⟩⟩
      · refine .inl ⟨(), by simp [he], fun j x hj hx => ?_⟩
        by_cases hjk : j = k
        · subst hjk
          rw [List.getElem?_eq_getElem hk] at hx; cases hx; exact he
        · exact hI j x (by omega) hx)
    (by
      rintro s hI
      refine .inr ⟨fun x hx => ?_, rfl⟩
      obtain ⟨k, hk⟩ := List.getElem?_of_mem hx
      exact hI k x (List.getElem?_eq_some_iff.1 hk).1 hk)
  rw [hb, Option.bind_some]
  cases r with
  | inl u => exact ⟨0, rfl, hp⟩
  | inr r => exact ⟨r, rfl, hp⟩
theorem mid_eq {lo hi n : Nat} (h : lo ≤ hi) (hn : hi ≤ n) (hs : n ≤ 1048576) : IntKind.i64.wrap ((IntKind.u64.wrap (IntKind.i64.wrap ((lo : Int) + (hi : Int)))).fdiv 2) = (((lo + hi) / 2 : Nat) : Int) := by
  rw [wr64 (n := (lo : Int) + hi) (by omega) (by omega), wrU (by omega) (by omega)]
  have : ((lo : Int) + (hi : Int)).fdiv 2 = (((lo + hi) / 2 : Nat) : Int) := by
    rw [Int.fdiv_eq_ediv_of_nonneg _ (by omega)]; omega
  rw [this, wr64 (by omega) (by omega)]
theorem p_timesOf1 (x : ViewCount) (v : List Int) (h : x.View.length ≤ 1048576) (hv : v.length ≤ 1048576) : F_impl_timesOf_1 x v = some (lexC x.View v) := by
  unfold F_impl_timesOf_1
  rw [p_Compare _ _]; rfl
theorem p_bsearch (l : List ViewCount) (v : List Int) (hg : GoodC l) (hl : l.length ≤ 1048576) (hv : ∀ x ∈ l, x.View.length ≤ 1048576) (hw : v.length ≤ 1048576) :
    ∃ k : Nat, (∀ (i : Nat) (x : ViewCount), i < k → l[i]? = some x → lexC x.View v = -1) ∧ (∀ (i : Nat) (x : ViewCount), k ≤ i → l[i]? = some x → lexC x.View v ≠ -1) ∧
      F_slices_BinarySearchFunc_impl_ViewCount_impl_ViewCount_int__impl_timesOf_1 l v = some ((k : Int), match l[k]? with | some x => decide (lexC x.View v = 0) | none => false) := by
  unfold F_slices_BinarySearchFunc_impl_ViewCount_impl_ViewCount_int__impl_timesOf_1
  obtain ⟨r, hb, hp⟩ := wloop_post (σ := Int × Int) (β := Int) (step := fun s37 =>
    if decide (s37.1 < s37.2) = true then (
    (ix l (IntKind.i64.wrap ((IntKind.u64.wrap (IntKind.i64.wrap (s37.1 + s37.2))).fdiv 2))).bind fun x48 =>
    (F_impl_timesOf_1 x48 v).bind fun z55 =>
    if decide (z55 < 0) = true then (
    some (.go (IntKind.i64.wrap ((IntKind.i64.wrap ((IntKind.u64.wrap (IntKind.i64.wrap (s37.1 + s37.2))).fdiv 2)) + 1), s37.2))) else (
    some (.go (s37.1, IntKind.i64.wrap ((IntKind.u64.wrap (IntKind.i64.wrap (s37.1 + s37.2))).fdiv 2))))) else (
    some (.out s37.1)))
    (fun n s => ∃ lo hi : Nat, s = ((lo : Int), (hi : Int)) ∧ lo ≤ hi ∧ hi ≤ l.length ∧ n = hi - lo ∧ (∀ (i : Nat) (x : ViewCount), i < lo → l[i]? = some x → lexC x.View v = -1) ∧ (∀ (i : Nat) (x : ViewCount), hi ≤ i → l[i]? = some x → lexC x.View v ≠ -1))
    (fun r => ∃ k : Nat, r = (k : Int) ∧ (∀ (i : Nat) (x : ViewCount), i < k → l[i]? = some x → lexC x.View v = -1) ∧ (∀ (i : Nat) (x : ViewCount), k ≤ i → l[i]? = some x → lexC x.View v ≠ -1))
    (by
      rintro n s ⟨lo, hi, rfl, h1, h2, h3, h4, h5⟩
      simp only
      by_cases hlt : lo < hi
      · have hd : decide ((lo : Int) < (hi : Int)) = true := by simpa using hlt
        have hm : (lo + hi) / 2 < l.length := by omega
        rw [mid_eq h1 h2 hl]
        simp only [hd, if_true, ix_at hm, Option.bind_some, p_timesOf1 _ _ (hv _ (List.getElem_mem hm)) hw]
        have hr := lexC_rng l[(lo + hi) / 2].View v
        by_cases hc : lexC l[(lo + hi) / 2].View v = -1
        · refine .inl ⟨((((lo + hi) / 2 + 1 : Nat) : Int), (hi : Int)), hi - ((lo + hi) / 2 + 1), ?_, by omega, (lo + hi) / 2 + 1, hi, rfl, by omega, h2, rfl, fun i x hi' hx => ?_, h5⟩
          · rw [hc]; simp only [show decide ((-1 : Int) < 0) = true from rfl, if_true]
            rw [wr64 (by omega) (by omega)]; simp
          · by_cases him : i = (lo + hi) / 2
            · subst him
              rw [List.getElem?_eq_getElem hm] at hx; cases hx; exact hc
            · exact lexC_trans (good_sorted hg _ i x _ (by omega) hx (List.getElem?_eq_getElem hm)) hc
        · have hn : decide (lexC l[(lo + hi) / 2].View v < 0) = false := by simp; omega
          refine .inl ⟨((lo : Int), (((lo + hi) / 2 : Nat) : Int)), (lo + hi) / 2 - lo, by simp [hn], by omega, lo, (lo + hi) / 2, rfl, by omega, by omega, rfl, h4, fun i x hi' hx he => ?_⟩
          by_cases him : i = (lo + hi) / 2
          · subst him
            rw [List.getElem?_eq_getElem hm] at hx; cases hx; exact hc he
          · exact hc (lexC_trans (good_sorted hg i _ _ x (by omega) (List.getElem?_eq_getElem hm) hx) he)
      · have : lo = hi := by omega
        subst this
        exact .inr ⟨(lo : Int), by simp, lo, rfl, h4, h5⟩)
    l.length (0, (l.length : Int)) ⟨0, l.length, rfl, by omega, by omega, by omega, fun i x h => by omega, fun i x h hx => by have := (List.getElem?_eq_some_iff.1 hx).1; omega⟩
  obtain ⟨k, rfl, h1, h2⟩ := hp
  refine ⟨k, h1, h2, ?_⟩
  rw [hb, Option.bind_some]
  by_cases hk : k < l.length
  · have hd : decide ((k : Int) < (l.length : Int)) = true := by simpa using hk
    simp only [hd, if_true, ix_at hk, Option.bind_some, p_timesOf1 _ _ (hv _ (List.getElem_mem hk)) hw, List.getElem?_eq_getElem hk]
    rfl
  · have hd : decide ((k : Int) < (l.length : Int)) = false := by simp; omega
    simp only [hd, Bool.false_eq_true, if_false, Option.bind_some, List.getElem?_eq_none (Nat.le_of_not_lt hk)]
theorem p_timesOf (l : List ViewCount) (v : List Int) (hg : GoodC l) (hl : l.length ≤ 1048576) (hv : ∀ x ∈ l, x.View.length ≤ 1048576) (hw : v.length ≤ 1048576) : ∃ t, F_impl_timesOf l v = some t ∧ IsT l v t := by
  obtain ⟨k, h1, h2, h3⟩ := p_bsearch l v hg hl hv hw
  unfold F_impl_timesOf
  rw [h3, Option.bind_some]
  by_cases hk : k < l.length
  · rw [List.getElem?_eq_getElem hk]
    by_cases hc : lexC l[k].View v = 0
    · exact ⟨l[k].Times, by simp [hc, ix_at hk], .inl ⟨k, l[k], List.getElem?_eq_getElem hk, lexC_eq hc, rfl⟩⟩
    · refine ⟨0, by simp [hc], .inr ⟨fun x hx he => ?_, rfl⟩⟩
      obtain ⟨i, hi⟩ := List.getElem?_of_mem hx
      rcases Nat.lt_trichotomy i k with h | h | h
      · have := h1 i x h hi
        rw [he, lexC_self] at this; omega
      · subst h
        rw [List.getElem?_eq_getElem hk] at hi; cases hi
        rw [he, lexC_self] at hc; exact hc rfl
      · have h4 := good_sorted hg i k l[k] x h (List.getElem?_eq_getElem hk) hi
        rw [he] at h4
        exact h2 k l[k] (Nat.le_refl _) (List.getElem?_eq_getElem hk) h4
  · rw [List.getElem?_eq_none (Nat.le_of_not_lt hk)]
    refine ⟨0, by simp, .inr ⟨fun x hx he => ?_, rfl⟩⟩
    obtain ⟨i, hi⟩ := List.getElem?_of_mem hx
    have := h1 i x (by have := (List.getElem?_eq_some_iff.1 hi).1; omega) hi
    rw [he, lexC_self] at this; omega
theorem times_eq (l : List ViewCount) (v : List Int) (hg : GoodC l) (hl : l.length ≤ 1048576) (hv : ∀ x ∈ l, x.View.length ≤ 1048576) (hw : v.length ≤ 1048576) : ∃ t, F_impl_timesOf l v = some t ∧ F_spec_wTimes l v = some t := by
  obtain ⟨t, h1, h2⟩ := p_timesOf l v hg hl hv hw
  obtain ⟨s, h3, h4⟩ := p_wTimes l v hv
  exact ⟨t, h1, by rw [h3, IsT_uniq hg h4 h2]⟩
theorem p_gcd0 (a b : Int) (h : b ≠ 0) : ∃ g, wloop (σ := Int × Int) (β := Int) (fun s24 =>
    if (s24.2 != 0) = true then (
    gd (s24.2 ≠ 0) <|
    some (.go (s24.2, s24.1.tmod s24.2))) else (
    some (.out s24.1))) (a, b) = some g ∧ g ≠ 0 := by
  refine wloop_post (fun n s => n = s.2.natAbs ∧ (s.1 ≠ 0 ∨ s.2 ≠ 0)) (fun g => g ≠ 0) ?_ b.natAbs (a, b) ⟨rfl, .inr h⟩
  rintro n ⟨x, y⟩ ⟨h1, h2⟩
  simp only at h1 h2 ⊢
  by_cases hy : y = 0
  · subst hy
    exact .inr ⟨x, by simp, by simpa using h2⟩
  · refine .inl ⟨(y, x.tmod y), (x.tmod y).natAbs, ?_, ?_, rfl, .inl hy⟩
    · have : (y != 0) = true := by simpa using hy
      rw [if_pos this, gd_t hy]
    · rw [h1, Int.natAbs_tmod]
      exact Nat.mod_lt _ (by omega)
def gv (l : List ViewCount) (i : Nat) : ViewCount := l.getD i ⟨[], 0⟩
theorem gv_at {l : List ViewCount} {i : Nat} (h : i < l.length) : gv l i = l[i] := by simp [gv, h]
theorem gv_ix {l : List ViewCount} {i : Nat} (h : i < l.length) : ix l (i : Int) = some (gv l i) := by rw [ix_at h, gv_at h]
theorem gv_set {l : List ViewCount} {i j : Nat} {x : ViewCount} (h : i < l.length) : gv (l.set i x) j = if j = i then x else gv l j := by
  unfold gv
  simp only [List.getD_eq_getElem?_getD, List.getElem?_set]
  by_cases e : i = j
  · subst e; simp [h]
  · have e' : ¬ j = i := fun h => e h.symm
    simp [e, e']
theorem gv_ext {l r : List ViewCount} (h : l.length = r.length) (he : ∀ i, i < l.length → gv l i = gv r i) : l = r := by
  apply List.ext_getElem h
  intro i h1 h2
  have := he i h1
  rwa [gv_at h1, gv_at h2] at this
def leV (x y : ViewCount) : Prop := lexC x.View y.View ≠ 1
def ltV (x y : ViewCount) : Prop := lexC x.View y.View = -1
theorem leV_of_lt {x y : ViewCount} (h : ltV x y) : leV x y := by unfold leV ltV at *; omega
theorem leV_of_nlt {x y : ViewCount} (h : ¬ ltV x y) : leV y x := by
  unfold leV ltV at *
  have := lexC_swap x.View y.View
  have := lexC_rng x.View y.View
  omega
theorem leV_refl (x : ViewCount) : leV x x := by unfold leV; rw [lexC_self]; omega
theorem leV_trans {x y z : ViewCount} (h1 : leV x y) (h2 : leV y z) : leV x z := by
  unfold leV at *
  intro h
  have r1 := lexC_rng x.View y.View
  have r2 := lexC_rng y.View z.View
  rcases r1 with r1 | r1 | r1
  · rcases r2 with r2 | r2 | r2
    · rw [lexC_trans r1 r2] at h; omega
    · rw [← lexC_eq r2] at h; omega
    · exact h2 r2
  · rw [lexC_eq r1] at h; exact h2 h
  · exact h1 r1
theorem p_cmpV (x y : ViewCount) : F_impl_gathered_1 x y = some (lexC x.View y.View) := by
  unfold F_impl_gathered_1
  rw [p_Compare]; rfl
structure Seg (l r : List ViewCount) (a b : Nat) : Prop where
  len : r.length = l.length
  perm : r.Perm l
  out : ∀ i, i < a ∨ b ≤ i → gv r i = gv l i
  all : ∀ p : ViewCount → Prop, (∀ i, a ≤ i → i < b → p (gv l i)) → ∀ i, a ≤ i → i < b → p (gv r i)
theorem Seg.refl (l : List ViewCount) (a b : Nat) : Seg l l a b := ⟨rfl, .refl _, fun _ _ => rfl, fun _ h => h⟩
theorem Seg.trans {l r t : List ViewCount} {a b : Nat} (h : Seg l r a b) (h' : Seg r t a b) : Seg l t a b :=
  ⟨h'.len.trans h.len, h'.perm.trans h.perm, fun i hi => (h'.out i hi).trans (h.out i hi), fun p hp => h'.all p (h.all p hp)⟩
theorem Seg.wide {l r : List ViewCount} {a b a' b' : Nat} (h : Seg l r a b) (ha : a' ≤ a) (hb : b ≤ b') : Seg l r a' b' :=
  ⟨h.len, h.perm, fun i hi => h.out i (by omega), fun p hp i h1 h2 => by
    by_cases hi : a ≤ i ∧ i < b
    · exact h.all p (fun j h3 h4 => hp j (by omega) (by omega)) i hi.1 hi.2
    · rw [h.out i (by omega)]; exact hp i h1 h2⟩
theorem swap_perm : ∀ {l : List ViewCount} {i j : Nat}, i < j → j < l.length → ((l.set i (gv l j)).set j (gv l i)).Perm l := by
  intro l
  induction l with
  | nil => intro i j _ h; simp at h
  | cons x l ih =>
    intro i j hij hj
    cases j with
    | zero => omega
    | succ j =>
      cases i with
      | succ i =>
        have := ih (i := i) (j := j) (by omega) (by simpa using hj)
        simpa [gv] using this
      | zero =>
        have hj' : j < l.length := by simpa using hj
        have e1 : gv (x :: l) (j + 1) = l[j] := by rw [gv_at hj]; rfl
        have e2 : gv (x :: l) 0 = x := rfl
        rw [e1, e2]
        simp only [List.set_cons_zero, List.set_cons_succ]
        have h1 : l.set j x = l.take j ++ x :: l.drop (j + 1) := by rw [List.set_eq_take_append_cons_drop, if_pos hj']
        have h2 : l = l.take j ++ l[j] :: l.drop (j + 1) := by
          rw [← List.drop_eq_getElem_cons hj', List.take_append_drop]
        rw [h1]
        have p1 : (l[j] :: (l.take j ++ x :: l.drop (j + 1))).Perm (l[j] :: x :: (l.take j ++ l.drop (j + 1))) := .cons _ List.perm_middle
        have p2 : (x :: l).Perm (x :: l[j] :: (l.take j ++ l.drop (j + 1))) := .cons _ (by
          have := List.perm_middle (a := l[j]) (l₁ := l.take j) (l₂ := l.drop (j + 1))
          rw [← h2] at this; exact this)
        exact (p1.trans (.swap _ _ _)).trans p2.symm
theorem swap_perm' {l : List ViewCount} {i j : Nat} (h : i ≠ j) (hi : i < l.length) (hj : j < l.length) : ((l.set i (gv l j)).set j (gv l i)).Perm l := by
  rcases Nat.lt_or_ge i j with h1 | h1
  · exact swap_perm h1 hj
  · have := swap_perm (l := l) (i := j) (j := i) (by omega) hi
    rwa [List.set_comm _ _ (by omega)] at this
theorem gv_swap {l : List ViewCount} {i j k : Nat} (hi : i < l.length) (hj : j < l.length) : gv ((l.set i (gv l j)).set j (gv l i)) k = if k = j then gv l i else if k = i then gv l j else gv l k := by
  rw [gv_set (by simpa using hj), gv_set hi]
theorem seg_swap {l : List ViewCount} {i j a b : Nat} (h : i ≠ j) (hi : i < l.length) (hj : j < l.length) (a1 : a ≤ i) (a2 : i < b) (b1 : a ≤ j) (b2 : j < b) : Seg l ((l.set i (gv l j)).set j (gv l i)) a b := by
  refine ⟨by simp, swap_perm' h hi hj, fun k hk => ?_, fun p hp k h1 h2 => ?_⟩
  · rw [gv_swap hi hj, if_neg (by omega), if_neg (by omega)]
  · rw [gv_swap hi hj]
    split
    · exact hp i a1 a2
    · split
      · exact hp j b1 b2
      · exact hp k h1 h2
def Srt (l : List ViewCount) (a b : Nat) : Prop := ∀ i j, a ≤ i → i < j → j < b → leV (gv l i) (gv l j)
theorem Srt.le {l : List ViewCount} {a b i j : Nat} (h : Srt l a b) (h1 : a ≤ i) (h2 : i ≤ j) (h3 : j < b) : leV (gv l i) (gv l j) := by
  rcases Nat.lt_or_ge i j with h4 | h4
  · exact h i j h1 h4 h3
  · have : i = j := by omega
    subst this; exact leV_refl _
theorem p_insertion (l : List ViewCount) (a b : Nat) (hab : a ≤ b) (hb : b ≤ l.length) (hl : l.length ≤ 1048576) :
    ∃ r, F_slices_insertionSortCmpFunc_impl_ViewCount__io0_impl_gathered_1 l (a : Int) (b : Int) = some r ∧ Seg l r a b ∧ Srt r a b := by
  unfold F_slices_insertionSortCmpFunc_impl_ViewCount__io0_impl_gathered_1
  rw [wr64 (by omega) (by omega)]
  refine wloop_post (fun n s => ∃ (r : List ViewCount) (i : Nat), s = (r, (i : Int)) ∧ a < i ∧ n = b - i ∧ Seg l r a b ∧ Srt r a (min i b)) (fun r => Seg l r a b ∧ Srt r a b) ?_ (b - (a + 1)) (l, (a : Int) + 1)
    ⟨l, a + 1, by simp, by omega, rfl, .refl l a b, fun i j h1 h2 h3 => by omega⟩
  rintro n s ⟨r, i, rfl, h1, h2, h3, h4⟩
  simp only
  have hrl := h3.len
  by_cases hib : i < b
  · have hd : decide ((i : Int) < (b : Int)) = true := by simpa using hib
    simp only [hd, if_true]
    obtain ⟨r2, e1, e2⟩ := wloop_post (σ := (List ViewCount) × Int) (β := (List ViewCount)) (step := fun s229 =>
      ((if decide ((a : Int) < s229.2) = true then (
      (ix s229.1 s229.2).bind fun x245 =>
      (ix s229.1 (IntKind.i64.wrap (s229.2 - 1))).bind fun x252 =>
      (F_impl_gathered_1 x245 x252).bind fun z259 =>
      some (decide (z259 < 0))) else (
      some false) : Option (Bool)).bind fun (x241 : Bool) =>
      if x241 = true then (
      (ix s229.1 (IntKind.i64.wrap (s229.2 - 1))).bind fun x267 =>
      (ix s229.1 s229.2).bind fun x274 =>
      (ix (s229.1.set s229.2.toNat x267) (IntKind.i64.wrap (s229.2 - 1))).bind fun x281 =>
      some (.go ((s229.1.set s229.2.toNat x267).set ((IntKind.i64.wrap (s229.2 - 1)).toNat) x274, IntKind.i64.wrap (s229.2 - 1)))) else (
      some (.out s229.1))))
      (fun n s => ∃ (q : List ViewCount) (j : Nat), s = (q, (j : Int)) ∧ n = j ∧ a ≤ j ∧ j ≤ i ∧ Seg l q a b ∧ ∀ x y, a ≤ x → x < y → y ≤ i → y ≠ j → leV (gv q x) (gv q y))
      (fun q => Seg l q a b ∧ Srt q a (i + 1))
      (by
        rintro n s ⟨q, j, rfl, k1, k2, k3, k4, k5⟩
        simp only
        have hql := k4.len
        by_cases haj : a < j
        · have hd : decide ((a : Int) < (j : Int)) = true := by simpa using haj
          have ej : (j : Int) - 1 = ((j - 1 : Nat) : Int) := by omega
          rw [wr64 (n := (j : Int) - 1) (by omega) (by omega), ej]
          simp only [hd, if_true, gv_ix (l := q) (i := j) (by omega), gv_ix (l := q) (i := j - 1) (by omega), Option.bind_some, p_cmpV]
          by_cases hc : ltV (gv q j) (gv q (j - 1))
          · have hc' : lexC (gv q j).View (gv q (j - 1)).View = -1 := hc
            rw [hc']
            refine .inl ⟨((q.set j (gv q (j - 1))).set (j - 1) (gv q j), ((j - 1 : Nat) : Int)), j - 1, ?_, by omega, _, j - 1, rfl, rfl, by omega, by omega, k4.trans (seg_swap (by omega) (by omega) (by omega) (by omega) (by omega) (by omega) (by omega)), ?_⟩
            · simp only [show decide ((-1 : Int) < 0) = true from rfl, if_true, Int.toNat_natCast]
              rw [gv_ix (by simp; omega)]
              rfl
            · intro x y x1 x2 x3 x4
              rw [gv_swap (by omega) (by omega), gv_swap (by omega) (by omega), if_neg x4]
              by_cases y1 : y = j
              · rw [if_pos y1]
                by_cases x5 : x = j - 1
                · rw [if_pos x5]; exact leV_of_lt hc
                · rw [if_neg x5, if_neg (by omega)]
                  exact k5 x (j - 1) x1 (by omega) (by omega) (by omega)
              · rw [if_neg y1]
                by_cases x5 : x = j - 1
                · rw [if_pos x5]; exact k5 j y (by omega) (by omega) x3 y1
                · rw [if_neg x5]
                  by_cases x6 : x = j
                  · rw [if_pos x6]; exact k5 (j - 1) y (by omega) (by omega) x3 y1
                  · rw [if_neg x6]; exact k5 x y x1 x2 x3 y1
          · have hn : decide (lexC (gv q j).View (gv q (j - 1)).View < 0) = false := by
              have := lexC_rng (gv q j).View (gv q (j - 1)).View
              have hc : ¬ lexC (gv q j).View (gv q (j - 1)).View = -1 := hc
              simp; omega
            refine .inr ⟨q, by simp [hn], k4, fun x y x1 x2 x3 => ?_⟩
            by_cases y1 : y = j
            · subst y1
              by_cases x5 : x = y - 1
              · rw [x5]; exact leV_of_nlt hc
              · exact leV_trans (k5 x (y - 1) x1 (by omega) (by omega) (by omega)) (leV_of_nlt hc)
            · exact k5 x y x1 x2 (by omega) y1
        · have hd : decide ((a : Int) < (j : Int)) = false := by simpa using haj
          refine .inr ⟨q, by simp [haj], k4, fun x y x1 x2 x3 => k5 x y x1 x2 (by omega) (by omega)⟩)
      i (r, (i : Int)) ⟨r, i, rfl, rfl, by omega, by omega, h3, fun x y x1 x2 x3 x4 => h4 x y x1 x2 (by omega)⟩
    rw [e1, Option.bind_some]
    refine .inl ⟨(r2, (i : Int) + 1), b - (i + 1), by rw [wr64 (by omega) (by omega)], by omega, r2, i + 1, by simp, by omega, rfl, e2.1, ?_⟩
    rw [Nat.min_eq_left (by omega)]
    exact e2.2
  · have hd : decide ((i : Int) < (b : Int)) = false := by simpa using hib
    refine .inr ⟨r, by simp [hib], h3, ?_⟩
    rw [Nat.min_eq_right (by omega)] at h4
    exact h4
theorem p_swapRange (l : List ViewCount) (a b n : Nat) (hab : a + n ≤ b) (hb : b + n ≤ l.length) (hl : l.length ≤ 1048576) :
    ∃ r, F_slices_swapRangeCmpFunc_impl_ViewCount__io0_impl_gathered_1 l (a : Int) (b : Int) (n : Int) = some r ∧ Seg l r a (b + n) ∧
      ∀ k, gv r k = if a ≤ k ∧ k < a + n then gv l (k - a + b) else if b ≤ k ∧ k < b + n then gv l (k - b + a) else gv l k := by
  unfold F_slices_swapRangeCmpFunc_impl_ViewCount__io0_impl_gathered_1
  refine cloop_post n (fun i s => ∃ r, s = (r, (i : Int)) ∧ Seg l r a (b + n) ∧ ∀ k, gv r k = if a ≤ k ∧ k < a + i then gv l (k - a + b) else if b ≤ k ∧ k < b + i then gv l (k - b + a) else gv l k) _
    ⟨l, rfl, .refl _ _ _, fun k => by rw [if_neg (by omega), if_neg (by omega)]⟩ ?_ ?_
  · rintro i s hi ⟨r, rfl, h1, h2⟩
    have hrl := h1.len
    have hd : decide ((i : Int) < (n : Int)) = true := by simpa using hi
    have e1 : IntKind.i64.wrap ((b : Int) + (i : Int)) = ((b + i : Nat) : Int) := by rw [wr64 (by omega) (by omega)]; simp
    have e2 : IntKind.i64.wrap ((a : Int) + (i : Int)) = ((a + i : Nat) : Int) := by rw [wr64 (by omega) (by omega)]; simp
    refine .inl ⟨(((r.set (a + i) (gv r (b + i))).set (b + i) (gv r (a + i))), (i : Int) + 1), ?_, (r.set (a + i) (gv r (b + i))).set (b + i) (gv r (a + i)), by simp, h1.trans (seg_swap (i := a + i) (j := b + i) (by omega) (by omega) (by omega) (by omega) (by omega) (by omega) (by omega)), fun k => ?_⟩
    · simp only [hd, if_true, e1, e2, gv_ix (l := r) (i := b + i) (by omega), gv_ix (l := r) (i := a + i) (by omega), Option.bind_some, Int.toNat_natCast]
      rw [gv_ix (by simp; omega), Option.bind_some, wr64 (by omega) (by omega)]
    · have ea : gv r (a + i) = gv l (a + i) := by rw [h2, if_neg (by omega), if_neg (by omega)]
      have eb : gv r (b + i) = gv l (b + i) := by rw [h2, if_neg (by omega), if_neg (by omega)]
      rw [gv_swap (by omega) (by omega), ea, eb, h2 k]
      by_cases c1 : k = b + i
      · rw [if_pos c1, if_neg (by omega), if_pos (by omega), c1]
        congr 1; omega
      · rw [if_neg c1]
        by_cases c2 : k = a + i
        · rw [if_pos c2, if_pos (by omega), c2]
          congr 1; omega
        · rw [if_neg c2]
          by_cases c3 : a ≤ k ∧ k < a + i
          · rw [if_pos c3, if_pos (by omega)]
          · rw [if_neg c3]
            by_cases c4 : b ≤ k ∧ k < b + i
            · rw [if_pos c4, if_neg (by omega), if_pos (by omega)]
            · rw [if_neg c4, if_neg (by omega), if_neg (by omega)]
  · rintro s ⟨r, rfl, h1, h2⟩
    exact ⟨r, by simp, h1, h2⟩
def rotf (f : Nat → ViewCount) (a m b k : Nat) : ViewCount := if a ≤ k ∧ k < a + (b - m) then f (k + (m - a)) else if a + (b - m) ≤ k ∧ k < b then f (k - (b - m)) else f k
theorem rotf_l {f g : Nat → ViewCount} {m i j : Nat} (hi : i ≤ m) (hij : j < i) (hg : ∀ k, g k = if m - i ≤ k ∧ k < m - i + j then f (k - (m - i) + m) else if m ≤ k ∧ k < m + j then f (k - m + (m - i)) else f k) (k : Nat) :
    rotf g (m - (i - j)) m (m + j) k = rotf f (m - i) m (m + j) k := by
  unfold rotf
  by_cases c1 : k < m - i
  · rw [if_neg (by omega), if_neg (by omega), hg k, if_neg (by omega), if_neg (by omega), if_neg (by omega), if_neg (by omega)]
  · by_cases c2 : k < m - i + j
    · rw [if_neg (by omega), if_neg (by omega), hg k, if_pos (by omega), if_pos (by omega)]
      congr 1; omega
    · by_cases c3 : k < m - (i - j) + j
      · rw [if_pos (by omega), hg, if_neg (by omega), if_pos (by omega), if_neg (by omega), if_pos (by omega)]
        congr 1; omega
      · by_cases c4 : k < m + j
        · rw [if_neg (by omega), if_pos (by omega), hg, if_neg (by omega), if_neg (by omega), if_neg (by omega), if_pos (by omega)]
        · rw [if_neg (by omega), if_neg (by omega), hg, if_neg (by omega), if_neg (by omega), if_neg (by omega), if_neg (by omega)]
theorem rotf_r {f g : Nat → ViewCount} {m i j : Nat} (hi : i ≤ m) (hij : i < j) (hg : ∀ k, g k = if m - i ≤ k ∧ k < m - i + i then f (k - (m - i) + (m + j - i)) else if m + j - i ≤ k ∧ k < m + j - i + i then f (k - (m + j - i) + (m - i)) else f k) (k : Nat) :
    rotf g (m - i) m (m + (j - i)) k = rotf f (m - i) m (m + j) k := by
  unfold rotf
  by_cases c1 : k < m - i
  · rw [if_neg (by omega), if_neg (by omega), hg k, if_neg (by omega), if_neg (by omega), if_neg (by omega), if_neg (by omega)]
  · by_cases c2 : k < m + j - i - i
    · rw [if_pos (by omega), hg, if_neg (by omega), if_neg (by omega), if_pos (by omega)]
    · by_cases c3 : k < m + j - i
      · rw [if_neg (by omega), if_pos (by omega), hg, if_pos (by omega), if_pos (by omega)]
        congr 1; omega
      · by_cases c4 : k < m + j
        · rw [if_neg (by omega), if_neg (by omega), hg, if_neg (by omega), if_pos (by omega), if_neg (by omega), if_pos (by omega)]
          congr 1; omega
        · rw [if_neg (by omega), if_neg (by omega), hg, if_neg (by omega), if_neg (by omega), if_neg (by omega), if_neg (by omega)]
theorem rotf_e {f g : Nat → ViewCount} {m i : Nat} (hi : i ≤ m) (hg : ∀ k, g k = if m - i ≤ k ∧ k < m - i + i then f (k - (m - i) + m) else if m ≤ k ∧ k < m + i then f (k - m + (m - i)) else f k) (k : Nat) :
    g k = rotf f (m - i) m (m + i) k := by
  unfold rotf
  rw [hg k]
  by_cases c1 : m - i ≤ k ∧ k < m - i + i
  · rw [if_pos c1, if_pos (by omega)]; congr 1; omega
  · rw [if_neg c1]
    by_cases c2 : m ≤ k ∧ k < m + i
    · rw [if_pos c2, if_neg (by omega), if_pos (by omega)]; congr 1; omega
    · rw [if_neg c2, if_neg (by omega), if_neg (by omega)]
theorem p_rotate (l : List ViewCount) (a m b : Nat) (ham : a < m) (hmb : m < b) (hb : b ≤ l.length) (hl : l.length ≤ 1048576) :
    ∃ r, F_slices_rotateCmpFunc_impl_ViewCount__io0_impl_gathered_1 l (a : Int) (m : Int) (b : Int) = some r ∧ Seg l r a b ∧ ∀ k, gv r k = rotf (gv l) a m b k := by
  unfold F_slices_rotateCmpFunc_impl_ViewCount__io0_impl_gathered_1
  rw [wr64 (n := (m : Int) - a) (by omega) (by omega), wr64 (n := (b : Int) - m) (by omega) (by omega)]
  obtain ⟨x, e, r, i, hx, h0, him, hir, h1, h2⟩ := wloop_post (σ := (List ViewCount) × Int × Int) (β := ((List ViewCount) × Int)) (step := fun s31 =>
    if (s31.2.1 != s31.2.2) = true then (
    if decide (s31.2.2 < s31.2.1) = true then (
    (F_slices_swapRangeCmpFunc_impl_ViewCount__io0_impl_gathered_1 s31.1 (IntKind.i64.wrap ((m : Int) - s31.2.1)) (m : Int) s31.2.2).bind fun z43 =>
    some (.go (z43, IntKind.i64.wrap (s31.2.1 - s31.2.2), s31.2.2))) else (
    (F_slices_swapRangeCmpFunc_impl_ViewCount__io0_impl_gathered_1 s31.1 (IntKind.i64.wrap ((m : Int) - s31.2.1)) (IntKind.i64.wrap ((IntKind.i64.wrap ((m : Int) + s31.2.2)) - s31.2.1)) s31.2.1).bind fun z48 =>
    some (.go (z48, s31.2.1, IntKind.i64.wrap (s31.2.2 - s31.2.1))))) else (
    some (.out (s31.1, s31.2.1))))
    (fun n s => ∃ (r : List ViewCount) (i j : Nat), s = (r, (i : Int), (j : Int)) ∧ n = i + j ∧ 0 < i ∧ 0 < j ∧ i ≤ m - a ∧ j ≤ b - m ∧ Seg l r a b ∧ ∀ k, rotf (gv r) (m - i) m (m + j) k = rotf (gv l) a m b k)
    (fun x => ∃ (r : List ViewCount) (i : Nat), x = (r, (i : Int)) ∧ 0 < i ∧ i ≤ m - a ∧ i ≤ b - m ∧ Seg l r a b ∧ ∀ k, rotf (gv r) (m - i) m (m + i) k = rotf (gv l) a m b k)
    (by
      rintro n s ⟨r, i, j, rfl, h1, h2, h3, h4, h5, h6, h7⟩
      have hrl := h6.len
      simp only
      by_cases c1 : i = j
      · subst c1
        exact .inr ⟨(r, (i : Int)), by simp, r, i, rfl, h2, h4, h5, h6, h7⟩
      · have hne : ((i : Int) != (j : Int)) = true := by simp; omega
        have e1 : IntKind.i64.wrap ((m : Int) - (i : Int)) = ((m - i : Nat) : Int) := by rw [wr64 (by omega) (by omega)]; omega
        rw [if_pos hne, e1]
        by_cases c2 : j < i
        · have hd : decide ((j : Int) < (i : Int)) = true := by simpa using c2
          obtain ⟨r2, s1, s2, s3⟩ := p_swapRange r (m - i) m j (by omega) (by omega) (by omega)
          rw [if_pos hd, s1, Option.bind_some]
          refine .inl ⟨(r2, ((i - j : Nat) : Int), (j : Int)), i - j + j, ?_, by omega, r2, i - j, j, rfl, rfl, by omega, h3, by omega, h5, h6.trans (s2.wide (by omega) (by omega)), fun k => ?_⟩
          · rw [wr64 (by omega) (by omega)]; congr 4; omega
          · rw [rotf_l (by omega) c2 s3, h7]
        · have hd : decide ((j : Int) < (i : Int)) = false := by simpa using c2
          have e2 : IntKind.i64.wrap ((IntKind.i64.wrap ((m : Int) + (j : Int))) - (i : Int)) = ((m + j - i : Nat) : Int) := by rw [wr64 (n := (m : Int) + j) (by omega) (by omega), wr64 (by omega) (by omega)]; omega
          obtain ⟨r2, s1, s2, s3⟩ := p_swapRange r (m - i) (m + j - i) i (by omega) (by omega) (by omega)
          rw [if_neg (by simp [hd]; omega), e2, s1, Option.bind_some]
          refine .inl ⟨(r2, (i : Int), ((j - i : Nat) : Int)), i + (j - i), ?_, by omega, r2, i, j - i, rfl, rfl, h2, by omega, h4, by omega, h6.trans (s2.wide (by omega) (by omega)), fun k => ?_⟩
          · rw [wr64 (by omega) (by omega)]; congr 4; omega
          · rw [rotf_r (by omega) (by omega) s3, h7])
    ((m - a) + (b - m)) (l, (m : Int) - a, (b : Int) - m) ⟨l, m - a, b - m, by congr 2 <;> omega, rfl, by omega, by omega, by omega, by omega, .refl _ _ _, fun k => by
      have e1 : m - (m - a) = a := by omega
      have e2 : m + (b - m) = b := by omega
      rw [e1, e2]⟩
  subst hx
  have hrl := h1.len
  rw [e, Option.bind_some]
  obtain ⟨r2, s1, s2, s3⟩ := p_swapRange r (m - i) m i (by omega) (by omega) (by omega)
  have e1 : IntKind.i64.wrap ((m : Int) - (i : Int)) = ((m - i : Nat) : Int) := by rw [wr64 (by omega) (by omega)]; omega
  simp only [e1, s1, Option.bind_some]
  exact ⟨r2, rfl, h1.trans (s2.wide (by omega) (by omega)), fun k => by rw [rotf_e (by omega) s3, h2]⟩
structure RotOK (l r : List ViewCount) (a s m e b : Nat) : Prop where
  h1 : a ≤ s
  h2 : s ≤ m
  h3 : m ≤ e
  h4 : e ≤ b
  sa : Srt l a m
  sb : Srt l m b
  c1 : ∀ i j, a ≤ i → i < s → e ≤ j → j < b → leV (gv l i) (gv l j)
  c2 : ∀ i j, m ≤ i → i < e → s ≤ j → j < m → leV (gv l i) (gv l j)
  rot : ∀ k, gv r k = rotf (gv l) s m e k
section
variable {l r : List ViewCount} {a s m e b : Nat}
theorem RotOK.lo (h : RotOK l r a s m e b) {x : Nat} (hx : x < s) : gv r x = gv l x := by
  have := h.h2; have := h.h3
  rw [h.rot, rotf, if_neg (by omega), if_neg (by omega)]
theorem RotOK.l1 (h : RotOK l r a s m e b) {x : Nat} (h1 : s ≤ x) (h2 : x < s + (e - m)) : gv r x = gv l (x + (m - s)) := by
  rw [h.rot, rotf, if_pos ⟨h1, h2⟩]
theorem RotOK.l2 (h : RotOK l r a s m e b) {x : Nat} (h1 : s + (e - m) ≤ x) (h2 : x < e) : gv r x = gv l (x - (e - m)) := by
  rw [h.rot, rotf, if_neg (by omega), if_pos ⟨h1, h2⟩]
theorem RotOK.hi (h : RotOK l r a s m e b) {x : Nat} (h1 : e ≤ x) : gv r x = gv l x := by
  have := h.h2; have := h.h3
  rw [h.rot, rotf, if_neg (by omega), if_neg (by omega)]
theorem RotOK.cross (h : RotOK l r a s m e b) {i j : Nat} (hi : a ≤ i) (hi2 : i < s + (e - m)) (hj : s + (e - m) ≤ j) (hj2 : j < b) : leV (gv r i) (gv r j) := by
  have q1 := h.h1; have q2 := h.h2; have q3 := h.h3; have q4 := h.h4
  by_cases a1 : i < s
  · rw [h.lo a1]
    by_cases b1 : j < e
    · rw [h.l2 hj b1]
      exact h.sa i _ hi (by omega) (by omega)
    · rw [h.hi (by omega)]
      exact h.c1 i j hi a1 (by omega) hj2
  · rw [h.l1 (by omega) hi2]
    by_cases b1 : j < e
    · rw [h.l2 hj b1]
      exact h.c2 _ _ (by omega) (by omega) (by omega) (by omega)
    · rw [h.hi (by omega)]
      exact h.sb _ j (by omega) (by omega) hj2
theorem RotOK.s1 (h : RotOK l r a s m e b) : Srt r a s := fun i j h1 h2 h3 => by
  have q2 := h.h2
  rw [h.lo (by omega), h.lo h3]; exact h.sa i j h1 h2 (by omega)
theorem RotOK.s2 (h : RotOK l r a s m e b) : Srt r s (s + (e - m)) := fun i j h1 h2 h3 => by
  have q2 := h.h2; have q4 := h.h4
  rw [h.l1 h1 (by omega), h.l1 (by omega) h3]; exact h.sb _ _ (by omega) (by omega) (by omega)
theorem RotOK.s3 (h : RotOK l r a s m e b) : Srt r (s + (e - m)) e := fun i j h1 h2 h3 => by
  have q1 := h.h1; have q2 := h.h2; have q3 := h.h3
  rw [h.l2 h1 (by omega), h.l2 (by omega) h3]; exact h.sa _ _ (by omega) (by omega) (by omega)
theorem RotOK.s4 (h : RotOK l r a s m e b) : Srt r e b := fun i j h1 h2 h3 => by
  have q3 := h.h3
  rw [h.hi h1, h.hi (by omega)]; exact h.sb i j (by omega) h2 h3
theorem srt_join {x : List ViewCount} {t : Nat} (h1 : Srt x a t) (h2 : Srt x t b) (h : ∀ i j, a ≤ i → i < t → t ≤ j → j < b → leV (gv x i) (gv x j)) : Srt x a b := fun i j hi hij hj => by
  by_cases c1 : j < t
  · exact h1 i j hi hij c1
  · by_cases c2 : i < t
    · exact h i j hi c2 (by omega) hj
    · exact h2 i j (by omega) hij hj
end
theorem Seg.cross {l r : List ViewCount} {a t b : Nat} (h1 : Seg l r a t) (h : ∀ i j, a ≤ i → i < t → t ≤ j → j < b → leV (gv l i) (gv l j)) : ∀ i j, a ≤ i → i < t → t ≤ j → j < b → leV (gv r i) (gv r j) := by
  intro i j h2 h3 h4 h5
  rw [h1.out j (by omega)]
  exact h1.all (fun x => leV x (gv l j)) (fun k k1 k2 => h k j k1 k2 h4 h5) i h2 h3
theorem Seg.cross' {l r : List ViewCount} {a t b : Nat} (h1 : Seg l r t b) (h : ∀ i j, a ≤ i → i < t → t ≤ j → j < b → leV (gv l i) (gv l j)) : ∀ i j, a ≤ i → i < t → t ≤ j → j < b → leV (gv r i) (gv r j) := by
  intro i j h2 h3 h4 h5
  rw [h1.out i (by omega)]
  exact h1.all (fun x => leV (gv l i) x) (fun k k1 k2 => h i k h2 h3 k1 k2) j h4 h5
theorem Seg.srt {l r : List ViewCount} {a b c d : Nat} (h : Seg l r a b) (hs : Srt l c d) (hd : d ≤ a ∨ b ≤ c) : Srt r c d := fun i j h1 h2 h3 => by
  rw [h.out i (by omega), h.out j (by omega)]; exact hs i j h1 h2 h3
theorem nat_wrap {n : Int} {k : Nat} (h : n = (k : Int)) (hk : k ≤ 4194304) : IntKind.i64.wrap n = (k : Int) := by rw [wr64 (by omega) (by omega), h]
theorem p_moveR (l : List ViewCount) (a t : Nat) (hat : a ≤ t) (ht : t < l.length) (hl : l.length ≤ 1048576) : ∃ r, wloop (σ := (List ViewCount) × Int) (β := (List ViewCount)) (fun s88 =>
    if decide (s88.2 < (t : Int)) = true then (
    (ix s88.1 (IntKind.i64.wrap (s88.2 + 1))).bind fun x98 =>
    (ix s88.1 s88.2).bind fun x105 =>
    (ix (s88.1.set s88.2.toNat x98) (IntKind.i64.wrap (s88.2 + 1))).bind fun x112 =>
    some (.go ((s88.1.set s88.2.toNat x98).set ((IntKind.i64.wrap (s88.2 + 1)).toNat) x105, IntKind.i64.wrap (s88.2 + 1)))) else (
    some (.out s88.1))) (l, (a : Int)) = some r ∧ Seg l r a (t + 1) ∧ ∀ k, gv r k = rotf (gv l) a (a + 1) (t + 1) k := by
  refine wloop_post (fun n s => ∃ (r : List ViewCount) (i : Nat), s = (r, (i : Int)) ∧ n = t - i ∧ a ≤ i ∧ i ≤ t ∧ Seg l r a (t + 1) ∧ ∀ k, gv r k = rotf (gv l) a (a + 1) (i + 1) k) _ ?_ (t - a) (l, (a : Int))
    ⟨l, a, rfl, rfl, by omega, hat, .refl _ _ _, fun k => by
      unfold rotf
      rw [if_neg (by omega)]
      split
      · congr 1; omega
      · rfl⟩
  rintro n s ⟨r, i, rfl, h1, h2, h3, h4, h5⟩
  have hrl := h4.len
  simp only
  by_cases hit : i < t
  · have hd : decide ((i : Int) < (t : Int)) = true := by simpa using hit
    have e1 : IntKind.i64.wrap ((i : Int) + 1) = ((i + 1 : Nat) : Int) := nat_wrap (by omega) (by omega)
    refine .inl ⟨((r.set i (gv r (i + 1))).set (i + 1) (gv r i), ((i + 1 : Nat) : Int)), t - (i + 1), ?_, by omega, _, i + 1, rfl, rfl, by omega, hit, h4.trans (seg_swap (i := i) (j := i + 1) (by omega) (by omega) (by omega) (by omega) (by omega) (by omega) (by omega)), fun k => ?_⟩
    · rw [if_pos hd, e1, gv_ix (l := r) (i := i + 1) (by omega), Option.bind_some, gv_ix (l := r) (i := i) (by omega), Option.bind_some, Int.toNat_natCast, gv_ix (by simp; omega), Option.bind_some, Int.toNat_natCast]
    · rw [gv_swap (by omega) (by omega)]
      by_cases c1 : k = i + 1
      · rw [if_pos c1, h5 i]
        unfold rotf
        rw [if_neg (by omega), if_pos (by omega), if_neg (by omega), if_pos (by omega)]
        congr 1; omega
      · rw [if_neg c1]
        by_cases c2 : k = i
        · rw [if_pos c2, h5 (i + 1)]
          unfold rotf
          rw [if_neg (by omega), if_neg (by omega), if_pos (by omega)]
          congr 1; omega
        · rw [if_neg c2, h5 k]
          unfold rotf
          by_cases c3 : a ≤ k ∧ k < i
          · rw [if_pos (by omega), if_pos (by omega)]
          · rw [if_neg (by omega), if_neg (by omega), if_neg (by omega), if_neg (by omega)]
  · have : i = t := by omega
    subst this
    exact .inr ⟨r, by simp, h4, h5⟩
theorem p_moveL (l : List ViewCount) (t m : Nat) (htm : t ≤ m) (hm : m < l.length) (hl : l.length ≤ 1048576) : ∃ r, wloop (σ := (List ViewCount) × Int) (β := (List ViewCount)) (fun s215 =>
    if decide ((t : Int) < s215.2) = true then (
    (ix s215.1 (IntKind.i64.wrap (s215.2 - 1))).bind fun x225 =>
    (ix s215.1 s215.2).bind fun x232 =>
    (ix (s215.1.set s215.2.toNat x225) (IntKind.i64.wrap (s215.2 - 1))).bind fun x239 =>
    some (.go ((s215.1.set s215.2.toNat x225).set ((IntKind.i64.wrap (s215.2 - 1)).toNat) x232, IntKind.i64.wrap (s215.2 - 1)))) else (
    some (.out s215.1))) (l, (m : Int)) = some r ∧ Seg l r t (m + 1) ∧ ∀ k, gv r k = rotf (gv l) t m (m + 1) k := by
  refine wloop_post (fun n s => ∃ (r : List ViewCount) (i : Nat), s = (r, (i : Int)) ∧ n = i ∧ t ≤ i ∧ i ≤ m ∧ Seg l r t (m + 1) ∧ ∀ k, gv r k = rotf (gv l) i m (m + 1) k) _ ?_ m (l, (m : Int))
    ⟨l, m, rfl, rfl, by omega, by omega, .refl _ _ _, fun k => by
      unfold rotf
      by_cases c : m ≤ k ∧ k < m + (m + 1 - m)
      · rw [if_pos c]; congr 1; omega
      · rw [if_neg c, if_neg (by omega)]⟩
  rintro n s ⟨r, i, rfl, h1, h2, h3, h4, h5⟩
  have hrl := h4.len
  simp only
  by_cases hit : t < i
  · have hd : decide ((t : Int) < (i : Int)) = true := by simpa using hit
    have e1 : IntKind.i64.wrap ((i : Int) - 1) = ((i - 1 : Nat) : Int) := nat_wrap (by omega) (by omega)
    refine .inl ⟨((r.set i (gv r (i - 1))).set (i - 1) (gv r i), ((i - 1 : Nat) : Int)), i - 1, ?_, by omega, _, i - 1, rfl, rfl, by omega, by omega, h4.trans (seg_swap (i := i) (j := i - 1) (by omega) (by omega) (by omega) (by omega) (by omega) (by omega) (by omega)), fun k => ?_⟩
    · rw [if_pos hd, e1, gv_ix (l := r) (i := i - 1) (by omega), Option.bind_some, gv_ix (l := r) (i := i) (by omega), Option.bind_some, Int.toNat_natCast, gv_ix (by simp; omega), Option.bind_some, Int.toNat_natCast]
    · rw [gv_swap (by omega) (by omega)]
      by_cases c1 : k = i - 1
      · rw [if_pos c1, h5 i]
        unfold rotf
        rw [if_pos (by omega), if_pos (by omega)]
        congr 1; omega
      · rw [if_neg c1]
        by_cases c2 : k = i
        · rw [if_pos c2, h5 (i - 1)]
          unfold rotf
          rw [if_neg (by omega), if_neg (by omega), if_neg (by omega), if_pos (by omega)]
          congr 1; omega
        · rw [if_neg c2, h5 k]
          unfold rotf
          by_cases c3 : i + 1 ≤ k ∧ k < m + 1
          · rw [if_neg (by omega), if_pos (by omega), if_neg (by omega), if_pos (by omega)]
          · rw [if_neg (by omega), if_neg (by omega), if_neg (by omega), if_neg (by omega)]
  · have : i = t := by omega
    subst this
    exact .inr ⟨r, by simp, h4, h5⟩
theorem bsearch_post {step : Int × Int → Option (Stp (Int × Int) Int)} (lo0 hi0 : Nat) (h : lo0 ≤ hi0) (P : Nat → Prop)
    (hstep : ∀ lo hi : Nat, lo0 ≤ lo → lo < hi → hi ≤ hi0 → (P ((lo + hi) / 2) ∧ step ((lo : Int), (hi : Int)) = some (.go ((((lo + hi) / 2 + 1 : Nat) : Int), (hi : Int)))) ∨ (¬ P ((lo + hi) / 2) ∧ step ((lo : Int), (hi : Int)) = some (.go ((lo : Int), (((lo + hi) / 2 : Nat) : Int)))))
    (hend : ∀ lo : Nat, lo0 ≤ lo → lo ≤ hi0 → step ((lo : Int), (lo : Int)) = some (.out (lo : Int))) (hmono : ∀ c d, lo0 ≤ c → c ≤ d → d < hi0 → P d → P c) :
    ∃ k : Nat, wloop step ((lo0 : Int), (hi0 : Int)) = some (k : Int) ∧ lo0 ≤ k ∧ k ≤ hi0 ∧ (∀ c, lo0 ≤ c → c < k → P c) ∧ (∀ c, k ≤ c → c < hi0 → ¬ P c) := by
  obtain ⟨b, h1, k, rfl, h2⟩ := wloop_post (step := step) (fun n s => ∃ lo hi : Nat, s = ((lo : Int), (hi : Int)) ∧ n = hi - lo ∧ lo0 ≤ lo ∧ lo ≤ hi ∧ hi ≤ hi0 ∧ (∀ c, lo0 ≤ c → c < lo → P c) ∧ (∀ c, hi ≤ c → c < hi0 → ¬ P c))
    (fun b => ∃ k : Nat, b = (k : Int) ∧ lo0 ≤ k ∧ k ≤ hi0 ∧ (∀ c, lo0 ≤ c → c < k → P c) ∧ (∀ c, k ≤ c → c < hi0 → ¬ P c))
    (by
      rintro n s ⟨lo, hi, rfl, h1, h2, h3, h4, h5, h6⟩
      by_cases hlt : lo < hi
      · rcases hstep lo hi h2 hlt h4 with ⟨p, e⟩ | ⟨p, e⟩
        · exact .inl ⟨_, hi - ((lo + hi) / 2 + 1), e, by omega, _, _, rfl, rfl, by omega, by omega, h4, fun c c1 c2 => hmono c ((lo + hi) / 2) c1 (by omega) (by omega) p, h6⟩
        · exact .inl ⟨_, (lo + hi) / 2 - lo, e, by omega, _, _, rfl, rfl, h2, by omega, by omega, h5, fun c c1 c2 hp => p (hmono ((lo + hi) / 2) c (by omega) c1 c2 hp)⟩
      · have : lo = hi := by omega
        subst this
        exact .inr ⟨_, hend lo h2 h4, lo, rfl, h2, h4, h5, h6⟩)
    (hi0 - lo0) ((lo0 : Int), (hi0 : Int)) ⟨lo0, hi0, rfl, rfl, by omega, h, by omega, fun c c1 c2 => by omega, fun c c1 c2 => by omega⟩
  exact ⟨k, h1, h2⟩
theorem ltV_dec (x y : ViewCount) : decide (lexC x.View y.View < 0) = true ↔ ltV x y := by
  have := lexC_rng x.View y.View
  unfold ltV
  simp; omega
theorem ltV_decf (x y : ViewCount) : decide (lexC x.View y.View < 0) = false ↔ ¬ ltV x y := by rw [← ltV_dec]; simp
theorem ltV_of {x y z : ViewCount} (h1 : leV x y) (h2 : ltV y z) : ltV x z := by
  unfold leV ltV at *
  have r1 := lexC_rng x.View y.View
  rcases r1 with r1 | r1 | r1
  · exact lexC_trans r1 h2
  · rw [lexC_eq r1]; exact h2
  · exact absurd r1 h1
theorem ltV_of' {x y z : ViewCount} (h1 : ltV x y) (h2 : leV y z) : ltV x z := by
  unfold leV ltV at *
  have r1 := lexC_rng y.View z.View
  rcases r1 with r1 | r1 | r1
  · exact lexC_trans h1 r1
  · rw [← lexC_eq r1]; exact h1
  · exact absurd r1 h2
theorem p_symMerge : ∀ (n_ : Nat) (l : List ViewCount) (a m b : Nat), a < m → m < b → b ≤ l.length → l.length ≤ 1048576 → Srt l a m → Srt l m b →
    (∃ r, F_slices_symMergeCmpFunc_impl_ViewCount__io0_impl_gathered_1_r n_ l (a : Int) (m : Int) (b : Int) = some r ∧ Seg l r a b ∧ Srt r a b) ∨
    (F_slices_symMergeCmpFunc_impl_ViewCount__io0_impl_gathered_1_r n_ l (a : Int) (m : Int) (b : Int) = none ∧ n_ < b - a) := by
  intro n_
  induction n_ with
  | zero => intro l a m b h1 h2 h3 h4 h5 h6; exact .inr ⟨rfl, by omega⟩
  | succ n_ ih =>
    intro l a m b ham hmb hbl hl sA sB
    simp only [F_slices_symMergeCmpFunc_impl_ViewCount__io0_impl_gathered_1_r]
    have w1 : IntKind.i64.wrap ((m : Int) - (a : Int)) = ((m - a : Nat) : Int) := nat_wrap (by omega) (by omega)
    have w2 : IntKind.i64.wrap ((b : Int) - (m : Int)) = ((b - m : Nat) : Int) := nat_wrap (by omega) (by omega)
    rw [w1, w2]
    by_cases c1 : m - a = 1
    · left
      have hc : (((m - a : Nat) : Int) == 1) = true := by rw [c1]; rfl
      rw [if_pos hc]
      obtain ⟨k, k1, k2, k3, k4, k5⟩ := bsearch_post (step := fun s9 =>
        if decide (s9.1 < s9.2) = true then (
        (ix l (IntKind.i64.wrap ((IntKind.u64.wrap (IntKind.i64.wrap (s9.1 + s9.2))).fdiv 2))).bind fun x20 =>
        (ix l (a : Int)).bind fun x27 =>
        (F_impl_gathered_1 x20 x27).bind fun z34 =>
        if decide (z34 < 0) = true then (
        some (.go (IntKind.i64.wrap ((IntKind.i64.wrap ((IntKind.u64.wrap (IntKind.i64.wrap (s9.1 + s9.2))).fdiv 2)) + 1), s9.2))) else (
        some (.go (s9.1, IntKind.i64.wrap ((IntKind.u64.wrap (IntKind.i64.wrap (s9.1 + s9.2))).fdiv 2))))) else (
        some (.out s9.1))) m b (by omega) (fun c => ltV (gv l c) (gv l a))
        (by
          intro lo hi x1 x2 x3
          have hd : decide ((lo : Int) < (hi : Int)) = true := by simpa using x2
          simp only [hd, if_true, mid_eq (lo := lo) (hi := hi) (n := l.length) (by omega) (by omega) hl, gv_ix (l := l) (i := (lo + hi) / 2) (by omega), gv_ix (l := l) (i := a) (by omega), Option.bind_some, p_cmpV]
          by_cases hp : ltV (gv l ((lo + hi) / 2)) (gv l a)
          · left
            rw [if_pos ((ltV_dec _ _).2 hp), nat_wrap (k := (lo + hi) / 2 + 1) (by omega) (by omega)]
            exact ⟨hp, rfl⟩
          · right
            rw [if_neg (by rw [(ltV_decf _ _).2 hp]; simp)]
            exact ⟨hp, rfl⟩)
        (by intro lo x1 x2; simp)
        (by
          intro c d x1 x2 x3 hp
          exact ltV_of (sB.le x1 x2 x3) hp)
      rw [k1, Option.bind_some]
      have w3 : IntKind.i64.wrap ((k : Int) - 1) = ((k - 1 : Nat) : Int) := nat_wrap (by omega) (by omega)
      rw [w3]
      obtain ⟨r, r1, r2, r3⟩ := p_moveR l a (k - 1) (by omega) (by omega) hl
      rw [r1]
      have e1 : k - 1 + 1 = k := by omega
      have e2 : a + 1 = m := by omega
      rw [e1] at r2
      have R : RotOK l r a a m k b := ⟨Nat.le_refl _, by omega, by omega, k3, sA, sB, fun i j x1 x2 => by omega, fun i j x1 x2 x3 x4 => by
        have : j = a := by omega
        subst this
        exact leV_of_lt (k4 i x1 x2), fun x => by rw [r3, e1, e2]⟩
      refine ⟨r, rfl, r2.wide (Nat.le_refl _) k3, srt_join R.s2 ?_ (fun i j x1 x2 x3 x4 => R.cross x1 x2 x3 x4)⟩
      refine srt_join R.s3 R.s4 fun i j x1 x2 x3 x4 => ?_
      rw [R.l2 x1 x2, R.hi x3]
      have : i - (k - m) = a := by omega
      rw [this]
      exact leV_of_nlt (k5 j x3 x4)
    · have hc : (((m - a : Nat) : Int) == 1) = false := by simp; omega
      rw [if_neg (by rw [hc]; simp)]
      by_cases c2 : b - m = 1
      · left
        have hc : (((b - m : Nat) : Int) == 1) = true := by rw [c2]; rfl
        rw [if_pos hc]
        obtain ⟨k, k1, k2, k3, k4, k5⟩ := bsearch_post (step := fun s136 =>
          if decide (s136.1 < s136.2) = true then (
          (ix l (m : Int)).bind fun x147 =>
          (ix l (IntKind.i64.wrap ((IntKind.u64.wrap (IntKind.i64.wrap (s136.1 + s136.2))).fdiv 2))).bind fun x154 =>
          (F_impl_gathered_1 x147 x154).bind fun z161 =>
          if (!(decide (z161 < 0))) = true then (
          some (.go (IntKind.i64.wrap ((IntKind.i64.wrap ((IntKind.u64.wrap (IntKind.i64.wrap (s136.1 + s136.2))).fdiv 2)) + 1), s136.2))) else (
          some (.go (s136.1, IntKind.i64.wrap ((IntKind.u64.wrap (IntKind.i64.wrap (s136.1 + s136.2))).fdiv 2))))) else (
          some (.out s136.1))) a m (by omega) (fun c => ¬ ltV (gv l m) (gv l c))
          (by
            intro lo hi x1 x2 x3
            have hd : decide ((lo : Int) < (hi : Int)) = true := by simpa using x2
            simp only [hd, if_true, mid_eq (lo := lo) (hi := hi) (n := l.length) (by omega) (by omega) hl, gv_ix (l := l) (i := (lo + hi) / 2) (by omega), gv_ix (l := l) (i := m) (by omega), Option.bind_some, p_cmpV]
            by_cases hp : ltV (gv l m) (gv l ((lo + hi) / 2))
            · right
              rw [if_neg (by rw [(ltV_dec _ _).2 hp]; simp)]
              exact ⟨fun h => h hp, rfl⟩
            · left
              rw [if_pos (by rw [(ltV_decf _ _).2 hp]; rfl), nat_wrap (k := (lo + hi) / 2 + 1) (by omega) (by omega)]
              exact ⟨hp, rfl⟩)
          (by intro lo x1 x2; simp)
          (by
            intro c d x1 x2 x3 hp h
            exact hp (ltV_of' h (sA.le x1 x2 x3)))
        rw [k1, Option.bind_some]
        obtain ⟨r, r1, r2, r3⟩ := p_moveL l k m (by omega) (by omega) hl
        rw [r1]
        have e1 : m + 1 = b := by omega
        rw [e1] at r2
        have R : RotOK l r a k m b b := ⟨k2, by omega, by omega, Nat.le_refl _, sA, sB, fun i j x1 x2 x3 x4 => by omega, fun i j x1 x2 x3 x4 => by
          have : i = m := by omega
          subst this
          exact leV_of_lt (Classical.not_not.1 (k5 j x3 x4)), fun x => by rw [r3, e1]⟩
        refine ⟨r, rfl, r2.wide k2 (Nat.le_refl _), srt_join (srt_join R.s1 R.s2 fun i j x1 x2 x3 x4 => ?_) R.s3 (fun i j x1 x2 x3 x4 => R.cross x1 x2 x3 x4)⟩
        rw [R.lo x2, R.l1 x3 x4]
        have : j + (m - k) = m := by omega
        rw [this]
        exact leV_of_nlt (k4 i x1 x2)
      · have hc : (((b - m : Nat) : Int) == 1) = false := by simp; omega
        rw [if_neg (by rw [hc]; simp)]
        simp only [mid_eq (lo := a) (hi := b) (n := l.length) (by omega) hbl hl]
        generalize hmid : (a + b) / 2 = mid
        have m1 : a < mid := by omega
        have m2 : mid < b := by omega
        have wn : IntKind.i64.wrap ((mid : Int) + (m : Int)) = ((mid + m : Nat) : Int) := nat_wrap (by omega) (by omega)
        have wp : IntKind.i64.wrap (((mid + m : Nat) : Int) - 1) = ((mid + m - 1 : Nat) : Int) := nat_wrap (by omega) (by omega)
        simp only [wn, wp]
        -- where the search begins
        obtain ⟨s0, r0, e0, q1, q2, q3, q4, q5, q6⟩ : ∃ s0 r0 : Nat, (if decide ((mid : Int) < (m : Int)) = true then some (IntKind.i64.wrap (((mid + m : Nat) : Int) - (b : Int)), (mid : Int)) else some ((a : Int), (m : Int))) = some ((s0 : Int), (r0 : Int)) ∧
            s0 ≤ r0 ∧ a ≤ s0 ∧ r0 ≤ m ∧ r0 ≤ mid ∧ (s0 = a ∨ s0 + b = mid + m) ∧ (r0 = m ∨ r0 = mid) ∧ mid + m ≤ b + s0 := by
          by_cases h : mid < m
          · refine ⟨mid + m - b, mid, ?_, by omega, by omega, by omega, by omega, by omega, by omega, by omega⟩
            rw [if_pos (by simpa using h), nat_wrap (k := mid + m - b) (by omega) (by omega)]
          · exact ⟨a, m, by rw [if_neg (by simpa using h)], by omega, by omega, by omega, by omega, by omega, by omega, by omega⟩
        obtain ⟨q6, q7⟩ := q6
        rw [e0, Option.bind_some]
        -- the search
        obtain ⟨k, k1, k2, k3, k4, k5⟩ := bsearch_post (step := fun s273 =>
          if decide (s273.1 < s273.2) = true then (
          (ix l (IntKind.i64.wrap (((mid + m - 1 : Nat) : Int) - (IntKind.i64.wrap ((IntKind.u64.wrap (IntKind.i64.wrap (s273.1 + s273.2))).fdiv 2))))).bind fun x284 =>
          (ix l (IntKind.i64.wrap ((IntKind.u64.wrap (IntKind.i64.wrap (s273.1 + s273.2))).fdiv 2))).bind fun x291 =>
          (F_impl_gathered_1 x284 x291).bind fun z298 =>
          if (!(decide (z298 < 0))) = true then (
          some (.go (IntKind.i64.wrap ((IntKind.i64.wrap ((IntKind.u64.wrap (IntKind.i64.wrap (s273.1 + s273.2))).fdiv 2)) + 1), s273.2))) else (
          some (.go (s273.1, IntKind.i64.wrap ((IntKind.u64.wrap (IntKind.i64.wrap (s273.1 + s273.2))).fdiv 2))))) else (
          some (.out s273.1))) s0 r0 q1 (fun c => ¬ ltV (gv l (mid + m - 1 - c)) (gv l c))
          (by
            intro lo hi x1 x2 x3
            have hd : decide ((lo : Int) < (hi : Int)) = true := by simpa using x2
            have wq : IntKind.i64.wrap (((mid + m - 1 : Nat) : Int) - (((lo + hi) / 2 : Nat) : Int)) = ((mid + m - 1 - (lo + hi) / 2 : Nat) : Int) := nat_wrap (by omega) (by omega)
            simp only [hd, if_true, mid_eq (lo := lo) (hi := hi) (n := l.length) (by omega) (by omega) hl, wq, gv_ix (l := l) (i := (lo + hi) / 2) (by omega), gv_ix (l := l) (i := mid + m - 1 - (lo + hi) / 2) (by omega), Option.bind_some, p_cmpV]
            by_cases hp : ltV (gv l (mid + m - 1 - (lo + hi) / 2)) (gv l ((lo + hi) / 2))
            · right
              rw [if_neg (by rw [(ltV_dec _ _).2 hp]; simp)]
              exact ⟨fun h => h hp, rfl⟩
            · left
              rw [if_pos (by rw [(ltV_decf _ _).2 hp]; rfl), nat_wrap (k := (lo + hi) / 2 + 1) (by omega) (by omega)]
              exact ⟨hp, rfl⟩)
          (by intro lo x1 x2; simp)
          (by
            intro c d x1 x2 x3 hp h
            exact hp (ltV_of (sB.le (by omega) (by omega) (by omega)) (ltV_of' h (sA.le (by omega) x2 (by omega)))))
        rw [k1, Option.bind_some]
        have we : IntKind.i64.wrap (((mid + m : Nat) : Int) - (k : Int)) = ((mid + m - k : Nat) : Int) := nat_wrap (by omega) (by omega)
        simp only [we]
        generalize hend : mid + m - k = e
        have hke : k ≤ mid := by omega
        have hem : m ≤ e := by omega
        have heb : e ≤ b := by omega
        have hmk : k + (e - m) = mid := by omega
        -- the rotation
        obtain ⟨r, hr, R, rS⟩ : ∃ r, ((if decide ((k : Int) < (m : Int)) = true then some (decide ((m : Int) < (e : Int))) else some false).bind fun x315 =>
            (if x315 = true then (F_slices_rotateCmpFunc_impl_ViewCount__io0_impl_gathered_1 l (k : Int) (m : Int) (e : Int)).bind fun z330 => some z330 else some l)) = some r ∧ RotOK l r a k m e b ∧ Seg l r a b := by
          have cc1 : ∀ i j, a ≤ i → i < k → e ≤ j → j < b → leV (gv l i) (gv l j) := by
            intro i j x1 x2 x3 x4
            by_cases hs : k = s0
            · exfalso
              rcases q5 with q5 | q5 <;> omega
            · have h1 := leV_of_nlt (k4 (k - 1) (by omega) (by omega))
              have e3 : mid + m - 1 - (k - 1) = e := by omega
              rw [e3] at h1
              exact leV_trans (sA.le x1 (by omega) (by omega)) (leV_trans h1 (sB.le (by omega) x3 x4))
          have cc2 : ∀ i j, m ≤ i → i < e → k ≤ j → j < m → leV (gv l i) (gv l j) := by
            intro i j x1 x2 x3 x4
            by_cases hs : k = r0
            · exfalso
              rcases q6 with q6 | q6 <;> omega
            · have h1 := leV_of_lt (Classical.not_not.1 (k5 k (Nat.le_refl _) (by omega)))
              have e3 : mid + m - 1 - k = e - 1 := by omega
              rw [e3] at h1
              exact leV_trans (sB.le x1 (by omega) (by omega)) (leV_trans h1 (sA.le (by omega) x3 x4))
          by_cases hrot : k < m ∧ m < e
          · obtain ⟨r, r1, r2, r3⟩ := p_rotate l k m e hrot.1 hrot.2 (by omega) hl
            refine ⟨r, ?_, ⟨by omega, by omega, hem, heb, sA, sB, cc1, cc2, r3⟩, r2.wide (by omega) heb⟩
            rw [if_pos (by simpa using hrot.1), Option.bind_some, if_pos (by simpa using hrot.2), r1]; rfl
          · refine ⟨l, ?_, ⟨by omega, by omega, hem, heb, sA, sB, cc1, cc2, fun x => ?_⟩, .refl _ _ _⟩
            · by_cases h1 : k < m
              · have h2 : ¬ m < e := fun h => hrot ⟨h1, h⟩
                rw [if_pos (by simpa using h1), Option.bind_some, if_neg (by simpa using h2)]
              · rw [if_neg (by simpa using h1), Option.bind_some, if_neg (by simp)]
            · unfold rotf
              by_cases h1 : k < m
              · have h2 : e = m := by omega
                subst h2
                rw [if_neg (by omega)]
                split
                · congr 1; omega
                · rfl
              · have h2 : k = m := by omega
                subst h2
                split
                · congr 1; omega
                · rw [if_neg (by omega)]
        have hr' : ∀ {β : Type} (f : List ViewCount → Option β), (((if decide ((k : Int) < (m : Int)) = true then some (decide ((m : Int) < (e : Int))) else some false) : Option Bool).bind fun x315 =>
            ((if x315 = true then (F_slices_rotateCmpFunc_impl_ViewCount__io0_impl_gathered_1 l (k : Int) (m : Int) (e : Int)).bind fun z330 => some z330 else some l) : Option (List ViewCount)).bind f) = f r := by
          intro β f
          rw [← Option.bind_assoc, hr]; rfl
        rw [hr']
        have hrl := rS.len
        -- the left half
        have left : (∃ r2, ((if decide ((a : Int) < (k : Int)) = true then some (decide ((k : Int) < (mid : Int))) else some false).bind fun x340 =>
            (if x340 = true then (F_slices_symMergeCmpFunc_impl_ViewCount__io0_impl_gathered_1_r n_ r (a : Int) (k : Int) (mid : Int)).bind fun z355 => some z355 else some r)) = some r2 ∧ Seg r r2 a mid ∧ Srt r2 a mid) ∨
            (((if decide ((a : Int) < (k : Int)) = true then some (decide ((k : Int) < (mid : Int))) else some false).bind fun x340 =>
            (if x340 = true then (F_slices_symMergeCmpFunc_impl_ViewCount__io0_impl_gathered_1_r n_ r (a : Int) (k : Int) (mid : Int)).bind fun z355 => some z355 else some r)) = none ∧ n_ + 1 < b - a) := by
          have s1 := R.s1
          have s2 := R.s2
          rw [hmk] at s2
          by_cases h1 : a < k
          · by_cases h2 : k < mid
            · simp only [show decide ((a : Int) < (k : Int)) = true by simpa using h1, show decide ((k : Int) < (mid : Int)) = true by simpa using h2, if_true, Option.bind_some]
              rcases ih r a k mid h1 h2 (by omega) (by omega) s1 s2 with ⟨r2, x1, x2, x3⟩ | ⟨x1, x2⟩
              · exact .inl ⟨r2, by rw [x1]; rfl, x2, x3⟩
              · exact .inr ⟨by rw [x1]; rfl, by omega⟩
            · have : k = mid := by omega
              subst this
              exact .inl ⟨r, by simp, .refl _ _ _, s1⟩
          · have : k = a := by omega
            subst this
            exact .inl ⟨r, by simp, .refl _ _ _, s2⟩
        rcases left with ⟨r2, f1, f2, f3⟩ | ⟨f1, f2⟩
        · have f1' : ∀ {β : Type} (f : List ViewCount → Option β), (((if decide ((a : Int) < (k : Int)) = true then some (decide ((k : Int) < (mid : Int))) else some false) : Option Bool).bind fun x340 =>
            ((if x340 = true then (F_slices_symMergeCmpFunc_impl_ViewCount__io0_impl_gathered_1_r n_ r (a : Int) (k : Int) (mid : Int)).bind fun z355 => some z355 else some r) : Option (List ViewCount)).bind f) = f r2 := by
            intro β f
            rw [← Option.bind_assoc, f1]; rfl
          rw [f1']
          have hr2 := f2.len
          have s3 := R.s3
          have s4 := R.s4
          rw [hmk] at s3
          have s3' : Srt r2 mid e := f2.srt s3 (.inr (Nat.le_refl _))
          have s4' : Srt r2 e b := f2.srt s4 (.inr (by omega))
          have cr : ∀ i j, a ≤ i → i < mid → mid ≤ j → j < b → leV (gv r i) (gv r j) := fun i j x1 x2 x3 x4 => R.cross x1 (by omega) (by omega) x4
          have cr2 := f2.cross cr
          by_cases h1 : mid < e
          · by_cases h2 : e < b
            · simp only [show decide ((mid : Int) < (e : Int)) = true by simpa using h1, show decide ((e : Int) < (b : Int)) = true by simpa using h2, if_true, Option.bind_some]
              rcases ih r2 mid e b h1 h2 (by omega) (by omega) s3' s4' with ⟨r3, x1, x2, x3⟩ | ⟨x1, x2⟩
              · refine .inl ⟨r3, by rw [x1]; rfl, (rS.trans (f2.wide (Nat.le_refl _) (by omega))).trans (x2.wide (by omega) (Nat.le_refl _)), srt_join (x2.srt f3 (.inl (Nat.le_refl _))) x3 (x2.cross' cr2)⟩
              · exact .inr ⟨by rw [x1]; rfl, by omega⟩
            · have : e = b := by omega
              subst this
              refine .inl ⟨r2, by simp, rS.trans (f2.wide (Nat.le_refl _) (by omega)), srt_join f3 s3' cr2⟩
          · have : e = mid := by omega
            subst this
            refine .inl ⟨r2, by simp, rS.trans (f2.wide (Nat.le_refl _) (by omega)), srt_join f3 s4' cr2⟩
        · right
          refine ⟨?_, f2⟩
          have f1' : ∀ {β : Type} (f : List ViewCount → Option β), (((if decide ((a : Int) < (k : Int)) = true then some (decide ((k : Int) < (mid : Int))) else some false) : Option Bool).bind fun x340 =>
            ((if x340 = true then (F_slices_symMergeCmpFunc_impl_ViewCount__io0_impl_gathered_1_r n_ r (a : Int) (k : Int) (mid : Int)).bind fun z355 => some z355 else some r) : Option (List ViewCount)).bind f) = none := by
            intro β f
            rw [← Option.bind_assoc, f1]; rfl
          rw [f1']
theorem p_merge (l : List ViewCount) (a m b : Nat) (h1 : a < m) (h2 : m < b) (h3 : b ≤ l.length) (h4 : l.length ≤ 1048576) (h5 : Srt l a m) (h6 : Srt l m b) :
    ∃ r, F_slices_symMergeCmpFunc_impl_ViewCount__io0_impl_gathered_1 l (a : Int) (m : Int) (b : Int) = some r ∧ Seg l r a b ∧ Srt r a b := by
  unfold F_slices_symMergeCmpFunc_impl_ViewCount__io0_impl_gathered_1
  rcases p_symMerge (b - a) l a m b h1 h2 h3 h4 h5 h6 with ⟨r, x1, x2⟩ | ⟨_, x⟩
  · obtain ⟨r', n, y1, y2⟩ := frec_is (f := fun n_ => F_slices_symMergeCmpFunc_impl_ViewCount__io0_impl_gathered_1_r n_ l (a : Int) (m : Int) (b : Int)) x1
    rcases p_symMerge n l a m b h1 h2 h3 h4 h5 h6 with ⟨r2, z1, z2⟩ | ⟨z1, _⟩
    · have y2 : F_slices_symMergeCmpFunc_impl_ViewCount__io0_impl_gathered_1_r n l (a : Int) (m : Int) (b : Int) = some r' := y2
      rw [z1] at y2; cases y2
      exact ⟨r', y1, z2⟩
    · have y2 : F_slices_symMergeCmpFunc_impl_ViewCount__io0_impl_gathered_1_r n l (a : Int) (m : Int) (b : Int) = some r' := y2
      rw [z1] at y2; cases y2
  · omega
def Blk (l : List ViewCount) (n w t : Nat) : Prop := ∀ q, q * w < t → Srt l (q * w) (min ((q + 1) * w) n)
theorem Srt.sub {l : List ViewCount} {a b c d : Nat} (h : Srt l a b) (h1 : a ≤ c) (h2 : d ≤ b) : Srt l c d := fun i j x1 x2 x3 => h i j (by omega) x2 (by omega)
set_option maxHeartbeats 400000 in
theorem p_stable (l : List ViewCount) (hl : l.length ≤ 1048576) :
    ∃ r, F_slices_stableCmpFunc_impl_ViewCount__io0_impl_gathered_1 l (l.length : Int) = some r ∧ r.Perm l ∧ Srt r 0 l.length := by
  unfold F_slices_stableCmpFunc_impl_ViewCount__io0_impl_gathered_1
  generalize hn : l.length = n at hl
  -- the blocks
  obtain ⟨B, hB⟩ : ∃ B : Nat, B = 20 := ⟨20, rfl⟩
  rw [show (20 : Int) = (B : Int) by rw [hB]; rfl]
  obtain ⟨x, e1, r1, q1, rfl, b1, b2, b3, b4⟩ := wloop_post (σ := (List ViewCount) × Int × Int) (β := ((List ViewCount) × Int)) (step := fun s24 =>
    if decide (s24.2.2 ≤ (n : Int)) = true then (
    (F_slices_insertionSortCmpFunc_impl_ViewCount__io0_impl_gathered_1 s24.1 s24.2.1 s24.2.2).bind fun z34 =>
    some (.go (z34, s24.2.2, IntKind.i64.wrap (s24.2.2 + (B : Int))))) else (
    some (.out (s24.1, s24.2.1))))
    (fun k s => ∃ (r : List ViewCount) (q : Nat), s = (r, ((q * B : Nat) : Int), (((q + 1) * B : Nat) : Int)) ∧ k = n - q * B ∧ q * B ≤ n ∧ r.length = n ∧ r.Perm l ∧ ∀ p, p < q → Srt r (p * B) ((p + 1) * B))
    (fun x => ∃ (r : List ViewCount) (q : Nat), x = (r, ((q * B : Nat) : Int)) ∧ (q * B ≤ n ∧ n < (q + 1) * B) ∧ r.length = n ∧ r.Perm l ∧ ∀ p, p < q → Srt r (p * B) ((p + 1) * B))
    (by
      rintro k s ⟨r, q, rfl, h1, h2, h3, h4, h5⟩
      simp only
      have g1 : (q + 1) * B = q * B + B := Nat.succ_mul _ _
      have g2 : (q + 1 + 1) * B = (q + 1) * B + B := Nat.succ_mul _ _
      by_cases hc : (q + 1) * B ≤ n
      · have hd : decide ((((q + 1) * B : Nat) : Int) ≤ (n : Int)) = true := by simp only [decide_eq_true_eq]; omega
        obtain ⟨r2, x1, x2, x3⟩ := p_insertion r (q * B) ((q + 1) * B) (by omega) (by omega) (by omega)
        have wr : IntKind.i64.wrap ((((q + 1) * B : Nat) : Int) + (B : Int)) = (((q + 1 + 1) * B : Nat) : Int) := nat_wrap (by omega) (by omega)
        rw [if_pos hd, x1, Option.bind_some, wr]
        refine .inl ⟨(r2, (((q + 1) * B : Nat) : Int), (((q + 1 + 1) * B : Nat) : Int)), n - (q + 1) * B, rfl, by omega, r2, q + 1, rfl, rfl, hc, x2.len.trans h3, x2.perm.trans h4, fun p hp => ?_⟩
        by_cases hpq : p = q
        · subst hpq; exact x3
        · exact x2.srt (h5 p (by omega)) (.inl (Nat.mul_le_mul_right B (show p + 1 ≤ q by omega)))
      · have hd : decide ((((q + 1) * B : Nat) : Int) ≤ (n : Int)) = false := by simp only [decide_eq_false_iff_not]; omega
        rw [if_neg (by rw [hd]; simp)]
        exact .inr ⟨(r, ((q * B : Nat) : Int)), rfl, r, q, rfl, ⟨h2, by omega⟩, h3, h4, h5⟩)
    n (l, 0, (B : Int)) ⟨l, 0, by simp, by omega, by omega, hn, .refl _, fun p hp => by omega⟩
  rw [e1, Option.bind_some]
  simp only
  obtain ⟨r2, x1, x2, x3⟩ := p_insertion r1 (q1 * B) n b1.1 (by omega) (by omega)
  rw [x1, Option.bind_some]
  have B0 : Blk r2 n B n := fun q hq => by
    have g1 : (q1 + 1) * B = q1 * B + B := Nat.succ_mul _ _
    by_cases hqq : q < q1
    · have := Nat.mul_le_mul_right B (show q + 1 ≤ q1 by omega)
      rw [Nat.min_eq_left (by omega)]
      exact x2.srt (b4 q hqq) (.inl this)
    · have : q = q1 := by
        rcases Nat.lt_or_ge q1 q with h | h
        · have := Nat.mul_le_mul_right B (show q1 + 1 ≤ q by omega)
          omega
        · omega
      subst this
      rw [Nat.min_eq_right (by omega)]
      exact x3
  -- the merges
  refine wloop_post (σ := (List ViewCount) × Int) (β := (List ViewCount)) (fun k s => ∃ (r : List ViewCount) (w : Nat), s = (r, (w : Int)) ∧ k = n - w ∧ 0 < w ∧ w ≤ 2097152 ∧ r.length = n ∧ r.Perm l ∧ Blk r n w n) (fun r => r.Perm l ∧ Srt r 0 n) ?_ (n - B) (r2, (B : Int))
    ⟨r2, B, rfl, rfl, by omega, by omega, x2.len.trans b2, x2.perm.trans b3, B0⟩
  rintro k s ⟨r, w, rfl, h1, h2, h3, h4, h5, h6⟩
  simp only
  by_cases hw : w < n
  · have hd : decide ((w : Int) < (n : Int)) = true := by simpa using hw
    have w2 : IntKind.i64.wrap (2 * (w : Int)) = ((2 * w : Nat) : Int) := nat_wrap (by omega) (by omega)
    rw [if_pos hd, w2]
    obtain ⟨y, e2, r3, q, rfl, c1, c2, c3, c4, c5⟩ := wloop_post (σ := (List ViewCount) × Int × Int) (β := ((List ViewCount) × Int)) (step := fun s150 =>
      if decide (s150.2.2 ≤ (n : Int)) = true then (
      (F_slices_symMergeCmpFunc_impl_ViewCount__io0_impl_gathered_1 s150.1 s150.2.1 (IntKind.i64.wrap (s150.2.1 + (w : Int))) s150.2.2).bind fun z160 =>
      some (.go (z160, s150.2.2, IntKind.i64.wrap (s150.2.2 + ((2 * w : Nat) : Int))))) else (
      some (.out (s150.1, s150.2.1))))
      (fun k s => ∃ (r : List ViewCount) (q : Nat), s = (r, ((q * (2 * w) : Nat) : Int), (((q + 1) * (2 * w) : Nat) : Int)) ∧ k = n - q * (2 * w) ∧ q * (2 * w) ≤ n ∧ r.length = n ∧ r.Perm l ∧ (∀ p, p < q → Srt r (p * (2 * w)) ((p + 1) * (2 * w))) ∧ ∀ p, 2 * q ≤ p → p * w < n → Srt r (p * w) (min ((p + 1) * w) n))
      (fun x => ∃ (r : List ViewCount) (q : Nat), x = (r, ((q * (2 * w) : Nat) : Int)) ∧ (q * (2 * w) ≤ n ∧ n < (q + 1) * (2 * w)) ∧ r.length = n ∧ r.Perm l ∧ (∀ p, p < q → Srt r (p * (2 * w)) ((p + 1) * (2 * w))) ∧ ∀ p, 2 * q ≤ p → p * w < n → Srt r (p * w) (min ((p + 1) * w) n))
      (by
        rintro k s ⟨r, q, rfl, h1, h2', h3', h4', h5', h6'⟩
        simp only
        have g1 : (q + 1) * (2 * w) = q * (2 * w) + 2 * w := Nat.succ_mul _ _
        have g2 : (q + 1 + 1) * (2 * w) = (q + 1) * (2 * w) + 2 * w := Nat.succ_mul _ _
        have g3 : 2 * q * w = q * (2 * w) := by rw [Nat.mul_comm 2 q, Nat.mul_assoc]
        have g4 : (2 * q + 1) * w = q * (2 * w) + w := by rw [Nat.succ_mul, g3]
        have g5 : (2 * q + 1 + 1) * w = q * (2 * w) + w + w := by rw [Nat.succ_mul, g4]
        by_cases hc : (q + 1) * (2 * w) ≤ n
        · have hd : decide ((((q + 1) * (2 * w) : Nat) : Int) ≤ (n : Int)) = true := by simp only [decide_eq_true_eq]; omega
          have wm : IntKind.i64.wrap (((q * (2 * w) : Nat) : Int) + (w : Int)) = ((q * (2 * w) + w : Nat) : Int) := nat_wrap (by simp) (by omega)
          have sA := h6' (2 * q) (Nat.le_refl _) (by omega)
          have sB := h6' (2 * q + 1) (by omega) (by omega)
          rw [g3, g4, Nat.min_eq_left (by omega)] at sA
          rw [g4, g5, Nat.min_eq_left (by omega)] at sB
          obtain ⟨r2, x1, x2, x3⟩ := p_merge r (q * (2 * w)) (q * (2 * w) + w) ((q + 1) * (2 * w)) (by omega) (by omega) (by omega) (by omega) sA (by rw [g1]; exact sB.sub (by omega) (by omega))
          have wr : IntKind.i64.wrap ((((q + 1) * (2 * w) : Nat) : Int) + ((2 * w : Nat) : Int)) = (((q + 1 + 1) * (2 * w) : Nat) : Int) := nat_wrap (by rw [g2]; push_cast; rfl) (by omega)
          rw [if_pos hd, wm, x1, Option.bind_some, wr]
          refine .inl ⟨(r2, (((q + 1) * (2 * w) : Nat) : Int), (((q + 1 + 1) * (2 * w) : Nat) : Int)), n - (q + 1) * (2 * w), rfl, by omega, r2, q + 1, rfl, rfl, hc, x2.len.trans h3', x2.perm.trans h4', fun p hp => ?_, fun p hp hp2 => ?_⟩
          · by_cases hpq : p = q
            · subst hpq; exact x3
            · have : (p + 1) * (2 * w) ≤ q * (2 * w) := Nat.mul_le_mul_right _ (by omega)
              exact x2.srt (h5' p (by omega)) (.inl this)
          · have : (q + 1) * (2 * w) ≤ p * w := by
              have h := Nat.mul_le_mul_right w (show 2 * q + 2 ≤ p by omega)
              have e : (2 * q + 2) * w = q * (2 * w) + w + w := g5
              omega
            exact x2.srt (h6' p (by omega) hp2) (.inr this)
        · have hd : decide ((((q + 1) * (2 * w) : Nat) : Int) ≤ (n : Int)) = false := by simp only [decide_eq_false_iff_not]; omega
          rw [if_neg (by rw [hd]; simp)]
          exact .inr ⟨(r, ((q * (2 * w) : Nat) : Int)), rfl, r, q, rfl, ⟨h2', by omega⟩, h3', h4', h5', h6'⟩)
      n (r, 0, ((2 * w : Nat) : Int)) ⟨r, 0, by simp, by omega, by omega, h4, h5, fun p hp => by omega, fun p _ hp => h6 p hp⟩
    rw [e2, Option.bind_some]
    simp only
    have g1 : (q + 1) * (2 * w) = q * (2 * w) + 2 * w := Nat.succ_mul _ _
    have g3 : 2 * q * w = q * (2 * w) := by rw [Nat.mul_comm 2 q, Nat.mul_assoc]
    have g4 : (2 * q + 1) * w = q * (2 * w) + w := by rw [Nat.succ_mul, g3]
    have g5 : (2 * q + 1 + 1) * w = q * (2 * w) + w + w := by rw [Nat.succ_mul, g4]
    have wm : IntKind.i64.wrap (((q * (2 * w) : Nat) : Int) + (w : Int)) = ((q * (2 * w) + w : Nat) : Int) := nat_wrap (by simp) (by omega)
    rw [wm]
    have last : ∃ r4, (if decide (((q * (2 * w) + w : Nat) : Int) < (n : Int)) = true then (
        (F_slices_symMergeCmpFunc_impl_ViewCount__io0_impl_gathered_1 r3 ((q * (2 * w) : Nat) : Int) ((q * (2 * w) + w : Nat) : Int) (n : Int)).bind fun z177 => some z177) else some r3) = some r4 ∧ Seg r3 r4 (q * (2 * w)) n ∧ Srt r4 (q * (2 * w)) n := by
      by_cases hm : q * (2 * w) + w < n
      · have hd : decide (((q * (2 * w) + w : Nat) : Int) < (n : Int)) = true := by simp only [decide_eq_true_eq]; omega
        have sA := c5 (2 * q) (Nat.le_refl _) (by omega)
        have sB := c5 (2 * q + 1) (by omega) (by omega)
        rw [g3, g4, Nat.min_eq_left (by omega)] at sA
        rw [g4, g5, Nat.min_eq_right (by omega)] at sB
        obtain ⟨r4, y1, y2, y3⟩ := p_merge r3 (q * (2 * w)) (q * (2 * w) + w) n (by omega) hm (by omega) (by omega) sA sB
        exact ⟨r4, by rw [if_pos hd, y1]; rfl, y2, y3⟩
      · have hd : decide (((q * (2 * w) + w : Nat) : Int) < (n : Int)) = false := by simp only [decide_eq_false_iff_not]; omega
        refine ⟨r3, by rw [if_neg (by rw [hd]; simp)], .refl _ _ _, ?_⟩
        by_cases hq : q * (2 * w) < n
        · have sA := c5 (2 * q) (Nat.le_refl _) (by omega)
          rw [g3, g4] at sA
          exact sA.sub (Nat.le_refl _) (by omega)
        · exact fun i j y1 y2 y3 => by omega
    obtain ⟨r4, z1, z2, z3⟩ := last
    have wr : IntKind.i64.wrap ((w : Int) * 2) = ((2 * w : Nat) : Int) := nat_wrap (by omega) (by omega)
    rw [z1, Option.bind_some, wr]
    refine .inl ⟨(r4, ((2 * w : Nat) : Int)), n - 2 * w, rfl, by omega, r4, 2 * w, rfl, rfl, by omega, by omega, z2.len.trans c2, z2.perm.trans c3, fun p hp => ?_⟩
    by_cases hpq : p < q
    · have : (p + 1) * (2 * w) ≤ q * (2 * w) := Nat.mul_le_mul_right _ (by omega)
      rw [Nat.min_eq_left (by omega)]
      exact z2.srt (c4 p hpq) (.inl this)
    · have : p = q := by
        rcases Nat.lt_or_ge q p with h | h
        · have := Nat.mul_le_mul_right (2 * w) (show q + 1 ≤ p by omega)
          omega
        · omega
      subst this
      exact z3.sub (Nat.le_refl _) (by omega)
  · refine .inr ⟨r, by rw [if_neg (by simpa using hw)], h5, ?_⟩
    by_cases h0 : n = 0
    · exact fun i j y1 y2 y3 => by omega
    · have := h6 0 (by omega)
      rw [Nat.zero_mul, Nat.zero_add, Nat.one_mul, Nat.min_eq_right (by omega)] at this
      exact this
theorem p_sort (l : List ViewCount) (hl : l.length ≤ 1048576) :
    ∃ r, F_slices_SortStableFunc_impl_ViewCount_impl_ViewCount__io0_impl_gathered_1 l = some r ∧ r.Perm l ∧ Srt r 0 l.length := by
  unfold F_slices_SortStableFunc_impl_ViewCount_impl_ViewCount__io0_impl_gathered_1
  obtain ⟨r, h1, h2, h3⟩ := p_stable l hl
  exact ⟨r, by rw [h1]; rfl, h2, h3⟩
theorem sum_pos {l : List ViewCount} (h : ∀ x ∈ l, 1 ≤ x.Times) (h0 : l ≠ []) : 1 ≤ sumT l := by
  cases l with
  | nil => exact absurd rfl h0
  | cons a l =>
    have h1 := h a (List.mem_cons_self ..)
    have h2 := sumT_nonneg (l := l) fun x hx => by have := h x (List.mem_cons_of_mem _ hx); omega
    simp only [sumT, List.map_cons, List.sum_cons] at h2 ⊢
    omega
theorem good_times {l : List ViewCount} (h : GoodC l) : ∀ x ∈ l, 1 ≤ x.Times ∧ x.Times ≤ 1000000 := by
  intro x hx
  obtain ⟨k, hk⟩ := List.getElem?_of_mem hx
  exact ⟨(h.2.1 k x hk).1, (h.2.1 k x hk).2.1⟩
theorem rloop_congr {σ β : Type} {body body' : Int → σ → Option (Stp σ β)} {stop : σ → β} : ∀ (m : Nat) (i : Int) (s : σ), (∀ (k : Nat) (s : σ), k < m → body (i + (k : Int)) s = body' (i + (k : Int)) s) → rloop body stop m i s = rloop body' stop m i s := by
  intro m
  induction m with
  | zero => intro i s _; rfl
  | succ m ih =>
    intro i s h
    have h0 := h 0 s (by omega)
    simp at h0
    simp only [rloop, h0]
    congr 1
    funext x
    cases x with
    | go s' =>
      refine ih (i + 1) s' fun k s hk => ?_
      have := h (k + 1) s (by omega)
      have e : i + ((k + 1 : Nat) : Int) = i + 1 + (k : Int) := by push_cast; omega
      rwa [e] at this
    | out b => rfl
theorem rloop_go {σ β : Type} {body : Int → σ → Option (Stp σ β)} {stop : σ → β} (m : Nat) (i : Int) (s : σ) (h : ∀ (k : Nat) (s : σ), k < m → ∃ s', body (i + (k : Int)) s = some (.go s')) : ∃ s', rloop body stop m i s = some (stop s') := by
  obtain ⟨b, h1, s', h2⟩ := rloop_post (body := body) (stop := stop) (m := m) (i0 := i) (s0 := s) (fun _ _ => True) (fun b => ∃ s', b = stop s') True.intro (fun k s hk _ => by
    obtain ⟨s', h⟩ := h k s hk
    exact .inl ⟨s', h, True.intro⟩) (fun s _ => ⟨s, rfl⟩)
  exact ⟨s', by rw [h1, h2]⟩
def cnt : List ViewCount → List Int → Int
  | [], _ => 0
  | x :: l, v => (if x.View = v then x.Times else 0) + cnt l v
theorem cnt_append (l r : List ViewCount) (v : List Int) : cnt (l ++ r) v = cnt l v + cnt r v := by
  induction l with
  | nil => simp [cnt]
  | cons x l ih => simp only [List.cons_append, cnt, ih]; omega
theorem cnt_perm {l r : List ViewCount} (h : l.Perm r) (v : List Int) : cnt l v = cnt r v := by
  induction h with
  | nil => rfl
  | cons x _ ih => simp only [cnt, ih]
  | swap x y l => simp only [cnt]; omega
  | trans _ _ h1 h2 => rw [h1, h2]
theorem cnt_nonneg {l : List ViewCount} (h : ∀ x ∈ l, 1 ≤ x.Times) (v : List Int) : 0 ≤ cnt l v := by
  induction l with
  | nil => exact Int.le_refl _
  | cons x l ih =>
    have h1 := h x (List.mem_cons_self ..)
    have h2 := ih fun y hy => h y (List.mem_cons_of_mem _ hy)
    simp only [cnt]
    split <;> omega
theorem cnt_pos {l : List ViewCount} (h : ∀ x ∈ l, 1 ≤ x.Times) {x : ViewCount} (hx : x ∈ l) : 1 ≤ cnt l x.View := by
  induction l with
  | nil => cases hx
  | cons y l ih =>
    have h1 := h y (List.mem_cons_self ..)
    have h2 := cnt_nonneg (l := l) (fun y hy => h y (List.mem_cons_of_mem _ hy)) x.View
    simp only [cnt]
    cases List.mem_cons.1 hx with
    | inl e => subst e; rw [if_pos rfl]; omega
    | inr e =>
      have := ih (fun y hy => h y (List.mem_cons_of_mem _ hy)) e
      split <;> omega
theorem cnt_none {l : List ViewCount} {v : List Int} (h : ∀ x ∈ l, x.View ≠ v) : cnt l v = 0 := by
  induction l with
  | nil => rfl
  | cons x l ih =>
    simp only [cnt]
    rw [if_neg (h x (List.mem_cons_self ..)), ih fun y hy => h y (List.mem_cons_of_mem _ hy)]; rfl
theorem cnt_le {l : List ViewCount} (h : ∀ x ∈ l, 1 ≤ x.Times) (v : List Int) : cnt l v ≤ sumT l := by
  induction l with
  | nil => exact Int.le_refl _
  | cons x l ih =>
    have h1 := h x (List.mem_cons_self ..)
    have h2 := ih fun y hy => h y (List.mem_cons_of_mem _ hy)
    simp only [cnt, sumT, List.map_cons, List.sum_cons] at h2 ⊢
    split <;> omega
theorem gv_mem {l : List ViewCount} {i : Nat} (h : i < l.length) : gv l i ∈ l := by rw [gv_at h]; exact List.getElem_mem h
theorem mem_gv {l : List ViewCount} {x : ViewCount} (h : x ∈ l) : ∃ i, i < l.length ∧ gv l i = x := by
  obtain ⟨i, hi, e⟩ := List.getElem_of_mem h
  exact ⟨i, hi, by rw [gv_at hi, e]⟩
def StrS (l : List ViewCount) : Prop := ∀ i j, i < j → j < l.length → ltV (gv l i) (gv l j)
theorem StrS.cons {x : ViewCount} {l : List ViewCount} (h : StrS (x :: l)) : (∀ y ∈ l, ltV x y) ∧ StrS l := by
  refine ⟨fun y hy => ?_, fun i j h1 h2 => ?_⟩
  · obtain ⟨i, hi, rfl⟩ := mem_gv hy
    exact h 0 (i + 1) (by omega) (by simpa using hi)
  · exact h (i + 1) (j + 1) (by omega) (by simpa using h2)
theorem ltV_ne {x y : ViewCount} (h : ltV x y) : x.View ≠ y.View := fun e => by
  unfold ltV at h
  rw [e, lexC_self] at h; omega
theorem ltV_tri (x y : ViewCount) : ltV x y ∨ x.View = y.View ∨ ltV y x := by
  unfold ltV
  have h1 := lexC_rng x.View y.View
  have h2 := lexC_swap x.View y.View
  rcases h1 with h1 | h1 | h1
  · exact .inl h1
  · exact .inr (.inl (lexC_eq h1))
  · exact .inr (.inr (by omega))
theorem ltV_trans {x y z : ViewCount} (h1 : ltV x y) (h2 : ltV y z) : ltV x z := lexC_trans h1 h2
theorem ltV_view {x y z : ViewCount} (h : ltV x y) (e : y.View = z.View) : ltV x z := by unfold ltV at *; rwa [← e]
structure Canon (l : List ViewCount) (f : List Int → Int) : Prop where
  s : StrS l
  p : ∀ x ∈ l, 1 ≤ x.Times
  c : ∀ v, cnt l v = f v
theorem canon_uniq : ∀ {l r : List ViewCount} {f : List Int → Int}, Canon l f → Canon r f → l = r := by
  intro l
  induction l with
  | nil =>
    intro r f h1 h2
    cases r with
    | nil => rfl
    | cons y r =>
      have a := cnt_pos h2.p (List.mem_cons_self (a := y))
      rw [h2.c, ← h1.c] at a
      simp [cnt] at a
  | cons x l ih =>
    intro r f h1 h2
    cases r with
    | nil =>
      have a := cnt_pos h1.p (List.mem_cons_self (a := x))
      rw [h1.c, ← h2.c] at a
      simp [cnt] at a
    | cons y r =>
      obtain ⟨sx, sl⟩ := h1.s.cons
      obtain ⟨sy, sr⟩ := h2.s.cons
      have px := h1.p x (List.mem_cons_self ..)
      have py := h2.p y (List.mem_cons_self ..)
      have hv : x.View = y.View := by
        rcases ltV_tri x y with h | h | h
        · exfalso
          have a := cnt_pos h1.p (List.mem_cons_self (a := x))
          rw [h1.c, ← h2.c] at a
          have : cnt (y :: r) x.View = 0 := cnt_none fun z hz => by
            cases List.mem_cons.1 hz with
            | inl e => subst e; exact (ltV_ne h).symm
            | inr e => exact (ltV_ne (ltV_trans h (sy z e))).symm
          omega
        · exact h
        · exfalso
          have a := cnt_pos h2.p (List.mem_cons_self (a := y))
          rw [h2.c, ← h1.c] at a
          have : cnt (x :: l) y.View = 0 := cnt_none fun z hz => by
            cases List.mem_cons.1 hz with
            | inl e => subst e; exact (ltV_ne h).symm
            | inr e => exact (ltV_ne (ltV_trans h (sx z e))).symm
          omega
      have e1 : cnt l x.View = 0 := cnt_none fun z hz => (ltV_ne (sx z hz)).symm
      have e2 : cnt r x.View = 0 := cnt_none fun z hz => by rw [hv]; exact (ltV_ne (sy z hz)).symm
      have c1 := h1.c x.View
      have c2 := h2.c x.View
      simp only [cnt, if_true, e1, e2] at c1 c2
      rw [if_pos hv.symm] at c2
      have ht : x.Times = y.Times := by omega
      have hxy : x = y := by
        cases x; cases y; simp only at hv ht; rw [hv, ht]
      subst hxy
      rw [ih (f := fun v => cnt l v) ⟨sl, fun z hz => h1.p z (List.mem_cons_of_mem _ hz), fun v => rfl⟩ ⟨sr, fun z hz => h2.p z (List.mem_cons_of_mem _ hz), fun v => by
        have a := h1.c v
        have b := h2.c v
        simp only [cnt] at a b
        omega⟩]
theorem Canon.congr {l : List ViewCount} {f g : List Int → Int} (h : Canon l f) (e : ∀ v, f v = g v) : Canon l g := ⟨h.s, h.p, fun v => (h.c v).trans (e v)⟩
theorem canon_nil : Canon [] (fun _ => 0) := ⟨fun i j h1 h2 => by simp at h2, fun x hx => by simp at hx, fun v => rfl⟩
theorem p_Equal (a b : List Int) : F_slices_Equal_int_int a b = some (decide (a = b)) := by
  unfold F_slices_Equal_int_int
  by_cases hl : a.length = b.length
  · have e : ((a.length : Int) != (b.length : Int)) = false := by simp [hl]
    simp only [e, Bool.false_eq_true, if_false]
    obtain ⟨r, hb, hp⟩ := rloop_post (σ := Unit) (β := Unit ⊕ Bool) (body := fun i16 s15 =>
      (ix a i16).bind fun x25 =>
      (ix b i16).bind fun x32 =>
      if (x25 != x32) = true then (
      some (.out (.inr false))) else (
      some (.go ()))) (stop := fun s15 => .inl ()) (m := a.length) (i0 := 0) (s0 := ()) (fun k _ => a.take k = b.take k)
      (fun r => Sum.elim (fun _ => a = b) (fun r => r = false ∧ a ≠ b) r) (by simp)
      (by
        rintro k s hk hI
        have hk2 : k < b.length := by omega
        rw [Int.zero_add]
        simp only [ix_at hk, ix_at hk2, Option.bind_some]
        by_cases he : a[k] = b[k]
        · exact .inl ⟨(), by simp [he], take_step hk hk2 hI he⟩
        · exact .inr ⟨.inr false, by simp [he], rfl, fun h => by subst h; exact he rfl⟩)
      (by
        rintro s hI
        rw [List.take_length, hl, List.take_length] at hI
        exact hI)
    rw [hb, Option.bind_some]
    cases r with
    | inl u => have hp : a = b := hp; simp [hp]
    | inr r =>
      obtain ⟨h1, h2⟩ : r = false ∧ a ≠ b := hp
      simp [h1, h2]
  · have e : ((a.length : Int) != (b.length : Int)) = true := by simp; omega
    have : a ≠ b := fun h => hl (by rw [h])
    simp [e, this]
theorem p_cloneI {a : List Int} (h : a.length ≤ 1048576) : F_slices_Clone_int_int a = some a := by unfold F_slices_Clone_int_int; rw [gd_t (by omega)]
theorem p_cloneV {a : List ViewCount} (h : a.length ≤ 1048576) : F_slices_Clone_impl_ViewCount_impl_ViewCount a = some a := by unfold F_slices_Clone_impl_ViewCount_impl_ViewCount; rw [gd_t (by omega)]
theorem sumT_perm {l r : List ViewCount} (h : l.Perm r) : sumT l = sumT r := by
  induction h with
  | nil => rfl
  | cons x _ ih => simp only [sumT, List.map_cons, List.sum_cons] at ih ⊢; omega
  | swap x y l => simp only [sumT, List.map_cons, List.sum_cons]; omega
  | trans _ _ h1 h2 => rw [h1, h2]
theorem sumT_append (l r : List ViewCount) : sumT (l ++ r) = sumT l + sumT r := by simp [sumT]
theorem cnt_take {l : List ViewCount} {k : Nat} (h : k < l.length) (v : List Int) : cnt (l.take (k + 1)) v = cnt (l.take k) v + if l[k].View = v then l[k].Times else 0 := by
  rw [List.take_succ_eq_append_getElem h, cnt_append]
  simp [cnt]
theorem gv_append_l {l r : List ViewCount} {i : Nat} (h : i < l.length) : gv (l ++ r) i = gv l i := by
  unfold gv; simp [List.getD_eq_getElem?_getD, List.getElem?_append_left h]
theorem gv_append_r {l : List ViewCount} {x : ViewCount} : gv (l ++ [x]) l.length = x := by
  unfold gv; simp [List.getD_eq_getElem?_getD]
theorem canon_snoc {l : List ViewCount} {f : List Int → Int} {x : ViewCount} (h : Canon l f) (hx : ∀ y ∈ l, ltV y x) (hp : 1 ≤ x.Times) : Canon (l ++ [x]) (fun v => f v + if x.View = v then x.Times else 0) := by
  refine ⟨fun i j h1 h2 => ?_, fun y hy => ?_, fun v => ?_⟩
  · simp at h2
    by_cases hj : j < l.length
    · rw [gv_append_l hj, gv_append_l (by omega)]; exact h.s i j h1 hj
    · have : j = l.length := by omega
      subst this
      rw [gv_append_r, gv_append_l h1]
      exact hx _ (gv_mem h1)
  · rcases List.mem_append.1 hy with hy | hy
    · exact h.p y hy
    · rw [List.mem_singleton.1 hy]; exact hp
  · rw [cnt_append, h.c]; simp [cnt]
theorem cnt_set {l : List ViewCount} {k : Nat} {t : Int} (hk : k < l.length) (v : List Int) : cnt (l.set k ⟨(gv l k).View, (gv l k).Times + t⟩) v = cnt l v + if (gv l k).View = v then t else 0 := by
  induction l generalizing k with
  | nil => simp at hk
  | cons x l ih =>
    cases k with
    | zero =>
      have e : gv (x :: l) 0 = x := rfl
      simp only [e, List.set_cons_zero, cnt]
      split <;> omega
    | succ k =>
      have e : gv (x :: l) (k + 1) = gv l k := rfl
      simp only [e, List.set_cons_succ, cnt, ih (by simpa using hk)]
      omega
theorem canon_more {l : List ViewCount} {f : List Int → Int} {k : Nat} {t : Int} (h : Canon l f) (hk : k < l.length) (ht : 0 ≤ t) : Canon (l.set k ⟨(gv l k).View, (gv l k).Times + t⟩) (fun v => f v + if (gv l k).View = v then t else 0) := by
  have vw : ∀ i, (gv (l.set k ⟨(gv l k).View, (gv l k).Times + t⟩) i).View = (gv l i).View := by
    intro i
    rw [gv_set hk]
    split
    · rename_i e; rw [e]
    · rfl
  refine ⟨fun i j h1 h2 => ?_, fun y hy => ?_, fun v => by rw [cnt_set hk, h.c]⟩
  · have := h.s i j h1 (by simpa using h2)
    unfold ltV at this ⊢
    rw [vw, vw]; exact this
  · obtain ⟨i, hi, rfl⟩ := mem_gv hy
    rw [gv_set hk]
    split
    · have := h.p _ (gv_mem hk); simp only; omega
    · exact h.p _ (gv_mem (by simpa using hi))
theorem times_le_sum {l : List ViewCount} (hp : ∀ x ∈ l, 1 ≤ x.Times) {x : ViewCount} (hx : x ∈ l) : x.Times ≤ sumT l := by
  induction l with
  | nil => cases hx
  | cons y l ih =>
    have h0 := sumT_nonneg (l := l) fun z hz => by have := hp z (List.mem_cons_of_mem _ hz); omega
    have h1 := hp y (List.mem_cons_self ..)
    have e : sumT (y :: l) = y.Times + sumT l := by simp [sumT]
    cases List.mem_cons.1 hx with
    | inl e' => subst e'; omega
    | inr e' => have := ih (fun z hz => hp z (List.mem_cons_of_mem _ hz)) e'; omega
theorem sumT_set {l : List ViewCount} {k : Nat} {t : Int} (hk : k < l.length) : sumT (l.set k ⟨(gv l k).View, (gv l k).Times + t⟩) = sumT l + t := by
  induction l generalizing k with
  | nil => simp at hk
  | cons x l ih =>
    cases k with
    | zero => simp [sumT, gv]; omega
    | succ k =>
      have e : gv (x :: l) (k + 1) = gv l k := rfl
      have := ih (k := k) (by simpa using hk)
      simp only [sumT, List.map_cons, List.sum_cons, e, List.set_cons_succ] at this ⊢
      omega
theorem p_gathered (l : List ViewCount) (hl : l.length ≤ 1048576) (hv : ∀ x ∈ l, x.View.length ≤ 1048576) (hp : ∀ x ∈ l, 1 ≤ x.Times) (hs : sumT l ≤ 1152921504606846976) :
    ∃ out, Canon out (cnt l) ∧ sumT out = sumT l ∧ out.length ≤ l.length ∧ (∀ x ∈ out, ∃ y ∈ l, x.View = y.View) ∧ ((GoodC out ∧ F_impl_gathered l = some (out, true)) ∨ (¬ GoodC out ∧ F_impl_gathered l = some ([], false))) := by
  unfold F_impl_gathered
  rw [p_cloneV hl, Option.bind_some]
  obtain ⟨z, z1, z2, z3⟩ := p_sort l hl
  rw [z1, Option.bind_some]
  have zl : z.length = l.length := z2.length_eq
  have zm : ∀ x, x ∈ z ↔ x ∈ l := fun x => z2.mem_iff
  have zs : sumT z = sumT l := sumT_perm z2
  obtain ⟨out, o1, o2, o3, o4, o5⟩ := rloop_post (σ := (List ViewCount)) (β := (List ViewCount)) (body := fun i74 s73 =>
    (((ix z i74).bind fun x89 =>
    ((if decide (0 ≤ (IntKind.i64.wrap ((s73.length : Int) - 1))) = true then (
    (ix s73 (IntKind.i64.wrap ((s73.length : Int) - 1))).bind fun x105 =>
    (F_slices_Equal_int_int x105.View x89.View).bind fun z112 =>
    some z112) else (
    some false) : Option (Bool)).bind fun (x101 : Bool) =>
    if x101 = true then (
    (ix s73 (IntKind.i64.wrap ((s73.length : Int) - 1))).bind fun x120 =>
    some (s73.set ((IntKind.i64.wrap ((s73.length : Int) - 1)).toNat) (ViewCount.mk x120.View (IntKind.i64.wrap (x120.Times + x89.Times))))) else (
    (F_slices_Clone_int_int x89.View).bind fun z129 =>
    gd ((s73.length + 1) * 32 ≤ 140737488355328 ∧ s73.length + 1 ≤ 4611686018427387904) <|
    some (s73 ++ [(ViewCount.mk z129 x89.Times)]))) : Option ((List ViewCount))).bind fun (x87 : (List ViewCount)) =>
    some (.go x87))) (stop := fun s73 => s73) (m := z.length) (i0 := 0) (s0 := [])
    (fun k s => Canon s (cnt (z.take k)) ∧ sumT s = sumT (z.take k) ∧ s.length ≤ k ∧ (∀ x ∈ s, ∃ y ∈ l, x.View = y.View) ∧ ∀ x ∈ s, ∀ j, k ≤ j → j < z.length → leV x (gv z j))
    (fun s => Canon s (cnt l) ∧ sumT s = sumT l ∧ s.length ≤ l.length ∧ ∀ x ∈ s, ∃ y ∈ l, x.View = y.View)
    ⟨by rw [List.take_zero]; exact canon_nil, by simp [sumT], Nat.le_refl _, fun x hx => by simp at hx, fun x hx => by simp at hx⟩
    (by
      rintro k s hk ⟨h1, h2, h3, h4, h5⟩
      rw [Int.zero_add]
      have hz : z[k] ∈ l := (zm _).1 (List.getElem_mem hk)
      have hzp := hp _ hz
      have hzv := hv _ hz
      have hzk : gv z k = z[k] := gv_at hk
      have st : sumT (z.take (k + 1)) ≤ sumT l := by
        have e : sumT z = sumT (z.take (k + 1)) + sumT (z.drop (k + 1)) := by rw [← sumT_append, List.take_append_drop]
        have := sumT_nonneg (l := z.drop (k + 1)) fun x hx => by have := hp x ((zm _).1 (List.mem_of_mem_drop hx)); omega
        omega
      have st2 := sumT_take hk
      rw [← h2] at st2
      simp only [ix_at hk, Option.bind_some]
      by_cases h0 : s.length = 0
      · -- the first
        have : s = [] := List.eq_nil_of_length_eq_zero h0
        subst this
        have hw : IntKind.i64.wrap ((([] : List ViewCount).length : Int) - 1) = -1 := wr64 (by simp) (by simp)
        refine .inl ⟨[⟨z[k].View, z[k].Times⟩], ?_, ?_, ?_, by simp, fun x hx => ?_, fun x hx j hj1 hj2 => ?_⟩
        · rw [hw]
          simp [p_cloneI hzv, gd]
        · have := canon_snoc h1 (x := z[k]) (fun y hy => by simp at hy) hzp
          refine (show Canon [z[k]] _ from this).congr fun v => by rw [cnt_take hk]
        · rw [sumT_take hk, ← h2]; simp [sumT]
        · simp at hx; subst hx; exact ⟨z[k], hz, rfl⟩
        · simp at hx; subst hx
          have := z3.le (i := k) (j := j) (by omega) (by omega) (by omega)
          rwa [hzk] at this
      · have hw : IntKind.i64.wrap ((s.length : Int) - 1) = ((s.length - 1 : Nat) : Int) := nat_wrap (by omega) (by omega)
        have hlast : s.length - 1 < s.length := by omega
        have hd : decide (0 ≤ ((s.length - 1 : Nat) : Int)) = true := by simp
        simp only [hw, hd, if_true, gv_ix hlast, Option.bind_some, p_Equal]
        have hle := h5 _ (gv_mem hlast) k (Nat.le_refl _) hk
        rw [hzk] at hle
        by_cases he : (gv s (s.length - 1)).View = z[k].View
        · -- as the last
          have hb : (gv s (s.length - 1)).Times + z[k].Times ≤ sumT l := by
            have := times_le_sum h1.p (gv_mem hlast)
            omega
          have hpos := h1.p _ (gv_mem hlast)
          refine .inl ⟨s.set (s.length - 1) ⟨(gv s (s.length - 1)).View, (gv s (s.length - 1)).Times + z[k].Times⟩, ?_, (canon_more h1 hlast (by omega)).congr fun v => by rw [cnt_take hk, he], by rw [sumT_set hlast, st2], by simp; omega, fun x hx => ?_, fun x hx j hj1 hj2 => ?_⟩
          · rw [if_pos (by simpa using he), Option.bind_some, Int.toNat_natCast, wr64 (by omega) (by omega)]
          · obtain ⟨i, hi, rfl⟩ := mem_gv hx
            have hi : i < s.length := by simpa using hi
            rw [gv_set hlast]
            split
            · exact h4 (gv s (s.length - 1)) (gv_mem hlast)
            · exact h4 _ (gv_mem hi)
          · obtain ⟨i, hi, rfl⟩ := mem_gv hx
            have hi : i < s.length := by simpa using hi
            rw [gv_set hlast]
            split
            · exact h5 (gv s (s.length - 1)) (gv_mem hlast) j (by omega) hj2
            · exact h5 _ (gv_mem hi) j (by omega) hj2
        · -- a new one
          have hlt : ltV (gv s (s.length - 1)) z[k] := by
            unfold leV at hle; unfold ltV
            have hr := lexC_rng (gv s (s.length - 1)).View z[k].View
            rcases hr with hr | hr | hr
            · exact hr
            · exact absurd (lexC_eq hr) he
            · exact absurd hr hle
          have hall : ∀ y ∈ s, ltV y z[k] := by
            intro y hy
            obtain ⟨i, hi, rfl⟩ := mem_gv hy
            by_cases hi2 : i = s.length - 1
            · subst hi2; exact hlt
            · exact ltV_trans (h1.s i (s.length - 1) (by omega) hlast) hlt
          refine .inl ⟨s ++ [z[k]], ?_, (canon_snoc h1 hall hzp).congr fun v => by rw [cnt_take hk], by rw [sumT_append, st2]; simp [sumT], by simp; omega, fun x hx => ?_, fun x hx j hj1 hj2 => ?_⟩
          · rw [if_neg (by simpa using he), p_cloneI hzv, Option.bind_some, gd_t (by omega), Option.bind_some]
          · rcases List.mem_append.1 hx with hx | hx
            · exact h4 x hx
            · rw [List.mem_singleton.1 hx]; exact ⟨z[k], hz, rfl⟩
          · rcases List.mem_append.1 hx with hx | hx
            · exact h5 x hx j (by omega) hj2
            · rw [List.mem_singleton.1 hx]
              have := z3.le (i := k) (j := j) (by omega) (by omega) (by omega)
              rwa [hzk] at this)
    (by
      rintro s ⟨h1, h2, h3, h4, h5⟩
      rw [List.take_length] at h1 h2
      exact ⟨h1.congr (cnt_perm z2), by omega, by omega, h4⟩)
  rw [o1, Option.bind_some]
  have ov : ∀ x ∈ out, x.View.length ≤ 1048576 := fun x hx => by
    obtain ⟨y, hy, e⟩ := o5 x hx
    rw [e]; exact hv y hy
  obtain ⟨g, g1, g2⟩ := p_isCount out (by omega) ov
  refine ⟨out, o2, o3, o4, o5, ?_⟩
  rw [g1, Option.bind_some]
  by_cases hg : g = true
  · exact .inl ⟨g2.1 hg, by simp [hg]⟩
  · exact .inr ⟨fun h => hg (g2.2 h), by simp [hg]⟩
theorem gv_ins {l : List ViewCount} {x : ViewCount} {k i : Nat} (hk : k ≤ l.length) : gv (l.take k ++ x :: l.drop k) i = if i < k then gv l i else if i = k then x else gv l (i - 1) := by
  unfold gv
  simp only [List.getD_eq_getElem?_getD]
  by_cases h1 : i < k
  · rw [if_pos h1, List.getElem?_append_left (by simp; omega), List.getElem?_take_of_lt h1]
  · rw [if_neg h1, List.getElem?_append_right (by simp; omega)]
    have e : (l.take k).length = k := by simp; omega
    rw [e]
    by_cases h2 : i = k
    · subst h2; simp
    · rw [if_neg h2]
      have : i - k = (i - 1 - k) + 1 := by omega
      rw [this, List.getElem?_cons_succ, List.getElem?_drop]
      have : k + (i - 1 - k) = i - 1 := by omega
      rw [this]
theorem canon_ins {l : List ViewCount} {f : List Int → Int} {x : ViewCount} {k : Nat} (h : Canon l f) (hk : k ≤ l.length) (h1 : ∀ i, i < k → ltV (gv l i) x) (h2 : ∀ i, k ≤ i → i < l.length → ltV x (gv l i)) (hp : 1 ≤ x.Times) :
    Canon (l.take k ++ x :: l.drop k) (fun v => f v + if x.View = v then x.Times else 0) := by
  refine ⟨fun i j hij hj => ?_, fun y hy => ?_, fun v => ?_⟩
  · have hj : j < l.length + 1 := by simp at hj; omega
    rw [gv_ins hk, gv_ins hk]
    by_cases c1 : j < k
    · rw [if_pos c1, if_pos (by omega)]; exact h.s i j hij (by omega)
    · rw [if_neg c1]
      by_cases c2 : j = k
      · rw [if_pos c2, if_pos (by omega)]; exact h1 i (by omega)
      · rw [if_neg c2]
        by_cases c3 : i < k
        · rw [if_pos c3]; exact h.s i (j - 1) (by omega) (by omega)
        · rw [if_neg c3]
          by_cases c4 : i = k
          · rw [if_pos c4]; exact h2 (j - 1) (by omega) (by omega)
          · rw [if_neg c4]; exact h.s (i - 1) (j - 1) (by omega) (by omega)
  · rcases List.mem_append.1 hy with hy | hy
    · exact h.p y (List.mem_of_mem_take hy)
    · cases List.mem_cons.1 hy with
      | inl e => rw [e]; exact hp
      | inr e => exact h.p y (List.mem_of_mem_drop e)
  · rw [cnt_append]
    simp only [cnt]
    have e : cnt l v = cnt (l.take k) v + cnt (l.drop k) v := by rw [← cnt_append, List.take_append_drop]
    rw [h.c] at e
    omega
theorem mid_t {lo hi n : Nat} (h : lo ≤ hi) (hn : hi ≤ n) (hs : n ≤ 1048576) : IntKind.i64.wrap ((IntKind.i64.wrap ((lo : Int) + (hi : Int))).tdiv 2) = (((lo + hi) / 2 : Nat) : Int) := by
  rw [wr64 (n := (lo : Int) + hi) (by omega) (by omega)]
  have : ((lo : Int) + (hi : Int)).tdiv 2 = (((lo + hi) / 2 : Nat) : Int) := by
    rw [Int.tdiv_eq_ediv_of_nonneg (by omega)]; omega
  rw [this, wr64 (by omega) (by omega)]
theorem p_wAdd (l : List ViewCount) (v : List Int) (t : Int) {f : List Int → Int} (h : Canon l f) (hl : l.length ≤ 1048575) (hlv : ∀ x ∈ l, x.View.length ≤ 1048576) (hv : v.length ≤ 1048576) (ht : 1 ≤ t) (hs : sumT l + t ≤ 1152921504606846976) :
    ∃ out, F_spec_wAdd__mv0 l v t = some out ∧ Canon out (fun w => f w + if v = w then t else 0) ∧ sumT out = sumT l + t ∧ out.length ≤ l.length + 1 ∧ ∀ x ∈ out, x.View = v ∨ ∃ y ∈ l, x.View = y.View := by
  unfold F_spec_wAdd__mv0
  obtain ⟨k, k1, _, k3, k4, k5⟩ := bsearch_post (step := fun s8 =>
    if decide (s8.1 < s8.2) = true then (
    (ix l (IntKind.i64.wrap ((IntKind.i64.wrap (s8.1 + s8.2)).tdiv 2))).bind fun x19 =>
    (F_spec_wLess x19.View v).bind fun z26 =>
    if z26 = true then (
    some (.go (IntKind.i64.wrap ((IntKind.i64.wrap ((IntKind.i64.wrap (s8.1 + s8.2)).tdiv 2)) + 1), s8.2))) else (
    some (.go (s8.1, IntKind.i64.wrap ((IntKind.i64.wrap (s8.1 + s8.2)).tdiv 2))))) else (
    some (.out s8.1))) 0 l.length (Nat.zero_le _) (fun c => ltV (gv l c) ⟨v, 0⟩)
    (by
      intro lo hi x1 x2 x3
      have hd : decide ((lo : Int) < (hi : Int)) = true := by simpa using x2
      simp only [hd, if_true, mid_t (lo := lo) (hi := hi) (n := l.length) (by omega) (by omega) (by omega), gv_ix (l := l) (i := (lo + hi) / 2) (by omega), Option.bind_some, p_wLess]
      by_cases hp : lexC (gv l ((lo + hi) / 2)).View v = -1
      · left
        rw [if_pos (by simpa using hp), nat_wrap (k := (lo + hi) / 2 + 1) (by omega) (by omega)]
        exact ⟨hp, rfl⟩
      · right
        rw [if_neg (by simpa using hp)]
        exact ⟨hp, rfl⟩)
    (by intro lo x1 x2; simp)
    (by
      intro c d x1 x2 x3 hp
      by_cases e : c = d
      · subst e; exact hp
      · exact ltV_trans (h.s c d (by omega) x3) hp)
  have k1' : wloop (σ := Int × Int) (β := Int) (fun s8 =>
    if decide (s8.1 < s8.2) = true then (
    (ix l (IntKind.i64.wrap ((IntKind.i64.wrap (s8.1 + s8.2)).tdiv 2))).bind fun x19 =>
    (F_spec_wLess x19.View v).bind fun z26 =>
    if z26 = true then (
    some (.go (IntKind.i64.wrap ((IntKind.i64.wrap ((IntKind.i64.wrap (s8.1 + s8.2)).tdiv 2)) + 1), s8.2))) else (
    some (.go (s8.1, IntKind.i64.wrap ((IntKind.i64.wrap (s8.1 + s8.2)).tdiv 2))))) else (
    some (.out s8.1))) (0, (l.length : Int)) = some (k : Int) := k1
  rw [k1', Option.bind_some]
  by_cases hf : k < l.length ∧ (gv l k).View = v
  · obtain ⟨hk, he⟩ := hf
    have hd : decide ((k : Int) < (l.length : Int)) = true := by simpa using hk
    have hpos := h.p _ (gv_mem hk)
    have hb := times_le_sum h.p (gv_mem hk)
    refine ⟨l.set k ⟨(gv l k).View, (gv l k).Times + t⟩, ?_, (canon_more h hk (by omega)).congr fun w => by rw [he], sumT_set hk, by simp, fun x hx => ?_⟩
    · simp only [hd, if_true, gv_ix hk, Option.bind_some, p_l1Same _ _ (hlv _ (gv_mem hk))]
      rw [if_pos (by simpa using he), wr64 (by omega) (by omega), Int.toNat_natCast]
    · obtain ⟨i, hi, rfl⟩ := mem_gv hx
      have hi : i < l.length := by simpa using hi
      rw [gv_set hk]
      split
      · exact .inl he
      · exact .inr ⟨_, gv_mem hi, rfl⟩
  · have hcond : ((if decide ((k : Int) < (l.length : Int)) = true then (ix l (k : Int)).bind fun x48 => (F_spec_l1Same x48.View v).bind fun z55 => some z55 else some false) : Option Bool) = some false := by
      by_cases hk : k < l.length
      · have he : (gv l k).View ≠ v := fun e => hf ⟨hk, e⟩
        rw [if_pos (by simpa using hk), gv_ix hk, Option.bind_some, p_l1Same _ _ (hlv _ (gv_mem hk))]
        simp [he]
      · rw [if_neg (by simpa using hk)]
    rw [hcond, Option.bind_some, if_neg (by simp), gd_t (by omega)]
    have len1 : (l ++ [(ViewCount.mk [] 0)]).length = l.length + 1 := by simp
    have w1 : IntKind.i64.wrap (((l ++ [(ViewCount.mk [] 0)]).length : Int) - 1) = (l.length : Int) := by rw [len1, wr64 (by omega) (by omega)]; omega
    rw [w1]
    obtain ⟨r, r1, r2, r3⟩ := wloop_post (σ := (List ViewCount) × Int) (β := (List ViewCount)) (step := fun s111 =>
      if decide ((k : Int) < s111.2) = true then (
      (ix s111.1 (IntKind.i64.wrap (s111.2 - 1))).bind fun x121 =>
      (ix s111.1 s111.2).bind fun x128 =>
      some (.go (s111.1.set s111.2.toNat x121, IntKind.i64.wrap (s111.2 - 1)))) else (
      some (.out s111.1)))
      (fun n s => ∃ (r : List ViewCount) (i : Nat), s = (r, (i : Int)) ∧ n = i ∧ k ≤ i ∧ i ≤ l.length ∧ r.length = l.length + 1 ∧ ∀ x, x ≤ l.length → gv r x = if x ≤ i then gv (l ++ [(ViewCount.mk [] 0)]) x else gv l (x - 1))
      (fun r => r.length = l.length + 1 ∧ ∀ x, x ≤ l.length → gv r x = if x ≤ k then gv (l ++ [(ViewCount.mk [] 0)]) x else gv l (x - 1))
      (by
        rintro n s ⟨r, i, rfl, h1, h2, h3, h4, h5⟩
        simp only
        by_cases hki : k < i
        · have hd : decide ((k : Int) < (i : Int)) = true := by simpa using hki
          have e1 : IntKind.i64.wrap ((i : Int) - 1) = ((i - 1 : Nat) : Int) := nat_wrap (by omega) (by omega)
          refine .inl ⟨(r.set i (gv r (i - 1)), ((i - 1 : Nat) : Int)), i - 1, ?_, by omega, r.set i (gv r (i - 1)), i - 1, rfl, rfl, by omega, by omega, by simp [h4], fun x hx => ?_⟩
          · rw [if_pos hd, e1, gv_ix (l := r) (i := i - 1) (by omega), Option.bind_some, gv_ix (l := r) (i := i) (by omega), Option.bind_some, Int.toNat_natCast]
          · rw [gv_set (by omega)]
            by_cases c1 : x = i
            · rw [if_pos c1, if_neg (by omega), h5 (i - 1) (by omega), if_pos (by omega), gv_append_l (by omega), c1]
            · rw [if_neg c1, h5 x hx]
              by_cases c2 : x ≤ i
              · rw [if_pos c2, if_pos (by omega)]
              · rw [if_neg c2, if_neg (by omega)]
        · have : i = k := by omega
          subst this
          exact .inr ⟨r, by simp, h4, h5⟩)
      l.length (l ++ [(ViewCount.mk [] 0)], (l.length : Int)) ⟨_, l.length, rfl, rfl, k3, Nat.le_refl _, len1, fun x hx => by rw [if_pos hx]⟩
    rw [r1, Option.bind_some]
    have own : F_spec_l1Own v = some v := by unfold F_spec_l1Own; rw [gd_t (by omega)]
    rw [own, Option.bind_some, gv_ix (l := r) (i := k) (by omega), Option.bind_some, Int.toNat_natCast]
    have hout : r.set k ⟨v, t⟩ = l.take k ++ (⟨v, t⟩ : ViewCount) :: l.drop k := by
      refine gv_ext (by simp [r2]; omega) fun i hi => ?_
      have hi : i < l.length + 1 := by simpa [r2] using hi
      rw [gv_set (by omega), gv_ins k3]
      by_cases c1 : i = k
      · rw [if_pos c1, if_neg (by omega), if_pos c1]
      · rw [if_neg c1, r3 i (by omega)]
        by_cases c2 : i < k
        · rw [if_pos (by omega), if_pos c2, gv_append_l (by omega)]
        · rw [if_neg (by omega), if_neg c2, if_neg c1]
    refine ⟨_, rfl, ?_, ?_, ?_, fun x hx => ?_⟩
    · rw [hout]
      refine canon_ins (x := ⟨v, t⟩) h k3 (fun i hi => k4 i (Nat.zero_le _) hi) (fun i h1 h2 => ?_) ht
      have hn := k5 i h1 h2
      rcases ltV_tri (gv l i) ⟨v, 0⟩ with q | q | q
      · exact absurd q hn
      · exfalso
        have hk : k < l.length := by omega
        by_cases e : i = k
        · subst e; exact hf ⟨h2, q⟩
        · have := h.s k i (by omega) h2
          exact k5 k (Nat.le_refl _) hk (ltV_view this q)
      · exact q
    · rw [hout, sumT_append]
      have e : sumT l = sumT (l.take k) + sumT (l.drop k) := by rw [← sumT_append, List.take_append_drop]
      have e2 : sumT ((⟨v, t⟩ : ViewCount) :: l.drop k) = t + sumT (l.drop k) := by simp [sumT]
      omega
    · simp [r2]
    · rw [hout] at hx
      rcases List.mem_append.1 hx with hx | hx
      · exact .inr ⟨x, List.mem_of_mem_take hx, rfl⟩
      · cases List.mem_cons.1 hx with
        | inl e => subst e; exact .inl rfl
        | inr e => exact .inr ⟨x, List.mem_of_mem_drop e, rfl⟩
def oneL (l : List (List Int)) : List ViewCount := l.map fun v => ⟨v, 1⟩
theorem oneL_len (l : List (List Int)) : (oneL l).length = l.length := by simp [oneL]
theorem oneL_at {l : List (List Int)} {k : Nat} (h : k < l.length) : (oneL l)[k]'(by rw [oneL_len]; exact h) = ⟨l[k], 1⟩ := by simp [oneL]
def Sm : Nat → (Nat → Int) → Int
  | 0, _ => 0
  | n + 1, f => Sm n f + f n
def Cq (q : Nat) : Nat → Nat → Int
  | 0, j => if j = 0 then 1 else 0
  | d + 1, j => Sm q (fun i => Sm (q - 1) (fun a => if (i + a + 1) % q = j then Cq q d i else 0))
def row (q d i j n : Nat) : Int := Sm n (fun a => if (i + a + 1) % q = j then Cq q d i else 0)
theorem good_bd {l : List ViewCount} (h : GoodC l) : l.length ≤ 3000 ∧ (∀ x ∈ l, x.View.length ≤ 24) ∧ (∀ x ∈ l, 1 ≤ x.Times) ∧ sumT l ≤ 1000000 := by
  refine ⟨h.1, fun x hx => ?_, fun x hx => (good_times h x hx).1, h.2.2⟩
  obtain ⟨k, hk⟩ := List.getElem?_of_mem hx
  have := h.2.1 k x hk
  exact this.2.2.1
theorem n_wadds (l : List ViewCount) (g : GoodC l) (s0 : List ViewCount) (f0 : List Int → Int) (c0 : Canon s0 f0) (l0 : s0.length ≤ 3000) (v0 : ∀ x ∈ s0, x.View.length ≤ 24) (t0 : sumT s0 ≤ 1000000) :
    Rn (rloop (σ := (List ViewCount)) (β := (List ViewCount)) (fun i8 s7 =>
      (ix l i8).bind fun x17 =>
      (F_spec_wAdd__mv0 s7 x17.View x17.Times).bind fun z20 =>
      some (.go z20)) (fun s7 => s7) (l.length) 0 s0) (fun s => Canon s (fun v => f0 v + cnt l v) ∧ s.length ≤ s0.length + l.length ∧ (∀ x ∈ s, x.View.length ≤ 24) ∧ sumT s = sumT s0 + sumT l) := by
  obtain ⟨g1, g2, g3, g4⟩ := good_bd g
  have hst : ∀ k, k ≤ l.length → sumT (l.take k) ≤ sumT l := fun k hk => by
    have e : sumT l = sumT (l.take k) + sumT (l.drop k) := by rw [← sumT_append, List.take_append_drop]
    have : 0 ≤ sumT (l.drop k) := by
      have : ∀ m : List ViewCount, (∀ x ∈ m, 1 ≤ x.Times) → 0 ≤ sumT m := by
        intro m
        induction m with
        | nil => intro _; simp [sumT]
        | cons x m ih =>
          intro h
          have a := h x (List.mem_cons_self ..)
          have b := ih fun y hy => h y (List.mem_cons_of_mem _ hy)
          simp only [sumT, List.map_cons, List.sum_cons] at b ⊢
          omega
      exact this _ fun x hx => g3 x (List.mem_of_mem_drop hx)
    omega
  have ht0 : 0 ≤ sumT s0 := by
    cases s0 with
    | nil => simp [sumT]
    | cons x m => have := sum_pos (l := x :: m) c0.p (by simp); omega
  refine rn_rloop (fun k s => Canon s (fun v => f0 v + cnt (l.take k) v) ∧ s.length ≤ s0.length + k ∧ (∀ x ∈ s, x.View.length ≤ 24) ∧ sumT s = sumT s0 + sumT (l.take k)) ⟨c0.congr fun v => by simp [cnt], by omega, v0, by simp [sumT]⟩ ?_ ?_
  · rintro k s hk ⟨q1, q2, q3, q4⟩
    have hx := List.getElem_mem hk
    have b1 := g2 _ hx
    have b2 := g3 _ hx
    have hs1 := hst (k + 1) hk
    rw [sumT_take hk] at hs1
    obtain ⟨s2, w1, w2, w3, w4, w5⟩ := p_wAdd s l[k].View l[k].Times q1 (by omega) (fun x hx => by have := q3 x hx; omega) (by omega) b2 (by omega)
    refine rn_ix hk (rn_call w1 (rn_some ⟨w2.congr fun v => by rw [cnt_take hk]; omega, by omega, fun x hx => ?_, by rw [w3, q4, sumT_take hk]; omega⟩))
    rcases w5 x hx with h | ⟨y, hy, h⟩
    · rw [h]; exact b1
    · rw [h]; exact q3 y hy
  · rintro s ⟨q1, q2, q3, q4⟩
    rw [List.take_length] at q1 q4
    exact ⟨q1, by omega, q3, q4⟩
theorem n_wMerge (a b : List ViewCount) (ga : GoodC a) (gb : GoodC b) : Rn (F_spec_wMerge a b) (fun s => Canon s (cnt (a ++ b)) ∧ s.length ≤ 6000 ∧ (∀ x ∈ s, x.View.length ≤ 24) ∧ sumT s = sumT a + sumT b) := by
  obtain ⟨a1, a2, a3, a4⟩ := good_bd ga
  obtain ⟨b1, b2, b3, b4⟩ := good_bd gb
  unfold F_spec_wMerge
  refine rn_then (n_wadds a ga [] (fun _ => 0) canon_nil (by simp) (fun x hx => by simp at hx) (by simp [sumT])) ?_
  rintro s ⟨q1, q2, q3, q4⟩
  have e0 : sumT ([] : List ViewCount) = 0 := rfl
  simp only [List.length_nil, Nat.zero_add] at q2
  refine rn_then (n_wadds b gb s _ q1 (by omega) q3 (by omega)) ?_
  rintro s2 ⟨p1, p2, p3, p4⟩
  exact rn_some ⟨p1.congr fun v => by rw [cnt_append]; omega, by omega, p3, by omega⟩
theorem flat_take {α : Type} {L : List (List α)} {i : Nat} (h : i < L.length) : (L.take (i + 1)).flatten = (L.take i).flatten ++ L[i] := by
  rw [List.take_succ_eq_append_getElem h, List.flatten_append]; simp
theorem flat_le {α : Type} (L : List (List α)) (i : Nat) : (L.take i).flatten.length ≤ L.flatten.length := by
  have e : L.flatten = (L.take i).flatten ++ (L.drop i).flatten := by rw [← List.flatten_append, List.take_append_drop]
  rw [e, List.length_append]; omega
theorem n_concat (L : List (List ViewCount)) (h : L.flatten.length ≤ 1000000000000) : F_slices_Concat_impl_ViewCount_impl_ViewCount__mv0 L = some L.flatten := by
  unfold F_slices_Concat_impl_ViewCount_impl_ViewCount__mv0
  refine eq_of_rn (rn_then (ψ := fun n => n = (L.flatten.length : Int)) (rn_rloop (fun i s => s = ((L.take i).flatten.length : Int)) rfl ?_ ?_) ?_)
  · rintro i s hi rfl
    have e := congrArg List.length (flat_take hi)
    rw [List.length_append] at e
    have hl := flat_le L (i + 1)
    refine rn_ix hi ?_
    rw [wr64 (by omega) (by omega)]
    refine rn_f (by simp only [decide_eq_false_iff_not]; omega) (rn_some ?_)
    show _ = _
    omega
  · rintro s rfl
    rw [List.take_length]
  · rintro n rfl
    refine rn_gd (by omega) (rn_then (ψ := fun r => r = L.flatten) (rn_rloop (fun i s => s = (L.take i).flatten) rfl ?_ ?_) fun r hr => rn_some hr)
    · rintro i s hi rfl
      have e := congrArg List.length (flat_take hi)
      rw [List.length_append] at e
      have hl := flat_le L (i + 1)
      refine rn_ix hi (rn_gd (by omega) (rn_some ?_))
      show _ = _
      rw [flat_take hi]
    · rintro s rfl
      rw [List.take_length]
theorem n_concat2 (a b : List ViewCount) (ha : a.length ≤ 1048576) (hb : b.length ≤ 1048576) : F_slices_Concat_impl_ViewCount_impl_ViewCount__mv0 [a, b] = some (a ++ b) := by
  rw [n_concat _ (by simp; omega)]; simp
theorem n_merge (a b : List ViewCount) (ha : a.length ≤ 1048576) (hb : b.length ≤ 1048576) (hva : ∀ x ∈ a, x.View.length ≤ 1048576) (hvb : ∀ x ∈ b, x.View.length ≤ 1048576) :
    ∃ r t, F_spec_MergeCounts a b = some (r, t) ∧ F_impl_MergeCounts a b = some (r, t) ∧ r.length ≤ 1048576 ∧ ∀ x ∈ r, x.View.length ≤ 1048576 := by
  obtain ⟨ga, e1, e2⟩ := p_wGood a ha hva
  obtain ⟨gb, e3, e4⟩ := p_wGood b hb hvb
  obtain ⟨ia, e5, e6⟩ := p_isCount a ha hva
  obtain ⟨ib, e7, e8⟩ := p_isCount b hb hvb
  unfold F_spec_MergeCounts F_impl_MergeCounts
  have h1 : ia = ga := Bool.eq_iff_iff.2 (e6.trans e2.symm)
  have h2 : ib = gb := Bool.eq_iff_iff.2 (e8.trans e4.symm)
  subst h1; subst h2
  rw [e1, e3, e5, e7]
  cases hA : ia with
  | false => exact ⟨[], false, rfl, rfl, by simp, fun x hx => by simp at hx⟩
  | true =>
    cases hB : ib with
    | false => exact ⟨[], false, rfl, rfl, by simp, fun x hx => by simp at hx⟩
    | true =>
      have gA := e2.1 hA
      have gB := e4.1 hB
      obtain ⟨a1, a2, a3, a4⟩ := good_bd gA
      obtain ⟨b1, b2, b3, b4⟩ := good_bd gB
      obtain ⟨s, m1, m2, m3, m4, m5⟩ := n_wMerge a b gA gB
      obtain ⟨o2, o3, o4, o5, o6, o7⟩ := p_gathered (a ++ b) (by simp; omega) (fun x hx => by
        rcases List.mem_append.1 hx with h | h
        · exact hva x h
        · exact hvb x h) (fun x hx => by
        rcases List.mem_append.1 hx with h | h
        · exact a3 x h
        · exact b3 x h) (by rw [sumT_append]; omega)
      have eo : s = o2 := canon_uniq m2 o3
      subst eo
      obtain ⟨g, g1, g2⟩ := p_wGood s (by omega) (fun x hx => by have := m4 x hx; omega)
      simp only [Bool.not_true, Bool.false_eq_true, if_false, Option.bind_some, m1, n_concat2 a b ha hb]
      unfold F_spec_wIf
      rw [g1]
      rcases o7 with ⟨k1, k2⟩ | ⟨k1, k2⟩
      · have : g = true := g2.2 k1
        subst this
        rw [k2]
        exact ⟨s, true, rfl, rfl, by omega, fun x hx => by have := m4 x hx; omega⟩
      · have : g = false := by
          cases g with
          | false => rfl
          | true => exact absurd (g2.1 rfl) k1
        subst this
        rw [k2]
        exact ⟨[], false, rfl, rfl, by simp, fun x hx => by simp at hx⟩
-- values of polynomials
def polyV (q : Int) (f : List Int) (x : Int) : Int := f.foldr (fun c a => (a * x + c) % q) 0
theorem rn_wl {σ β : Type} {step : σ → Option (Stp σ β)} {s : σ} {φ : β → Prop} (h : Rn (step s) (so (fun s' => Rn (wloop step s') φ) φ)) : Rn (wloop step s) φ := by
  obtain ⟨x, h1, h2⟩ := h
  rw [wloop_eq, h1]
  cases x with
  | go s' => exact h2
  | out b => exact ⟨b, rfl, h2⟩
structure Bt (code : List Int) : Prop where
  b : ∀ x ∈ code, 0 ≤ x ∧ x ≤ 255
  l : code.length ≤ 1048576
structure Cu (code : List Int) (n : Int) (c : List Int × Int × Int) : Prop where
  e : c.1 = code
  lo : 0 ≤ c.2.1
  hi : c.2.1 ≤ n
theorem Cu.mono {code : List Int} {n m : Int} {c : List Int × Int × Int} (h : Cu code n c) (hn : n ≤ m) : Cu code m c := ⟨h.e, h.lo, Int.le_trans h.hi hn⟩
theorem low8 (x : BitVec IntKind.u64.bits) : 0 ≤ IntKind.i64.wrap (IntKind.u64.wrap ((x &&& BitVec.ofInt IntKind.u64.bits 255).toNat : Int)) ∧ IntKind.i64.wrap (IntKind.u64.wrap ((x &&& BitVec.ofInt IntKind.u64.bits 255).toNat : Int)) ≤ 255 := by
  have hy : (x &&& BitVec.ofInt IntKind.u64.bits 255).toNat ≤ 255 := by
    rw [BitVec.toNat_and]
    exact Nat.le_trans Nat.and_le_right (by decide)
  generalize (x &&& BitVec.ofInt IntKind.u64.bits 255).toNat = y at hy ⊢
  rw [wrU (by omega) (by omega), wr64 (by omega) (by omega)]
  omega
theorem n_next {code c0 : List Int} {at_ seed n : Int} (hb : Bt code) (h : Cu code n (c0, at_, seed)) (hn : n ≤ 9000000000000000) : Rn (F_spec_l1Cur_next__io0 c0 at_ seed) (fun z => 0 ≤ z.1 ∧ z.1 ≤ 255 ∧ Cu code (n + 1) z.2) := by
  obtain ⟨h1, h2, h3⟩ := h
  have h1 : c0 = code := h1
  have h2 : 0 ≤ at_ := h2
  have h3 : at_ ≤ n := h3
  subst h1
  have hw : IntKind.i64.wrap (at_ + 1) = at_ + 1 := wr64 (by omega) (by omega)
  unfold F_spec_l1Cur_next__io0
  refine rn_then (ψ := fun v => 0 ≤ v ∧ v ≤ 255) ?_ fun v hv => ?_
  · refine rn_if (fun g => ?_) fun g => rn_some (by omega)
    obtain ⟨k, rfl⟩ := Int.eq_ofNat_of_zero_le h2
    have hk : k < c0.length := by simp at g; omega
    have := hb.b _ (List.getElem_mem hk)
    exact rn_ix hk (rn_some (by rw [wr64 (by omega) (by omega)]; exact this))
  · simp only [hw]
    refine rn_if (fun g => rn_some ⟨hv.1, hv.2, rfl, by show 0 ≤ at_ + 1; omega, by show at_ + 1 ≤ n + 1; omega⟩) fun g => rn_some ?_
    exact ⟨(low8 _).1, (low8 _).2, rfl, by show 0 ≤ at_ + 1; omega, by show at_ + 1 ≤ n + 1; omega⟩
theorem n_pick {code c0 : List Int} {at_ seed n m : Int} (hb : Bt code) (h : Cu code n (c0, at_, seed)) (hn : n ≤ 8000000000000000) : Rn (F_spec_l1Cur_pick__io0 c0 at_ seed m) (fun z => 0 ≤ z.1 ∧ (m ≤ 1 → z.1 = 0) ∧ (1 < m → z.1 < m) ∧ z.1 ≤ 65535 ∧ Cu code (n + 2) z.2) := by
  unfold F_spec_l1Cur_pick__io0
  refine rn_if (fun g => rn_some ⟨Int.le_refl 0, fun _ => rfl, fun h => by simp at g; omega, by show (0 : Int) ≤ _; omega, h.mono (by omega)⟩) fun g => ?_
  have g : 1 < m := by simpa using g
  refine rn_then (n_next hb h (by omega)) fun z ⟨z1, z2, z3⟩ => ?_
  refine rn_then (ψ := fun x => 0 ≤ x.2 ∧ x.2 ≤ 65535 ∧ Cu code (n + 2) x.1) ?_ fun x ⟨x1, x2, x3⟩ => ?_
  · refine rn_if (fun _ => rn_then (n_next hb z3 (by omega)) fun y ⟨y1, y2, y3⟩ => rn_some ?_) fun _ => rn_some ⟨z1, by show z.1 ≤ _; omega, z3.mono (by omega)⟩
    rw [wr64 (n := z.1 * 256) (by omega) (by omega), wr64 (by omega) (by omega)]
    exact ⟨by show 0 ≤ z.1 * 256 + y.1; omega, by show z.1 * 256 + y.1 ≤ _; omega, y3.mono (by omega)⟩
  · refine rn_gd (by omega) (rn_some ?_)
    rw [Int.tmod_eq_emod_of_nonneg x1]
    have b1 := Int.emod_nonneg x.2 (show m ≠ 0 by omega)
    have b2 := Int.emod_lt_of_pos x.2 (show 0 < m by omega)
    have b3 : x.2 % m ≤ x.2 := by
      rcases Int.lt_or_le x.2 m with h | h
      · rw [Int.emod_eq_of_lt x1 h]; exact Int.le_refl _
      · omega
    exact ⟨b1, fun h => by omega, fun _ => b2, by show x.2 % m ≤ _; omega, x3⟩
theorem n_one {code c0 : List Int} {at_ seed n m : Int} (hb : Bt code) (h : Cu code n (c0, at_, seed)) (hn : n ≤ 8000000000000000) : Rn (F_spec_l1Cur_one__io0 c0 at_ seed m) (fun z => Cu code (n + 2) z.2) := by
  unfold F_spec_l1Cur_one__io0
  exact rn_then (n_pick hb h hn) fun z hz => rn_some hz.2.2.2.2
theorem n_amongM {code c0 : List Int} {at_ seed n : Int} {l : List Int} (hb : Bt code) (h : Cu code n (c0, at_, seed)) (hn : n ≤ 8000000000000000) (hl : l ≠ []) : Rn (F_spec_l1Cur_among__io0_mv1 c0 at_ seed l) (fun z => z.1 ∈ l ∧ Cu code (n + 2) z.2) := by
  unfold F_spec_l1Cur_among__io0_mv1
  refine rn_then (n_pick hb h hn) fun z ⟨z1, z2, z3, z4, z5⟩ => ?_
  have h0 : 0 < l.length := List.length_pos_iff.2 hl
  obtain ⟨k, hk⟩ := Int.eq_ofNat_of_zero_le z1
  have hlt : k < l.length := by
    rcases Nat.lt_or_ge 1 l.length with h | h
    · have := z3 (by omega); omega
    · have := z2 (by omega); omega
  rw [hk]
  exact rn_ix hlt (rn_some ⟨List.getElem_mem hlt, z5⟩)
theorem cu0 (code : List Int) : Cu code 0 (code, 0, 0) := ⟨rfl, Int.le_refl 0, Int.le_refl 0⟩
def ptsM (m : Nat) : List Int := (List.range m).map fun i => ((i : Nat) : Int) + 1
def hit (q : Nat) (known : List Int) (f : List Int) (v : Nat) : Int := if (ptsM known.length).map (polyV q f) = known ∧ f.headD 0 = (v : Int) then 1 else 0
theorem isT_uniq {l : List ViewCount} (hg : GoodC l) {k : Nat} (hk : k < l.length) {t : Int} (h : IsT l l[k].View t) : t = l[k].Times := by
  rcases h with ⟨i, x, h1, h2, h3⟩ | ⟨h1, _⟩
  · rcases Nat.lt_trichotomy i k with c | c | c
    · have := good_sorted hg k i x l[k] c h1 (List.getElem?_eq_getElem hk)
      rw [h2, lexC_self] at this
      cases this
    · subst c
      rw [List.getElem?_eq_getElem hk] at h1
      cases h1
      exact h3
    · have := good_sorted hg i k l[k] x c (List.getElem?_eq_getElem hk) h1
      rw [h2, lexC_self] at this
      cases this
  · exact absurd rfl (h1 _ (List.getElem_mem hk))
theorem sumT_pos {l : List ViewCount} (hg : GoodC l) (hne : l ≠ []) : 1 ≤ sumT l := by
  have h1 : ∀ x ∈ l, 1 ≤ x.Times := fun x hx => by
    obtain ⟨k, hk, rfl⟩ := List.mem_iff_getElem.1 hx
    exact (hg.2.1 k _ (List.getElem?_eq_getElem hk)).1
  cases l with
  | nil => exact absurd rfl hne
  | cons x l =>
    have h2 : 0 ≤ sumT l := sumT_nonneg fun y hy => by have := h1 y (List.mem_cons_of_mem _ hy); omega
    have h3 := h1 x (List.mem_cons_self ..)
    show 1 ≤ ((x :: l).map (·.Times)).sum
    rw [List.map_cons, List.sum_cons]
    have : 0 ≤ (l.map (·.Times)).sum := h2
    omega
theorem n_dist_self {v : List ViewCount} (hg : GoodC v) (hne : v ≠ []) (hv : ∀ x ∈ v, x.View.length ≤ 24) : F_impl_DistanceOf v v = some (0, 1, true) := by
  have hl := hg.1
  have hT := sumT_pos hg hne
  have hT2 := hg.2.2
  have hti : ∀ x ∈ v, 1 ≤ x.Times ∧ x.Times ≤ 1000000 := fun x hx => by
    obtain ⟨k, hk, rfl⟩ := List.mem_iff_getElem.1 hx
    have := hg.2.1 k _ (List.getElem?_eq_getElem hk)
    exact ⟨this.1, this.2.1⟩
  obtain ⟨b, hb, hbg⟩ := p_isCount v (by omega) (fun x hx => by have := hv x hx; omega)
  have hb1 : b = true := hbg.2 hg
  subst hb1
  have hlen : 0 < v.length := List.length_pos_iff.2 hne
  have htimes : ∀ k (hk : k < v.length), F_impl_timesOf v v[k].View = some v[k].Times := fun k hk => by
    obtain ⟨t, h1, h2⟩ := p_timesOf v v[k].View hg (by omega) (fun x hx => by have := hv x hx; omega) (by have := hv _ (List.getElem_mem hk); omega)
    rw [h1, isT_uniq hg hk h2]
  unfold F_impl_DistanceOf
  refine eq_of_rn (rn_then (ψ := fun b => b = false) ?_ ?_)
  · refine rn_call hb (rn_f rfl (rn_call hb (rn_f rfl (rn_f (by rw [beq_eq_false_iff_ne]; omega) (rn_some (by rw [beq_eq_false_iff_ne]; omega))))))
  · rintro _ rfl
    refine rn_f rfl (rn_call (p_total hl hti) (rn_call (p_total hl hti) ?_))
    have hTT : ∀ k (hk : k < v.length), 0 ≤ v[k].Times * sumT v ∧ v[k].Times * sumT v ≤ 1000000 * 1000000 := fun k hk => by
      have := hti _ (List.getElem_mem hk)
      exact ⟨Int.mul_nonneg (by omega) (by omega), Int.mul_le_mul (by omega) (by omega) (by omega) (by omega)⟩
    refine rn_then (ψ := fun s => s = 0) (rn_rloop (fun _ s => s = 0) rfl ?_ fun s h => h) ?_
    · rintro k s hk rfl
      have b := hTT k hk
      refine rn_ix hk (rn_call (htimes k hk) (rn_some ?_))
      rw [wr64 (n := v[k].Times * sumT v) (by omega) (by omega)]
      show IntKind.i64.wrap (0 + (if IntKind.i64.wrap (v[k].Times * sumT v - v[k].Times * sumT v) < IntKind.i64.wrap (0 - IntKind.i64.wrap (v[k].Times * sumT v - v[k].Times * sumT v)) then IntKind.i64.wrap (0 - IntKind.i64.wrap (v[k].Times * sumT v - v[k].Times * sumT v)) else IntKind.i64.wrap (v[k].Times * sumT v - v[k].Times * sumT v))) = 0
      rw [Int.sub_self, wr64 (n := 0) (by omega) (by omega), Int.sub_self, wr64 (n := 0) (by omega) (by omega)]
      simp [wr64]
    · rintro s rfl
      refine rn_then (ψ := fun s => s = 0) (rn_rloop (fun _ s => s = 0) rfl ?_ fun s h => h) ?_
      · rintro k s hk rfl
        have b := hti _ (List.getElem_mem hk)
        exact rn_then (ψ := fun s => s = 0) (rn_ix hk (rn_call (htimes k hk) (rn_f (by rw [beq_eq_false_iff_ne]; omega) (rn_some rfl)))) fun s hs => rn_some hs
      · rintro s rfl
        have hD : 1 ≤ 2 * sumT v * sumT v ∧ 2 * sumT v * sumT v ≤ 2000000 * 1000000 := by
          refine ⟨?_, Int.mul_le_mul (by omega) (by omega) (by omega) (by omega)⟩
          have := Int.mul_le_mul (show 1 ≤ 2 * sumT v by omega) hT (by omega) (by omega)
          omega
        have hr : F_impl_reduced 0 (2 * sumT v * sumT v) = some (0, 1) := by
          unfold F_impl_reduced
          generalize 2 * sumT v * sumT v = D at hD
          refine eq_of_rn (rn_then (ψ := fun x => x = D) (rn_wl (rn_t (by simp; omega) (rn_gd (by show D ≠ 0; omega) (rn_some ?_)))) ?_)
          · show Rn (wloop _ _) _
            refine rn_wl (rn_f ?_ (rn_some rfl))
            show ((0 : Int).tmod D != 0) = false
            simp
          · rintro x rfl
            refine rn_gd (by omega) (rn_gd (by omega) (rn_some ?_))
            rw [Int.zero_tdiv, Int.tdiv_self (by omega), wr64 (by omega) (by omega), wr64 (by omega) (by omega)]
        rw [wr64 (n := 2 * sumT v) (by omega) (by omega), wr64 (by omega) (by omega)]
        exact rn_call hr (rn_some rfl)
-- views
theorem n_views {code c0 : List Int} {at_ seed n : Int} (hb : Bt code) (h : Cu code n (c0, at_, seed)) (hn : n ≤ 5000000000000000) : Rn (F_spec_l1Cur_views__io0 c0 at_ seed) (fun z => z.1.length ≤ 9 ∧ (∀ v ∈ z.1, v.length ≤ 25) ∧ Cu code (n + 100) z.2) := by
  unfold F_spec_l1Cur_views__io0
  refine rn_then (n_pick hb h (by omega)) fun z ⟨z1, z2, z3, z4, z5⟩ => ?_
  have hz : z.1 < 9 := z3 (by omega)
  obtain ⟨k, hk⟩ := Int.eq_ofNat_of_zero_le z1
  refine rn_then (ψ := fun r => r.2.length ≤ 8 ∧ (∀ v ∈ r.2, v.length ≤ 25) ∧ Cu code (n + 90) r.1) (rn_cloop k (fun j s => s.2.2 = (k : Int) - j ∧ s.2.1.length = j ∧ (∀ v ∈ s.2.1, v.length ≤ 25) ∧ Cu code (n + 2 + 10 * j) s.1) ⟨hk.trans (by omega), rfl, by simp, z5.mono (by omega)⟩ ?_ ?_) fun r ⟨r1, r2, r3⟩ => ?_
  · rintro j s hj ⟨h1, h2, h3, h4⟩
    refine rn_t (by rw [h1]; simp; omega) (rn_then (n_pick hb h4 (by omega)) fun y ⟨y1, y2, y3, y4, y5⟩ => ?_)
    have hy : y.1 < 3 := y3 (by omega)
    obtain ⟨m, hm⟩ := Int.eq_ofNat_of_zero_le y1
    refine rn_then (ψ := fun r => r.2.length ≤ 3 ∧ Cu code (n + 2 + 10 * (j + 1 : Nat)) r.1) (rn_cloop m (fun i t => t.2.2 = (m : Int) - i ∧ t.2.1.length = i ∧ Cu code (n + 2 + 10 * j + 2 + 2 * i) t.1) ⟨hm.trans (by omega), rfl, y5.mono (by omega)⟩ ?_ ?_) fun r ⟨r1, r2⟩ => rn_gd (by omega) (rn_some ⟨?_, by simp [h2], fun v hv => ?_, r2⟩)
    · rintro i t hi ⟨g1, g2, g3⟩
      refine rn_t (by rw [g1]; simp; omega) (rn_then (n_pick hb g3 (by omega)) fun x ⟨x1, x2, x3, x4, x5⟩ => rn_gd (by omega) (rn_some ⟨?_, by simp [g2], x5.mono (by omega)⟩))
      show IntKind.i64.wrap (t.2.2 - 1) = _
      rw [g1, wr64 (by omega) (by omega)]; omega
    · rintro t ⟨g1, g2, g3⟩
      exact rn_f (by rw [g1]; simp) (rn_some ⟨by show t.2.1.length ≤ 3; omega, g3.mono (by omega)⟩)
    · show IntKind.i64.wrap (s.2.2 - 1) = _
      rw [h1, wr64 (by omega) (by omega)]; omega
    · rcases List.mem_append.1 hv with h | h
      · exact h3 v h
      · rw [List.mem_singleton.1 h]; omega
  · rintro s ⟨h1, h2, h3, h4⟩
    exact rn_f (by rw [h1]; simp) (rn_some ⟨by show s.2.1.length ≤ 8; omega, h3, h4.mono (by omega)⟩)
  · refine rn_then (n_one hb r3 (by omega)) fun y y1 => ?_
    refine rn_then (ψ := fun q => q.2.length ≤ 9 ∧ (∀ v ∈ q.2, v.length ≤ 25) ∧ Cu code (n + 100) q.1) (rn_if (fun _ => rn_then (n_pick hb y1 (by omega)) fun x ⟨x1, x2, x3, x4, x5⟩ => ?_) fun _ => rn_some ⟨by show r.2.length ≤ 9; omega, r2, y1.mono (by omega)⟩) fun q hq => rn_some hq
    have hx : x.1 < 2 := x3 (by omega)
    rw [wr64 (by omega) (by omega)]
    refine rn_gd (by omega) (rn_call rfl (rn_gd (by omega) (rn_some ⟨by simp; omega, fun v hv => ?_, x5.mono (by omega)⟩)))
    rcases List.mem_append.1 hv with h | h
    · exact r2 v h
    · rw [List.mem_singleton.1 h]; simp; omega
theorem n_qI {l : List Int} : F_laws_qInts l l = some true := by
  unfold F_laws_qInts
  refine eq_of_rn (rn_f (by simp) (rn_then (ψ := fun v => v = .inl ()) (rn_rloop (fun _ _ => True) trivial ?_ fun s _ => rfl) ?_))
  · rintro k s hk _
    exact rn_ix hk (rn_ix hk (rn_f (by simp) (rn_some trivial)))
  · rintro _ rfl
    exact rn_some rfl
theorem max_eq (d : Int) : F_spec_l1Most d (IntKind.i64.wrap (0 - d)) = some (if d < IntKind.i64.wrap (0 - d) then IntKind.i64.wrap (0 - d) else d) := by
  unfold F_spec_l1Most
  generalize IntKind.i64.wrap (0 - d) = e
  by_cases h : e < d
  · rw [if_pos (by simpa using h), if_neg (by omega)]
  · rw [if_neg (by simpa using h)]
    by_cases h2 : d < e
    · rw [if_pos h2]
    · rw [if_neg h2]; congr 1; omega
theorem p_Distance (a b : List ViewCount) (ha : a.length ≤ 1048576) (hb : b.length ≤ 1048576) (hva : ∀ x ∈ a, x.View.length ≤ 1048576) (hvb : ∀ x ∈ b, x.View.length ≤ 1048576) :
    ∃ r, F_spec_DistanceOf a b = some r ∧ F_impl_DistanceOf a b = some r := by
  obtain ⟨ga, s1, s2⟩ := p_wGood a ha hva
  obtain ⟨gb, s3, s4⟩ := p_wGood b hb hvb
  obtain ⟨ga', i1, i2⟩ := p_isCount a ha hva
  obtain ⟨gb', i3, i4⟩ := p_isCount b hb hvb
  have ea : ga' = ga := by rw [Bool.eq_iff_iff, i2, s2]
  have eb : gb' = gb := by rw [Bool.eq_iff_iff, i4, s4]
  subst ea; subst eb
  unfold F_spec_DistanceOf F_impl_DistanceOf
  rw [s1, s3, i1, i3]
  simp only [Option.bind_some]
  by_cases hg : ga' = true ∧ gb' = true ∧ a ≠ [] ∧ b ≠ []
  · obtain ⟨h1, h2, h3, h4⟩ := hg
    have Ga := s2.1 h1
    have Gb := s4.1 h2
    have la : ((a.length : Int) == 0) = false := by
      cases a with
      | nil => exact absurd rfl h3
      | cons x l => simp; omega
    have lb : ((b.length : Int) == 0) = false := by
      cases b with
      | nil => exact absurd rfl h4
      | cons x l => simp; omega
    have ta := good_times Ga
    have tb := good_times Gb
    have pa := sum_pos (fun x hx => (ta x hx).1) h3
    have pb := sum_pos (fun x hx => (tb x hx).1) h4
    have qa := Ga.2.2
    have qb := Gb.2.2
    simp only [h1, h2, Bool.not_true, Bool.false_eq_true, if_false, la, lb, Option.bind_some, p_wSum Ga.1 ta, p_wSum Gb.1 tb, p_total Ga.1 ta, p_total Gb.1 tb]
    -- the first loop
    have L1 : ∃ x, rloop (σ := Int) (β := Int) (fun i71 s70 =>
        (ix a i71).bind fun x80 =>
        (F_spec_wTimes b x80.View).bind fun z87 =>
        (F_spec_l1Most (IntKind.i64.wrap ((IntKind.i64.wrap (x80.Times * sumT b)) - (IntKind.i64.wrap (z87 * sumT a)))) (IntKind.i64.wrap (0 - (IntKind.i64.wrap ((IntKind.i64.wrap (x80.Times * sumT b)) - (IntKind.i64.wrap (z87 * sumT a))))))).bind fun z90 =>
        some (.go (IntKind.i64.wrap (s70 + z90)))) (fun s70 => s70) (a.length) 0 0 = some x ∧
      rloop (σ := Int) (β := Int) (fun i68 s67 =>
        (ix a i68).bind fun x77 =>
        (F_impl_timesOf b x77.View).bind fun z84 =>
        some (.go (IntKind.i64.wrap (s67 + (if (IntKind.i64.wrap ((IntKind.i64.wrap (x77.Times * sumT b)) - (IntKind.i64.wrap (z84 * sumT a)))) < (IntKind.i64.wrap (0 - (IntKind.i64.wrap ((IntKind.i64.wrap (x77.Times * sumT b)) - (IntKind.i64.wrap (z84 * sumT a)))))) then (IntKind.i64.wrap (0 - (IntKind.i64.wrap ((IntKind.i64.wrap (x77.Times * sumT b)) - (IntKind.i64.wrap (z84 * sumT a)))))) else (IntKind.i64.wrap ((IntKind.i64.wrap (x77.Times * sumT b)) - (IntKind.i64.wrap (z84 * sumT a))))))))) (fun s67 => s67) (a.length) 0 0 = some x := by
      have hcong := rloop_congr (stop := fun s : Int => s) (body := fun i71 s70 =>
        (ix a i71).bind fun x80 =>
        (F_spec_wTimes b x80.View).bind fun z87 =>
        (F_spec_l1Most (IntKind.i64.wrap ((IntKind.i64.wrap (x80.Times * sumT b)) - (IntKind.i64.wrap (z87 * sumT a)))) (IntKind.i64.wrap (0 - (IntKind.i64.wrap ((IntKind.i64.wrap (x80.Times * sumT b)) - (IntKind.i64.wrap (z87 * sumT a))))))).bind fun z90 =>
        some (.go (IntKind.i64.wrap (s70 + z90)))) (body' := fun i68 s67 =>
        (ix a i68).bind fun x77 =>
        (F_impl_timesOf b x77.View).bind fun z84 =>
        some (.go (IntKind.i64.wrap (s67 + (if (IntKind.i64.wrap ((IntKind.i64.wrap (x77.Times * sumT b)) - (IntKind.i64.wrap (z84 * sumT a)))) < (IntKind.i64.wrap (0 - (IntKind.i64.wrap ((IntKind.i64.wrap (x77.Times * sumT b)) - (IntKind.i64.wrap (z84 * sumT a)))))) then (IntKind.i64.wrap (0 - (IntKind.i64.wrap ((IntKind.i64.wrap (x77.Times * sumT b)) - (IntKind.i64.wrap (z84 * sumT a)))))) else (IntKind.i64.wrap ((IntKind.i64.wrap (x77.Times * sumT b)) - (IntKind.i64.wrap (z84 * sumT a)))))))))
        a.length 0 0 (fun k s hk => by
          obtain ⟨t, t1, t2⟩ := times_eq b a[k].View Gb hb hvb (hva _ (List.getElem_mem hk))
          rw [Int.zero_add]
          simp only [ix_at hk, Option.bind_some, t1, t2, max_eq])
      rw [hcong]
      obtain ⟨x, hx⟩ := rloop_go (stop := fun s : Int => s) (body := fun i68 s67 =>
        (ix a i68).bind fun x77 =>
        (F_impl_timesOf b x77.View).bind fun z84 =>
        some (.go (IntKind.i64.wrap (s67 + (if (IntKind.i64.wrap ((IntKind.i64.wrap (x77.Times * sumT b)) - (IntKind.i64.wrap (z84 * sumT a)))) < (IntKind.i64.wrap (0 - (IntKind.i64.wrap ((IntKind.i64.wrap (x77.Times * sumT b)) - (IntKind.i64.wrap (z84 * sumT a)))))) then (IntKind.i64.wrap (0 - (IntKind.i64.wrap ((IntKind.i64.wrap (x77.Times * sumT b)) - (IntKind.i64.wrap (z84 * sumT a)))))) else (IntKind.i64.wrap ((IntKind.i64.wrap (x77.Times * sumT b)) - (IntKind.i64.wrap (z84 * sumT a))))))))) a.length 0 0 (fun k s hk => by
          obtain ⟨t, t1, t2⟩ := times_eq b a[k].View Gb hb hvb (hva _ (List.getElem_mem hk))
          rw [Int.zero_add]
          simp only [ix_at hk, Option.bind_some, t1]
          exact ⟨_, rfl⟩)
      exact ⟨x, hx, hx⟩
    obtain ⟨x, x1, x2⟩ := L1
    rw [x1, x2]
    simp only [Option.bind_some]
    -- the second loop
    have L2 : ∃ y, rloop (σ := Int) (β := Int) (fun i138 s137 =>
        (((ix b i138).bind fun x153 =>
        (F_spec_wTimes a x153.View).bind fun z160 =>
        if (z160 == 0) = true then (
        some (IntKind.i64.wrap (s137 + (IntKind.i64.wrap (x153.Times * sumT a))))) else (
        some s137) : Option (Int)).bind fun (x151 : Int) =>
        some (.go x151))) (fun s137 => s137) (b.length) 0 x = some y ∧
      rloop (σ := Int) (β := Int) (fun i132 s131 =>
        (((ix b i132).bind fun x147 =>
        (F_impl_timesOf a x147.View).bind fun z154 =>
        if (z154 == 0) = true then (
        some (IntKind.i64.wrap (s131 + (IntKind.i64.wrap (x147.Times * sumT a))))) else (
        some s131) : Option (Int)).bind fun (x145 : Int) =>
        some (.go x145))) (fun s131 => s131) (b.length) 0 x = some y := by
      have hcong := rloop_congr (stop := fun s : Int => s) (body := fun i138 s137 =>
        (((ix b i138).bind fun x153 =>
        (F_spec_wTimes a x153.View).bind fun z160 =>
        if (z160 == 0) = true then (
        some (IntKind.i64.wrap (s137 + (IntKind.i64.wrap (x153.Times * sumT a))))) else (
        some s137) : Option (Int)).bind fun (x151 : Int) =>
        some (.go x151))) (body' := fun i132 s131 =>
        (((ix b i132).bind fun x147 =>
        (F_impl_timesOf a x147.View).bind fun z154 =>
        if (z154 == 0) = true then (
        some (IntKind.i64.wrap (s131 + (IntKind.i64.wrap (x147.Times * sumT a))))) else (
        some s131) : Option (Int)).bind fun (x145 : Int) =>
        some (.go x145))) b.length 0 x (fun k s hk => by
          obtain ⟨t, t1, t2⟩ := times_eq a b[k].View Ga ha hva (hvb _ (List.getElem_mem hk))
          rw [Int.zero_add]
          simp only [ix_at hk, Option.bind_some, t1, t2])
      rw [hcong]
      obtain ⟨y, hy⟩ := rloop_go (stop := fun s : Int => s) (body := fun i132 s131 =>
        (((ix b i132).bind fun x147 =>
        (F_impl_timesOf a x147.View).bind fun z154 =>
        if (z154 == 0) = true then (
        some (IntKind.i64.wrap (s131 + (IntKind.i64.wrap (x147.Times * sumT a))))) else (
        some s131) : Option (Int)).bind fun (x145 : Int) =>
        some (.go x145))) b.length 0 x (fun k s hk => by
          obtain ⟨t, t1, t2⟩ := times_eq a b[k].View Ga ha hva (hvb _ (List.getElem_mem hk))
          rw [Int.zero_add]
          simp only [ix_at hk, Option.bind_some, t1]
          by_cases hz : (t == 0) = true
          · exact ⟨_, by rw [if_pos hz]; rfl⟩
          · exact ⟨_, by rw [if_neg hz]; rfl⟩)
      exact ⟨y, hy, hy⟩
    obtain ⟨y, y1, y2⟩ := L2
    rw [y1, y2]
    simp only [Option.bind_some]
    have hden : IntKind.i64.wrap (IntKind.i64.wrap (2 * sumT a) * sumT b) = 2 * sumT a * sumT b := by
      rw [wr64 (n := 2 * sumT a) (by omega) (by omega)]
      have h5 : 0 ≤ 2 * sumT a * sumT b := Int.mul_nonneg (by omega) (by omega)
      have h6 : 2 * sumT a * sumT b ≤ 2000000 * 1000000 := Int.mul_le_mul (by omega) (by omega) (by omega) (by omega)
      rw [wr64 (by omega) (by omega)]
    have hne : 2 * sumT a * sumT b ≠ 0 := by
      have : 0 < 2 * sumT a * sumT b := Int.mul_pos (by omega) (by omega)
      omega
    rw [hden]
    unfold F_spec_nGcd F_impl_reduced
    obtain ⟨g, g1, g2⟩ := p_gcd0 y (2 * sumT a * sumT b) hne
    rw [g1]
    simp only [Option.bind_some, gd_t g2]
    exact ⟨_, rfl, rfl⟩
  · have hx : ∀ (sa sb : Bool), (if (!ga') = true then some true else if (!gb') = true then some true else if ((a.length : Int) == 0) = true then some true else some ((b.length : Int) == 0)) = some true := by
      intro _ _
      by_cases h1 : ga' = true
      · by_cases h2 : gb' = true
        · by_cases h3 : a = []
          · simp [h1, h2, h3]
          · have h4 : b = [] := by
              cases b with
              | nil => rfl
              | cons x l => exact absurd ⟨h1, h2, h3, by simp⟩ hg
            simp [h1, h2, h4]
        · simp [h1, h2]
      · simp [h1]
    rw [hx true true]
    exact ⟨_, rfl, rfl⟩
theorem views_nodup {l : List ViewCount} (h : GoodC l) : (l.map (·.View)).Nodup := by
  rw [List.Nodup, List.pairwise_iff_getElem]
  intro i j hi hj hij
  rw [List.length_map] at hi hj
  rw [List.getElem_map, List.getElem_map]
  intro he
  have := good_sorted h j i _ _ hij (List.getElem?_eq_getElem hi) (List.getElem?_eq_getElem hj)
  rw [he, lexC_self] at this
  cases this
theorem cnt_zero {l : List ViewCount} (h : GoodC l) (v : List Int) : cnt l v = 0 ↔ v ∉ l.map (·.View) := by
  constructor
  · intro h0 hm
    obtain ⟨x, hx, rfl⟩ := List.mem_map.1 hm
    have := cnt_pos (fun y hy => (good_times h y hy).1) hx
    omega
  · intro hm
    exact cnt_none fun x hx he => hm (List.mem_map.2 ⟨x, hx, he⟩)
theorem cnt_at : ∀ {l : List ViewCount} (h : (l.map (·.View)).Nodup) {x : ViewCount} (hx : x ∈ l), cnt l x.View = x.Times
  | [], _, x, hx => by cases hx
  | y :: l, h, x, hx => by
    rw [List.map_cons, List.nodup_cons] at h
    simp only [cnt]
    rcases List.mem_cons.1 hx with rfl | hm
    · rw [if_pos rfl, cnt_none fun z hz he => h.1 (List.mem_map.2 ⟨z, hz, he⟩)]; omega
    · rw [if_neg fun he => h.1 (List.mem_map.2 ⟨x, hm, he.symm⟩), cnt_at h.2 hm]; omega
theorem isT_cnt {l : List ViewCount} (h : GoodC l) {v : List Int} {t : Int} (ht : IsT l v t) : t = cnt l v := by
  rcases ht with ⟨i, x, h1, h2, h3⟩ | ⟨h1, h2⟩
  · rw [h3, ← h2, cnt_at (views_nodup h) (List.mem_of_getElem? h1)]
  · rw [h2, cnt_none h1]
theorem n_timesOf {l : List ViewCount} (h : GoodC l) (hv : ∀ x ∈ l, x.View.length ≤ 24) {v : List Int} (hw : v.length ≤ 24) : F_impl_timesOf l v = some (cnt l v) := by
  obtain ⟨t, h1, h2⟩ := p_timesOf l v h (by have := h.1; omega) (fun x hx => by have := hv x hx; omega) (by omega)
  rw [h1, isT_cnt h h2]
def dgV (a b : List ViewCount) (v : List Int) : Int := (cnt a v * sumT b - cnt b v * sumT a).natAbs
theorem dg_swap (a b : List ViewCount) (v : List Int) : dgV a b v = dgV b a v := by unfold dgV; omega
def dU (a b : List ViewCount) : List (List Int) := a.map (·.View) ++ (b.map (·.View)).filter fun v => cnt a v == 0
theorem dU_mem {a b : List ViewCount} (ha : GoodC a) (v : List Int) : v ∈ dU a b ↔ v ∈ a.map (·.View) ∨ v ∈ b.map (·.View) := by
  unfold dU
  rw [List.mem_append, List.mem_filter, beq_iff_eq, cnt_zero ha]
  constructor
  · rintro (h | h)
    · exact .inl h
    · exact .inr h.1
  · intro h
    by_cases hm : v ∈ a.map (·.View)
    · exact .inl hm
    · exact .inr ⟨h.resolve_left hm, hm⟩
theorem dU_nodup {a b : List ViewCount} (ha : GoodC a) (hb : GoodC b) : (dU a b).Nodup := by
  unfold dU
  rw [List.nodup_append]
  refine ⟨views_nodup ha, (views_nodup hb).filter _, fun x hx y hy he => ?_⟩
  subst he
  rw [List.mem_filter, beq_iff_eq, cnt_zero ha] at hy
  exact hy.2 hx
theorem dU_perm {a b : List ViewCount} (ha : GoodC a) (hb : GoodC b) : (dU a b).Perm (dU b a) :=
  (List.perm_ext_iff_of_nodup (dU_nodup ha hb) (dU_nodup hb ha)).2 fun v => by rw [dU_mem ha, dU_mem hb]; exact or_comm
theorem perm_sum {l r : List Int} (h : l.Perm r) : l.sum = r.sum := by
  induction h with
  | nil => rfl
  | cons x _ ih => simp only [List.sum_cons, ih]
  | swap x y l => simp only [List.sum_cons]; omega
  | trans _ _ h1 h2 => exact h1.trans h2
def dS (a b : List ViewCount) : Int := ((dU a b).map (dgV a b)).sum
theorem dS_swap {a b : List ViewCount} (ha : GoodC a) (hb : GoodC b) : dS a b = dS b a := by
  unfold dS
  rw [perm_sum ((dU_perm ha hb).map _)]
  congr 2
  funext v
  exact dg_swap a b v
theorem sum_cnt {a b : List ViewCount} (ha : GoodC a) : ((dU a b).map (cnt a)).sum = sumT a := by
  unfold dU
  rw [List.map_append, List.sum_append, List.map_map]
  have e1 : a.map (cnt a ∘ (·.View)) = a.map (·.Times) := List.map_congr_left fun x hx => cnt_at (views_nodup ha) hx
  have e2 : ∀ l : List (List Int), (∀ v ∈ l, cnt a v = 0) → (l.map (cnt a)).sum = 0 := by
    intro l
    induction l with
    | nil => intro _; rfl
    | cons v l ih =>
      intro h
      rw [List.map_cons, List.sum_cons, h v (List.mem_cons_self ..), ih fun w hw => h w (List.mem_cons_of_mem _ hw)]
      omega
  rw [e1, e2 _ fun v hv => by
    have := (List.mem_filter.1 hv).2
    simpa using this]
  show sumT a + 0 = sumT a
  omega
theorem sum_cnt2 {a b : List ViewCount} (ha : GoodC a) (hb : GoodC b) : ((dU a b).map (cnt b)).sum = sumT b := by
  rw [perm_sum ((dU_perm ha hb).map _), sum_cnt hb]
theorem sum_mul (l : List (List Int)) (f g : List Int → Int) (m n : Int) (h : List Int → Int) (hh : ∀ v ∈ l, h v ≤ f v * m + g v * n) : (l.map h).sum ≤ (l.map f).sum * m + (l.map g).sum * n := by
  induction l with
  | nil => simp
  | cons v l ih =>
    have h1 := ih fun w hw => hh w (List.mem_cons_of_mem _ hw)
    have h2 := hh v (List.mem_cons_self ..)
    simp only [List.map_cons, List.sum_cons, Int.add_mul]
    omega
theorem sum_nn (l : List (List Int)) (h : List Int → Int) (hh : ∀ v ∈ l, 0 ≤ h v) : 0 ≤ (l.map h).sum := by
  induction l with
  | nil => simp
  | cons v l ih =>
    have h1 := ih fun w hw => hh w (List.mem_cons_of_mem _ hw)
    have h2 := hh v (List.mem_cons_self ..)
    simp only [List.map_cons, List.sum_cons]
    omega
theorem dS_nn (a b : List ViewCount) : 0 ≤ dS a b := sum_nn _ _ fun v _ => by unfold dgV; omega
theorem good_nn {a : List ViewCount} (ha : GoodC a) (v : List Int) : 0 ≤ cnt a v := cnt_nonneg (fun y hy => (good_times ha y hy).1) v
theorem good_sum {a : List ViewCount} (ha : GoodC a) : 0 ≤ sumT a := sumT_nonneg fun y hy => by have := (good_times ha y hy).1; omega
theorem dS_le {a b : List ViewCount} (ha : GoodC a) (hb : GoodC b) : dS a b ≤ 2 * sumT a * sumT b := by
  have h := sum_mul (dU a b) (cnt a) (cnt b) (sumT b) (sumT a) (dgV a b) fun v _ => by
    have h1 := Int.mul_nonneg (good_nn ha v) (good_sum hb)
    have h2 := Int.mul_nonneg (good_nn hb v) (good_sum ha)
    unfold dgV
    omega
  rw [sum_cnt ha, sum_cnt2 ha hb, Int.mul_comm (sumT b) (sumT a)] at h
  show ((dU a b).map (dgV a b)).sum ≤ _
  rw [Int.mul_assoc]
  omega
def dA (a b : List ViewCount) : List Int := a.map fun x => dgV a b x.View
def dB (a b : List ViewCount) : List Int := b.map fun y => if cnt a y.View = 0 then y.Times * sumT a else 0
theorem dAB {a b : List ViewCount} (ha : GoodC a) (hb : GoodC b) : (dA a b).sum + (dB a b).sum = dS a b := by
  unfold dA dB dS dU
  rw [List.map_append, List.sum_append, List.map_map]
  congr 1
  have key : ∀ l : List ViewCount, (∀ y ∈ l, y ∈ b) → (l.map fun y => if cnt a y.View = 0 then y.Times * sumT a else 0).sum = (((l.map (·.View)).filter fun v => cnt a v == 0).map (dgV a b)).sum := by
    intro l
    induction l with
    | nil => intro _; rfl
    | cons y l ih =>
      intro h
      have h1 := ih fun z hz => h z (List.mem_cons_of_mem _ hz)
      rw [List.map_cons, List.sum_cons, h1, List.map_cons]
      by_cases h0 : cnt a y.View = 0
      · have h2 := cnt_at (views_nodup hb) (h y (List.mem_cons_self ..))
        have h3 := Int.mul_nonneg (good_nn hb y.View) (good_sum ha)
        rw [if_pos h0, List.filter_cons_of_pos (by simpa using h0), List.map_cons, List.sum_cons]
        congr 1
        unfold dgV
        rw [h0, h2]
        rw [h2] at h3
        omega
      · rw [if_neg h0, List.filter_cons_of_neg (by simpa using h0)]
        omega
  exact key b fun y hy => hy
theorem dgV_bd {a b : List ViewCount} (ha : GoodC a) (hb : GoodC b) (v : List Int) : 0 ≤ cnt a v * sumT b ∧ cnt a v * sumT b ≤ 1000000 * 1000000 := by
  have h1 := good_nn ha v
  have h2 := cnt_le (l := a) (fun y hy => (good_times ha y hy).1) v
  have h3 := ha.2.2
  have h4 := hb.2.2
  have h5 := good_sum hb
  exact ⟨Int.mul_nonneg h1 h5, Int.mul_le_mul (by omega) (by omega) (by omega) (by omega)⟩
theorem sum_tk {l : List Int} {k : Nat} (h : k < l.length) : (l.take (k + 1)).sum = (l.take k).sum + l[k] := by
  rw [List.take_succ_eq_append_getElem h, List.sum_append]; simp
theorem sum_bd (l : List Int) (c : Int) (h : ∀ x ∈ l, 0 ≤ x ∧ x ≤ c) : 0 ≤ l.sum ∧ l.sum ≤ l.length * c := by
  induction l with
  | nil => simp
  | cons x l ih =>
    have h1 := ih fun y hy => h y (List.mem_cons_of_mem _ hy)
    have h2 := h x (List.mem_cons_self ..)
    rw [List.sum_cons, List.length_cons]
    push_cast
    rw [Int.add_mul]
    omega
theorem n_dist {a b : List ViewCount} (ha : GoodC a) (hb : GoodC b) (h0 : a ≠ []) (h1 : b ≠ []) : F_impl_DistanceOf a b = (F_impl_reduced (dS a b) (2 * sumT a * sumT b)).bind fun z => some (z.1, z.2, true) := by
  obtain ⟨a1, a2, a3, a4⟩ := good_bd ha
  obtain ⟨b1, b2, b3, b4⟩ := good_bd hb
  obtain ⟨ba, i1, i2⟩ := p_isCount a (by omega) (fun x hx => by have := a2 x hx; omega)
  obtain ⟨bb, i3, i4⟩ := p_isCount b (by omega) (fun x hx => by have := b2 x hx; omega)
  have ea : ba = true := i2.2 ha
  have eb : bb = true := i4.2 hb
  subst ea; subst eb
  have la : 0 < a.length := List.length_pos_iff.2 h0
  have lb : 0 < b.length := List.length_pos_iff.2 h1
  have hA : ∀ x ∈ dA a b, 0 ≤ x ∧ x ≤ 1000000000000 := by
    intro x hx
    obtain ⟨y, hy, rfl⟩ := List.mem_map.1 hx
    have h1 := dgV_bd ha hb y.View
    have h2 := dgV_bd hb ha y.View
    unfold dgV
    omega
  have hB : ∀ x ∈ dB a b, 0 ≤ x ∧ x ≤ 1000000000000 := by
    intro x hx
    obtain ⟨y, hy, rfl⟩ := List.mem_map.1 hx
    have h2 := dgV_bd hb ha y.View
    have h3 := cnt_at (views_nodup hb) hy
    rw [h3] at h2
    split <;> omega
  have lA : (dA a b).length = a.length := List.length_map _
  have lB : (dB a b).length = b.length := List.length_map _
  have tA : ∀ k, k ≤ a.length → 0 ≤ ((dA a b).take k).sum ∧ ((dA a b).take k).sum ≤ 3000 * 1000000000000 := fun k hk => by
    have h := sum_bd ((dA a b).take k) 1000000000000 fun x hx => hA x (List.mem_of_mem_take hx)
    rw [List.length_take, lA] at h
    omega
  have tB : ∀ k, k ≤ b.length → 0 ≤ ((dB a b).take k).sum ∧ ((dB a b).take k).sum ≤ 3000 * 1000000000000 := fun k hk => by
    have h := sum_bd ((dB a b).take k) 1000000000000 fun x hx => hB x (List.mem_of_mem_take hx)
    rw [List.length_take, lB] at h
    omega
  have fA : (dA a b).take a.length = dA a b := by rw [← lA, List.take_length]
  have fB : (dB a b).take b.length = dB a b := by rw [← lB, List.take_length]
  unfold F_impl_DistanceOf
  refine (congrArg (fun o => Option.bind o _) (?_ : _ = some false)).trans ?_
  · simp only [i1, i3, Option.bind_some, Bool.not_true, Bool.false_eq_true, if_false]
    rw [if_neg (by simp; omega)]
    simp
    omega
  rw [Option.bind_some, if_neg (by simp), p_total a1 (good_times ha), p_total b1 (good_times hb), Option.bind_some, Option.bind_some]
  refine (congrArg (fun o => Option.bind o _) (?_ : _ = some (dA a b).sum)).trans ?_
  · refine eq_of_rn (rn_rloop (fun k s => s = ((dA a b).take k).sum) (by simp) ?_ fun s hs => by rw [hs, fA])
    rintro k s hk rfl
    have t1 := tA k (by omega)
    have t2 := tA (k + 1) (by omega)
    have hx := List.getElem_mem hk
    have c1 := cnt_at (views_nodup ha) hx
    have d1 := dgV_bd ha hb a[k].View
    have d2 := dgV_bd hb ha a[k].View
    refine rn_ix hk (rn_call (n_timesOf hb b2 (a2 _ hx)) (rn_some ?_))
    rw [sum_tk (by omega)] at t2 ⊢
    have e : (dA a b)[k]'(by omega) = dgV a b a[k].View := List.getElem_map ..
    rw [e] at t2 ⊢
    unfold dgV at t2 ⊢
    rw [c1] at d1 t2 ⊢
    rw [wr64 (n := a[k].Times * sumT b) (by omega) (by omega), wr64 (n := cnt b a[k].View * sumT a) (by omega) (by omega)]
    generalize a[k].Times * sumT b = X at *
    generalize cnt b a[k].View * sumT a = Y at *
    rw [wr64 (n := X - Y) (by omega) (by omega), wr64 (n := 0 - (X - Y)) (by omega) (by omega)]
    show IntKind.i64.wrap _ = _
    rw [wr64 (by split <;> omega) (by split <;> omega)]
    split <;> omega
  rw [Option.bind_some]
  refine (congrArg (fun o => Option.bind o _) (?_ : _ = some ((dA a b).sum + (dB a b).sum))).trans ?_
  · have tA' := tA a.length (by omega)
    rw [fA] at tA'
    refine eq_of_rn (rn_rloop (fun k s => s = (dA a b).sum + ((dB a b).take k).sum) (by simp) ?_ fun s hs => by rw [hs, fB])
    rintro k s hk rfl
    have t1 := tB k (by omega)
    have t2 := tB (k + 1) (by omega)
    have hx := List.getElem_mem hk
    have c1 := cnt_at (views_nodup hb) hx
    have d2 := dgV_bd hb ha b[k].View
    rw [c1] at d2
    rw [sum_tk (by omega)] at t2 ⊢
    have e : (dB a b)[k]'(by omega) = if cnt a b[k].View = 0 then b[k].Times * sumT a else 0 := List.getElem_map ..
    rw [e] at t2 ⊢
    refine rn_then (ψ := fun x => x = (dA a b).sum + (((dB a b).take k).sum + if cnt a b[k].View = 0 then b[k].Times * sumT a else 0)) (rn_ix hk (rn_call (n_timesOf ha a2 (b2 _ hx)) (rn_if (fun hz => ?_) fun hz => ?_))) fun x hx => rn_some hx
    · have hz : cnt a b[k].View = 0 := by simpa using hz
      rw [if_pos hz] at t2 ⊢
      refine rn_some ?_
      rw [wr64 (n := b[k].Times * sumT a) (by omega) (by omega), wr64 (by omega) (by omega)]
      omega
    · have hz : cnt a b[k].View ≠ 0 := by simpa using hz
      rw [if_neg hz] at t2 ⊢
      refine rn_some ?_
      omega
  rw [Option.bind_some, dAB ha hb]
  have hD : 0 ≤ 2 * sumT a * sumT b ∧ 2 * sumT a * sumT b ≤ 2000000 * 1000000 := by
    have pa := good_sum ha
    have pb := good_sum hb
    exact ⟨Int.mul_nonneg (by omega) (by omega), Int.mul_le_mul (by omega) (by omega) (by omega) (by omega)⟩
  have pa := good_sum ha
  rw [wr64 (n := 2 * sumT a) (by omega) (by omega), wr64 (by omega) (by omega)]
theorem n_red {s d : Int} (h0 : 0 ≤ s) (h1 : s ≤ d) (h2 : 0 < d) (h3 : d ≤ 2000000000000) : Rn (F_impl_reduced s d) (fun z => 0 ≤ z.1 ∧ z.1 ≤ z.2) := by
  unfold F_impl_reduced
  refine rn_then (ψ := fun g => 0 < g) ?_ fun g hg => ?_
  · refine wloop_post (fun n x => n = x.2.toNat ∧ 0 ≤ x.1 ∧ 0 ≤ x.2 ∧ (0 < x.1 ∨ 0 < x.2)) (fun g => 0 < g) ?_ d.toNat (s, d) ⟨rfl, h0, by show 0 ≤ d; omega, .inr h2⟩
    rintro n ⟨x, y⟩ ⟨q1, q2, q3, q4⟩
    simp only at q1 q2 q3 q4 ⊢
    by_cases hy : y = 0
    · subst hy
      exact .inr ⟨x, by simp, by omega⟩
    · have hy' : (y != 0) = true := by simpa using hy
      refine .inl ⟨(y, x.tmod y), (x.tmod y).toNat, ?_, ?_, rfl, by show 0 ≤ y; omega, Int.tmod_nonneg _ q2, .inl (by show 0 < y; omega)⟩
      · rw [if_pos hy', gd_t hy]
      · have := Int.tmod_lt_of_pos x (show 0 < y by omega)
        have := Int.tmod_nonneg y q2
        omega
  · refine rn_gd (by omega) (rn_gd (by omega) (rn_some ?_))
    rw [Int.tdiv_eq_ediv_of_nonneg h0, Int.tdiv_eq_ediv_of_nonneg (by omega)]
    have k1 := Int.ediv_nonneg h0 (by omega : 0 ≤ g)
    have k2 : d / g ≤ d := Int.ediv_le_self _ (by omega)
    have k3 : s / g ≤ d / g := Int.ediv_le_ediv hg h1
    rw [wr64 (by omega) (by omega), wr64 (by omega) (by omega)]
    exact ⟨k1, k3⟩
theorem n_notDist {a b : List ViewCount} (la : a.length ≤ 1048576) (lb : b.length ≤ 1048576) (va : ∀ x ∈ a, x.View.length ≤ 1048576) (vb : ∀ x ∈ b, x.View.length ≤ 1048576) (h : ¬ (GoodC a ∧ GoodC b ∧ a ≠ [] ∧ b ≠ [])) : F_impl_DistanceOf a b = some (0, 0, false) := by
  obtain ⟨ga, i1, i2⟩ := p_isCount a la va
  obtain ⟨gb, i3, i4⟩ := p_isCount b lb vb
  unfold F_impl_DistanceOf
  refine (congrArg (fun o => Option.bind o _) (?_ : _ = some true)).trans rfl
  rw [i1, i3]
  simp only [Option.bind_some]
  cases hA : ga with
  | false => rfl
  | true =>
    cases hB : gb with
    | false => rfl
    | true =>
      rw [if_neg (by simp), if_neg (by simp)]
      by_cases h3 : a = []
      · simp [h3]
      · by_cases h4 : b = []
        · simp [h4]
        · exact absurd ⟨i2.1 hA, i4.1 hB, h3, h4⟩ h
theorem n_ownCount {l : List (List Int)} (hl : l.length ≤ 3000) (hv : ∀ x ∈ l, x.length ≤ 1048576) : Rn (F_spec_CountViews_own l) (fun z => z.1 = [] ∨ GoodC z.1) := by
  unfold F_spec_CountViews_own
  refine rn_f (by simp; omega) (rn_then (ψ := fun s => s.length ≤ 3000 ∧ ∀ x ∈ s, x.View.length ≤ 1048576) (rn_rloop (fun k s => Canon s (cnt ((oneL l).take k)) ∧ sumT s = (k : Int) ∧ s.length ≤ k ∧ ∀ x ∈ s, x.View.length ≤ 1048576)
    ⟨by rw [List.take_zero]; exact canon_nil, by simp [sumT], Nat.le_refl _, fun x hx => by simp at hx⟩ ?_ fun s ⟨q1, q2, q3, q4⟩ => ⟨by omega, q4⟩) fun s ⟨s1, s2⟩ => ?_)
  · rintro k s hk ⟨q1, q2, q3, q4⟩
    have hk' : k < (oneL l).length := by rw [oneL_len]; exact hk
    have hvk := hv l[k] (List.getElem_mem hk)
    obtain ⟨t, w1, w2, w3, w4, w5⟩ := p_wAdd s l[k] 1 q1 (by omega) q4 hvk (by omega) (by omega)
    refine rn_ix hk (rn_call w1 (rn_some ⟨w2.congr fun v => by rw [cnt_take hk', oneL_at hk], by rw [w3, q2]; push_cast; rfl, by omega, fun x hx => ?_⟩))
    rcases w5 x hx with h | ⟨y, hy, h⟩
    · rw [h]; exact hvk
    · rw [h]; exact q4 y hy
  · obtain ⟨g, g1, g2⟩ := p_wGood s (by omega) s2
    unfold F_spec_wIf__mv0
    rw [g1]
    cases g with
    | false => exact rn_some (.inl rfl)
    | true => exact rn_some (.inr (g2.1 rfl))
theorem n_viewCounts {code c0 : List Int} {at_ seed n : Int} (hb : Bt code) (h : Cu code n (c0, at_, seed)) (hn : n ≤ 4000000000000000) : Rn (F_spec_l1Cur_viewCounts__io0 c0 at_ seed) (fun z => z.1.length ≤ 3000 ∧ (∀ x ∈ z.1, x.View.length ≤ 25) ∧ Cu code (n + 10000) z.2) := by
  unfold F_spec_l1Cur_viewCounts__io0
  refine rn_then (n_views hb h (by omega)) fun z ⟨z1, z2, z3⟩ => ?_
  refine rn_then (n_ownCount (by omega) fun x hx => by have := z2 x hx; omega) fun y hy => ?_
  have y1 : y.1.length ≤ 3000 ∧ ∀ x ∈ y.1, x.View.length ≤ 25 := by
    rcases hy with h | h
    · rw [h]; exact ⟨by simp, fun x hx => by simp at hx⟩
    · exact ⟨h.1, fun x hx => by have := (good_bd h).2.1 x hx; omega⟩
  obtain ⟨y1, y2⟩ := y1
  refine rn_then (ψ := fun r => r.2.length = y.1.length ∧ (∀ x ∈ r.2, x.View.length ≤ 25) ∧ Cu code (n + 9000) r.1) (rn_rloop (fun k s => s.2.length = y.1.length ∧ (∀ x ∈ s.2, x.View.length ≤ 25) ∧ Cu code (n + 100 + 2 * (k : Int)) s.1) ⟨rfl, y2, z3.mono (by omega)⟩ ?_ fun s hs => ⟨hs.1, hs.2.1, hs.2.2.mono (by omega)⟩) fun r ⟨r1, r2, r3⟩ => ?_
  · rintro k s hk ⟨s1, s2, s3⟩
    refine rn_ix (show k < s.2.length by omega) (rn_then (n_pick hb s3 (by omega)) fun p ⟨_, _, _, _, p5⟩ => rn_some ⟨by simp [s1], fun x hx => ?_, p5.mono (by push_cast; omega)⟩)
    rcases List.mem_or_eq_of_mem_set hx with h | rfl
    · exact s2 _ h
    · exact s2 s.2[k] (List.getElem_mem (show k < s.2.length by omega))
  · refine rn_then (n_pick hb r3 (by omega)) fun p ⟨_, _, _, _, p5⟩ => ?_
    refine rn_then (ψ := fun x => x.2.length ≤ 3000 ∧ (∀ y ∈ x.2, y.View.length ≤ 25) ∧ Cu code (n + 9100) x.1) ?_ fun x ⟨x1, x2, x3⟩ => rn_some ⟨x1, x2, x3.mono (by omega)⟩
    refine rn_if (fun _ => rn_if (fun hl => ?_) fun _ => rn_some ⟨by show r.2.length ≤ _; omega, r2, p5.mono (by omega)⟩) fun _ => rn_if (fun _ => rn_if (fun hl => ?_) fun _ => rn_some ⟨by show r.2.length ≤ _; omega, r2, p5.mono (by omega)⟩) fun _ => rn_some ⟨by show r.2.length ≤ _; omega, r2, p5.mono (by omega)⟩
    · have hl : 0 < (r.2.length : Int) := by simpa using hl
      refine rn_then (n_pick hb p5 (by omega)) fun q ⟨q1, q2, q3, _, q5⟩ => ?_
      obtain ⟨k, hk⟩ := Int.eq_ofNat_of_zero_le q1
      have hlt : k < r.2.length := by
        rcases Nat.lt_or_ge 1 r.2.length with h | h
        · have := q3 (by omega); omega
        · have := q2 (by omega); omega
      refine rn_then (n_amongM hb q5 (by omega) (by simp)) fun w ⟨_, w2⟩ => ?_
      rw [hk]
      refine rn_ix hlt (rn_some ⟨by show (r.2.set _ _).length ≤ _; rw [List.length_set]; omega, fun x hx => ?_, w2.mono (by omega)⟩)
      rcases List.mem_or_eq_of_mem_set hx with h | rfl
      · exact r2 _ h
      · exact r2 r.2[k] (List.getElem_mem hlt)
    · have hl : 1 < (r.2.length : Int) := by simpa using hl
      refine rn_ix (k := 1) (by omega) (rn_ix (k := 0) (by omega) (rn_some ⟨by show (r.2.set _ _).length ≤ _; rw [List.length_set]; omega, fun x hx => ?_, p5.mono (by omega)⟩))
      rcases List.mem_or_eq_of_mem_set hx with h | rfl
      · exact r2 _ h
      · exact r2 _ (List.getElem_mem (show 1 < r.2.length by omega))
theorem n_DDist {code : List Int} (hb : Bt code) : Rn (F_spec_DrawDistanceOf code) (fun z => z.1.length ≤ 3000 ∧ (∀ x ∈ z.1, x.View.length ≤ 25) ∧ z.2.length ≤ 3000 ∧ ∀ x ∈ z.2, x.View.length ≤ 25) := by
  unfold F_spec_DrawDistanceOf
  refine rn_then (n_viewCounts hb (cu0 code) (by omega)) fun z ⟨z1, z2, z3⟩ => ?_
  refine rn_then (n_one hb z3 (by omega)) fun y y1 => ?_
  exact rn_if (fun _ => rn_some ⟨z1, z2, z1, z2⟩) fun _ => rn_then (n_viewCounts hb y1 (by omega)) fun w ⟨w1, w2, _⟩ => rn_some ⟨z1, z2, w1, w2⟩
theorem n_DMerge {code : List Int} (hb : Bt code) : Rn (F_spec_DrawMergeCounts code) (fun z => z.1.length ≤ 3000 ∧ (∀ x ∈ z.1, x.View.length ≤ 25) ∧ z.2.length ≤ 3000 ∧ ∀ x ∈ z.2, x.View.length ≤ 25) := by
  unfold F_spec_DrawMergeCounts
  exact rn_then (n_DDist hb) fun z hz => rn_some hz
theorem law11 (a b : List Int) (h0 : ∀ x ∈ a, 0 ≤ x ∧ x ≤ 255) (h1 : ∀ x ∈ b, 0 ≤ x ∧ x ≤ 255) (hl0 : a.length ≤ 1048576) (hl1 : b.length ≤ 1048576) : F_laws_FnDistances a b = some true := by
  unfold F_laws_FnDistances
  refine eq_of_rn (rn_if (fun _ => rn_some rfl) fun _ => ?_)
  refine rn_then (n_DDist ⟨h0, hl0⟩) fun z ⟨z1, z2, z3, z4⟩ => ?_
  have v2 : ∀ x ∈ z.1, x.View.length ≤ 1048576 := fun x hx => by have := z2 x hx; omega
  have v4 : ∀ x ∈ z.2, x.View.length ≤ 1048576 := fun x hx => by have := z4 x hx; omega
  obtain ⟨r, r1, r2⟩ := p_Distance z.1 z.2 (by omega) (by omega) v2 v4
  refine rn_call r2 (rn_call r1 ?_)
  refine rn_then (n_DMerge ⟨h1, hl1⟩) fun y ⟨y1, y2, y3, y4⟩ => ?_
  obtain ⟨m, t, m1, m2, m3, m4⟩ := n_merge y.1 y.2 (by omega) (by omega) (fun x hx => by have := y2 x hx; omega) fun x hx => by have := y4 x hx; omega
  refine rn_call m2 (rn_call m1 ?_)
  refine rn_then (ψ := fun x => x = false) (rn_f (by simp) (rn_f (by simp) (rn_f (by simp) (rn_f (by simp) (rn_some (by simp)))))) ?_
  rintro _ rfl
  refine rn_f rfl (rn_then (ψ := fun v => v = .inl ()) (rn_rloop (fun _ _ => True) trivial ?_ fun s _ => rfl) ?_)
  · rintro k s hk _
    refine rn_then (ψ := fun x => x = false) (rn_ix hk (rn_ix hk (rn_call n_qI (rn_f rfl (rn_some (by simp)))))) ?_
    rintro _ rfl
    exact rn_f rfl (rn_some trivial)
  rintro _ rfl
  show Rn (ite _ _ _) _
  by_cases hg : GoodC z.1 ∧ GoodC z.2 ∧ z.1 ≠ [] ∧ z.2 ≠ []
  · obtain ⟨ga, gb, ea, eb⟩ := hg
    have pa := sum_pos (fun x hx => (good_times ga x hx).1) ea
    have pb := sum_pos (fun x hx => (good_times gb x hx).1) eb
    have pa2 := ga.2.2
    have pb2 := gb.2.2
    have hD : 2 * sumT z.1 * sumT z.2 ≤ 2000000 * 1000000 := Int.mul_le_mul (by omega) (by omega) (by omega) (by omega)
    have hD0 : 0 < 2 * sumT z.1 * sumT z.2 := Int.mul_pos (by omega) (by omega)
    obtain ⟨w, w1, w2, w3⟩ := n_red (dS_nn z.1 z.2) (dS_le ga gb) hD0 (by omega)
    have e1 : F_impl_DistanceOf z.1 z.2 = some (w.1, w.2, true) := by rw [n_dist ga gb ea eb, w1]; rfl
    have e2 : F_impl_DistanceOf z.2 z.1 = some (w.1, w.2, true) := by
      rw [n_dist gb ga eb ea, dS_swap gb ga, Int.mul_assoc, Int.mul_comm (sumT z.2), ← Int.mul_assoc, w1]; rfl
    rw [e1] at r2
    have e : r = (w.1, w.2, true) := (Option.some.inj r2).symm
    subst e
    refine rn_f rfl (rn_call e2 (rn_call (n_dist_self ga ea (good_bd ga).2.1) ?_))
    refine rn_then (ψ := fun x => x = true) (rn_t rfl (rn_t rfl (rn_t (by simp) (rn_t (by simp) (rn_t rfl (rn_t (by simpa using w2) (rn_some (by simpa using w3)))))))) ?_
    rintro _ rfl
    exact rn_some rfl
  · rw [n_notDist (by omega) (by omega) v2 v4 hg] at r2
    have e : r = (0, 0, false) := (Option.some.inj r2).symm
    subst e
    exact rn_t rfl (rn_some rfl)
end Go.Pm
