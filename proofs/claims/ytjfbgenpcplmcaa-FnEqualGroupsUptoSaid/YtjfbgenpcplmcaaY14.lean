/-
  FnEqualGroups: plain laws.
  No condition.
-/
import Derived.Test.YtjfbgenpcplmcaaM14b
import Derived.Test.YtjfbgenpcplmcaaPmZ
namespace Go.Pm
open Go.Am
set_option linter.unusedVariables false
set_option linter.unusedSimpArgs false
def lexC : List Int → List Int → Int
  | [], [] => 0
  | [], _ :: _ => -1
  | _ :: _, [] => 1
  | a :: l, b :: r => if a < b then -1 else if b < a then 1 else lexC l r
theorem lexC_self : ∀ l : List Int, lexC l l = 0 := by
  intro l
  induction l with
  | nil => rfl
  | cons a l ih => simp [lexC, ih]
theorem lexC_eq : ∀ {l r : List Int}, lexC l r = 0 → l = r := by
  intro l
  induction l with
  | nil => intro r h; cases r with
    | nil => rfl
    | cons b r => simp [lexC] at h
  | cons a l ih => intro r h; cases r with
    | nil => simp [lexC] at h
    | cons b r =>
      simp only [lexC] at h
      split at h
      · omega
      · split at h
        · omega
        · rw [ih h]; congr 1; omega
theorem lexC_rng : ∀ l r : List Int, lexC l r = -1 ∨ lexC l r = 0 ∨ lexC l r = 1 := by
  intro l
  induction l with
  | nil => intro r; cases r <;> simp [lexC]
  | cons a l ih => intro r; cases r with
    | nil => simp [lexC]
    | cons b r =>
      simp only [lexC]
      split
      · simp
      · split
        · simp
        · exact ih r
theorem lexC_swap : ∀ l r : List Int, lexC r l = - lexC l r := by
  intro l
  induction l with
  | nil => intro r; cases r <;> simp [lexC]
  | cons a l ih => intro r; cases r with
    | nil => simp [lexC]
    | cons b r =>
      simp only [lexC]
      rcases Int.lt_trichotomy a b with h | h | h
      · rw [if_neg (by omega), if_pos h, if_pos h]; rfl
      · subst h; simp [ih r]
      · rw [if_pos h, if_neg (by omega), if_pos h]
theorem lexC_trans : ∀ {l r t : List Int}, lexC l r = -1 → lexC r t = -1 → lexC l t = -1 := by
  intro l
  induction l with
  | nil =>
    intro r t h1 h2
    cases t with
    | nil => cases r <;> simp [lexC] at h2
    | cons c t => rfl
  | cons a l ih => intro r t h1 h2; cases r with
    | nil => simp [lexC] at h1
    | cons b r => cases t with
      | nil => simp [lexC] at h2
      | cons c t =>
        simp only [lexC] at h1 h2 ⊢
        by_cases ab : a < b
        · by_cases bc : b < c
          · rw [if_pos (by omega)]
          · rw [if_neg bc] at h2
            split at h2
            · omega
            · rw [if_pos (by omega)]
        · rw [if_neg ab] at h1
          split at h1
          · omega
          · by_cases bc : b < c
            · rw [if_pos (by omega)]
            · rw [if_neg bc] at h2
              split at h2
              · omega
              · rw [if_neg (by omega), if_neg (by omega)]
                exact ih h1 h2
theorem lexC_drop {l r : List Int} : ∀ {k : Nat}, l.take k = r.take k → k ≤ l.length → k ≤ r.length → lexC l r = lexC (l.drop k) (r.drop k) := by
  intro k
  induction k generalizing l r with
  | zero => intro _ _ _; simp
  | succ k ih =>
    intro h h1 h2
    cases l with
    | nil => simp at h1
    | cons a l => cases r with
      | nil => simp at h2
      | cons b r =>
        simp only [List.take_succ_cons, List.cons.injEq] at h
        obtain ⟨rfl, h⟩ := h
        simp only [lexC, Int.lt_irrefl, if_false, List.drop_succ_cons]
        exact ih h (by simpa using h1) (by simpa using h2)
theorem lexC_end {l r : List Int} {k : Nat} (h : l.take k = r.take k) (h1 : k < l.length) (h2 : k = r.length) : lexC l r = 1 := by
  subst h2
  rw [lexC_drop h (by omega) (by omega), List.drop_length, List.drop_eq_getElem_cons h1]
  rfl
theorem lexC_mid {l r : List Int} {k : Nat} (h : l.take k = r.take k) (h1 : k < l.length) (h2 : k < r.length) : lexC l r = if l[k] < r[k] then -1 else if r[k] < l[k] then 1 else lexC (l.drop (k + 1)) (r.drop (k + 1)) := by
  rw [lexC_drop h (by omega) (by omega), List.drop_eq_getElem_cons h1, List.drop_eq_getElem_cons h2]
  rfl
theorem take_step {l r : List Int} {k : Nat} (h1 : k < l.length) (h2 : k < r.length) (h : l.take k = r.take k) (he : l[k] = r[k]) : l.take (k + 1) = r.take (k + 1) := by
  rw [List.take_succ_eq_append_getElem h1, List.take_succ_eq_append_getElem h2, h, he]
theorem p_cmp (a b : Int) : F_cmp_Compare_int a b = some (if a < b then -1 else if b < a then 1 else 0) := by
  unfold F_cmp_Compare_int F_cmp_isNaN_int
  simp only [bne_self_eq_false, Option.bind_some, Bool.false_eq_true, if_false, decide_eq_true_eq]
  split
  · rfl
  · split <;> rfl
theorem p_Compare (l r : List Int) : F_slices_Compare_int_int l r = some (lexC l r) := by
  unfold F_slices_Compare_int_int
  obtain ⟨b, hb, hp⟩ := rloop_post (σ := Unit) (β := Unit ⊕ Int) (body := fun i9 s8 =>
    (ix l i9).bind fun x18 =>
    if decide ((r.length : Int) ≤ i9) = true then (
    some (.out (.inr 1))) else (
    (ix r i9).bind fun x33 =>
    (F_cmp_Compare_int x18 x33).bind fun z40 =>
    if (z40 != 0) = true then (
    some (.out (.inr z40))) else (
    some (.go ())))) (stop := fun s8 => .inl ()) (m := l.length) (i0 := 0) (s0 := ()) (fun k _ => k ≤ r.length ∧ l.take k = r.take k)
    (fun b => Sum.elim (fun _ => if decide ((l.length : Int) < (r.length : Int)) = true then -1 else 0) id b = lexC l r) ⟨by omega, by simp⟩
    (by
      rintro k s hk ⟨h1, h2⟩
      rw [Int.zero_add]
      simp only [ix_at hk, Option.bind_some]
      by_cases hkr : k = r.length
      · subst hkr
        refine .inr ⟨.inr 1, by simp, ?_⟩
        have := lexC_end h2 hk rfl
        simp [this]
      · have hk2 : k < r.length := by omega
        have hne : decide ((r.length : Int) ≤ (k : Int)) = false := by simpa using by omega
        simp only [hne, Bool.false_eq_true, if_false, ix_at hk2, Option.bind_some, p_cmp]
        rcases Int.lt_trichotomy l[k] r[k] with he | he | he
        · refine .inr ⟨.inr (-1), by simp [he], ?_⟩
          have hv := lexC_mid h2 hk hk2
          rw [if_pos he] at hv; simp [hv]
        · exact .inl ⟨(), by simp [he], by omega, take_step hk hk2 h2 he⟩
        · have hn : ¬ l[k] < r[k] := by omega
          refine .inr ⟨.inr 1, by simp [he, hn], ?_⟩
          have hv := lexC_mid h2 hk hk2
          rw [if_neg hn, if_pos he] at hv; simp [hv])
    (by
      rintro s ⟨h1, h2⟩
      simp only [Sum.elim_inl]
      rw [lexC_drop h2 (by omega) h1, List.drop_length]
      cases hd : r.drop l.length with
      | nil =>
        have := congrArg List.length hd
        simp at this
        rw [if_neg (by simp; omega)]; rfl
      | cons c t =>
        have := congrArg List.length hd
        simp at this
        rw [if_pos (by simp; omega)]; rfl)
  rw [hb, Option.bind_some]
  cases b with
  | inl u =>
    simp only [Sum.elim_inl] at hp ⊢
    rw [← hp]; split <;> rfl
  | inr b => simpa using hp
-- valid counts
def sumT (l : List ViewCount) : Int := (l.map (·.Times)).sum
theorem sumT_take {l : List ViewCount} {k : Nat} (h : k < l.length) : sumT (l.take (k + 1)) = sumT (l.take k) + l[k].Times := by
  unfold sumT
  rw [List.take_succ_eq_append_getElem h, List.map_append, List.sum_append]
  simp
def goodAt (l : List ViewCount) (k : Nat) (x : ViewCount) : Prop := 1 ≤ x.Times ∧ x.Times ≤ 1000000 ∧ x.View.length ≤ 24 ∧ ∀ y, 0 < k → l[k - 1]? = some y → lexC y.View x.View = -1
def GoodC (l : List ViewCount) : Prop := l.length ≤ 3000 ∧ (∀ k x, l[k]? = some x → goodAt l k x) ∧ sumT l ≤ 1000000
theorem p_within (a b c : Int) : F_impl_within a b c = some (decide (b ≤ a) && decide (a ≤ c)) := by
  unfold F_impl_within
  by_cases h : b ≤ a <;> simp [h]
theorem p_l1In (a b c : Int) : F_spec_l1In a b c = some (decide (b ≤ a) && decide (a ≤ c)) := by
  unfold F_spec_l1In
  by_cases h : b ≤ a <;> simp [h]
theorem sumT_nonneg {l : List ViewCount} (h : ∀ x ∈ l, 0 ≤ x.Times) : 0 ≤ sumT l := by
  induction l with
  | nil => exact Int.le_refl _
  | cons a l ih =>
    have h1 := h a (List.mem_cons_self ..)
    have h2 := ih fun x hx => h x (List.mem_cons_of_mem _ hx)
    simp only [sumT, List.map_cons, List.sum_cons] at h2 ⊢
    omega
theorem goodAt_iff {l : List ViewCount} {k : Nat} {x y : ViewCount} (hy : 0 < k → l[k - 1]? = some y) : goodAt l k x ↔ 1 ≤ x.Times ∧ x.Times ≤ 1000000 ∧ x.View.length ≤ 24 ∧ (0 < k → lexC y.View x.View = -1) := by
  constructor
  · rintro ⟨h1, h2, h3, h4⟩; exact ⟨h1, h2, h3, fun h => h4 y h (hy h)⟩
  · rintro ⟨h1, h2, h3, h4⟩; exact ⟨h1, h2, h3, fun z h hz => by rw [hy h] at hz; cases hz; exact h4 h⟩
theorem prev_at {l : List ViewCount} {k : Nat} (hk : k < l.length) (hl : l.length ≤ 1048576) (h0 : 0 < k) : ix l (IntKind.i64.wrap ((k : Int) - 1)) = some (l[k - 1]'(by omega)) := by
  rw [wr64 (by omega) (by omega)]
  have : (k : Int) - 1 = ((k - 1 : Nat) : Int) := by omega
  rw [this, ix_at (by omega)]
theorem p_isCount (l : List ViewCount) (hl : l.length ≤ 1048576) (hv : ∀ x ∈ l, x.View.length ≤ 1048576) : ∃ b, F_impl_isCount l = some b ∧ (b = true ↔ GoodC l) := by
  unfold F_impl_isCount
  by_cases h3 : 3000 < (l.length : Int)
  · exact ⟨false, by simp [h3], by simp only [Bool.false_eq_true, false_iff]; rintro ⟨h, _⟩; omega⟩
  · simp only [h3, decide_false, Bool.false_eq_true, if_false]
    have mono : ∀ k, k ≤ l.length → (∀ x ∈ l, 1 ≤ x.Times) → sumT (l.take k) ≤ sumT l := by
      intro k hk h
      have e : sumT l = sumT (l.take k) + sumT (l.drop k) := by
        unfold sumT
        rw [← List.sum_append, ← List.map_append, List.take_append_drop]
      have := sumT_nonneg (l := l.drop k) fun x hx => by have := h x (List.mem_of_mem_drop hx); omega
      omega
    obtain ⟨b, hb, hp⟩ := rloop_post (σ := Int) (β := Unit ⊕ Bool) (body := fun i73 s72 =>
      (ix l i73).bind fun x82 =>
      ((if decide (24 < (x82.View.length : Int)) = true then (
      some true) else (
      (F_impl_within x82.Times 1 (IntKind.i64.wrap (1000000 - s72))).bind fun z100 =>
      if (!z100) = true then (
      some true) else (
      if decide (0 < i73) = true then (
      (ix l (IntKind.i64.wrap (i73 - 1))).bind fun x109 =>
      (F_slices_Compare_int_int x109.View x82.View).bind fun z116 =>
      some (decide (0 ≤ z116))) else (
      some false))) : Option (Bool)).bind fun (x93 : Bool) =>
      if x93 = true then (
      some (.out (.inr false))) else (
      some (.go (IntKind.i64.wrap (s72 + x82.Times)))))) (stop := fun s72 => .inl ()) (m := l.length) (i0 := 0) (s0 := 0)
      (fun n s => s = sumT (l.take n) ∧ 0 ≤ s ∧ s ≤ 1000000 ∧ ∀ k x, k < n → l[k]? = some x → goodAt l k x)
      (fun b => Sum.elim (fun _ => GoodC l) (fun b => b = false ∧ ¬ GoodC l) b) ⟨by simp [sumT], by omega, by omega, fun k x h => by omega⟩
      (by
        rintro k s hk ⟨hs, h0, h1, hI⟩
        rw [Int.zero_add]
        have inner : ∃ b, (if decide (24 < (l[k].View.length : Int)) = true then (
            some true) else (
            (F_impl_within l[k].Times 1 (IntKind.i64.wrap (1000000 - s))).bind fun z100 =>
            if (!z100) = true then (
            some true) else (
            if decide (0 < (k : Int)) = true then (
            (ix l (IntKind.i64.wrap ((k : Int) - 1))).bind fun x109 =>
            (F_slices_Compare_int_int x109.View l[k].View).bind fun z116 =>
            some (decide (0 ≤ z116))) else (
            some false)))) = some b ∧ (b = false ↔ goodAt l k l[k] ∧ l[k].Times ≤ 1000000 - s) := by
          rw [wr64 (by omega) (by omega), p_within, Option.bind_some]
          by_cases h2 : 24 < (l[k].View.length : Int)
          · refine ⟨true, by simp [h2], ?_⟩
            simp only [Bool.true_eq_false, false_iff]
            rintro ⟨⟨_, _, h, _⟩, _⟩; omega
          · by_cases h4 : 1 ≤ l[k].Times ∧ l[k].Times ≤ 1000000 - s
            · by_cases h5 : 0 < k
              · rw [prev_at hk hl h5]
                have hm := hv (l[k - 1]'(by omega)) (List.getElem_mem _)
                have hm2 := hv l[k] (List.getElem_mem _)
                refine ⟨decide (0 ≤ lexC (l[k - 1]'(by omega)).View l[k].View), by simp [h4, h2, h5, p_Compare _ _], ?_⟩
                rw [goodAt_iff (y := l[k - 1]'(by omega)) (fun _ => List.getElem?_eq_getElem _)]
                have hr := lexC_rng (l[k - 1]'(by omega)).View l[k].View
                simp [h4.1, h4.2, h5]; omega
              · refine ⟨false, by simp [h4, h2, h5], ?_⟩
                simp only [true_iff]
                exact ⟨⟨h4.1, by omega, by omega, fun y h => absurd h h5⟩, h4.2⟩
            · refine ⟨true, ?_, ?_⟩
              · have : (decide (1 ≤ l[k].Times) && decide (l[k].Times ≤ 1000000 - s)) = false := by simp; omega
                simp [this]
              · simp only [Bool.true_eq_false, false_iff]
                rintro ⟨⟨a, b, _⟩, c⟩; exact h4 ⟨a, c⟩
        obtain ⟨b, hb, hb2⟩ := inner
        simp only [ix_at hk, Option.bind_some]
        rw [hb, Option.bind_some]
        cases b with
        | true =>
          refine .inr ⟨.inr false, rfl, rfl, fun h => ?_⟩
          have hT : ∀ x ∈ l, 1 ≤ x.Times := by
            intro x hx
            obtain ⟨j, hj⟩ := List.getElem?_of_mem hx
            exact (h.2.1 j x hj).1
          have h6 := mono (k + 1) (by omega) hT
          rw [sumT_take hk, ← hs] at h6
          have := hb2.2 ⟨h.2.1 k _ (List.getElem?_eq_getElem hk), by have := h.2.2; omega⟩
          cases this
        | false =>
          obtain ⟨h6, h7⟩ := hb2.1 rfl
          have h8 := h6.1
          refine .inl ⟨s + l[k].Times, by simp only [Bool.false_eq_true, if_false]; rw [wr64 (by omega) (by omega)], by rw [sumT_take hk, hs], by omega, by omega, fun j x hj hx => ?_⟩
          by_cases hjk : j = k
          · subst hjk
            rw [List.getElem?_eq_getElem hk] at hx; cases hx
            exact h6
          · exact hI j x (by omega) hx)
      (by
        rintro s ⟨hs, h0, h1, hI⟩
        rw [List.take_length] at hs
        exact ⟨by omega, fun k x hx => hI k x (List.getElem?_eq_some_iff.1 hx).1 hx, by omega⟩)
    rw [hb, Option.bind_some]
    cases b with
    | inl u => exact ⟨true, rfl, by simpa using hp⟩
    | inr b =>
      simp only [Sum.elim_inr] at hp ⊢
      exact ⟨b, rfl, by rw [hp.1]; simp only [Bool.false_eq_true, false_iff]; exact hp.2⟩
theorem mid_eq {lo hi n : Nat} (h : lo ≤ hi) (hn : hi ≤ n) (hs : n ≤ 1048576) : IntKind.i64.wrap ((IntKind.u64.wrap (IntKind.i64.wrap ((lo : Int) + (hi : Int)))).fdiv 2) = (((lo + hi) / 2 : Nat) : Int) := by
  rw [wr64 (n := (lo : Int) + hi) (by omega) (by omega), wrU (by omega) (by omega)]
  have : ((lo : Int) + (hi : Int)).fdiv 2 = (((lo + hi) / 2 : Nat) : Int) := by
    rw [Int.fdiv_eq_ediv_of_nonneg _ (by omega)]; omega
  rw [this, wr64 (by omega) (by omega)]
def gv (l : List ViewCount) (i : Nat) : ViewCount := l.getD i ⟨[], 0⟩
theorem gv_at {l : List ViewCount} {i : Nat} (h : i < l.length) : gv l i = l[i] := by simp [gv, h]
theorem gv_get {l : List ViewCount} {i : Nat} (h : i < l.length) : l[i]? = some (gv l i) := by rw [gv_at h, List.getElem?_eq_getElem h]
theorem gv_ix {l : List ViewCount} {i : Nat} (h : i < l.length) : ix l (i : Int) = some (gv l i) := by rw [ix_at h, gv_at h]
theorem gv_set {l : List ViewCount} {i j : Nat} {x : ViewCount} (h : i < l.length) : gv (l.set i x) j = if j = i then x else gv l j := by
  unfold gv
  simp only [List.getD_eq_getElem?_getD, List.getElem?_set]
  by_cases e : i = j
  · subst e; simp [h]
  · have e' : ¬ j = i := fun h => e h.symm
    simp [e, e']
def leV (x y : ViewCount) : Prop := lexC x.View y.View ≠ 1
def ltV (x y : ViewCount) : Prop := lexC x.View y.View = -1
theorem leV_of_lt {x y : ViewCount} (h : ltV x y) : leV x y := by unfold leV ltV at *; omega
theorem leV_of_nlt {x y : ViewCount} (h : ¬ ltV x y) : leV y x := by
  unfold leV ltV at *
  have := lexC_swap x.View y.View
  have := lexC_rng x.View y.View
  omega
theorem leV_refl (x : ViewCount) : leV x x := by unfold leV; rw [lexC_self]; omega
theorem leV_trans {x y z : ViewCount} (h1 : leV x y) (h2 : leV y z) : leV x z := by
  unfold leV at *
  intro h
  have r1 := lexC_rng x.View y.View
  have r2 := lexC_rng y.View z.View
  rcases r1 with r1 | r1 | r1
  · rcases r2 with r2 | r2 | r2
    · rw [lexC_trans r1 r2] at h; omega
    · rw [← lexC_eq r2] at h; omega
    · exact h2 r2
  · rw [lexC_eq r1] at h; exact h2 h
  · exact h1 r1
theorem p_cmpV (x y : ViewCount) : F_impl_gathered_1 x y = some (lexC x.View y.View) := by
  unfold F_impl_gathered_1
  rw [p_Compare]; rfl
structure Seg (l r : List ViewCount) (a b : Nat) : Prop where
  len : r.length = l.length
  perm : r.Perm l
  out : ∀ i, i < a ∨ b ≤ i → gv r i = gv l i
  all : ∀ p : ViewCount → Prop, (∀ i, a ≤ i → i < b → p (gv l i)) → ∀ i, a ≤ i → i < b → p (gv r i)
theorem Seg.refl (l : List ViewCount) (a b : Nat) : Seg l l a b := ⟨rfl, .refl _, fun _ _ => rfl, fun _ h => h⟩
theorem Seg.trans {l r t : List ViewCount} {a b : Nat} (h : Seg l r a b) (h' : Seg r t a b) : Seg l t a b :=
  ⟨h'.len.trans h.len, h'.perm.trans h.perm, fun i hi => (h'.out i hi).trans (h.out i hi), fun p hp => h'.all p (h.all p hp)⟩
theorem Seg.wide {l r : List ViewCount} {a b a' b' : Nat} (h : Seg l r a b) (ha : a' ≤ a) (hb : b ≤ b') : Seg l r a' b' :=
  ⟨h.len, h.perm, fun i hi => h.out i (by omega), fun p hp i h1 h2 => by
    by_cases hi : a ≤ i ∧ i < b
    · exact h.all p (fun j h3 h4 => hp j (by omega) (by omega)) i hi.1 hi.2
    · rw [h.out i (by omega)]; exact hp i h1 h2⟩
theorem swap_perm : ∀ {l : List ViewCount} {i j : Nat}, i < j → j < l.length → ((l.set i (gv l j)).set j (gv l i)).Perm l := by
  intro l
  induction l with
  | nil => intro i j _ h; simp at h
  | cons x l ih =>
    intro i j hij hj
    cases j with
    | zero => omega
    | succ j =>
      cases i with
      | succ i =>
        have := ih (i := i) (j := j) (by omega) (by simpa using hj)
        simpa [gv] using this
      | zero =>
        have hj' : j < l.length := by simpa using hj
        have e1 : gv (x :: l) (j + 1) = l[j] := by rw [gv_at hj]; rfl
        have e2 : gv (x :: l) 0 = x := rfl
        rw [e1, e2]
        simp only [List.set_cons_zero, List.set_cons_succ]
        have h1 : l.set j x = l.take j ++ x :: l.drop (j + 1) := by rw [List.set_eq_take_append_cons_drop, if_pos hj']
        have h2 : l = l.take j ++ l[j] :: l.drop (j + 1) := by
          rw [← List.drop_eq_getElem_cons hj', List.take_append_drop]
        rw [h1]
        have p1 : (l[j] :: (l.take j ++ x :: l.drop (j + 1))).Perm (l[j] :: x :: (l.take j ++ l.drop (j + 1))) := .cons _ List.perm_middle
        have p2 : (x :: l).Perm (x :: l[j] :: (l.take j ++ l.drop (j + 1))) := .cons _ (by
          have := List.perm_middle (a := l[j]) (l₁ := l.take j) (l₂ := l.drop (j + 1))
          rw [← h2] at this; exact this)
        exact (p1.trans (.swap _ _ _)).trans p2.symm
theorem swap_perm' {l : List ViewCount} {i j : Nat} (h : i ≠ j) (hi : i < l.length) (hj : j < l.length) : ((l.set i (gv l j)).set j (gv l i)).Perm l := by
  rcases Nat.lt_or_ge i j with h1 | h1
  · exact swap_perm h1 hj
  · have := swap_perm (l := l) (i := j) (j := i) (by omega) hi
    rwa [List.set_comm _ _ (by omega)] at this
theorem gv_swap {l : List ViewCount} {i j k : Nat} (hi : i < l.length) (hj : j < l.length) : gv ((l.set i (gv l j)).set j (gv l i)) k = if k = j then gv l i else if k = i then gv l j else gv l k := by
  rw [gv_set (by simpa using hj), gv_set hi]
theorem seg_swap {l : List ViewCount} {i j a b : Nat} (h : i ≠ j) (hi : i < l.length) (hj : j < l.length) (a1 : a ≤ i) (a2 : i < b) (b1 : a ≤ j) (b2 : j < b) : Seg l ((l.set i (gv l j)).set j (gv l i)) a b := by
  refine ⟨by simp, swap_perm' h hi hj, fun k hk => ?_, fun p hp k h1 h2 => ?_⟩
  · rw [gv_swap hi hj, if_neg (by omega), if_neg (by omega)]
  · rw [gv_swap hi hj]
    split
    · exact hp i a1 a2
    · split
      · exact hp j b1 b2
      · exact hp k h1 h2
def Srt (l : List ViewCount) (a b : Nat) : Prop := ∀ i j, a ≤ i → i < j → j < b → leV (gv l i) (gv l j)
theorem Srt.le {l : List ViewCount} {a b i j : Nat} (h : Srt l a b) (h1 : a ≤ i) (h2 : i ≤ j) (h3 : j < b) : leV (gv l i) (gv l j) := by
  rcases Nat.lt_or_ge i j with h4 | h4
  · exact h i j h1 h4 h3
  · have : i = j := by omega
    subst this; exact leV_refl _
theorem p_insertion (l : List ViewCount) (a b : Nat) (hab : a ≤ b) (hb : b ≤ l.length) (hl : l.length ≤ 1048576) :
    ∃ r, F_slices_insertionSortCmpFunc_impl_ViewCount__io0_impl_gathered_1 l (a : Int) (b : Int) = some r ∧ Seg l r a b ∧ Srt r a b := by
  unfold F_slices_insertionSortCmpFunc_impl_ViewCount__io0_impl_gathered_1
  rw [wr64 (by omega) (by omega)]
  refine wloop_post (fun n s => ∃ (r : List ViewCount) (i : Nat), s = (r, (i : Int)) ∧ a < i ∧ n = b - i ∧ Seg l r a b ∧ Srt r a (min i b)) (fun r => Seg l r a b ∧ Srt r a b) ?_ (b - (a + 1)) (l, (a : Int) + 1)
    ⟨l, a + 1, by simp, by omega, rfl, .refl l a b, fun i j h1 h2 h3 => by omega⟩
  rintro n s ⟨r, i, rfl, h1, h2, h3, h4⟩
  simp only
  have hrl := h3.len
  by_cases hib : i < b
  · have hd : decide ((i : Int) < (b : Int)) = true := by simpa using hib
    simp only [hd, if_true]
    obtain ⟨r2, e1, e2⟩ := wloop_post (σ := (List ViewCount) × Int) (β := (List ViewCount)) (step := fun s229 =>
      ((if decide ((a : Int) < s229.2) = true then (
      (ix s229.1 s229.2).bind fun x245 =>
      (ix s229.1 (IntKind.i64.wrap (s229.2 - 1))).bind fun x252 =>
      (F_impl_gathered_1 x245 x252).bind fun z259 =>
      some (decide (z259 < 0))) else (
      some false) : Option (Bool)).bind fun (x241 : Bool) =>
      if x241 = true then (
      (ix s229.1 (IntKind.i64.wrap (s229.2 - 1))).bind fun x267 =>
      (ix s229.1 s229.2).bind fun x274 =>
      (ix (s229.1.set s229.2.toNat x267) (IntKind.i64.wrap (s229.2 - 1))).bind fun x281 =>
      some (.go ((s229.1.set s229.2.toNat x267).set ((IntKind.i64.wrap (s229.2 - 1)).toNat) x274, IntKind.i64.wrap (s229.2 - 1)))) else (
      some (.out s229.1))))
      (fun n s => ∃ (q : List ViewCount) (j : Nat), s = (q, (j : Int)) ∧ n = j ∧ a ≤ j ∧ j ≤ i ∧ Seg l q a b ∧ ∀ x y, a ≤ x → x < y → y ≤ i → y ≠ j → leV (gv q x) (gv q y))
      (fun q => Seg l q a b ∧ Srt q a (i + 1))
      (by
        rintro n s ⟨q, j, rfl, k1, k2, k3, k4, k5⟩
        simp only
        have hql := k4.len
        by_cases haj : a < j
        · have hd : decide ((a : Int) < (j : Int)) = true := by simpa using haj
          have ej : (j : Int) - 1 = ((j - 1 : Nat) : Int) := by omega
          rw [wr64 (n := (j : Int) - 1) (by omega) (by omega), ej]
          simp only [hd, if_true, gv_ix (l := q) (i := j) (by omega), gv_ix (l := q) (i := j - 1) (by omega), Option.bind_some, p_cmpV]
          by_cases hc : ltV (gv q j) (gv q (j - 1))
          · have hc' : lexC (gv q j).View (gv q (j - 1)).View = -1 := hc
            rw [hc']
            refine .inl ⟨((q.set j (gv q (j - 1))).set (j - 1) (gv q j), ((j - 1 : Nat) : Int)), j - 1, ?_, by omega, _, j - 1, rfl, rfl, by omega, by omega, k4.trans (seg_swap (by omega) (by omega) (by omega) (by omega) (by omega) (by omega) (by omega)), ?_⟩
            · simp only [show decide ((-1 : Int) < 0) = true from rfl, if_true, Int.toNat_natCast]
              rw [gv_ix (by simp; omega)]
              rfl
            · intro x y x1 x2 x3 x4
              rw [gv_swap (by omega) (by omega), gv_swap (by omega) (by omega), if_neg x4]
              by_cases y1 : y = j
              · rw [if_pos y1]
                by_cases x5 : x = j - 1
                · rw [if_pos x5]; exact leV_of_lt hc
                · rw [if_neg x5, if_neg (by omega)]
                  exact k5 x (j - 1) x1 (by omega) (by omega) (by omega)
              · rw [if_neg y1]
                by_cases x5 : x = j - 1
                · rw [if_pos x5]; exact k5 j y (by omega) (by omega) x3 y1
                · rw [if_neg x5]
                  by_cases x6 : x = j
                  · rw [if_pos x6]; exact k5 (j - 1) y (by omega) (by omega) x3 y1
                  · rw [if_neg x6]; exact k5 x y x1 x2 x3 y1
          · have hn : decide (lexC (gv q j).View (gv q (j - 1)).View < 0) = false := by
              have := lexC_rng (gv q j).View (gv q (j - 1)).View
              have hc : ¬ lexC (gv q j).View (gv q (j - 1)).View = -1 := hc
              simp; omega
            refine .inr ⟨q, by simp [hn], k4, fun x y x1 x2 x3 => ?_⟩
            by_cases y1 : y = j
            · subst y1
              by_cases x5 : x = y - 1
              · rw [x5]; exact leV_of_nlt hc
              · exact leV_trans (k5 x (y - 1) x1 (by omega) (by omega) (by omega)) (leV_of_nlt hc)
            · exact k5 x y x1 x2 (by omega) y1
        · have hd : decide ((a : Int) < (j : Int)) = false := by simpa using haj
          refine .inr ⟨q, by simp [haj], k4, fun x y x1 x2 x3 => k5 x y x1 x2 (by omega) (by omega)⟩)
      i (r, (i : Int)) ⟨r, i, rfl, rfl, by omega, by omega, h3, fun x y x1 x2 x3 x4 => h4 x y x1 x2 (by omega)⟩
    rw [e1, Option.bind_some]
    refine .inl ⟨(r2, (i : Int) + 1), b - (i + 1), by rw [wr64 (by omega) (by omega)], by omega, r2, i + 1, by simp, by omega, rfl, e2.1, ?_⟩
    rw [Nat.min_eq_left (by omega)]
    exact e2.2
  · have hd : decide ((i : Int) < (b : Int)) = false := by simpa using hib
    refine .inr ⟨r, by simp [hib], h3, ?_⟩
    rw [Nat.min_eq_right (by omega)] at h4
    exact h4
theorem p_swapRange (l : List ViewCount) (a b n : Nat) (hab : a + n ≤ b) (hb : b + n ≤ l.length) (hl : l.length ≤ 1048576) :
    ∃ r, F_slices_swapRangeCmpFunc_impl_ViewCount__io0_impl_gathered_1 l (a : Int) (b : Int) (n : Int) = some r ∧ Seg l r a (b + n) ∧
      ∀ k, gv r k = if a ≤ k ∧ k < a + n then gv l (k - a + b) else if b ≤ k ∧ k < b + n then gv l (k - b + a) else gv l k := by
  unfold F_slices_swapRangeCmpFunc_impl_ViewCount__io0_impl_gathered_1
  refine cloop_post n (fun i s => ∃ r, s = (r, (i : Int)) ∧ Seg l r a (b + n) ∧ ∀ k, gv r k = if a ≤ k ∧ k < a + i then gv l (k - a + b) else if b ≤ k ∧ k < b + i then gv l (k - b + a) else gv l k) _
    ⟨l, rfl, .refl _ _ _, fun k => by rw [if_neg (by omega), if_neg (by omega)]⟩ ?_ ?_
  · rintro i s hi ⟨r, rfl, h1, h2⟩
    have hrl := h1.len
    have hd : decide ((i : Int) < (n : Int)) = true := by simpa using hi
    have e1 : IntKind.i64.wrap ((b : Int) + (i : Int)) = ((b + i : Nat) : Int) := by rw [wr64 (by omega) (by omega)]; simp
    have e2 : IntKind.i64.wrap ((a : Int) + (i : Int)) = ((a + i : Nat) : Int) := by rw [wr64 (by omega) (by omega)]; simp
    refine .inl ⟨(((r.set (a + i) (gv r (b + i))).set (b + i) (gv r (a + i))), (i : Int) + 1), ?_, (r.set (a + i) (gv r (b + i))).set (b + i) (gv r (a + i)), by simp, h1.trans (seg_swap (i := a + i) (j := b + i) (by omega) (by omega) (by omega) (by omega) (by omega) (by omega) (by omega)), fun k => ?_⟩
    · simp only [hd, if_true, e1, e2, gv_ix (l := r) (i := b + i) (by omega), gv_ix (l := r) (i := a + i) (by omega), Option.bind_some, Int.toNat_natCast]
      rw [gv_ix (by simp; omega), Option.bind_some, wr64 (by omega) (by omega)]
    · have ea : gv r (a + i) = gv l (a + i) := by rw [h2, if_neg (by omega), if_neg (by omega)]
      have eb : gv r (b + i) = gv l (b + i) := by rw [h2, if_neg (by omega), if_neg (by omega)]
      rw [gv_swap (by omega) (by omega), ea, eb, h2 k]
      by_cases c1 : k = b + i
      · rw [if_pos c1, if_neg (by omega), if_pos (by omega), c1]
        congr 1; omega
      · rw [if_neg c1]
        by_cases c2 : k = a + i
        · rw [if_pos c2, if_pos (by omega), c2]
          congr 1; omega
        · rw [if_neg c2]
          by_cases c3 : a ≤ k ∧ k < a + i
          · rw [if_pos c3, if_pos (by omega)]
          · rw [if_neg c3]
            by_cases c4 : b ≤ k ∧ k < b + i
            · rw [if_pos c4, if_neg (by omega), if_pos (by omega)]
            · rw [if_neg c4, if_neg (by omega), if_neg (by omega)]
  · rintro s ⟨r, rfl, h1, h2⟩
    exact ⟨r, by simp, h1, h2⟩
def rotf (f : Nat → ViewCount) (a m b k : Nat) : ViewCount := if a ≤ k ∧ k < a + (b - m) then f (k + (m - a)) else if a + (b - m) ≤ k ∧ k < b then f (k - (b - m)) else f k
theorem rotf_l {f g : Nat → ViewCount} {m i j : Nat} (hi : i ≤ m) (hij : j < i) (hg : ∀ k, g k = if m - i ≤ k ∧ k < m - i + j then f (k - (m - i) + m) else if m ≤ k ∧ k < m + j then f (k - m + (m - i)) else f k) (k : Nat) :
    rotf g (m - (i - j)) m (m + j) k = rotf f (m - i) m (m + j) k := by
  unfold rotf
  by_cases c1 : k < m - i
  · rw [if_neg (by omega), if_neg (by omega), hg k, if_neg (by omega), if_neg (by omega), if_neg (by omega), if_neg (by omega)]
  · by_cases c2 : k < m - i + j
    · rw [if_neg (by omega), if_neg (by omega), hg k, if_pos (by omega), if_pos (by omega)]
      congr 1; omega
    · by_cases c3 : k < m - (i - j) + j
      · rw [if_pos (by omega), hg, if_neg (by omega), if_pos (by omega), if_neg (by omega), if_pos (by omega)]
        congr 1; omega
      · by_cases c4 : k < m + j
        · rw [if_neg (by omega), if_pos (by omega), hg, if_neg (by omega), if_neg (by omega), if_neg (by omega), if_pos (by omega)]
        · rw [if_neg (by omega), if_neg (by omega), hg, if_neg (by omega), if_neg (by omega), if_neg (by omega), if_neg (by omega)]
theorem rotf_r {f g : Nat → ViewCount} {m i j : Nat} (hi : i ≤ m) (hij : i < j) (hg : ∀ k, g k = if m - i ≤ k ∧ k < m - i + i then f (k - (m - i) + (m + j - i)) else if m + j - i ≤ k ∧ k < m + j - i + i then f (k - (m + j - i) + (m - i)) else f k) (k : Nat) :
    rotf g (m - i) m (m + (j - i)) k = rotf f (m - i) m (m + j) k := by
  unfold rotf
  by_cases c1 : k < m - i
  · rw [if_neg (by omega), if_neg (by omega), hg k, if_neg (by omega), if_neg (by omega), if_neg (by omega), if_neg (by omega)]
  · by_cases c2 : k < m + j - i - i
    · rw [if_pos (by omega), hg, if_neg (by omega), if_neg (by omega), if_pos (by omega)]
    · by_cases c3 : k < m + j - i
      · rw [if_neg (by omega), if_pos (by omega), hg, if_pos (by omega), if_pos (by omega)]
        congr 1; omega
      · by_cases c4 : k < m + j
        · rw [if_neg (by omega), if_neg (by omega), hg, if_neg (by omega), if_pos (by omega), if_neg (by omega), if_pos (by omega)]
          congr 1; omega
        · rw [if_neg (by omega), if_neg (by omega), hg, if_neg (by omega), if_neg (by omega), if_neg (by omega), if_neg (by omega)]
theorem rotf_e {f g : Nat → ViewCount} {m i : Nat} (hi : i ≤ m) (hg : ∀ k, g k = if m - i ≤ k ∧ k < m - i + i then f (k - (m - i) + m) else if m ≤ k ∧ k < m + i then f (k - m + (m - i)) else f k) (k : Nat) :
    g k = rotf f (m - i) m (m + i) k := by
  unfold rotf
  rw [hg k]
  by_cases c1 : m - i ≤ k ∧ k < m - i + i
  · rw [if_pos c1, if_pos (by omega)]; congr 1; omega
  · rw [if_neg c1]
    by_cases c2 : m ≤ k ∧ k < m + i
    · rw [if_pos c2, if_neg (by omega), if_pos (by omega)]; congr 1; omega
    · rw [if_neg c2, if_neg (by omega), if_neg (by omega)]
theorem p_rotate (l : List ViewCount) (a m b : Nat) (ham : a < m) (hmb : m < b) (hb : b ≤ l.length) (hl : l.length ≤ 1048576) :
    ∃ r, F_slices_rotateCmpFunc_impl_ViewCount__io0_impl_gathered_1 l (a : Int) (m : Int) (b : Int) = some r ∧ Seg l r a b ∧ ∀ k, gv r k = rotf (gv l) a m b k := by
  unfold F_slices_rotateCmpFunc_impl_ViewCount__io0_impl_gathered_1
  rw [wr64 (n := (m : Int) - a) (by omega) (by omega), wr64 (n := (b : Int) - m) (by omega) (by omega)]
  obtain ⟨x, e, r, i, hx, h0, him, hir, h1, h2⟩ := wloop_post (σ := (List ViewCount) × Int × Int) (β := ((List ViewCount) × Int)) (step := fun s31 =>
    if (s31.2.1 != s31.2.2) = true then (
    if decide (s31.2.2 < s31.2.1) = true then (
    (F_slices_swapRangeCmpFunc_impl_ViewCount__io0_impl_gathered_1 s31.1 (IntKind.i64.wrap ((m : Int) - s31.2.1)) (m : Int) s31.2.2).bind fun z43 =>
    some (.go (z43, IntKind.i64.wrap (s31.2.1 - s31.2.2), s31.2.2))) else (
    (F_slices_swapRangeCmpFunc_impl_ViewCount__io0_impl_gathered_1 s31.1 (IntKind.i64.wrap ((m : Int) - s31.2.1)) (IntKind.i64.wrap ((IntKind.i64.wrap ((m : Int) + s31.2.2)) - s31.2.1)) s31.2.1).bind fun z48 =>
    some (.go (z48, s31.2.1, IntKind.i64.wrap (s31.2.2 - s31.2.1))))) else (
    some (.out (s31.1, s31.2.1))))
    (fun n s => ∃ (r : List ViewCount) (i j : Nat), s = (r, (i : Int), (j : Int)) ∧ n = i + j ∧ 0 < i ∧ 0 < j ∧ i ≤ m - a ∧ j ≤ b - m ∧ Seg l r a b ∧ ∀ k, rotf (gv r) (m - i) m (m + j) k = rotf (gv l) a m b k)
    (fun x => ∃ (r : List ViewCount) (i : Nat), x = (r, (i : Int)) ∧ 0 < i ∧ i ≤ m - a ∧ i ≤ b - m ∧ Seg l r a b ∧ ∀ k, rotf (gv r) (m - i) m (m + i) k = rotf (gv l) a m b k)
    (by
      rintro n s ⟨r, i, j, rfl, h1, h2, h3, h4, h5, h6, h7⟩
      have hrl := h6.len
      simp only
      by_cases c1 : i = j
      · subst c1
        exact .inr ⟨(r, (i : Int)), by simp, r, i, rfl, h2, h4, h5, h6, h7⟩
      · have hne : ((i : Int) != (j : Int)) = true := by simp; omega
        have e1 : IntKind.i64.wrap ((m : Int) - (i : Int)) = ((m - i : Nat) : Int) := by rw [wr64 (by omega) (by omega)]; omega
        rw [if_pos hne, e1]
        by_cases c2 : j < i
        · have hd : decide ((j : Int) < (i : Int)) = true := by simpa using c2
          obtain ⟨r2, s1, s2, s3⟩ := p_swapRange r (m - i) m j (by omega) (by omega) (by omega)
          rw [if_pos hd, s1, Option.bind_some]
          refine .inl ⟨(r2, ((i - j : Nat) : Int), (j : Int)), i - j + j, ?_, by omega, r2, i - j, j, rfl, rfl, by omega, h3, by omega, h5, h6.trans (s2.wide (by omega) (by omega)), fun k => ?_⟩
          · rw [wr64 (by omega) (by omega)]; congr 4; omega
          · rw [rotf_l (by omega) c2 s3, h7]
        · have hd : decide ((j : Int) < (i : Int)) = false := by simpa using c2
          have e2 : IntKind.i64.wrap ((IntKind.i64.wrap ((m : Int) + (j : Int))) - (i : Int)) = ((m + j - i : Nat) : Int) := by rw [wr64 (n := (m : Int) + j) (by omega) (by omega), wr64 (by omega) (by omega)]; omega
          obtain ⟨r2, s1, s2, s3⟩ := p_swapRange r (m - i) (m + j - i) i (by omega) (by omega) (by omega)
          rw [if_neg (by simp [hd]; omega), e2, s1, Option.bind_some]
          refine .inl ⟨(r2, (i : Int), ((j - i : Nat) : Int)), i + (j - i), ?_, by omega, r2, i, j - i, rfl, rfl, h2, by omega, h4, by omega, h6.trans (s2.wide (by omega) (by omega)), fun k => ?_⟩
          · rw [wr64 (by omega) (by omega)]; congr 4; omega
          · rw [rotf_r (by omega) (by omega) s3, h7])
    ((m - a) + (b - m)) (l, (m : Int) - a, (b : Int) - m) ⟨l, m - a, b - m, by congr 2 <;> omega, rfl, by omega, by omega, by omega, by omega, .refl _ _ _, fun k => by
      have e1 : m - (m - a) = a := by omega
      have e2 : m + (b - m) = b := by omega
      rw [e1, e2]⟩
  subst hx
  have hrl := h1.len
  rw [e, Option.bind_some]
  obtain ⟨r2, s1, s2, s3⟩ := p_swapRange r (m - i) m i (by omega) (by omega) (by omega)
  have e1 : IntKind.i64.wrap ((m : Int) - (i : Int)) = ((m - i : Nat) : Int) := by rw [wr64 (by omega) (by omega)]; omega
  simp only [e1, s1, Option.bind_some]
  exact ⟨r2, rfl, h1.trans (s2.wide (by omega) (by omega)), fun k => by rw [rotf_e (by omega) s3, h2]⟩
structure RotOK (l r : List ViewCount) (a s m e b : Nat) : Prop where
  h1 : a ≤ s
  h2 : s ≤ m
  h3 : m ≤ e
  h4 : e ≤ b
  sa : Srt l a m
  sb : Srt l m b
  c1 : ∀ i j, a ≤ i → i < s → e ≤ j → j < b → leV (gv l i) (gv l j)
  c2 : ∀ i j, m ≤ i → i < e → s ≤ j → j < m → leV (gv l i) (gv l j)
  rot : ∀ k, gv r k = rotf (gv l) s m e k
section
variable {l r : List ViewCount} {a s m e b : Nat}
theorem RotOK.lo (h : RotOK l r a s m e b) {x : Nat} (hx : x < s) : gv r x = gv l x := by
  have := h.h2; have := h.h3
  rw [h.rot, rotf, if_neg (by omega), if_neg (by omega)]
theorem RotOK.l1 (h : RotOK l r a s m e b) {x : Nat} (h1 : s ≤ x) (h2 : x < s + (e - m)) : gv r x = gv l (x + (m - s)) := by
  rw [h.rot, rotf, if_pos ⟨h1, h2⟩]
theorem RotOK.l2 (h : RotOK l r a s m e b) {x : Nat} (h1 : s + (e - m) ≤ x) (h2 : x < e) : gv r x = gv l (x - (e - m)) := by
  rw [h.rot, rotf, if_neg (by omega), if_pos ⟨h1, h2⟩]
theorem RotOK.hi (h : RotOK l r a s m e b) {x : Nat} (h1 : e ≤ x) : gv r x = gv l x := by
  have := h.h2; have := h.h3
  rw [h.rot, rotf, if_neg (by omega), if_neg (by omega)]
theorem RotOK.cross (h : RotOK l r a s m e b) {i j : Nat} (hi : a ≤ i) (hi2 : i < s + (e - m)) (hj : s + (e - m) ≤ j) (hj2 : j < b) : leV (gv r i) (gv r j) := by
  have q1 := h.h1; have q2 := h.h2; have q3 := h.h3; have q4 := h.h4
  by_cases a1 : i < s
  · rw [h.lo a1]
    by_cases b1 : j < e
    · rw [h.l2 hj b1]
      exact h.sa i _ hi (by omega) (by omega)
    · rw [h.hi (by omega)]
      exact h.c1 i j hi a1 (by omega) hj2
  · rw [h.l1 (by omega) hi2]
    by_cases b1 : j < e
    · rw [h.l2 hj b1]
      exact h.c2 _ _ (by omega) (by omega) (by omega) (by omega)
    · rw [h.hi (by omega)]
      exact h.sb _ j (by omega) (by omega) hj2
theorem RotOK.s1 (h : RotOK l r a s m e b) : Srt r a s := fun i j h1 h2 h3 => by
  have q2 := h.h2
  rw [h.lo (by omega), h.lo h3]; exact h.sa i j h1 h2 (by omega)
theorem RotOK.s2 (h : RotOK l r a s m e b) : Srt r s (s + (e - m)) := fun i j h1 h2 h3 => by
  have q2 := h.h2; have q4 := h.h4
  rw [h.l1 h1 (by omega), h.l1 (by omega) h3]; exact h.sb _ _ (by omega) (by omega) (by omega)
theorem RotOK.s3 (h : RotOK l r a s m e b) : Srt r (s + (e - m)) e := fun i j h1 h2 h3 => by
  have q1 := h.h1; have q2 := h.h2; have q3 := h.h3
  rw [h.l2 h1 (by omega), h.l2 (by omega) h3]; exact h.sa _ _ (by omega) (by omega) (by omega)
theorem RotOK.s4 (h : RotOK l r a s m e b) : Srt r e b := fun i j h1 h2 h3 => by
  have q3 := h.h3
  rw [h.hi h1, h.hi (by omega)]; exact h.sb i j (by omega) h2 h3
theorem srt_join {x : List ViewCount} {t : Nat} (h1 : Srt x a t) (h2 : Srt x t b) (h : ∀ i j, a ≤ i → i < t → t ≤ j → j < b → leV (gv x i) (gv x j)) : Srt x a b := fun i j hi hij hj => by
  by_cases c1 : j < t
  · exact h1 i j hi hij c1
  · by_cases c2 : i < t
    · exact h i j hi c2 (by omega) hj
    · exact h2 i j (by omega) hij hj
end
theorem Seg.cross {l r : List ViewCount} {a t b : Nat} (h1 : Seg l r a t) (h : ∀ i j, a ≤ i → i < t → t ≤ j → j < b → leV (gv l i) (gv l j)) : ∀ i j, a ≤ i → i < t → t ≤ j → j < b → leV (gv r i) (gv r j) := by
  intro i j h2 h3 h4 h5
  rw [h1.out j (by omega)]
  exact h1.all (fun x => leV x (gv l j)) (fun k k1 k2 => h k j k1 k2 h4 h5) i h2 h3
theorem Seg.cross' {l r : List ViewCount} {a t b : Nat} (h1 : Seg l r t b) (h : ∀ i j, a ≤ i → i < t → t ≤ j → j < b → leV (gv l i) (gv l j)) : ∀ i j, a ≤ i → i < t → t ≤ j → j < b → leV (gv r i) (gv r j) := by
  intro i j h2 h3 h4 h5
  rw [h1.out i (by omega)]
  exact h1.all (fun x => leV (gv l i) x) (fun k k1 k2 => h i k h2 h3 k1 k2) j h4 h5
theorem Seg.srt {l r : List ViewCount} {a b c d : Nat} (h : Seg l r a b) (hs : Srt l c d) (hd : d ≤ a ∨ b ≤ c) : Srt r c d := fun i j h1 h2 h3 => by
  rw [h.out i (by omega), h.out j (by omega)]; exact hs i j h1 h2 h3
theorem nat_wrap {n : Int} {k : Nat} (h : n = (k : Int)) (hk : k ≤ 4194304) : IntKind.i64.wrap n = (k : Int) := by rw [wr64 (by omega) (by omega), h]
theorem p_moveR (l : List ViewCount) (a t : Nat) (hat : a ≤ t) (ht : t < l.length) (hl : l.length ≤ 1048576) : ∃ r, wloop (σ := (List ViewCount) × Int) (β := (List ViewCount)) (fun s88 =>
    if decide (s88.2 < (t : Int)) = true then (
    (ix s88.1 (IntKind.i64.wrap (s88.2 + 1))).bind fun x98 =>
    (ix s88.1 s88.2).bind fun x105 =>
    (ix (s88.1.set s88.2.toNat x98) (IntKind.i64.wrap (s88.2 + 1))).bind fun x112 =>
    some (.go ((s88.1.set s88.2.toNat x98).set ((IntKind.i64.wrap (s88.2 + 1)).toNat) x105, IntKind.i64.wrap (s88.2 + 1)))) else (
    some (.out s88.1))) (l, (a : Int)) = some r ∧ Seg l r a (t + 1) ∧ ∀ k, gv r k = rotf (gv l) a (a + 1) (t + 1) k := by
  refine wloop_post (fun n s => ∃ (r : List ViewCount) (i : Nat), s = (r, (i : Int)) ∧ n = t - i ∧ a ≤ i ∧ i ≤ t ∧ Seg l r a (t + 1) ∧ ∀ k, gv r k = rotf (gv l) a (a + 1) (i + 1) k) _ ?_ (t - a) (l, (a : Int))
    ⟨l, a, rfl, rfl, by omega, hat, .refl _ _ _, fun k => by
      unfold rotf
      rw [if_neg (by omega)]
      split
      · congr 1; omega
      · rfl⟩
  rintro n s ⟨r, i, rfl, h1, h2, h3, h4, h5⟩
  have hrl := h4.len
  simp only
  by_cases hit : i < t
  · have hd : decide ((i : Int) < (t : Int)) = true := by simpa using hit
    have e1 : IntKind.i64.wrap ((i : Int) + 1) = ((i + 1 : Nat) : Int) := nat_wrap (by omega) (by omega)
    refine .inl ⟨((r.set i (gv r (i + 1))).set (i + 1) (gv r i), ((i + 1 : Nat) : Int)), t - (i + 1), ?_, by omega, _, i + 1, rfl, rfl, by omega, hit, h4.trans (seg_swap (i := i) (j := i + 1) (by omega) (by omega) (by omega) (by omega) (by omega) (by omega) (by omega)), fun k => ?_⟩
    · rw [if_pos hd, e1, gv_ix (l := r) (i := i + 1) (by omega), Option.bind_some, gv_ix (l := r) (i := i) (by omega), Option.bind_some, Int.toNat_natCast, gv_ix (by simp; omega), Option.bind_some, Int.toNat_natCast]
    · rw [gv_swap (by omega) (by omega)]
      by_cases c1 : k = i + 1
      · rw [if_pos c1, h5 i]
        unfold rotf
        rw [if_neg (by omega), if_pos (by omega), if_neg (by omega), if_pos (by omega)]
        congr 1; omega
      · rw [if_neg c1]
        by_cases c2 : k = i
        · rw [if_pos c2, h5 (i + 1)]
          unfold rotf
          rw [if_neg (by omega), if_neg (by omega), if_pos (by omega)]
          congr 1; omega
        · rw [if_neg c2, h5 k]
          unfold rotf
          by_cases c3 : a ≤ k ∧ k < i
          · rw [if_pos (by omega), if_pos (by omega)]
          · rw [if_neg (by omega), if_neg (by omega), if_neg (by omega), if_neg (by omega)]
  · have : i = t := by omega
    subst this
    exact .inr ⟨r, by simp, h4, h5⟩
theorem p_moveL (l : List ViewCount) (t m : Nat) (htm : t ≤ m) (hm : m < l.length) (hl : l.length ≤ 1048576) : ∃ r, wloop (σ := (List ViewCount) × Int) (β := (List ViewCount)) (fun s215 =>
    if decide ((t : Int) < s215.2) = true then (
    (ix s215.1 (IntKind.i64.wrap (s215.2 - 1))).bind fun x225 =>
    (ix s215.1 s215.2).bind fun x232 =>
    (ix (s215.1.set s215.2.toNat x225) (IntKind.i64.wrap (s215.2 - 1))).bind fun x239 =>
    some (.go ((s215.1.set s215.2.toNat x225).set ((IntKind.i64.wrap (s215.2 - 1)).toNat) x232, IntKind.i64.wrap (s215.2 - 1)))) else (
    some (.out s215.1))) (l, (m : Int)) = some r ∧ Seg l r t (m + 1) ∧ ∀ k, gv r k = rotf (gv l) t m (m + 1) k := by
  refine wloop_post (fun n s => ∃ (r : List ViewCount) (i : Nat), s = (r, (i : Int)) ∧ n = i ∧ t ≤ i ∧ i ≤ m ∧ Seg l r t (m + 1) ∧ ∀ k, gv r k = rotf (gv l) i m (m + 1) k) _ ?_ m (l, (m : Int))
    ⟨l, m, rfl, rfl, by omega, by omega, .refl _ _ _, fun k => by
      unfold rotf
      by_cases c : m ≤ k ∧ k < m + (m + 1 - m)
      · rw [if_pos c]; congr 1; omega
      · rw [if_neg c, if_neg (by omega)]⟩
  rintro n s ⟨r, i, rfl, h1, h2, h3, h4, h5⟩
  have hrl := h4.len
  simp only
  by_cases hit : t < i
  · have hd : decide ((t : Int) < (i : Int)) = true := by simpa using hit
    have e1 : IntKind.i64.wrap ((i : Int) - 1) = ((i - 1 : Nat) : Int) := nat_wrap (by omega) (by omega)
    refine .inl ⟨((r.set i (gv r (i - 1))).set (i - 1) (gv r i), ((i - 1 : Nat) : Int)), i - 1, ?_, by omega, _, i - 1, rfl, rfl, by omega, by omega, h4.trans (seg_swap (i := i) (j := i - 1) (by omega) (by omega) (by omega) (by omega) (by omega) (by omega) (by omega)), fun k => ?_⟩
    · rw [if_pos hd, e1, gv_ix (l := r) (i := i - 1) (by omega), Option.bind_some, gv_ix (l := r) (i := i) (by omega), Option.bind_some, Int.toNat_natCast, gv_ix (by simp; omega), Option.bind_some, Int.toNat_natCast]
    · rw [gv_swap (by omega) (by omega)]
      by_cases c1 : k = i - 1
      · rw [if_pos c1, h5 i]
        unfold rotf
        rw [if_pos (by omega), if_pos (by omega)]
        congr 1; omega
      · rw [if_neg c1]
        by_cases c2 : k = i
        · rw [if_pos c2, h5 (i - 1)]
          unfold rotf
          rw [if_neg (by omega), if_neg (by omega), if_neg (by omega), if_pos (by omega)]
          congr 1; omega
        · rw [if_neg c2, h5 k]
          unfold rotf
          by_cases c3 : i + 1 ≤ k ∧ k < m + 1
          · rw [if_neg (by omega), if_pos (by omega), if_neg (by omega), if_pos (by omega)]
          · rw [if_neg (by omega), if_neg (by omega), if_neg (by omega), if_neg (by omega)]
  · have : i = t := by omega
    subst this
    exact .inr ⟨r, by simp, h4, h5⟩
theorem bsearch_post {step : Int × Int → Option (Stp (Int × Int) Int)} (lo0 hi0 : Nat) (h : lo0 ≤ hi0) (P : Nat → Prop)
    (hstep : ∀ lo hi : Nat, lo0 ≤ lo → lo < hi → hi ≤ hi0 → (P ((lo + hi) / 2) ∧ step ((lo : Int), (hi : Int)) = some (.go ((((lo + hi) / 2 + 1 : Nat) : Int), (hi : Int)))) ∨ (¬ P ((lo + hi) / 2) ∧ step ((lo : Int), (hi : Int)) = some (.go ((lo : Int), (((lo + hi) / 2 : Nat) : Int)))))
    (hend : ∀ lo : Nat, lo0 ≤ lo → lo ≤ hi0 → step ((lo : Int), (lo : Int)) = some (.out (lo : Int))) (hmono : ∀ c d, lo0 ≤ c → c ≤ d → d < hi0 → P d → P c) :
    ∃ k : Nat, wloop step ((lo0 : Int), (hi0 : Int)) = some (k : Int) ∧ lo0 ≤ k ∧ k ≤ hi0 ∧ (∀ c, lo0 ≤ c → c < k → P c) ∧ (∀ c, k ≤ c → c < hi0 → ¬ P c) := by
  obtain ⟨b, h1, k, rfl, h2⟩ := wloop_post (step := step) (fun n s => ∃ lo hi : Nat, s = ((lo : Int), (hi : Int)) ∧ n = hi - lo ∧ lo0 ≤ lo ∧ lo ≤ hi ∧ hi ≤ hi0 ∧ (∀ c, lo0 ≤ c → c < lo → P c) ∧ (∀ c, hi ≤ c → c < hi0 → ¬ P c))
    (fun b => ∃ k : Nat, b = (k : Int) ∧ lo0 ≤ k ∧ k ≤ hi0 ∧ (∀ c, lo0 ≤ c → c < k → P c) ∧ (∀ c, k ≤ c → c < hi0 → ¬ P c))
    (by
      rintro n s ⟨lo, hi, rfl, h1, h2, h3, h4, h5, h6⟩
      by_cases hlt : lo < hi
      · rcases hstep lo hi h2 hlt h4 with ⟨p, e⟩ | ⟨p, e⟩
        · exact .inl ⟨_, hi - ((lo + hi) / 2 + 1), e, by omega, _, _, rfl, rfl, by omega, by omega, h4, fun c c1 c2 => hmono c ((lo + hi) / 2) c1 (by omega) (by omega) p, h6⟩
        · exact .inl ⟨_, (lo + hi) / 2 - lo, e, by omega, _, _, rfl, rfl, h2, by omega, by omega, h5, fun c c1 c2 hp => p (hmono ((lo + hi) / 2) c (by omega) c1 c2 hp)⟩
      · have : lo = hi := by omega
        subst this
        exact .inr ⟨_, hend lo h2 h4, lo, rfl, h2, h4, h5, h6⟩)
    (hi0 - lo0) ((lo0 : Int), (hi0 : Int)) ⟨lo0, hi0, rfl, rfl, by omega, h, by omega, fun c c1 c2 => by omega, fun c c1 c2 => by omega⟩
  exact ⟨k, h1, h2⟩
theorem ltV_dec (x y : ViewCount) : decide (lexC x.View y.View < 0) = true ↔ ltV x y := by
  have := lexC_rng x.View y.View
  unfold ltV
  simp; omega
theorem ltV_decf (x y : ViewCount) : decide (lexC x.View y.View < 0) = false ↔ ¬ ltV x y := by rw [← ltV_dec]; simp
theorem ltV_of {x y z : ViewCount} (h1 : leV x y) (h2 : ltV y z) : ltV x z := by
  unfold leV ltV at *
  have r1 := lexC_rng x.View y.View
  rcases r1 with r1 | r1 | r1
  · exact lexC_trans r1 h2
  · rw [lexC_eq r1]; exact h2
  · exact absurd r1 h1
theorem ltV_of' {x y z : ViewCount} (h1 : ltV x y) (h2 : leV y z) : ltV x z := by
  unfold leV ltV at *
  have r1 := lexC_rng y.View z.View
  rcases r1 with r1 | r1 | r1
  · exact lexC_trans h1 r1
  · rw [← lexC_eq r1]; exact h1
  · exact absurd r1 h2
theorem p_symMerge : ∀ (n_ : Nat) (l : List ViewCount) (a m b : Nat), a < m → m < b → b ≤ l.length → l.length ≤ 1048576 → Srt l a m → Srt l m b →
    (∃ r, F_slices_symMergeCmpFunc_impl_ViewCount__io0_impl_gathered_1_r n_ l (a : Int) (m : Int) (b : Int) = some r ∧ Seg l r a b ∧ Srt r a b) ∨
    (F_slices_symMergeCmpFunc_impl_ViewCount__io0_impl_gathered_1_r n_ l (a : Int) (m : Int) (b : Int) = none ∧ n_ < b - a) := by
  intro n_
  induction n_ with
  | zero => intro l a m b h1 h2 h3 h4 h5 h6; exact .inr ⟨rfl, by omega⟩
  | succ n_ ih =>
    intro l a m b ham hmb hbl hl sA sB
    simp only [F_slices_symMergeCmpFunc_impl_ViewCount__io0_impl_gathered_1_r]
    have w1 : IntKind.i64.wrap ((m : Int) - (a : Int)) = ((m - a : Nat) : Int) := nat_wrap (by omega) (by omega)
    have w2 : IntKind.i64.wrap ((b : Int) - (m : Int)) = ((b - m : Nat) : Int) := nat_wrap (by omega) (by omega)
    rw [w1, w2]
    by_cases c1 : m - a = 1
    · left
      have hc : (((m - a : Nat) : Int) == 1) = true := by rw [c1]; rfl
      rw [if_pos hc]
      obtain ⟨k, k1, k2, k3, k4, k5⟩ := bsearch_post (step := fun s9 =>
        if decide (s9.1 < s9.2) = true then (
        (ix l (IntKind.i64.wrap ((IntKind.u64.wrap (IntKind.i64.wrap (s9.1 + s9.2))).fdiv 2))).bind fun x20 =>
        (ix l (a : Int)).bind fun x27 =>
        (F_impl_gathered_1 x20 x27).bind fun z34 =>
        if decide (z34 < 0) = true then (
        some (.go (IntKind.i64.wrap ((IntKind.i64.wrap ((IntKind.u64.wrap (IntKind.i64.wrap (s9.1 + s9.2))).fdiv 2)) + 1), s9.2))) else (
        some (.go (s9.1, IntKind.i64.wrap ((IntKind.u64.wrap (IntKind.i64.wrap (s9.1 + s9.2))).fdiv 2))))) else (
        some (.out s9.1))) m b (by omega) (fun c => ltV (gv l c) (gv l a))
        (by
          intro lo hi x1 x2 x3
          have hd : decide ((lo : Int) < (hi : Int)) = true := by simpa using x2
          simp only [hd, if_true, mid_eq (lo := lo) (hi := hi) (n := l.length) (by omega) (by omega) hl, gv_ix (l := l) (i := (lo + hi) / 2) (by omega), gv_ix (l := l) (i := a) (by omega), Option.bind_some, p_cmpV]
          by_cases hp : ltV (gv l ((lo + hi) / 2)) (gv l a)
          · left
            rw [if_pos ((ltV_dec _ _).2 hp), nat_wrap (k := (lo + hi) / 2 + 1) (by omega) (by omega)]
            exact ⟨hp, rfl⟩
          · right
            rw [if_neg (by rw [(ltV_decf _ _).2 hp]; simp)]
            exact ⟨hp, rfl⟩)
        (by intro lo x1 x2; simp)
        (by
          intro c d x1 x2 x3 hp
          exact ltV_of (sB.le x1 x2 x3) hp)
      rw [k1, Option.bind_some]
      have w3 : IntKind.i64.wrap ((k : Int) - 1) = ((k - 1 : Nat) : Int) := nat_wrap (by omega) (by omega)
      rw [w3]
      obtain ⟨r, r1, r2, r3⟩ := p_moveR l a (k - 1) (by omega) (by omega) hl
      rw [r1]
      have e1 : k - 1 + 1 = k := by omega
      have e2 : a + 1 = m := by omega
      rw [e1] at r2
      have R : RotOK l r a a m k b := ⟨Nat.le_refl _, by omega, by omega, k3, sA, sB, fun i j x1 x2 => by omega, fun i j x1 x2 x3 x4 => by
        have : j = a := by omega
        subst this
        exact leV_of_lt (k4 i x1 x2), fun x => by rw [r3, e1, e2]⟩
      refine ⟨r, rfl, r2.wide (Nat.le_refl _) k3, srt_join R.s2 ?_ (fun i j x1 x2 x3 x4 => R.cross x1 x2 x3 x4)⟩
      refine srt_join R.s3 R.s4 fun i j x1 x2 x3 x4 => ?_
      rw [R.l2 x1 x2, R.hi x3]
      have : i - (k - m) = a := by omega
      rw [this]
      exact leV_of_nlt (k5 j x3 x4)
    · have hc : (((m - a : Nat) : Int) == 1) = false := by simp; omega
      rw [if_neg (by rw [hc]; simp)]
      by_cases c2 : b - m = 1
      · left
        have hc : (((b - m : Nat) : Int) == 1) = true := by rw [c2]; rfl
        rw [if_pos hc]
        obtain ⟨k, k1, k2, k3, k4, k5⟩ := bsearch_post (step := fun s136 =>
          if decide (s136.1 < s136.2) = true then (
          (ix l (m : Int)).bind fun x147 =>
          (ix l (IntKind.i64.wrap ((IntKind.u64.wrap (IntKind.i64.wrap (s136.1 + s136.2))).fdiv 2))).bind fun x154 =>
          (F_impl_gathered_1 x147 x154).bind fun z161 =>
          if (!(decide (z161 < 0))) = true then (
          some (.go (IntKind.i64.wrap ((IntKind.i64.wrap ((IntKind.u64.wrap (IntKind.i64.wrap (s136.1 + s136.2))).fdiv 2)) + 1), s136.2))) else (
          some (.go (s136.1, IntKind.i64.wrap ((IntKind.u64.wrap (IntKind.i64.wrap (s136.1 + s136.2))).fdiv 2))))) else (
          some (.out s136.1))) a m (by omega) (fun c => ¬ ltV (gv l m) (gv l c))
          (by
            intro lo hi x1 x2 x3
            have hd : decide ((lo : Int) < (hi : Int)) = true := by simpa using x2
            simp only [hd, if_true, mid_eq (lo := lo) (hi := hi) (n := l.length) (by omega) (by omega) hl, gv_ix (l := l) (i := (lo + hi) / 2) (by omega), gv_ix (l := l) (i := m) (by omega), Option.bind_some, p_cmpV]
            by_cases hp : ltV (gv l m) (gv l ((lo + hi) / 2))
            · right
              rw [if_neg (by rw [(ltV_dec _ _).2 hp]; simp)]
              exact ⟨fun h => h hp, rfl⟩
            · left
              rw [if_pos (by rw [(ltV_decf _ _).2 hp]; rfl), nat_wrap (k := (lo + hi) / 2 + 1) (by omega) (by omega)]
              exact ⟨hp, rfl⟩)
          (by intro lo x1 x2; simp)
          (by
            intro c d x1 x2 x3 hp h
            exact hp (ltV_of' h (sA.le x1 x2 x3)))
        rw [k1, Option.bind_some]
        obtain ⟨r, r1, r2, r3⟩ := p_moveL l k m (by omega) (by omega) hl
        rw [r1]
        have e1 : m + 1 = b := by omega
        rw [e1] at r2
        have R : RotOK l r a k m b b := ⟨k2, by omega, by omega, Nat.le_refl _, sA, sB, fun i j x1 x2 x3 x4 => by omega, fun i j x1 x2 x3 x4 => by
          have : i = m := by omega
          subst this
          exact leV_of_lt (Classical.not_not.1 (k5 j x3 x4)), fun x => by rw [r3, e1]⟩
        refine ⟨r, rfl, r2.wide k2 (Nat.le_refl _), srt_join (srt_join R.s1 R.s2 fun i j x1 x2 x3 x4 => ?_) R.s3 (fun i j x1 x2 x3 x4 => R.cross x1 x2 x3 x4)⟩
        rw [R.lo x2, R.l1 x3 x4]
        have : j + (m - k) = m := by omega
        rw [this]
        exact leV_of_nlt (k4 i x1 x2)
      · have hc : (((b - m : Nat) : Int) == 1) = false := by simp; omega
        rw [if_neg (by rw [hc]; simp)]
        simp only [mid_eq (lo := a) (hi := b) (n := l.length) (by omega) hbl hl]
        generalize hmid : (a + b) / 2 = mid
        have m1 : a < mid := by omega
        have m2 : mid < b := by omega
        have wn : IntKind.i64.wrap ((mid : Int) + (m : Int)) = ((mid + m : Nat) : Int) := nat_wrap (by omega) (by omega)
        have wp : IntKind.i64.wrap (((mid + m : Nat) : Int) - 1) = ((mid + m - 1 : Nat) : Int) := nat_wrap (by omega) (by omega)
        simp only [wn, wp]
        -- where the search begins
        obtain ⟨s0, r0, e0, q1, q2, q3, q4, q5, q6⟩ : ∃ s0 r0 : Nat, (if decide ((mid : Int) < (m : Int)) = true then some (IntKind.i64.wrap (((mid + m : Nat) : Int) - (b : Int)), (mid : Int)) else some ((a : Int), (m : Int))) = some ((s0 : Int), (r0 : Int)) ∧
            s0 ≤ r0 ∧ a ≤ s0 ∧ r0 ≤ m ∧ r0 ≤ mid ∧ (s0 = a ∨ s0 + b = mid + m) ∧ (r0 = m ∨ r0 = mid) ∧ mid + m ≤ b + s0 := by
          by_cases h : mid < m
          · refine ⟨mid + m - b, mid, ?_, by omega, by omega, by omega, by omega, by omega, by omega, by omega⟩
            rw [if_pos (by simpa using h), nat_wrap (k := mid + m - b) (by omega) (by omega)]
          · exact ⟨a, m, by rw [if_neg (by simpa using h)], by omega, by omega, by omega, by omega, by omega, by omega, by omega⟩
        obtain ⟨q6, q7⟩ := q6
        rw [e0, Option.bind_some]
        -- the search
        obtain ⟨k, k1, k2, k3, k4, k5⟩ := bsearch_post (step := fun s273 =>
          if decide (s273.1 < s273.2) = true then (
          (ix l (IntKind.i64.wrap (((mid + m - 1 : Nat) : Int) - (IntKind.i64.wrap ((IntKind.u64.wrap (IntKind.i64.wrap (s273.1 + s273.2))).fdiv 2))))).bind fun x284 =>
          (ix l (IntKind.i64.wrap ((IntKind.u64.wrap (IntKind.i64.wrap (s273.1 + s273.2))).fdiv 2))).bind fun x291 =>
          (F_impl_gathered_1 x284 x291).bind fun z298 =>
          if (!(decide (z298 < 0))) = true then (
          some (.go (IntKind.i64.wrap ((IntKind.i64.wrap ((IntKind.u64.wrap (IntKind.i64.wrap (s273.1 + s273.2))).fdiv 2)) + 1), s273.2))) else (
          some (.go (s273.1, IntKind.i64.wrap ((IntKind.u64.wrap (IntKind.i64.wrap (s273.1 + s273.2))).fdiv 2))))) else (
          some (.out s273.1))) s0 r0 q1 (fun c => ¬ ltV (gv l (mid + m - 1 - c)) (gv l c))
          (by
            intro lo hi x1 x2 x3
            have hd : decide ((lo : Int) < (hi : Int)) = true := by simpa using x2
            have wq : IntKind.i64.wrap (((mid + m - 1 : Nat) : Int) - (((lo + hi) / 2 : Nat) : Int)) = ((mid + m - 1 - (lo + hi) / 2 : Nat) : Int) := nat_wrap (by omega) (by omega)
            simp only [hd, if_true, mid_eq (lo := lo) (hi := hi) (n := l.length) (by omega) (by omega) hl, wq, gv_ix (l := l) (i := (lo + hi) / 2) (by omega), gv_ix (l := l) (i := mid + m - 1 - (lo + hi) / 2) (by omega), Option.bind_some, p_cmpV]
            by_cases hp : ltV (gv l (mid + m - 1 - (lo + hi) / 2)) (gv l ((lo + hi) / 2))
            · right
              rw [if_neg (by rw [(ltV_dec _ _).2 hp]; simp)]
              exact ⟨fun h => h hp, rfl⟩
            · left
              rw [if_pos (by rw [(ltV_decf _ _).2 hp]; rfl), nat_wrap (k := (lo + hi) / 2 + 1) (by omega) (by omega)]
              exact ⟨hp, rfl⟩)
          (by intro lo x1 x2; simp)
          (by
            intro c d x1 x2 x3 hp h
            exact hp (ltV_of (sB.le (by omega) (by omega) (by omega)) (ltV_of' h (sA.le (by omega) x2 (by omega)))))
        rw [k1, Option.bind_some]
        have we : IntKind.i64.wrap (((mid + m : Nat) : Int) - (k : Int)) = ((mid + m - k : Nat) : Int) := nat_wrap (by omega) (by omega)
        simp only [we]
        generalize hend : mid + m - k = e
        have hke : k ≤ mid := by omega
        have hem : m ≤ e := by omega
        have heb : e ≤ b := by omega
        have hmk : k + (e - m) = mid := by omega
        -- the rotation
        obtain ⟨r, hr, R, rS⟩ : ∃ r, ((if decide ((k : Int) < (m : Int)) = true then some (decide ((m : Int) < (e : Int))) else some false).bind fun x315 =>
            (if x315 = true then (F_slices_rotateCmpFunc_impl_ViewCount__io0_impl_gathered_1 l (k : Int) (m : Int) (e : Int)).bind fun z330 => some z330 else some l)) = some r ∧ RotOK l r a k m e b ∧ Seg l r a b := by
          have cc1 : ∀ i j, a ≤ i → i < k → e ≤ j → j < b → leV (gv l i) (gv l j) := by
            intro i j x1 x2 x3 x4
            by_cases hs : k = s0
            · exfalso
              rcases q5 with q5 | q5 <;> omega
            · have h1 := leV_of_nlt (k4 (k - 1) (by omega) (by omega))
              have e3 : mid + m - 1 - (k - 1) = e := by omega
              rw [e3] at h1
              exact leV_trans (sA.le x1 (by omega) (by omega)) (leV_trans h1 (sB.le (by omega) x3 x4))
          have cc2 : ∀ i j, m ≤ i → i < e → k ≤ j → j < m → leV (gv l i) (gv l j) := by
            intro i j x1 x2 x3 x4
            by_cases hs : k = r0
            · exfalso
              rcases q6 with q6 | q6 <;> omega
            · have h1 := leV_of_lt (Classical.not_not.1 (k5 k (Nat.le_refl _) (by omega)))
              have e3 : mid + m - 1 - k = e - 1 := by omega
              rw [e3] at h1
              exact leV_trans (sB.le x1 (by omega) (by omega)) (leV_trans h1 (sA.le (by omega) x3 x4))
          by_cases hrot : k < m ∧ m < e
          · obtain ⟨r, r1, r2, r3⟩ := p_rotate l k m e hrot.1 hrot.2 (by omega) hl
            refine ⟨r, ?_, ⟨by omega, by omega, hem, heb, sA, sB, cc1, cc2, r3⟩, r2.wide (by omega) heb⟩
            rw [if_pos (by simpa using hrot.1), Option.bind_some, if_pos (by simpa using hrot.2), r1]; rfl
          · refine ⟨l, ?_, ⟨by omega, by omega, hem, heb, sA, sB, cc1, cc2, fun x => ?_⟩, .refl _ _ _⟩
            · by_cases h1 : k < m
              · have h2 : ¬ m < e := fun h => hrot ⟨h1, h⟩
                rw [if_pos (by simpa using h1), Option.bind_some, if_neg (by simpa using h2)]
              · rw [if_neg (by simpa using h1), Option.bind_some, if_neg (by simp)]
            · unfold rotf
              by_cases h1 : k < m
              · have h2 : e = m := by omega
                subst h2
                rw [if_neg (by omega)]
                split
                · congr 1; omega
                · rfl
              · have h2 : k = m := by omega
                subst h2
                split
                · congr 1; omega
                · rw [if_neg (by omega)]
        have hr' : ∀ {β : Type} (f : List ViewCount → Option β), (((if decide ((k : Int) < (m : Int)) = true then some (decide ((m : Int) < (e : Int))) else some false) : Option Bool).bind fun x315 =>
            ((if x315 = true then (F_slices_rotateCmpFunc_impl_ViewCount__io0_impl_gathered_1 l (k : Int) (m : Int) (e : Int)).bind fun z330 => some z330 else some l) : Option (List ViewCount)).bind f) = f r := by
          intro β f
          rw [← Option.bind_assoc, hr]; rfl
        rw [hr']
        have hrl := rS.len
        -- the left half
        have left : (∃ r2, ((if decide ((a : Int) < (k : Int)) = true then some (decide ((k : Int) < (mid : Int))) else some false).bind fun x340 =>
            (if x340 = true then (F_slices_symMergeCmpFunc_impl_ViewCount__io0_impl_gathered_1_r n_ r (a : Int) (k : Int) (mid : Int)).bind fun z355 => some z355 else some r)) = some r2 ∧ Seg r r2 a mid ∧ Srt r2 a mid) ∨
            (((if decide ((a : Int) < (k : Int)) = true then some (decide ((k : Int) < (mid : Int))) else some false).bind fun x340 =>
            (if x340 = true then (F_slices_symMergeCmpFunc_impl_ViewCount__io0_impl_gathered_1_r n_ r (a : Int) (k : Int) (mid : Int)).bind fun z355 => some z355 else some r)) = none ∧ n_ + 1 < b - a) := by
          have s1 := R.s1
          have s2 := R.s2
          rw [hmk] at s2
          by_cases h1 : a < k
          · by_cases h2 : k < mid
            · simp only [show decide ((a : Int) < (k : Int)) = true by simpa using h1, show decide ((k : Int) < (mid : Int)) = true by simpa using h2, if_true, Option.bind_some]
              rcases ih r a k mid h1 h2 (by omega) (by omega) s1 s2 with ⟨r2, x1, x2, x3⟩ | ⟨x1, x2⟩
              · exact .inl ⟨r2, by rw [x1]; rfl, x2, x3⟩
              · exact .inr ⟨by rw [x1]; rfl, by omega⟩
            · have : k = mid := by omega
              subst this
              exact .inl ⟨r, by simp, .refl _ _ _, s1⟩
          · have : k = a := by omega
            subst this
            exact .inl ⟨r, by simp, .refl _ _ _, s2⟩
        rcases left with ⟨r2, f1, f2, f3⟩ | ⟨f1, f2⟩
        · have f1' : ∀ {β : Type} (f : List ViewCount → Option β), (((if decide ((a : Int) < (k : Int)) = true then some (decide ((k : Int) < (mid : Int))) else some false) : Option Bool).bind fun x340 =>
            ((if x340 = true then (F_slices_symMergeCmpFunc_impl_ViewCount__io0_impl_gathered_1_r n_ r (a : Int) (k : Int) (mid : Int)).bind fun z355 => some z355 else some r) : Option (List ViewCount)).bind f) = f r2 := by
            intro β f
            rw [← Option.bind_assoc, f1]; rfl
          rw [f1']
          have hr2 := f2.len
          have s3 := R.s3
          have s4 := R.s4
          rw [hmk] at s3
          have s3' : Srt r2 mid e := f2.srt s3 (.inr (Nat.le_refl _))
          have s4' : Srt r2 e b := f2.srt s4 (.inr (by omega))
          have cr : ∀ i j, a ≤ i → i < mid → mid ≤ j → j < b → leV (gv r i) (gv r j) := fun i j x1 x2 x3 x4 => R.cross x1 (by omega) (by omega) x4
          have cr2 := f2.cross cr
          by_cases h1 : mid < e
          · by_cases h2 : e < b
            · simp only [show decide ((mid : Int) < (e : Int)) = true by simpa using h1, show decide ((e : Int) < (b : Int)) = true by simpa using h2, if_true, Option.bind_some]
              rcases ih r2 mid e b h1 h2 (by omega) (by omega) s3' s4' with ⟨r3, x1, x2, x3⟩ | ⟨x1, x2⟩
              · refine .inl ⟨r3, by rw [x1]; rfl, (rS.trans (f2.wide (Nat.le_refl _) (by omega))).trans (x2.wide (by omega) (Nat.le_refl _)), srt_join (x2.srt f3 (.inl (Nat.le_refl _))) x3 (x2.cross' cr2)⟩
              · exact .inr ⟨by rw [x1]; rfl, by omega⟩
            · have : e = b := by omega
              subst this
              refine .inl ⟨r2, by simp, rS.trans (f2.wide (Nat.le_refl _) (by omega)), srt_join f3 s3' cr2⟩
          · have : e = mid := by omega
            subst this
            refine .inl ⟨r2, by simp, rS.trans (f2.wide (Nat.le_refl _) (by omega)), srt_join f3 s4' cr2⟩
        · right
          refine ⟨?_, f2⟩
          have f1' : ∀ {β : Type} (f : List ViewCount → Option β), (((if decide ((a : Int) < (k : Int)) = true then some (decide ((k : Int) < (mid : Int))) else some false) : Option Bool).bind fun x340 =>
            ((if x340 = true then (F_slices_symMergeCmpFunc_impl_ViewCount__io0_impl_gathered_1_r n_ r (a : Int) (k : Int) (mid : Int)).bind fun z355 => some z355 else some r) : Option (List ViewCount)).bind f) = none := by
            intro β f
            rw [← Option.bind_assoc, f1]; rfl
          rw [f1']
theorem p_merge (l : List ViewCount) (a m b : Nat) (h1 : a < m) (h2 : m < b) (h3 : b ≤ l.length) (h4 : l.length ≤ 1048576) (h5 : Srt l a m) (h6 : Srt l m b) :
    ∃ r, F_slices_symMergeCmpFunc_impl_ViewCount__io0_impl_gathered_1 l (a : Int) (m : Int) (b : Int) = some r ∧ Seg l r a b ∧ Srt r a b := by
  unfold F_slices_symMergeCmpFunc_impl_ViewCount__io0_impl_gathered_1
  rcases p_symMerge (b - a) l a m b h1 h2 h3 h4 h5 h6 with ⟨r, x1, x2⟩ | ⟨_, x⟩
  · obtain ⟨r', n, y1, y2⟩ := frec_is (f := fun n_ => F_slices_symMergeCmpFunc_impl_ViewCount__io0_impl_gathered_1_r n_ l (a : Int) (m : Int) (b : Int)) x1
    rcases p_symMerge n l a m b h1 h2 h3 h4 h5 h6 with ⟨r2, z1, z2⟩ | ⟨z1, _⟩
    · have y2 : F_slices_symMergeCmpFunc_impl_ViewCount__io0_impl_gathered_1_r n l (a : Int) (m : Int) (b : Int) = some r' := y2
      rw [z1] at y2; cases y2
      exact ⟨r', y1, z2⟩
    · have y2 : F_slices_symMergeCmpFunc_impl_ViewCount__io0_impl_gathered_1_r n l (a : Int) (m : Int) (b : Int) = some r' := y2
      rw [z1] at y2; cases y2
  · omega
def Blk (l : List ViewCount) (n w t : Nat) : Prop := ∀ q, q * w < t → Srt l (q * w) (min ((q + 1) * w) n)
theorem Srt.sub {l : List ViewCount} {a b c d : Nat} (h : Srt l a b) (h1 : a ≤ c) (h2 : d ≤ b) : Srt l c d := fun i j x1 x2 x3 => h i j (by omega) x2 (by omega)
set_option maxHeartbeats 400000 in
theorem p_stable (l : List ViewCount) (hl : l.length ≤ 1048576) :
    ∃ r, F_slices_stableCmpFunc_impl_ViewCount__io0_impl_gathered_1 l (l.length : Int) = some r ∧ r.Perm l ∧ Srt r 0 l.length := by
  unfold F_slices_stableCmpFunc_impl_ViewCount__io0_impl_gathered_1
  generalize hn : l.length = n at hl
  -- the blocks
  obtain ⟨B, hB⟩ : ∃ B : Nat, B = 20 := ⟨20, rfl⟩
  rw [show (20 : Int) = (B : Int) by rw [hB]; rfl]
  obtain ⟨x, e1, r1, q1, rfl, b1, b2, b3, b4⟩ := wloop_post (σ := (List ViewCount) × Int × Int) (β := ((List ViewCount) × Int)) (step := fun s24 =>
    if decide (s24.2.2 ≤ (n : Int)) = true then (
    (F_slices_insertionSortCmpFunc_impl_ViewCount__io0_impl_gathered_1 s24.1 s24.2.1 s24.2.2).bind fun z34 =>
    some (.go (z34, s24.2.2, IntKind.i64.wrap (s24.2.2 + (B : Int))))) else (
    some (.out (s24.1, s24.2.1))))
    (fun k s => ∃ (r : List ViewCount) (q : Nat), s = (r, ((q * B : Nat) : Int), (((q + 1) * B : Nat) : Int)) ∧ k = n - q * B ∧ q * B ≤ n ∧ r.length = n ∧ r.Perm l ∧ ∀ p, p < q → Srt r (p * B) ((p + 1) * B))
    (fun x => ∃ (r : List ViewCount) (q : Nat), x = (r, ((q * B : Nat) : Int)) ∧ (q * B ≤ n ∧ n < (q + 1) * B) ∧ r.length = n ∧ r.Perm l ∧ ∀ p, p < q → Srt r (p * B) ((p + 1) * B))
    (by
      rintro k s ⟨r, q, rfl, h1, h2, h3, h4, h5⟩
      simp only
      have g1 : (q + 1) * B = q * B + B := Nat.succ_mul _ _
      have g2 : (q + 1 + 1) * B = (q + 1) * B + B := Nat.succ_mul _ _
      by_cases hc : (q + 1) * B ≤ n
      · have hd : decide ((((q + 1) * B : Nat) : Int) ≤ (n : Int)) = true := by simp only [decide_eq_true_eq]; omega
        obtain ⟨r2, x1, x2, x3⟩ := p_insertion r (q * B) ((q + 1) * B) (by omega) (by omega) (by omega)
        have wr : IntKind.i64.wrap ((((q + 1) * B : Nat) : Int) + (B : Int)) = (((q + 1 + 1) * B : Nat) : Int) := nat_wrap (by omega) (by omega)
        rw [if_pos hd, x1, Option.bind_some, wr]
        refine .inl ⟨(r2, (((q + 1) * B : Nat) : Int), (((q + 1 + 1) * B : Nat) : Int)), n - (q + 1) * B, rfl, by omega, r2, q + 1, rfl, rfl, hc, x2.len.trans h3, x2.perm.trans h4, fun p hp => ?_⟩
        by_cases hpq : p = q
        · subst hpq; exact x3
        · exact x2.srt (h5 p (by omega)) (.inl (Nat.mul_le_mul_right B (show p + 1 ≤ q by omega)))
      · have hd : decide ((((q + 1) * B : Nat) : Int) ≤ (n : Int)) = false := by simp only [decide_eq_false_iff_not]; omega
        rw [if_neg (by rw [hd]; simp)]
        exact .inr ⟨(r, ((q * B : Nat) : Int)), rfl, r, q, rfl, ⟨h2, by omega⟩, h3, h4, h5⟩)
    n (l, 0, (B : Int)) ⟨l, 0, by simp, by omega, by omega, hn, .refl _, fun p hp => by omega⟩
  rw [e1, Option.bind_some]
  simp only
  obtain ⟨r2, x1, x2, x3⟩ := p_insertion r1 (q1 * B) n b1.1 (by omega) (by omega)
  rw [x1, Option.bind_some]
  have B0 : Blk r2 n B n := fun q hq => by
    have g1 : (q1 + 1) * B = q1 * B + B := Nat.succ_mul _ _
    by_cases hqq : q < q1
    · have := Nat.mul_le_mul_right B (show q + 1 ≤ q1 by omega)
      rw [Nat.min_eq_left (by omega)]
      exact x2.srt (b4 q hqq) (.inl this)
    · have : q = q1 := by
        rcases Nat.lt_or_ge q1 q with h | h
        · have := Nat.mul_le_mul_right B (show q1 + 1 ≤ q by omega)
          omega
        · omega
      subst this
      rw [Nat.min_eq_right (by omega)]
      exact x3
  -- the merges
  refine wloop_post (σ := (List ViewCount) × Int) (β := (List ViewCount)) (fun k s => ∃ (r : List ViewCount) (w : Nat), s = (r, (w : Int)) ∧ k = n - w ∧ 0 < w ∧ w ≤ 2097152 ∧ r.length = n ∧ r.Perm l ∧ Blk r n w n) (fun r => r.Perm l ∧ Srt r 0 n) ?_ (n - B) (r2, (B : Int))
    ⟨r2, B, rfl, rfl, by omega, by omega, x2.len.trans b2, x2.perm.trans b3, B0⟩
  rintro k s ⟨r, w, rfl, h1, h2, h3, h4, h5, h6⟩
  simp only
  by_cases hw : w < n
  · have hd : decide ((w : Int) < (n : Int)) = true := by simpa using hw
    have w2 : IntKind.i64.wrap (2 * (w : Int)) = ((2 * w : Nat) : Int) := nat_wrap (by omega) (by omega)
    rw [if_pos hd, w2]
    obtain ⟨y, e2, r3, q, rfl, c1, c2, c3, c4, c5⟩ := wloop_post (σ := (List ViewCount) × Int × Int) (β := ((List ViewCount) × Int)) (step := fun s150 =>
      if decide (s150.2.2 ≤ (n : Int)) = true then (
      (F_slices_symMergeCmpFunc_impl_ViewCount__io0_impl_gathered_1 s150.1 s150.2.1 (IntKind.i64.wrap (s150.2.1 + (w : Int))) s150.2.2).bind fun z160 =>
      some (.go (z160, s150.2.2, IntKind.i64.wrap (s150.2.2 + ((2 * w : Nat) : Int))))) else (
      some (.out (s150.1, s150.2.1))))
      (fun k s => ∃ (r : List ViewCount) (q : Nat), s = (r, ((q * (2 * w) : Nat) : Int), (((q + 1) * (2 * w) : Nat) : Int)) ∧ k = n - q * (2 * w) ∧ q * (2 * w) ≤ n ∧ r.length = n ∧ r.Perm l ∧ (∀ p, p < q → Srt r (p * (2 * w)) ((p + 1) * (2 * w))) ∧ ∀ p, 2 * q ≤ p → p * w < n → Srt r (p * w) (min ((p + 1) * w) n))
      (fun x => ∃ (r : List ViewCount) (q : Nat), x = (r, ((q * (2 * w) : Nat) : Int)) ∧ (q * (2 * w) ≤ n ∧ n < (q + 1) * (2 * w)) ∧ r.length = n ∧ r.Perm l ∧ (∀ p, p < q → Srt r (p * (2 * w)) ((p + 1) * (2 * w))) ∧ ∀ p, 2 * q ≤ p → p * w < n → Srt r (p * w) (min ((p + 1) * w) n))
      (by
        rintro k s ⟨r, q, rfl, h1, h2', h3', h4', h5', h6'⟩
        simp only
        have g1 : (q + 1) * (2 * w) = q * (2 * w) + 2 * w := Nat.succ_mul _ _
        have g2 : (q + 1 + 1) * (2 * w) = (q + 1) * (2 * w) + 2 * w := Nat.succ_mul _ _
        have g3 : 2 * q * w = q * (2 * w) := by rw [Nat.mul_comm 2 q, Nat.mul_assoc]
        have g4 : (2 * q + 1) * w = q * (2 * w) + w := by rw [Nat.succ_mul, g3]
        have g5 : (2 * q + 1 + 1) * w = q * (2 * w) + w + w := by rw [Nat.succ_mul, g4]
        by_cases hc : (q + 1) * (2 * w) ≤ n
        · have hd : decide ((((q + 1) * (2 * w) : Nat) : Int) ≤ (n : Int)) = true := by simp only [decide_eq_true_eq]; omega
          have wm : IntKind.i64.wrap (((q * (2 * w) : Nat) : Int) + (w : Int)) = ((q * (2 * w) + w : Nat) : Int) := nat_wrap (by simp) (by omega)
          have sA := h6' (2 * q) (Nat.le_refl _) (by omega)
          have sB := h6' (2 * q + 1) (by omega) (by omega)
          rw [g3, g4, Nat.min_eq_left (by omega)] at sA
          rw [g4, g5, Nat.min_eq_left (by omega)] at sB
          obtain ⟨r2, x1, x2, x3⟩ := p_merge r (q * (2 * w)) (q * (2 * w) + w) ((q + 1) * (2 * w)) (by omega) (by omega) (by omega) (by omega) sA (by rw [g1]; exact sB.sub (by omega) (by omega))
          have wr : IntKind.i64.wrap ((((q + 1) * (2 * w) : Nat) : Int) + ((2 * w : Nat) : Int)) = (((q + 1 + 1) * (2 * w) : Nat) : Int) := nat_wrap (by rw [g2]; push_cast; rfl) (by omega)
          rw [if_pos hd, wm, x1, Option.bind_some, wr]
          refine .inl ⟨(r2, (((q + 1) * (2 * w) : Nat) : Int), (((q + 1 + 1) * (2 * w) : Nat) : Int)), n - (q + 1) * (2 * w), rfl, by omega, r2, q + 1, rfl, rfl, hc, x2.len.trans h3', x2.perm.trans h4', fun p hp => ?_, fun p hp hp2 => ?_⟩
          · by_cases hpq : p = q
            · subst hpq; exact x3
            · have : (p + 1) * (2 * w) ≤ q * (2 * w) := Nat.mul_le_mul_right _ (by omega)
              exact x2.srt (h5' p (by omega)) (.inl this)
          · have : (q + 1) * (2 * w) ≤ p * w := by
              have h := Nat.mul_le_mul_right w (show 2 * q + 2 ≤ p by omega)
              have e : (2 * q + 2) * w = q * (2 * w) + w + w := g5
              omega
            exact x2.srt (h6' p (by omega) hp2) (.inr this)
        · have hd : decide ((((q + 1) * (2 * w) : Nat) : Int) ≤ (n : Int)) = false := by simp only [decide_eq_false_iff_not]; omega
          rw [if_neg (by rw [hd]; simp)]
          exact .inr ⟨(r, ((q * (2 * w) : Nat) : Int)), rfl, r, q, rfl, ⟨h2', by omega⟩, h3', h4', h5', h6'⟩)
      n (r, 0, ((2 * w : Nat) : Int)) ⟨r, 0, by simp, by omega, by omega, h4, h5, fun p hp => by omega, fun p _ hp => h6 p hp⟩
    rw [e2, Option.bind_some]
    simp only
    have g1 : (q + 1) * (2 * w) = q * (2 * w) + 2 * w := Nat.succ_mul _ _
    have g3 : 2 * q * w = q * (2 * w) := by rw [Nat.mul_comm 2 q, Nat.mul_assoc]
    have g4 : (2 * q + 1) * w = q * (2 * w) + w := by rw [Nat.succ_mul, g3]
    have g5 : (2 * q + 1 + 1) * w = q * (2 * w) + w + w := by rw [Nat.succ_mul, g4]
    have wm : IntKind.i64.wrap (((q * (2 * w) : Nat) : Int) + (w : Int)) = ((q * (2 * w) + w : Nat) : Int) := nat_wrap (by simp) (by omega)
    rw [wm]
    have last : ∃ r4, (if decide (((q * (2 * w) + w : Nat) : Int) < (n : Int)) = true then (
        (F_slices_symMergeCmpFunc_impl_ViewCount__io0_impl_gathered_1 r3 ((q * (2 * w) : Nat) : Int) ((q * (2 * w) + w : Nat) : Int) (n : Int)).bind fun z177 => some z177) else some r3) = some r4 ∧ Seg r3 r4 (q * (2 * w)) n ∧ Srt r4 (q * (2 * w)) n := by
      by_cases hm : q * (2 * w) + w < n
      · have hd : decide (((q * (2 * w) + w : Nat) : Int) < (n : Int)) = true := by simp only [decide_eq_true_eq]; omega
        have sA := c5 (2 * q) (Nat.le_refl _) (by omega)
        have sB := c5 (2 * q + 1) (by omega) (by omega)
        rw [g3, g4, Nat.min_eq_left (by omega)] at sA
        rw [g4, g5, Nat.min_eq_right (by omega)] at sB
        obtain ⟨r4, y1, y2, y3⟩ := p_merge r3 (q * (2 * w)) (q * (2 * w) + w) n (by omega) hm (by omega) (by omega) sA sB
        exact ⟨r4, by rw [if_pos hd, y1]; rfl, y2, y3⟩
      · have hd : decide (((q * (2 * w) + w : Nat) : Int) < (n : Int)) = false := by simp only [decide_eq_false_iff_not]; omega
        refine ⟨r3, by rw [if_neg (by rw [hd]; simp)], .refl _ _ _, ?_⟩
        by_cases hq : q * (2 * w) < n
        · have sA := c5 (2 * q) (Nat.le_refl _) (by omega)
          rw [g3, g4] at sA
          exact sA.sub (Nat.le_refl _) (by omega)
        · exact fun i j y1 y2 y3 => by omega
    obtain ⟨r4, z1, z2, z3⟩ := last
    have wr : IntKind.i64.wrap ((w : Int) * 2) = ((2 * w : Nat) : Int) := nat_wrap (by omega) (by omega)
    rw [z1, Option.bind_some, wr]
    refine .inl ⟨(r4, ((2 * w : Nat) : Int)), n - 2 * w, rfl, by omega, r4, 2 * w, rfl, rfl, by omega, by omega, z2.len.trans c2, z2.perm.trans c3, fun p hp => ?_⟩
    by_cases hpq : p < q
    · have : (p + 1) * (2 * w) ≤ q * (2 * w) := Nat.mul_le_mul_right _ (by omega)
      rw [Nat.min_eq_left (by omega)]
      exact z2.srt (c4 p hpq) (.inl this)
    · have : p = q := by
        rcases Nat.lt_or_ge q p with h | h
        · have := Nat.mul_le_mul_right (2 * w) (show q + 1 ≤ p by omega)
          omega
        · omega
      subst this
      exact z3.sub (Nat.le_refl _) (by omega)
  · refine .inr ⟨r, by rw [if_neg (by simpa using hw)], h5, ?_⟩
    by_cases h0 : n = 0
    · exact fun i j y1 y2 y3 => by omega
    · have := h6 0 (by omega)
      rw [Nat.zero_mul, Nat.zero_add, Nat.one_mul, Nat.min_eq_right (by omega)] at this
      exact this
theorem p_sort (l : List ViewCount) (hl : l.length ≤ 1048576) :
    ∃ r, F_slices_SortStableFunc_impl_ViewCount_impl_ViewCount__io0_impl_gathered_1 l = some r ∧ r.Perm l ∧ Srt r 0 l.length := by
  unfold F_slices_SortStableFunc_impl_ViewCount_impl_ViewCount__io0_impl_gathered_1
  obtain ⟨r, h1, h2, h3⟩ := p_stable l hl
  exact ⟨r, by rw [h1]; rfl, h2, h3⟩
def cnt : List ViewCount → List Int → Int
  | [], _ => 0
  | x :: l, v => (if x.View = v then x.Times else 0) + cnt l v
theorem cnt_append (l r : List ViewCount) (v : List Int) : cnt (l ++ r) v = cnt l v + cnt r v := by
  induction l with
  | nil => simp [cnt]
  | cons x l ih => simp only [List.cons_append, cnt, ih]; omega
theorem cnt_perm {l r : List ViewCount} (h : l.Perm r) (v : List Int) : cnt l v = cnt r v := by
  induction h with
  | nil => rfl
  | cons x _ ih => simp only [cnt, ih]
  | swap x y l => simp only [cnt]; omega
  | trans _ _ h1 h2 => rw [h1, h2]
theorem cnt_none {l : List ViewCount} {v : List Int} (h : ∀ x ∈ l, x.View ≠ v) : cnt l v = 0 := by
  induction l with
  | nil => rfl
  | cons x l ih =>
    simp only [cnt]
    rw [if_neg (h x (List.mem_cons_self ..)), ih fun y hy => h y (List.mem_cons_of_mem _ hy)]; rfl
theorem gv_mem {l : List ViewCount} {i : Nat} (h : i < l.length) : gv l i ∈ l := by rw [gv_at h]; exact List.getElem_mem h
theorem mem_gv {l : List ViewCount} {x : ViewCount} (h : x ∈ l) : ∃ i, i < l.length ∧ gv l i = x := by
  obtain ⟨i, hi, e⟩ := List.getElem_of_mem h
  exact ⟨i, hi, by rw [gv_at hi, e]⟩
def StrS (l : List ViewCount) : Prop := ∀ i j, i < j → j < l.length → ltV (gv l i) (gv l j)
theorem StrS.cons {x : ViewCount} {l : List ViewCount} (h : StrS (x :: l)) : (∀ y ∈ l, ltV x y) ∧ StrS l := by
  refine ⟨fun y hy => ?_, fun i j h1 h2 => ?_⟩
  · obtain ⟨i, hi, rfl⟩ := mem_gv hy
    exact h 0 (i + 1) (by omega) (by simpa using hi)
  · exact h (i + 1) (j + 1) (by omega) (by simpa using h2)
theorem ltV_ne {x y : ViewCount} (h : ltV x y) : x.View ≠ y.View := fun e => by
  unfold ltV at h
  rw [e, lexC_self] at h; omega
theorem ltV_trans {x y z : ViewCount} (h1 : ltV x y) (h2 : ltV y z) : ltV x z := lexC_trans h1 h2
structure Canon (l : List ViewCount) (f : List Int → Int) : Prop where
  s : StrS l
  p : ∀ x ∈ l, 1 ≤ x.Times
  c : ∀ v, cnt l v = f v
theorem Canon.congr {l : List ViewCount} {f g : List Int → Int} (h : Canon l f) (e : ∀ v, f v = g v) : Canon l g := ⟨h.s, h.p, fun v => (h.c v).trans (e v)⟩
theorem canon_nil : Canon [] (fun _ => 0) := ⟨fun i j h1 h2 => by simp at h2, fun x hx => by simp at hx, fun v => rfl⟩
theorem good_of_canon {l : List ViewCount} {f : List Int → Int} (h : Canon l f) (h1 : l.length ≤ 3000) (h2 : ∀ x ∈ l, x.View.length ≤ 24) (h3 : sumT l ≤ 1000000) : GoodC l := by
  have tle : ∀ x ∈ l, x.Times ≤ sumT l := by
    intro x hx
    clear h1 h2 h3
    have hp := h.p
    clear h
    induction l with
    | nil => cases hx
    | cons y l ih =>
      have h0 := sumT_nonneg (l := l) fun z hz => by have := hp z (List.mem_cons_of_mem _ hz); omega
      have h1 := hp y (List.mem_cons_self ..)
      have e : sumT (y :: l) = y.Times + sumT l := by simp [sumT]
      cases List.mem_cons.1 hx with
      | inl e' => subst e'; omega
      | inr e' => have := ih e' fun z hz => hp z (List.mem_cons_of_mem _ hz); omega
  refine ⟨h1, fun k x hx => ?_, h3⟩
  have hk := (List.getElem?_eq_some_iff.1 hx).1
  have hm := List.mem_of_getElem? hx
  refine ⟨h.p x hm, by have := tle x hm; omega, h2 x hm, fun y h0 hy => ?_⟩
  have hs := h.s (k - 1) k (by omega) hk
  rw [gv_get hk] at hx
  rw [gv_get (by omega)] at hy
  cases hx; cases hy
  exact hs
theorem p_Equal (a b : List Int) : F_slices_Equal_int_int a b = some (decide (a = b)) := by
  unfold F_slices_Equal_int_int
  by_cases hl : a.length = b.length
  · have e : ((a.length : Int) != (b.length : Int)) = false := by simp [hl]
    simp only [e, Bool.false_eq_true, if_false]
    obtain ⟨r, hb, hp⟩ := rloop_post (σ := Unit) (β := Unit ⊕ Bool) (body := fun i16 s15 =>
      (ix a i16).bind fun x25 =>
      (ix b i16).bind fun x32 =>
      if (x25 != x32) = true then (
      some (.out (.inr false))) else (
      some (.go ()))) (stop := fun s15 => .inl ()) (m := a.length) (i0 := 0) (s0 := ()) (fun k _ => a.take k = b.take k)
      (fun r => Sum.elim (fun _ => a = b) (fun r => r = false ∧ a ≠ b) r) (by simp)
      (by
        rintro k s hk hI
        have hk2 : k < b.length := by omega
        rw [Int.zero_add]
        simp only [ix_at hk, ix_at hk2, Option.bind_some]
        by_cases he : a[k] = b[k]
        · exact .inl ⟨(), by simp [he], take_step hk hk2 hI he⟩
        · exact .inr ⟨.inr false, by simp [he], rfl, fun h => by subst h; exact he rfl⟩)
      (by
        rintro s hI
        rw [List.take_length, hl, List.take_length] at hI
        exact hI)
    rw [hb, Option.bind_some]
    cases r with
    | inl u => have hp : a = b := hp; simp [hp]
    | inr r =>
      obtain ⟨h1, h2⟩ : r = false ∧ a ≠ b := hp
      simp [h1, h2]
  · have e : ((a.length : Int) != (b.length : Int)) = true := by simp; omega
    have : a ≠ b := fun h => hl (by rw [h])
    simp [e, this]
theorem p_cloneI {a : List Int} (h : a.length ≤ 1048576) : F_slices_Clone_int_int a = some a := by unfold F_slices_Clone_int_int; rw [gd_t (by omega)]
theorem p_cloneV {a : List ViewCount} (h : a.length ≤ 1048576) : F_slices_Clone_impl_ViewCount_impl_ViewCount a = some a := by unfold F_slices_Clone_impl_ViewCount_impl_ViewCount; rw [gd_t (by omega)]
theorem sumT_perm {l r : List ViewCount} (h : l.Perm r) : sumT l = sumT r := by
  induction h with
  | nil => rfl
  | cons x _ ih => simp only [sumT, List.map_cons, List.sum_cons] at ih ⊢; omega
  | swap x y l => simp only [sumT, List.map_cons, List.sum_cons]; omega
  | trans _ _ h1 h2 => rw [h1, h2]
theorem sumT_append (l r : List ViewCount) : sumT (l ++ r) = sumT l + sumT r := by simp [sumT]
theorem cnt_take {l : List ViewCount} {k : Nat} (h : k < l.length) (v : List Int) : cnt (l.take (k + 1)) v = cnt (l.take k) v + if l[k].View = v then l[k].Times else 0 := by
  rw [List.take_succ_eq_append_getElem h, cnt_append]
  simp [cnt]
theorem gv_append_l {l r : List ViewCount} {i : Nat} (h : i < l.length) : gv (l ++ r) i = gv l i := by
  unfold gv; simp [List.getD_eq_getElem?_getD, List.getElem?_append_left h]
theorem gv_append_r {l : List ViewCount} {x : ViewCount} : gv (l ++ [x]) l.length = x := by
  unfold gv; simp [List.getD_eq_getElem?_getD]
theorem canon_snoc {l : List ViewCount} {f : List Int → Int} {x : ViewCount} (h : Canon l f) (hx : ∀ y ∈ l, ltV y x) (hp : 1 ≤ x.Times) : Canon (l ++ [x]) (fun v => f v + if x.View = v then x.Times else 0) := by
  refine ⟨fun i j h1 h2 => ?_, fun y hy => ?_, fun v => ?_⟩
  · simp at h2
    by_cases hj : j < l.length
    · rw [gv_append_l hj, gv_append_l (by omega)]; exact h.s i j h1 hj
    · have : j = l.length := by omega
      subst this
      rw [gv_append_r, gv_append_l h1]
      exact hx _ (gv_mem h1)
  · rcases List.mem_append.1 hy with hy | hy
    · exact h.p y hy
    · rw [List.mem_singleton.1 hy]; exact hp
  · rw [cnt_append, h.c]; simp [cnt]
theorem cnt_set {l : List ViewCount} {k : Nat} {t : Int} (hk : k < l.length) (v : List Int) : cnt (l.set k ⟨(gv l k).View, (gv l k).Times + t⟩) v = cnt l v + if (gv l k).View = v then t else 0 := by
  induction l generalizing k with
  | nil => simp at hk
  | cons x l ih =>
    cases k with
    | zero =>
      have e : gv (x :: l) 0 = x := rfl
      simp only [e, List.set_cons_zero, cnt]
      split <;> omega
    | succ k =>
      have e : gv (x :: l) (k + 1) = gv l k := rfl
      simp only [e, List.set_cons_succ, cnt, ih (by simpa using hk)]
      omega
theorem canon_more {l : List ViewCount} {f : List Int → Int} {k : Nat} {t : Int} (h : Canon l f) (hk : k < l.length) (ht : 0 ≤ t) : Canon (l.set k ⟨(gv l k).View, (gv l k).Times + t⟩) (fun v => f v + if (gv l k).View = v then t else 0) := by
  have vw : ∀ i, (gv (l.set k ⟨(gv l k).View, (gv l k).Times + t⟩) i).View = (gv l i).View := by
    intro i
    rw [gv_set hk]
    split
    · rename_i e; rw [e]
    · rfl
  refine ⟨fun i j h1 h2 => ?_, fun y hy => ?_, fun v => by rw [cnt_set hk, h.c]⟩
  · have := h.s i j h1 (by simpa using h2)
    unfold ltV at this ⊢
    rw [vw, vw]; exact this
  · obtain ⟨i, hi, rfl⟩ := mem_gv hy
    rw [gv_set hk]
    split
    · have := h.p _ (gv_mem hk); simp only; omega
    · exact h.p _ (gv_mem (by simpa using hi))
theorem times_le_sum {l : List ViewCount} (hp : ∀ x ∈ l, 1 ≤ x.Times) {x : ViewCount} (hx : x ∈ l) : x.Times ≤ sumT l := by
  induction l with
  | nil => cases hx
  | cons y l ih =>
    have h0 := sumT_nonneg (l := l) fun z hz => by have := hp z (List.mem_cons_of_mem _ hz); omega
    have h1 := hp y (List.mem_cons_self ..)
    have e : sumT (y :: l) = y.Times + sumT l := by simp [sumT]
    cases List.mem_cons.1 hx with
    | inl e' => subst e'; omega
    | inr e' => have := ih (fun z hz => hp z (List.mem_cons_of_mem _ hz)) e'; omega
theorem sumT_set {l : List ViewCount} {k : Nat} {t : Int} (hk : k < l.length) : sumT (l.set k ⟨(gv l k).View, (gv l k).Times + t⟩) = sumT l + t := by
  induction l generalizing k with
  | nil => simp at hk
  | cons x l ih =>
    cases k with
    | zero => simp [sumT, gv]; omega
    | succ k =>
      have e : gv (x :: l) (k + 1) = gv l k := rfl
      have := ih (k := k) (by simpa using hk)
      simp only [sumT, List.map_cons, List.sum_cons, e, List.set_cons_succ] at this ⊢
      omega
theorem p_gathered (l : List ViewCount) (hl : l.length ≤ 1048576) (hv : ∀ x ∈ l, x.View.length ≤ 1048576) (hp : ∀ x ∈ l, 1 ≤ x.Times) (hs : sumT l ≤ 1152921504606846976) :
    ∃ out, Canon out (cnt l) ∧ sumT out = sumT l ∧ out.length ≤ l.length ∧ (∀ x ∈ out, ∃ y ∈ l, x.View = y.View) ∧ ((GoodC out ∧ F_impl_gathered l = some (out, true)) ∨ (¬ GoodC out ∧ F_impl_gathered l = some ([], false))) := by
  unfold F_impl_gathered
  rw [p_cloneV hl, Option.bind_some]
  obtain ⟨z, z1, z2, z3⟩ := p_sort l hl
  rw [z1, Option.bind_some]
  have zl : z.length = l.length := z2.length_eq
  have zm : ∀ x, x ∈ z ↔ x ∈ l := fun x => z2.mem_iff
  have zs : sumT z = sumT l := sumT_perm z2
  obtain ⟨out, o1, o2, o3, o4, o5⟩ := rloop_post (σ := (List ViewCount)) (β := (List ViewCount)) (body := fun i74 s73 =>
    (((ix z i74).bind fun x89 =>
    ((if decide (0 ≤ (IntKind.i64.wrap ((s73.length : Int) - 1))) = true then (
    (ix s73 (IntKind.i64.wrap ((s73.length : Int) - 1))).bind fun x105 =>
    (F_slices_Equal_int_int x105.View x89.View).bind fun z112 =>
    some z112) else (
    some false) : Option (Bool)).bind fun (x101 : Bool) =>
    if x101 = true then (
    (ix s73 (IntKind.i64.wrap ((s73.length : Int) - 1))).bind fun x120 =>
    some (s73.set ((IntKind.i64.wrap ((s73.length : Int) - 1)).toNat) (ViewCount.mk x120.View (IntKind.i64.wrap (x120.Times + x89.Times))))) else (
    (F_slices_Clone_int_int x89.View).bind fun z129 =>
    gd ((s73.length + 1) * 32 ≤ 140737488355328 ∧ s73.length + 1 ≤ 4611686018427387904) <|
    some (s73 ++ [(ViewCount.mk z129 x89.Times)]))) : Option ((List ViewCount))).bind fun (x87 : (List ViewCount)) =>
    some (.go x87))) (stop := fun s73 => s73) (m := z.length) (i0 := 0) (s0 := [])
    (fun k s => Canon s (cnt (z.take k)) ∧ sumT s = sumT (z.take k) ∧ s.length ≤ k ∧ (∀ x ∈ s, ∃ y ∈ l, x.View = y.View) ∧ ∀ x ∈ s, ∀ j, k ≤ j → j < z.length → leV x (gv z j))
    (fun s => Canon s (cnt l) ∧ sumT s = sumT l ∧ s.length ≤ l.length ∧ ∀ x ∈ s, ∃ y ∈ l, x.View = y.View)
    ⟨by rw [List.take_zero]; exact canon_nil, by simp [sumT], Nat.le_refl _, fun x hx => by simp at hx, fun x hx => by simp at hx⟩
    (by
      rintro k s hk ⟨h1, h2, h3, h4, h5⟩
      rw [Int.zero_add]
      have hz : z[k] ∈ l := (zm _).1 (List.getElem_mem hk)
      have hzp := hp _ hz
      have hzv := hv _ hz
      have hzk : gv z k = z[k] := gv_at hk
      have st : sumT (z.take (k + 1)) ≤ sumT l := by
        have e : sumT z = sumT (z.take (k + 1)) + sumT (z.drop (k + 1)) := by rw [← sumT_append, List.take_append_drop]
        have := sumT_nonneg (l := z.drop (k + 1)) fun x hx => by have := hp x ((zm _).1 (List.mem_of_mem_drop hx)); omega
        omega
      have st2 := sumT_take hk
      rw [← h2] at st2
      simp only [ix_at hk, Option.bind_some]
      by_cases h0 : s.length = 0
      · -- the first
        have : s = [] := List.eq_nil_of_length_eq_zero h0
        subst this
        have hw : IntKind.i64.wrap ((([] : List ViewCount).length : Int) - 1) = -1 := wr64 (by simp) (by simp)
        refine .inl ⟨[⟨z[k].View, z[k].Times⟩], ?_, ?_, ?_, by simp, fun x hx => ?_, fun x hx j hj1 hj2 => ?_⟩
        · rw [hw]
          simp [p_cloneI hzv, gd]
        · have := canon_snoc h1 (x := z[k]) (fun y hy => by simp at hy) hzp
          refine (show Canon [z[k]] _ from this).congr fun v => by rw [cnt_take hk]
        · rw [sumT_take hk, ← h2]; simp [sumT]
        · simp at hx; subst hx; exact ⟨z[k], hz, rfl⟩
        · simp at hx; subst hx
          have := z3.le (i := k) (j := j) (by omega) (by omega) (by omega)
          rwa [hzk] at this
      · have hw : IntKind.i64.wrap ((s.length : Int) - 1) = ((s.length - 1 : Nat) : Int) := nat_wrap (by omega) (by omega)
        have hlast : s.length - 1 < s.length := by omega
        have hd : decide (0 ≤ ((s.length - 1 : Nat) : Int)) = true := by simp
        simp only [hw, hd, if_true, gv_ix hlast, Option.bind_some, p_Equal]
        have hle := h5 _ (gv_mem hlast) k (Nat.le_refl _) hk
        rw [hzk] at hle
        by_cases he : (gv s (s.length - 1)).View = z[k].View
        · -- as the last
          have hb : (gv s (s.length - 1)).Times + z[k].Times ≤ sumT l := by
            have := times_le_sum h1.p (gv_mem hlast)
            omega
          have hpos := h1.p _ (gv_mem hlast)
          refine .inl ⟨s.set (s.length - 1) ⟨(gv s (s.length - 1)).View, (gv s (s.length - 1)).Times + z[k].Times⟩, ?_, (canon_more h1 hlast (by omega)).congr fun v => by rw [cnt_take hk, he], by rw [sumT_set hlast, st2], by simp; omega, fun x hx => ?_, fun x hx j hj1 hj2 => ?_⟩
          · rw [if_pos (by simpa using he), Option.bind_some, Int.toNat_natCast, wr64 (by omega) (by omega)]
          · obtain ⟨i, hi, rfl⟩ := mem_gv hx
            have hi : i < s.length := by simpa using hi
            rw [gv_set hlast]
            split
            · exact h4 (gv s (s.length - 1)) (gv_mem hlast)
            · exact h4 _ (gv_mem hi)
          · obtain ⟨i, hi, rfl⟩ := mem_gv hx
            have hi : i < s.length := by simpa using hi
            rw [gv_set hlast]
            split
            · exact h5 (gv s (s.length - 1)) (gv_mem hlast) j (by omega) hj2
            · exact h5 _ (gv_mem hi) j (by omega) hj2
        · -- a new one
          have hlt : ltV (gv s (s.length - 1)) z[k] := by
            unfold leV at hle; unfold ltV
            have hr := lexC_rng (gv s (s.length - 1)).View z[k].View
            rcases hr with hr | hr | hr
            · exact hr
            · exact absurd (lexC_eq hr) he
            · exact absurd hr hle
          have hall : ∀ y ∈ s, ltV y z[k] := by
            intro y hy
            obtain ⟨i, hi, rfl⟩ := mem_gv hy
            by_cases hi2 : i = s.length - 1
            · subst hi2; exact hlt
            · exact ltV_trans (h1.s i (s.length - 1) (by omega) hlast) hlt
          refine .inl ⟨s ++ [z[k]], ?_, (canon_snoc h1 hall hzp).congr fun v => by rw [cnt_take hk], by rw [sumT_append, st2]; simp [sumT], by simp; omega, fun x hx => ?_, fun x hx j hj1 hj2 => ?_⟩
          · rw [if_neg (by simpa using he), p_cloneI hzv, Option.bind_some, gd_t (by omega), Option.bind_some]
          · rcases List.mem_append.1 hx with hx | hx
            · exact h4 x hx
            · rw [List.mem_singleton.1 hx]; exact ⟨z[k], hz, rfl⟩
          · rcases List.mem_append.1 hx with hx | hx
            · exact h5 x hx j (by omega) hj2
            · rw [List.mem_singleton.1 hx]
              have := z3.le (i := k) (j := j) (by omega) (by omega) (by omega)
              rwa [hzk] at this)
    (by
      rintro s ⟨h1, h2, h3, h4, h5⟩
      rw [List.take_length] at h1 h2
      exact ⟨h1.congr (cnt_perm z2), by omega, by omega, h4⟩)
  rw [o1, Option.bind_some]
  have ov : ∀ x ∈ out, x.View.length ≤ 1048576 := fun x hx => by
    obtain ⟨y, hy, e⟩ := o5 x hx
    rw [e]; exact hv y hy
  obtain ⟨g, g1, g2⟩ := p_isCount out (by omega) ov
  refine ⟨out, o2, o3, o4, o5, ?_⟩
  rw [g1, Option.bind_some]
  by_cases hg : g = true
  · exact .inl ⟨g2.1 hg, by simp [hg]⟩
  · exact .inr ⟨fun h => hg (g2.2 h), by simp [hg]⟩
def oneL (l : List (List Int)) : List ViewCount := l.map fun v => ⟨v, 1⟩
theorem oneL_len (l : List (List Int)) : (oneL l).length = l.length := by simp [oneL]
theorem oneL_at {l : List (List Int)} {k : Nat} (h : k < l.length) : (oneL l)[k]'(by rw [oneL_len]; exact h) = ⟨l[k], 1⟩ := by simp [oneL]
theorem oneL_sum (l : List (List Int)) : sumT (oneL l) = (l.length : Int) := by
  induction l with
  | nil => simp [oneL, sumT]
  | cons x l ih =>
    simp only [oneL, sumT, List.map_cons, List.sum_cons, List.length_cons] at ih ⊢
    rw [ih]; push_cast; omega
theorem oneL_mem {l : List (List Int)} {x : ViewCount} (h : x ∈ oneL l) : x.View ∈ l ∧ x.Times = 1 := by
  obtain ⟨v, hv, rfl⟩ := List.mem_map.1 h
  exact ⟨hv, rfl⟩
def Sm : Nat → (Nat → Int) → Int
  | 0, _ => 0
  | n + 1, f => Sm n f + f n
theorem Sm_congr {n : Nat} {f g : Nat → Int} (h : ∀ i, i < n → f i = g i) : Sm n f = Sm n g := by
  induction n with
  | zero => rfl
  | succ n ih => simp only [Sm]; rw [ih fun i hi => h i (by omega), h n (by omega)]
theorem Sm_zero (n : Nat) : Sm n (fun _ => 0) = 0 := by
  induction n with
  | zero => rfl
  | succ n ih => simp [Sm, ih]
theorem Sm_add (n : Nat) (f g : Nat → Int) : Sm n (fun i => f i + g i) = Sm n f + Sm n g := by
  induction n with
  | zero => rfl
  | succ n ih => simp only [Sm, ih]; omega
theorem Sm_mul (n : Nat) (f : Nat → Int) (c : Int) : Sm n (fun i => c * f i) = c * Sm n f := by
  induction n with
  | zero => simp [Sm]
  | succ n ih => simp only [Sm, ih, Int.mul_add]
theorem Sm_split (n k : Nat) (f : Nat → Int) : Sm (n + k) f = Sm n f + Sm k (fun i => f (n + i)) := by
  induction k with
  | zero => simp [Sm]
  | succ k ih => rw [← Nat.add_assoc]; simp only [Sm, ih]; omega
theorem Sm_le {n : Nat} {f g : Nat → Int} (h : ∀ i, i < n → f i ≤ g i) : Sm n f ≤ Sm n g := by
  induction n with
  | zero => exact Int.le_refl _
  | succ n ih => simp only [Sm]; have := ih fun i hi => h i (by omega); have := h n (by omega); omega
theorem Sm_nonneg {n : Nat} {f : Nat → Int} (h : ∀ i, i < n → 0 ≤ f i) : 0 ≤ Sm n f := by
  have := Sm_le h; rwa [Sm_zero] at this
theorem Sm_one {n : Nat} (g : Nat → Int) {j : Nat} (hj : j < n) : Sm n (fun i => if j = i then g i else 0) = g j := by
  induction n with
  | zero => omega
  | succ n ih =>
    simp only [Sm]
    by_cases h : j = n
    · subst h
      rw [Sm_congr (g := fun _ => 0) fun i hi => by rw [if_neg (by omega)], Sm_zero, if_pos rfl, Int.zero_add]
    · rw [ih (by omega), if_neg h, Int.add_zero]
-- a sum over all (t / m, t % m)
theorem Sm_prod (M m : Nat) (f : Nat → Nat → Int) (hm : 0 < m) : Sm (M * m) (fun t => f (t / m) (t % m)) = Sm M (fun t => Sm m (f t)) := by
  induction M with
  | zero => simp [Sm]
  | succ M ih =>
    rw [Nat.succ_mul, Sm_split, ih]
    simp only [Sm]
    congr 1
    refine Sm_congr fun i hi => ?_
    rw [Nat.mul_comm M m, Nat.mul_add_div hm, Nat.mul_add_mod, Nat.div_eq_of_lt hi, Nat.mod_eq_of_lt hi, Nat.add_zero]
-- a sum by fibres
theorem Sm_fib (M q : Nat) (k : Nat → Nat) (g : Nat → Int) (hk : ∀ t, t < M → k t < q) : Sm M (fun t => g (k t)) = Sm q (fun i => g i * Sm M (fun t => if k t = i then 1 else 0)) := by
  induction M with
  | zero => simp only [Sm, Int.mul_zero]; rw [Sm_zero]
  | succ M ih =>
    simp only [Sm, Int.mul_add]
    rw [Sm_add, ih fun t ht => hk t (by omega)]
    congr 1
    rw [Sm_congr (g := fun i => if k M = i then g i else 0) fun i hi => by split <;> simp, Sm_one g (hk M (by omega))]
def Cq (q : Nat) : Nat → Nat → Int
  | 0, j => if j = 0 then 1 else 0
  | d + 1, j => Sm q (fun i => Sm (q - 1) (fun a => if (i + a + 1) % q = j then Cq q d i else 0))
def Eq' (m : Nat) : Nat → Nat → Nat
  | 0, _ => 0
  | d + 1, t => (1 + t % m) + Eq' m d (t / m)
theorem Cq_nonneg (q d j : Nat) : 0 ≤ Cq q d j := by
  cases d with
  | zero => simp only [Cq]; split <;> omega
  | succ d =>
    simp only [Cq]
    refine Sm_nonneg fun i _ => Sm_nonneg fun a _ => ?_
    split
    · exact Cq_nonneg q d i
    · omega
theorem count_E (q d j : Nat) (hq : 2 ≤ q) : Sm ((q - 1) ^ d) (fun t => if Eq' (q - 1) d t % q = j then 1 else 0) = if j < q then Cq q d j else 0 := by
  induction d generalizing j with
  | zero =>
    have e : Sm ((q - 1) ^ 0) (fun t => if Eq' (q - 1) 0 t % q = j then 1 else 0) = if 0 = j then 1 else 0 := by
      show (0 : Int) + (if Eq' (q - 1) 0 0 % q = j then 1 else 0) = _
      have e0 : Eq' (q - 1) 0 0 % q = 0 := Nat.zero_mod q
      by_cases h : 0 = j
      · rw [if_pos (e0.trans h), if_pos h]; rfl
      · rw [if_neg (fun e => h (e0.symm.trans e)), if_neg h]; rfl
    rw [e]
    simp only [Cq]
    by_cases h : 0 = j
    · subst h
      rw [if_pos rfl, if_pos (by omega)]
    · rw [if_neg h, if_neg (show ¬ j = 0 from fun e => h e.symm)]; split <;> rfl
  | succ d ih =>
    rw [Nat.pow_succ]
    have e := Sm_prod ((q - 1) ^ d) (q - 1) (fun t a => if (1 + a + Eq' (q - 1) d t) % q = j then 1 else 0) (by omega)
    rw [show (fun t => if Eq' (q - 1) (d + 1) t % q = j then (1 : Int) else 0) = (fun t => (fun t a => if (1 + a + Eq' (q - 1) d t) % q = j then (1 : Int) else 0) (t / (q - 1)) (t % (q - 1))) from rfl, e]
    rw [Sm_congr (g := fun t => (fun i => Sm (q - 1) (fun a => if (i + a + 1) % q = j then 1 else 0)) (Eq' (q - 1) d t % q)) (fun t _ => by
      refine Sm_congr fun a _ => ?_
      have : (1 + a + Eq' (q - 1) d t) % q = (Eq' (q - 1) d t % q + a + 1) % q := by
        rw [show 1 + a + Eq' (q - 1) d t = Eq' (q - 1) d t + (a + 1) by omega, show Eq' (q - 1) d t % q + a + 1 = Eq' (q - 1) d t % q + (a + 1) by omega, Nat.mod_add_mod]
      rw [this])]
    rw [Sm_fib _ q (fun t => Eq' (q - 1) d t % q) (fun i => Sm (q - 1) (fun a => if (i + a + 1) % q = j then 1 else 0)) fun t _ => Nat.mod_lt _ (by omega)]
    by_cases hj : j < q
    · rw [if_pos hj]
      simp only [Cq]
      refine Sm_congr fun i hi => ?_
      rw [ih i, if_pos hi, Int.mul_comm, ← Sm_mul]
      refine Sm_congr fun a _ => ?_
      split <;> simp
    · rw [if_neg hj]
      rw [Sm_congr (g := fun _ => 0) fun i hi => ?_, Sm_zero]
      rw [Sm_congr (g := fun _ => 0) fun a _ => ?_, Sm_zero, Int.zero_mul]
      rw [if_neg]
      have := Nat.mod_lt (i + a + 1) (y := q) (by omega)
      omega
def pr23 (q : Int) : Bool := q == 2 || q == 3 || q == 5 || q == 7 || q == 11 || q == 13 || q == 17 || q == 19 || q == 23
theorem wl_it {σ β : Type} {step : σ → Option (Stp σ β)} {s : σ} (n : Nat) {b : β} (h : iter step n s = some b) : wloop step s = some b := by
  induction n generalizing s with
  | zero => simp [iter] at h
  | succ n ih =>
    rw [wloop_eq]
    simp only [iter] at h
    cases hs : step s with
    | none => rw [hs] at h; exact h
    | some x =>
      rw [hs] at h
      cases x with
      | go s' => exact ih h
      | out b => exact h
theorem p_nPrime (q : Int) (h0 : 2 ≤ q) (h1 : q ≤ 23) : F_spec_nPrime q = some (pr23 q) := by
  have h : q = 2 ∨ q = 3 ∨ q = 4 ∨ q = 5 ∨ q = 6 ∨ q = 7 ∨ q = 8 ∨ q = 9 ∨ q = 10 ∨ q = 11 ∨ q = 12 ∨ q = 13 ∨ q = 14 ∨ q = 15 ∨ q = 16 ∨ q = 17 ∨ q = 18 ∨ q = 19 ∨ q = 20 ∨ q = 21 ∨ q = 22 ∨ q = 23 := by omega
  unfold F_spec_nPrime
  rcases h with rfl | rfl | rfl | rfl | rfl | rfl | rfl | rfl | rfl | rfl | rfl | rfl | rfl | rfl | rfl | rfl | rfl | rfl | rfl | rfl | rfl | rfl
  all_goals first
    | (rw [wl_it (b := .inl ()) 6 (by rfl)]; rfl)
    | (rw [wl_it (b := .inr false) 6 (by rfl)]; rfl)
theorem p_isPrime (q : Int) (h0 : 2 ≤ q) (h1 : q ≤ 23) : F_impl_isPrime q = some (pr23 q) := by
  have h : q = 2 ∨ q = 3 ∨ q = 4 ∨ q = 5 ∨ q = 6 ∨ q = 7 ∨ q = 8 ∨ q = 9 ∨ q = 10 ∨ q = 11 ∨ q = 12 ∨ q = 13 ∨ q = 14 ∨ q = 15 ∨ q = 16 ∨ q = 17 ∨ q = 18 ∨ q = 19 ∨ q = 20 ∨ q = 21 ∨ q = 22 ∨ q = 23 := by omega
  unfold F_impl_isPrime F_impl_isModulus F_impl_within
  rcases h with rfl | rfl | rfl | rfl | rfl | rfl | rfl | rfl | rfl | rfl | rfl | rfl | rfl | rfl | rfl | rfl | rfl | rfl | rfl | rfl | rfl | rfl
  all_goals first
    | rfl
    | (rw [wl_it (b := .inl ()) 6 (by rfl)]; rfl)
    | (rw [wl_it (b := .inr false) 6 (by rfl)]; rfl)
theorem p_isPrime0 (q : Int) (h0 : q < 2) : F_impl_isPrime q = some false := by
  unfold F_impl_isPrime F_impl_isModulus F_impl_within
  have : decide (2 ≤ q) = false := by simp; omega
  simp [this]
theorem Sm_bd {n : Nat} {f : Nat → Int} {c : Int} (h : ∀ i, i < n → f i ≤ c) : Sm n f ≤ n * c := by
  induction n with
  | zero => simp [Sm]
  | succ n ih =>
    simp only [Sm]
    have := ih fun i hi => h i (by omega)
    have := h n (by omega)
    push_cast
    rw [Int.add_mul]; omega
theorem Cq_bd {q : Nat} (hq : q ≤ 23) (d j : Nat) : Cq q d j ≤ 529 ^ d := by
  induction d generalizing j with
  | zero => simp only [Cq]; split <;> omega
  | succ d ih =>
    simp only [Cq]
    have p : (0 : Int) ≤ 529 ^ d := Int.pow_nonneg (by omega)
    have h1 : ∀ i, i < q → Sm (q - 1) (fun a => if (i + a + 1) % q = j then Cq q d i else 0) ≤ 23 * 529 ^ d := fun i _ => by
      have := Sm_bd (n := q - 1) (f := fun a => if (i + a + 1) % q = j then Cq q d i else 0) (c := 529 ^ d) fun a _ => by
        split
        · exact ih i
        · exact p
      have h2 : ((q - 1 : Nat) : Int) * 529 ^ d ≤ 23 * 529 ^ d := Int.mul_le_mul_of_nonneg_right (by omega) p
      omega
    have := Sm_bd h1
    have h2 : (q : Int) * (23 * 529 ^ d) ≤ 23 * (23 * 529 ^ d) := Int.mul_le_mul_of_nonneg_right (by omega) (by omega)
    rw [Int.pow_succ]; omega
def row (q d i j n : Nat) : Int := Sm n (fun a => if (i + a + 1) % q = j then Cq q d i else 0)
theorem row_bd {q : Nat} (hq : q ≤ 23) (d i j : Nat) {n : Nat} (hn : n ≤ q) : 0 ≤ row q d i j n ∧ row q d i j n ≤ 23 * 529 ^ d := by
  have p : (0 : Int) ≤ 529 ^ d := Int.pow_nonneg (by omega)
  refine ⟨Sm_nonneg fun a _ => by split; exact Cq_nonneg q d i; omega, ?_⟩
  have := Sm_bd (n := n) (f := fun a => if (i + a + 1) % q = j then Cq q d i else 0) (c := 529 ^ d) fun a _ => by
    split
    · exact Cq_bd hq d i
    · exact p
  have h2 : (n : Int) * 529 ^ d ≤ 23 * 529 ^ d := Int.mul_le_mul_of_nonneg_right (by omega) p
  unfold row; omega
def rows (q d j n : Nat) : Int := Sm n (fun i => row q d i j (q - 1))
theorem rows_bd {q : Nat} (hq : q ≤ 23) (d j : Nat) {n : Nat} (hn : n ≤ q) : 0 ≤ rows q d j n ∧ rows q d j n ≤ 529 * 529 ^ d := by
  refine ⟨Sm_nonneg fun i _ => (row_bd hq d i j (by omega)).1, ?_⟩
  have := Sm_bd (n := n) (f := fun i => row q d i j (q - 1)) fun i _ => (row_bd hq d i j (by omega)).2
  have p : (0 : Int) ≤ 529 ^ d := Int.pow_nonneg (by omega)
  have h2 : (n : Int) * (23 * 529 ^ d) ≤ 23 * (23 * 529 ^ d) := Int.mul_le_mul_of_nonneg_right (by omega) (by omega)
  unfold rows; omega
def Tab (w : List Int) (q : Nat) (f : Nat → Int) : Prop := w.length = q ∧ ∀ j (h : j < w.length), w[j] = f j
theorem p_countedViews (l : List (List Int)) (hl : l.length ≤ 1048576) (hv : ∀ x ∈ l, x.length ≤ 1048576) :
    ∃ out, Canon out (cnt (oneL l)) ∧ sumT out = (l.length : Int) ∧ out.length ≤ l.length ∧ (∀ x ∈ out, x.View ∈ l) ∧ ((GoodC out ∧ F_impl_countedViews l = some (out, true)) ∨ (¬ GoodC out ∧ F_impl_countedViews l = some ([], false))) := by
  have e2 : rloop (σ := (List ViewCount)) (β := (List ViewCount)) (fun i9 s8 =>
      (ix l i9).bind fun x18 =>
      gd ((s8.length + 1) * 32 ≤ 140737488355328 ∧ s8.length + 1 ≤ 4611686018427387904) <|
      some (.go (s8 ++ [(ViewCount.mk x18 1)]))) (fun s8 => s8) (l.length) 0 [] = some (oneL l) := by
    refine some_of (rloop_post (fun k s => s = (oneL l).take k) _ (by simp) ?_ (fun s h => by rw [h]; exact List.take_of_length_le (by rw [oneL_len]; exact Nat.le_refl _)))
    rintro k s hk rfl
    have hk' : k < (oneL l).length := by rw [oneL_len]; exact hk
    rw [Int.zero_add]
    refine .inl ⟨_, ?_, rfl⟩
    simp only [ix_at hk, Option.bind_some]
    rw [gd_t (by simp; omega), List.take_succ_eq_append_getElem hk', oneL_at hk]
  have ol := oneL_sum l
  obtain ⟨o2, o3, o4, o5, o6, o7⟩ := p_gathered (oneL l) (by rw [oneL_len]; exact hl) (fun x hx => hv _ (oneL_mem hx).1) (fun x hx => by rw [(oneL_mem hx).2]; omega) (by omega)
  refine ⟨o2, o3, by omega, by rw [oneL_len] at o5; exact o5, fun x hx => ?_, ?_⟩
  · obtain ⟨y, hy, h⟩ := o6 x hx
    rw [h]; exact (oneL_mem hy).1
  · unfold F_impl_countedViews
    rw [e2, Option.bind_some]
    rcases o7 with ⟨k1, k2⟩ | ⟨k1, k2⟩
    · exact .inl ⟨k1, by rw [k2]; rfl⟩
    · exact .inr ⟨k1, by rw [k2]; rfl⟩
theorem p_guardI (q d k : Int) : (if decide (23 < q) = true then (some true) else (
    (F_impl_isPrime q).bind fun z11 =>
    if (!z11) = true then (some true) else (
    (F_impl_within d 0 (IntKind.i64.wrap (q - 1))).bind fun z18 =>
    if (!z18) = true then (some true) else (
    (F_impl_within k 1 3).bind fun z25 => some (!z25)))) : Option Bool) = some (!(decide (2 ≤ q) && decide (q ≤ 23) && pr23 q && decide (0 ≤ d) && decide (d ≤ q - 1) && decide (1 ≤ k) && decide (k ≤ 3))) := by
  simp only [p_within]
  by_cases h1 : 23 < q
  · have : ¬ (q ≤ 23) := by omega
    simp [h1, this]
  · simp only [h1, decide_false, Bool.false_eq_true, if_false]
    by_cases h0 : q < 2
    · have : ¬ (2 ≤ q) := by omega
      rw [p_isPrime0 q h0]
      simp [this]
    · have c1 : 2 ≤ q := by omega
      have c2 : q ≤ 23 := by omega
      rw [p_isPrime q c1 c2, wr64 (by omega) (by omega)]
      simp only [c1, c2, decide_true, Bool.and_self, Bool.not_true, Bool.false_eq_true, if_false, Option.bind_some, Bool.true_and]
      cases pr23 q <;> simp only [Bool.not_false, Bool.not_true, Bool.false_eq_true, if_false, if_true, Bool.false_and, Bool.true_and]
      by_cases h2 : (0 ≤ d ∧ d ≤ q - 1)
      · simp [h2.1, h2.2]
      · have : (decide (0 ≤ d) && decide (d ≤ q - 1)) = false := by simpa using h2
        simp [this]
def bv (q d : Nat) (s : Nat) : List Int := [((d * s % q : Nat) : Int)]
def bL (q d k n : Nat) : List (List Int) := (List.range n).map fun t => bv q d (Eq' (q - 1) k t)
theorem E_bd {m : Nat} (hm : 1 ≤ m) (hm2 : m ≤ 22) (k t : Nat) : Eq' m k t ≤ 22 * k := by
  induction k generalizing t with
  | zero => simp [Eq']
  | succ k ih =>
    simp only [Eq']
    have := ih (t / m)
    have := Nat.mod_lt t (y := m) (by omega)
    omega
theorem cnt_bL {q d k : Nat} (hq : 2 ≤ q) (v : List Int) : cnt (oneL (bL q d k ((q - 1) ^ k))) v = Sm q (fun s => if bv q d s = v then Cq q k s else 0) := by
  have e1 : ∀ n, cnt (oneL (bL q d k n)) v = Sm n (fun t => if bv q d (Eq' (q - 1) k t) = v then 1 else 0) := by
    intro n
    induction n with
    | zero => simp [bL, oneL, cnt, Sm]
    | succ n ih =>
      have : oneL (bL q d k (n + 1)) = oneL (bL q d k n) ++ [⟨bv q d (Eq' (q - 1) k n), 1⟩] := by simp [bL, oneL, List.range_succ]
      rw [this, cnt_append, ih]
      simp only [cnt, Sm, Int.add_zero]
  have e2 : ∀ t, bv q d (Eq' (q - 1) k t) = bv q d (Eq' (q - 1) k t % q) := fun t => by
    unfold bv; rw [Nat.mul_mod, Nat.mul_mod d (_ % q), Nat.mod_mod]
  rw [e1, Sm_congr (g := fun t => (fun i => if bv q d i = v then (1 : Int) else 0) (Eq' (q - 1) k t % q)) fun t _ => by rw [e2 t],
    Sm_fib _ q (fun t => Eq' (q - 1) k t % q) (fun i => if bv q d i = v then (1 : Int) else 0) fun t _ => Nat.mod_lt _ (by omega)]
  refine Sm_congr fun i hi => ?_
  rw [count_E q k i hq, if_pos hi]
  split <;> simp
theorem p_blindI {q d k : Nat} (h2 : 2 ≤ q) (hq : q ≤ 23) (hp : pr23 q = true) (hd : d ≤ q - 1) (h1 : 1 ≤ k) (hk : k ≤ 3) :
    ∃ out, F_impl_BlindViews (q : Int) (d : Int) (k : Int) = some (out, true) ∧ Canon out (fun v => Sm q (fun s => if bv q d s = v then Cq q k s else 0)) ∧ out.length ≤ 3000 ∧ ∀ x ∈ out, x.View.length ≤ 1 := by
  unfold F_impl_BlindViews
  rw [p_guardI]
  have g : (!(decide (2 ≤ (q : Int)) && decide ((q : Int) ≤ 23) && pr23 q && decide (0 ≤ (d : Int)) && decide ((d : Int) ≤ (q : Int) - 1) && decide (1 ≤ (k : Int)) && decide ((k : Int) ≤ 3))) = false := by
    simp only [hp, Bool.and_true, Bool.not_eq_false', Bool.and_eq_true, decide_eq_true_eq]; omega
  simp only [g, Option.bind_some, Bool.false_eq_true, if_false]
  have hm : IntKind.i64.wrap ((q : Int) - 1) = ((q - 1 : Nat) : Int) := by rw [wr64 (by omega) (by omega)]; omega
  simp only [hm]
  have pw : (q - 1) ^ k ≤ 10648 := Nat.le_trans (Nat.pow_le_pow_left (show q - 1 ≤ 22 by omega) k) (Nat.le_trans (Nat.pow_le_pow_right (by omega) hk) (by decide))
  have e1 : wloop (σ := Int × Int) (β := Int) (fun s40 =>
      if decide (s40.2 < (k : Int)) = true then (
      some (.go (IntKind.i64.wrap (s40.1 * ((q - 1 : Nat) : Int)), IntKind.i64.wrap (s40.2 + 1)))) else (
      some (.out s40.1))) (1, 0) = some (((q - 1) ^ k : Nat) : Int) := by
    refine eq_of_rn (rn_cloop k (fun j s => s = ((((q - 1) ^ j : Nat) : Int), (j : Int))) rfl ?_ ?_)
    · rintro j s hj rfl
      refine rn_t (by simp only [decide_eq_true_eq]; omega) (rn_some ?_)
      have p1 : (q - 1) ^ j * (q - 1) = (q - 1) ^ (j + 1) := (Nat.pow_succ ..).symm
      have p2 : (q - 1) ^ (j + 1) ≤ (q - 1) ^ k := Nat.pow_le_pow_right (by omega) (by omega)
      have p3 : (((q - 1) ^ j : Nat) : Int) * ((q - 1 : Nat) : Int) = (((q - 1) ^ (j + 1) : Nat) : Int) := by rw [← p1]; exact (Int.natCast_mul _ _).symm
      show (_, _) = (_, _)
      dsimp only
      rw [p3, wr64 (by omega) (by omega), wr64 (by omega) (by omega)]; rfl
    · rintro s rfl
      exact rn_f (by simp) (rn_some rfl)
  rw [e1, Option.bind_some]
  have e2 : ∀ f : List (List Int) → Option ((List ViewCount) × Bool), ∀ φ, Rn (f (bL q d k ((q - 1) ^ k))) φ → Rn ((wloop (σ := (List (List Int)) × Int) (β := (List (List Int))) (fun s103 =>
      if decide (s103.2 < (((q - 1) ^ k : Nat) : Int)) = true then (
      ((wloop (σ := Int × Int × Int) (β := Int) (fun s119 =>
      if decide (s119.2.1 < (k : Int)) = true then (
      gd (((q - 1 : Nat) : Int) ≠ 0) <|
      gd (((q - 1 : Nat) : Int) ≠ 0) <|
      some (.go (IntKind.i64.wrap (s119.1 + (IntKind.i64.wrap (1 + (s119.2.2.tmod ((q - 1 : Nat) : Int))))), IntKind.i64.wrap (s119.2.1 + 1), IntKind.i64.wrap (s119.2.2.tdiv ((q - 1 : Nat) : Int))))) else (
      some (.out s119.1))) (0, 0, s103.2) : Option (Int)).bind fun (x117 : Int) =>
      gd ((q : Int) ≠ 0) <|
      gd ((s103.1.length + 1) * 24 ≤ 140737488355328 ∧ s103.1.length + 1 ≤ 4611686018427387904) <|
      some (.go (s103.1 ++ [[(IntKind.i64.wrap ((d : Int) * x117)).tmod (q : Int)]], IntKind.i64.wrap (s103.2 + 1))))) else (
      some (.out s103.1))) ([], 0)).bind f) φ := by
    intro f φ hf
    refine rn_then (rn_cloop (φ := fun l => l = bL q d k ((q - 1) ^ k)) ((q - 1) ^ k) (fun n s => s = (bL q d k n, (n : Int))) rfl ?_ ?_) (fun l hl => by rw [hl]; exact hf)
    · rintro n s hn rfl
      refine rn_t (by simp only [decide_eq_true_eq]; omega) ?_
      refine rn_then (rn_cloop (φ := fun x => x = ((Eq' (q - 1) k n : Nat) : Int)) k (fun j s => ∃ a r, s = (((a : Nat) : Int), (j : Int), ((r : Nat) : Int)) ∧ a + Eq' (q - 1) (k - j) r = Eq' (q - 1) k n ∧ r ≤ n) ⟨0, n, rfl, by simp, Nat.le_refl _⟩ ?_ ?_) ?_
      · rintro j s hj ⟨a, r, rfl, ha, hr⟩
        refine rn_t (by simp only [decide_eq_true_eq]; omega) (rn_gd (by omega) (rn_gd (by omega) (rn_some ?_)))
        have b := E_bd (m := q - 1) (by omega) (by omega) k n
        have hj2 : k - j = (k - (j + 1)) + 1 := by omega
        rw [hj2] at ha
        simp only [Eq'] at ha
        have hr2 : r / (q - 1) ≤ r := Nat.div_le_self _ _
        generalize hrd : r / (q - 1) = rd at *
        have m1 : (r : Int).tmod ((q - 1 : Nat) : Int) = ((r % (q - 1) : Nat) : Int) := by rw [Int.tmod_eq_emod_of_nonneg (by omega)]; exact (Int.natCast_emod _ _).symm
        have m2 : (r : Int).tdiv ((q - 1 : Nat) : Int) = (rd : Int) := by rw [← hrd, Int.tdiv_eq_ediv_of_nonneg (by omega)]; exact (Int.natCast_ediv _ _).symm
        refine ⟨a + (1 + r % (q - 1)), rd, ?_, by omega, by omega⟩
        dsimp only
        rw [m1, m2, wr64 (n := 1 + _) (by omega) (by omega), wr64 (n := (a : Int) + _) (by omega) (by omega), wr64 (n := (j : Int) + 1) (by omega) (by omega), wr64 (n := (rd : Int)) (by omega) (by omega)]
        rfl
      · rintro s ⟨a, r, rfl, ha, hr⟩
        refine rn_f (by simp) (rn_some ?_)
        simp only [Nat.sub_self, Eq', Nat.add_zero] at ha
        show (a : Int) = _
        rw [ha]
      · rintro x rfl
        have b := E_bd (m := q - 1) (by omega) (by omega) k n
        refine rn_gd (by omega) (rn_gd (by simp [bL]; omega) (rn_some ?_))
        show (_, _) = (_, _)
        have b2 : d * Eq' (q - 1) k n ≤ 23 * 66 := Nat.mul_le_mul (by omega) (by omega)
        have b3 : (d : Int) * ((Eq' (q - 1) k n : Nat) : Int) = ((d * Eq' (q - 1) k n : Nat) : Int) := (Int.natCast_mul _ _).symm
        have b4 : (((d * Eq' (q - 1) k n : Nat) : Int)).tmod (q : Int) = ((d * Eq' (q - 1) k n % q : Nat) : Int) := by rw [Int.tmod_eq_emod_of_nonneg (by omega)]; exact (Int.natCast_emod _ _).symm
        dsimp only
        rw [b3, wr64 (by omega) (by omega), b4, wr64 (by omega) (by omega)]
        simp [bL, List.range_succ, bv]
    · rintro s rfl
      exact rn_f (by simp) (rn_some rfl)
  obtain ⟨out, o1, o2, o3, o4, o5⟩ := p_countedViews (bL q d k ((q - 1) ^ k)) (by simp [bL]; omega) (fun x hx => by
    simp only [bL, List.mem_map] at hx
    obtain ⟨t, _, rfl⟩ := hx
    simp [bv])
  have cc : Canon out (fun v => Sm q (fun s => if bv q d s = v then Cq q k s else 0)) := o1.congr fun v => cnt_bL h2 v
  have vl : ∀ x ∈ out, x.View.length ≤ 1 := fun x hx => by
    have := o4 x hx
    simp only [bL, List.mem_map] at this
    obtain ⟨t, _, e⟩ := this
    rw [← e]; simp [bv]
  have hlen : (bL q d k ((q - 1) ^ k)).length = (q - 1) ^ k := by simp [bL]
  have hv3 : ∀ x ∈ out, ∃ s, s < q ∧ x.View = bv q d s := fun x hx => by
    have := o4 x hx
    simp only [bL, List.mem_map] at this
    obtain ⟨t, _, e⟩ := this
    refine ⟨Eq' (q - 1) k t % q, Nat.mod_lt _ (by omega), ?_⟩
    rw [← e]; unfold bv; rw [Nat.mul_mod, Nat.mul_mod d (_ % q), Nat.mod_mod]
  have ol : out.length ≤ 3000 := by
    -- different views, each below q
    have hnd : List.Nodup (out.map (·.View)) := by
      rw [List.nodup_iff_pairwise_ne, List.pairwise_iff_getElem]
      intro i j hi hj hij
      rw [List.length_map] at hi hj
      have := ltV_ne (cc.s i j hij hj)
      rw [gv_at hi, gv_at hj] at this
      simpa using this
    have hsub : (out.map (·.View)) ⊆ (List.range q).map (bv q d) := fun v hv => by
      obtain ⟨x, hx, rfl⟩ := List.mem_map.1 hv
      obtain ⟨s, hs, e⟩ := hv3 x hx
      exact List.mem_map.2 ⟨s, List.mem_range.2 hs, e.symm⟩
    have := List.Nodup.length_le_of_subset hnd hsub
    simp at this; omega
  refine ⟨out, ?_, cc, ol, vl⟩
  refine eq_of_rn (e2 _ _ ?_)
  rcases o5 with ⟨_, k2⟩ | ⟨k1, _⟩
  · rw [k2]; exact rn_some rfl
  · exact absurd (good_of_canon cc ol (fun x hx => by have := vl x hx; omega) (by rw [o2, hlen]; omega)) k1
theorem n_within (a b c : Int) : F_impl_within a b c = some (decide (b ≤ a) && decide (a ≤ c)) := by
  unfold F_impl_within
  by_cases h : b ≤ a <;> simp [h]
theorem n_l1In (a b c : Int) : F_spec_l1In a b c = some (decide (b ≤ a) && decide (a ≤ c)) := by
  unfold F_spec_l1In
  by_cases h : b ≤ a <;> simp [h]
theorem n_isModulus (a : Int) : F_impl_isModulus a = some (decide (2 ≤ a) && decide (a ≤ 2000000000)) := by
  unfold F_impl_isModulus
  rw [n_within]; rfl
theorem tmod_cast (a b : Nat) : (a : Int).tmod (b : Int) = ((a % b : Nat) : Int) := by rw [Int.tmod_eq_emod_of_nonneg (by omega)]; exact (Int.natCast_emod _ _).symm
theorem tdiv_cast (a b : Nat) : (a : Int).tdiv (b : Int) = ((a / b : Nat) : Int) := by rw [Int.tdiv_eq_ediv_of_nonneg (by omega)]; exact (Int.natCast_ediv _ _).symm
theorem mul_cast (a b : Nat) : (a : Int) * (b : Int) = ((a * b : Nat) : Int) := (Int.natCast_mul _ _).symm
theorem and_one {e : Nat} (he : e ≤ 9223372036854775807) : IntKind.i64.wrap (BitVec.ofInt IntKind.i64.bits (e : Int) &&& BitVec.ofInt IntKind.i64.bits 1).toNat = ((e % 2 : Nat) : Int) := by
  have h1 : (BitVec.ofInt IntKind.i64.bits (e : Int) &&& BitVec.ofInt IntKind.i64.bits 1).toNat = e % 2 := by
    rw [BitVec.toNat_and]
    have a1 : (BitVec.ofInt IntKind.i64.bits (e : Int)).toNat = e := by
      rw [BitVec.toNat_ofInt]
      have : IntKind.i64.bits = 64 := rfl
      rw [this]
      omega
    have a2 : (BitVec.ofInt IntKind.i64.bits 1).toNat = 1 := by decide
    rw [a1, a2, Nat.and_one_is_mod]
  rw [h1, wr64 (by omega) (by omega)]
-- powers
theorem n_power {a e m : Nat} (ha : a ≤ 2000000000) (hm : 1 ≤ m) (hm2 : m ≤ 2000000000) (he : e ≤ 9223372036854775807) : F_impl_power (a : Int) (e : Int) (m : Int) = some ((a ^ e % m : Nat) : Int) := by
  unfold F_impl_power
  refine eq_of_rn (rn_gd (by omega) (rn_then (φ := (· = ((a ^ e % m : Nat) : Int))) (rn_wloop (φ := (· = ((a ^ e % m : Nat) : Int))) (fun s => ∃ x y o : Nat, s = ((x : Int), (y : Int), (o : Int)) ∧ x ≤ 2000000000 ∧ y ≤ e ∧ o < m ∧ o * x ^ y % m = a ^ e % m) (fun s => s.2.1.toNat)
    ⟨a, e, 1 % m, by rw [show (1 : Int) = ((1 : Nat) : Int) from rfl, tmod_cast], ha, Nat.le_refl _, Nat.mod_lt _ (by omega), by rw [Nat.mod_mul_mod, Nat.one_mul]⟩ ?_) fun x hx => rn_some hx))
  rintro s ⟨x, y, o, rfl, hx, hy, ho, hi⟩
  refine rn_if (fun h0 => ?_) fun h0 => ?_
  · have h0 : 0 < y := by simpa using h0
    have hox : o * x ≤ 4000000000000000000 := Nat.le_trans (Nat.mul_le_mul (show o ≤ 2000000000 by omega) hx) (by decide)
    have hxx : x * x ≤ 4000000000000000000 := Nat.le_trans (Nat.mul_le_mul hx hx) (by decide)
    refine rn_then (ψ := fun o' => ∃ k : Nat, o' = (k : Int) ∧ k < m ∧ k * (x * x) ^ (y / 2) % m = a ^ e % m) ?_ ?_
    · simp only [and_one (show y ≤ 9223372036854775807 by omega)]
      refine rn_if (fun h1 => rn_gd (by omega) (rn_some ⟨o * x % m, ?_, Nat.mod_lt _ (by omega), ?_⟩)) fun h1 => rn_some ⟨o, rfl, ho, ?_⟩
      · rw [mul_cast, wr64 (by omega) (by omega), tmod_cast]
      · have h1 : y % 2 = 1 := by
          have : ((y % 2 : Nat) : Int) = 1 := by simpa using h1
          omega
        rw [Nat.mod_mul_mod, ← hi, ← Nat.pow_two, ← Nat.pow_mul, Nat.mul_assoc, ← Nat.pow_succ']
        congr 3; omega
      · have h1 : y % 2 = 0 := by
          have : ¬ ((y % 2 : Nat) : Int) = 1 := by simpa using h1
          omega
        rw [← hi, ← Nat.pow_two, ← Nat.pow_mul]
        congr 3; omega
    · rintro o' ⟨k, rfl, hk, hk2⟩
      refine rn_gd (by omega) (rn_some ⟨⟨x * x % m, y / 2, k, ?_, by have := Nat.mod_lt (x * x) (show 0 < m by omega); omega, by omega, hk, ?_⟩, ?_⟩)
      · rw [mul_cast, wr64 (by omega) (by omega), tmod_cast]
        have e3 : (y : Int).fdiv 2 = ((y / 2 : Nat) : Int) := by rw [Int.fdiv_eq_ediv_of_nonneg _ (by omega)]; rfl
        show (_, (y : Int).fdiv 2, _) = _
        rw [e3]
      · rw [Nat.mul_mod, ← Nat.pow_mod, ← Nat.mul_mod]
        exact hk2
      · show ((y : Int).fdiv 2).toNat < (y : Int).toNat
        rw [Int.fdiv_eq_ediv_of_nonneg _ (by omega)]
        omega
  · have h0 : y = 0 := by
      have : ¬ (0 < y) := by simpa using h0
      omega
    subst h0
    refine rn_some ?_
    show (o : Int) = _
    rw [Nat.pow_zero, Nat.mul_one, Nat.mod_eq_of_lt ho] at hi
    rw [hi]
theorem n_nPower {a e m : Nat} (ha : a ≤ 2000000000) (hm : 1 ≤ m) (hm2 : m ≤ 2000000000) (he : e ≤ 9223372036854775807) : F_spec_nPower (a : Int) (e : Int) (m : Int) = some ((a ^ e % m : Nat) : Int) := by
  unfold F_spec_nPower
  refine eq_of_rn (rn_gd (by omega) (rn_then (φ := (· = ((a ^ e % m : Nat) : Int))) (rn_wloop (φ := (· = ((a ^ e % m : Nat) : Int))) (fun s => ∃ x y o : Nat, s = ((x : Int), (y : Int), (o : Int)) ∧ x ≤ 2000000000 ∧ y ≤ e ∧ o < m ∧ o * x ^ y % m = a ^ e % m) (fun s => s.2.1.toNat)
    ⟨a, e, 1 % m, by rw [show (1 : Int) = ((1 : Nat) : Int) from rfl, tmod_cast], ha, Nat.le_refl _, Nat.mod_lt _ (by omega), by rw [Nat.mod_mul_mod, Nat.one_mul]⟩ ?_) fun x hx => rn_some hx))
  rintro s ⟨x, y, o, rfl, hx, hy, ho, hi⟩
  refine rn_if (fun h0 => ?_) fun h0 => ?_
  · have h0 : 0 < y := by simpa using h0
    have hox : o * x ≤ 4000000000000000000 := Nat.le_trans (Nat.mul_le_mul (show o ≤ 2000000000 by omega) hx) (by decide)
    have hxx : x * x ≤ 4000000000000000000 := Nat.le_trans (Nat.mul_le_mul hx hx) (by decide)
    have e2 : (y : Int).tmod 2 = ((y % 2 : Nat) : Int) := tmod_cast y 2
    refine rn_then (ψ := fun o' => ∃ k : Nat, o' = (k : Int) ∧ k < m ∧ k * (x * x) ^ (y / 2) % m = a ^ e % m) ?_ ?_
    · simp only [e2]
      refine rn_if (fun h1 => rn_gd (by omega) (rn_some ⟨o * x % m, ?_, Nat.mod_lt _ (by omega), ?_⟩)) fun h1 => rn_some ⟨o, rfl, ho, ?_⟩
      · rw [mul_cast, wr64 (by omega) (by omega), tmod_cast]
      · have h1 : y % 2 = 1 := by
          have : ((y % 2 : Nat) : Int) = 1 := by simpa using h1
          omega
        rw [Nat.mod_mul_mod, ← hi, ← Nat.pow_two, ← Nat.pow_mul, Nat.mul_assoc, ← Nat.pow_succ']
        congr 3; omega
      · have h1 : y % 2 = 0 := by
          have : ¬ ((y % 2 : Nat) : Int) = 1 := by simpa using h1
          omega
        rw [← hi, ← Nat.pow_two, ← Nat.pow_mul]
        congr 3; omega
    · rintro o' ⟨k, rfl, hk, hk2⟩
      have e3 : (y : Int).tdiv 2 = ((y / 2 : Nat) : Int) := tdiv_cast y 2
      refine rn_gd (by omega) (rn_some ⟨⟨x * x % m, y / 2, k, ?_, by have := Nat.mod_lt (x * x) (show 0 < m by omega); omega, by omega, hk, ?_⟩, ?_⟩)
      · simp only [e3]
        rw [mul_cast, wr64 (n := ((x * x : Nat) : Int)) (by omega) (by omega), tmod_cast, wr64 (n := ((y / 2 : Nat) : Int)) (by omega) (by omega)]
      · rw [Nat.mul_mod, ← Nat.pow_mod, ← Nat.mul_mod]
        exact hk2
      · show (IntKind.i64.wrap ((y : Int).tdiv 2)).toNat < (y : Int).toNat
        rw [e3, wr64 (by omega) (by omega)]
        omega
  · have h0 : y = 0 := by
      have : ¬ (0 < y) := by simpa using h0
      omega
    subst h0
    refine rn_some ?_
    show (o : Int) = _
    rw [Nat.pow_zero, Nat.mul_one, Nat.mod_eq_of_lt ho] at hi
    rw [hi]
-- residues
theorem n_mod {a q : Int} (h0 : 0 < q) (h1 : q ≤ 2000000000) : F_impl_mod a q = some (a % q) := by
  unfold F_impl_mod
  rw [gd_t (by omega), gd_t (by omega)]
  have b1 : a.tmod q < q := Int.tmod_lt_of_pos a h0
  have b2 : -q < a.tmod q := by
    have := Int.lt_tmod_of_pos a h0
    omega
  rw [wr64 (by omega) (by omega), Int.tmod_eq_emod_of_nonneg (by omega)]
  congr 1
  rw [Int.add_emod_right]
  rw [Int.tmod_def, Int.sub_emod, Int.mul_emod_right, Int.sub_zero, Int.emod_emod]
theorem n_nMod {a q : Int} (h0 : 0 < q) (h1 : q ≤ 2000000000) : F_spec_nMod a q = some (a % q) := by
  unfold F_spec_nMod
  rw [gd_t (by omega), gd_t (by omega)]
  have b1 : a.tmod q < q := Int.tmod_lt_of_pos a h0
  have b2 : -q < a.tmod q := by
    have := Int.lt_tmod_of_pos a h0
    omega
  rw [wr64 (by omega) (by omega), Int.tmod_eq_emod_of_nonneg (by omega)]
  congr 1
  rw [Int.add_emod_right]
  rw [Int.tmod_def, Int.sub_emod, Int.mul_emod_right, Int.sub_zero, Int.emod_emod]
-- primes
def Pr (n : Nat) : Prop := 2 ≤ n ∧ ∀ d, 2 ≤ d → d * d ≤ n → n % d ≠ 0
open Classical in
noncomputable def prB (n : Int) : Bool := decide (Pr n.toNat)
theorem prB_t {n : Nat} : prB (n : Int) = true ↔ Pr n := by simp [prB]
theorem n_nPrime (n : Int) (h : n ≤ 2000000000) : F_spec_nPrime n = some (prB n) := by
  unfold F_spec_nPrime
  refine eq_of_rn (rn_if (fun h0 => rn_some ?_) fun h0 => ?_)
  · have h0 : n < 2 := by simpa using h0
    symm
    unfold prB
    rw [decide_eq_false_iff_not]
    intro hp
    have := hp.1
    omega
  · have h0 : ¬ n < 2 := by simpa using h0
    obtain ⟨n, rfl⟩ := Int.eq_ofNat_of_zero_le (show 0 ≤ n by omega)
    refine rn_then (ψ := fun b => (b = .inl () ∧ Pr n) ∨ (b = .inr false ∧ ¬ Pr n)) (rn_wloop (fun s => ∃ d : Nat, s = (d : Int) ∧ 2 ≤ d ∧ d ≤ 44723 ∧ ∀ k, 2 ≤ k → k < d → k * k ≤ n → n % k ≠ 0) (fun s => 50000 - s.toNat) ⟨2, rfl, by omega, by omega, fun k h1 h2 => by omega⟩ ?_) ?_
    · rintro s ⟨d, rfl, hd, hd2, hi⟩
      have hdd : d * d ≤ 2000146729 := Nat.le_trans (Nat.mul_le_mul hd2 hd2) (by decide)
      rw [mul_cast, wr64 (by omega) (by omega)]
      refine rn_if (fun h1 => rn_gd (by omega) (rn_if (fun h2 => rn_some (.inr ⟨rfl, ?_⟩)) fun h2 => rn_some ?_)) fun h1 => rn_some (.inl ⟨rfl, by omega, fun k hk hkn => ?_⟩)
      · have h1 : d * d ≤ n := by have := of_decide_eq_true h1; omega
        rw [tmod_cast] at h2
        have h2 : n % d = 0 := by have : ((n % d : Nat) : Int) = 0 := by simpa using h2
                                  omega
        exact fun hp => hp.2 d hd h1 h2
      · have h1 : d * d ≤ n := by have := of_decide_eq_true h1; omega
        rw [tmod_cast] at h2
        have h2 : n % d ≠ 0 := by have : ¬ ((n % d : Nat) : Int) = 0 := by simpa using h2
                                  omega
        have hd3 : d ≤ 44722 := by
          rcases Nat.lt_or_ge d 44723 with h | h
          · omega
          · have : 44723 * 44723 ≤ d * d := Nat.mul_le_mul h h
            omega
        rw [wr64 (by omega) (by omega)]
        refine ⟨⟨d + 1, rfl, by omega, by omega, fun k h3 h4 h5 => ?_⟩, by omega⟩
        rcases Nat.lt_or_ge k d with h | h
        · exact hi k h3 h h5
        · have : k = d := by omega
          subst this
          exact h2
      · have h1 : n < d * d := by have := of_decide_eq_false h1; omega
        rcases Nat.lt_or_ge k d with h | h
        · exact hi k hk h hkn
        · have := Nat.mul_le_mul h h
          omega
    · rintro b (⟨rfl, hp⟩ | ⟨rfl, hp⟩)
      · exact rn_some (prB_t.2 hp).symm
      · refine rn_some ?_
        symm
        unfold prB
        rw [decide_eq_false_iff_not]
        exact hp
theorem n_isPrime (n : Int) : F_impl_isPrime n = some (decide (n ≤ 2000000000) && prB n) := by
  unfold F_impl_isPrime
  by_cases h : 2 ≤ n ∧ n ≤ 2000000000
  · obtain ⟨n, rfl⟩ := Int.eq_ofNat_of_zero_le (show 0 ≤ n by omega)
    have e2 : ((n : Int)).tmod 2 = ((n % 2 : Nat) : Int) := tmod_cast n 2
    have em : (decide (2 ≤ (n : Int)) && decide ((n : Int) ≤ 2000000000)) = true := by simp only [Bool.and_eq_true, decide_eq_true_eq]; exact h
    rw [show (decide ((n : Int) ≤ 2000000000) && prB (n : Int)) = prB (n : Int) by simp [h.2]]
    refine eq_of_rn (rn_then (ψ := fun b => b = decide (n % 2 = 0 ∧ n ≠ 2)) (rn_call (n_isModulus _) ?_) ?_)
    · rw [em]
      refine rn_f rfl ?_
      rw [e2]
      refine rn_if (fun h1 => rn_some ?_) fun h1 => rn_some ?_
      · have h1 : n % 2 = 0 := by have : ((n % 2 : Nat) : Int) = 0 := by simpa using h1
                                  omega
        have : ((n : Int) != 2) = decide (n ≠ 2) := by
          by_cases hn : n = 2
          · subst hn; rfl
          · have hn' : ¬ (n : Int) = 2 := by omega
            simp [hn, hn']
        rw [this]; simp [h1]
      · have h1 : n % 2 ≠ 0 := by have : ¬ ((n % 2 : Nat) : Int) = 0 := by simpa using h1
                                  omega
        simp [h1]
    · rintro b rfl
      refine rn_if (fun h1 => rn_some ?_) fun h1 => ?_
      · have h1 := of_decide_eq_true h1
        symm
        unfold prB
        rw [decide_eq_false_iff_not]
        intro hp
        have hn : 4 ≤ n := by omega
        exact hp.2 2 (by omega) hn h1.1
      · have h1 := of_decide_eq_false h1
        refine rn_then (ψ := fun b => (b = .inl () ∧ Pr n) ∨ (b = .inr false ∧ ¬ Pr n)) (rn_wloop (fun s => ∃ d : Nat, s = (d : Int) ∧ 3 ≤ d ∧ d % 2 = 1 ∧ d ≤ 44725 ∧ ∀ k, 2 ≤ k → k < d → k * k ≤ n → n % k ≠ 0) (fun s => 50000 - s.toNat) ⟨3, rfl, by omega, by omega, by omega, fun k h2 h3 h4 => ?_⟩ ?_) ?_
        · have : k = 2 := by omega
          subst this
          intro h5
          exact h1 ⟨h5, by omega⟩
        · rintro s ⟨d, rfl, hd, hodd, hd2, hi⟩
          have hdd : d * d ≤ 2000325625 := Nat.le_trans (Nat.mul_le_mul hd2 hd2) (by decide)
          rw [mul_cast, wr64 (by omega) (by omega)]
          refine rn_if (fun h1 => rn_gd (by omega) (rn_if (fun h2 => rn_some (.inr ⟨rfl, ?_⟩)) fun h2 => rn_some ?_)) fun h1 => rn_some (.inl ⟨rfl, by omega, fun k hk hkn => ?_⟩)
          · have h1 : d * d ≤ n := by have := of_decide_eq_true h1; omega
            rw [tmod_cast] at h2
            have h2 : n % d = 0 := by have : ((n % d : Nat) : Int) = 0 := by simpa using h2
                                      omega
            exact fun hp => hp.2 d (by omega) h1 h2
          · have h3 : d * d ≤ n := by have := of_decide_eq_true h1; omega
            rw [tmod_cast] at h2
            have h2 : n % d ≠ 0 := by have : ¬ ((n % d : Nat) : Int) = 0 := by simpa using h2
                                      omega
            have hd3 : d ≤ 44722 := by
              rcases Nat.lt_or_ge d 44723 with h | h
              · omega
              · have : 44723 * 44723 ≤ d * d := Nat.mul_le_mul h h
                omega
            rw [wr64 (by omega) (by omega)]
            refine ⟨⟨d + 2, rfl, by omega, by omega, by omega, fun k h4 h5 h6 h7 => ?_⟩, by omega⟩
            rcases Nat.lt_or_ge k d with h | h
            · exact hi k h4 h h6 h7
            · rcases (show k = d ∨ k = d + 1 by omega) with e | e
              · subst e; exact h2 h7
              · -- an even divisor
                have h8 : n % 2 = 0 := by
                  have a1 : k ∣ n := Nat.dvd_of_mod_eq_zero h7
                  have a2 : 2 ∣ k := Nat.dvd_of_mod_eq_zero (by omega)
                  exact Nat.mod_eq_zero_of_dvd (Nat.dvd_trans a2 a1)
                have h9 : 2 * 2 ≤ n := by
                  have := Nat.mul_le_mul h4 h4
                  omega
                exact hi 2 (by omega) (by omega) h9 h8
          · have h1 : n < d * d := by have := of_decide_eq_false h1; omega
            rcases Nat.lt_or_ge k d with h | h
            · exact hi k hk h hkn
            · have := Nat.mul_le_mul h h
              omega
        · rintro b (⟨rfl, hp⟩ | ⟨rfl, hp⟩)
          · exact rn_some (prB_t.2 hp).symm
          · refine rn_some ?_
            symm
            unfold prB
            rw [decide_eq_false_iff_not]
            exact hp
  · have em : (decide (2 ≤ n) && decide (n ≤ 2000000000)) = false := by
      rw [Bool.and_eq_false_iff, decide_eq_false_iff_not, decide_eq_false_iff_not]; omega
    rw [n_isModulus, em]
    simp only [Option.bind_some, Bool.not_false, if_true]
    congr 1
    symm
    rw [Bool.and_eq_false_iff, decide_eq_false_iff_not]
    by_cases hn : n ≤ 2000000000
    · right
      unfold prB
      rw [decide_eq_false_iff_not]
      intro hp
      have := hp.1
      omega
    · exact .inl hn
structure OkG (gr : Group) : Prop where
  p : 3 ≤ gr.P ∧ gr.P ≤ 2000000000
  q : 2 ≤ gr.Q ∧ gr.Q ≤ gr.P - 1
  d : (gr.P.toNat - 1) % gr.Q.toNat = 0
  g : 2 ≤ gr.G ∧ gr.G ≤ gr.P - 1
  pp : Pr gr.P.toNat
  pq : Pr gr.Q.toNat
  o : gr.G.toNat ^ gr.Q.toNat % gr.P.toNat = 1
open Classical in
noncomputable def okG (gr : Group) : Bool := decide (OkG gr)
theorem okG_t {gr : Group} : okG gr = true ↔ OkG gr := by simp [okG]
theorem okG_f {gr : Group} (h : ¬ OkG gr) : okG gr = false := by simp [okG, h]
theorem okG_of {gr : Group} {b : Bool} (h1 : b = true → OkG gr) (h2 : OkG gr → b = true) : b = okG gr := by
  cases hb : b with
  | true => exact (okG_t.2 (h1 hb)).symm
  | false => exact (okG_f fun h => by rw [h2 h] at hb; cases hb).symm
theorem cast_eq {a : Int} (h : 0 ≤ a) : a = ((a.toNat : Nat) : Int) := by omega
theorem n_powI {a e m : Int} (ha : 0 ≤ a) (ha2 : a ≤ 2000000000) (hm : 1 ≤ m) (hm2 : m ≤ 2000000000) (he : 0 ≤ e) (he2 : e ≤ 9223372036854775807) : F_impl_power a e m = some ((a.toNat ^ e.toNat % m.toNat : Nat) : Int) ∧ F_spec_nPower a e m = some ((a.toNat ^ e.toNat % m.toNat : Nat) : Int) := by
  have h1 := n_power (a := a.toNat) (e := e.toNat) (m := m.toNat) (by omega) (by omega) (by omega) (by omega)
  have h2 := n_nPower (a := a.toNat) (e := e.toNat) (m := m.toNat) (by omega) (by omega) (by omega) (by omega)
  rw [← cast_eq ha, ← cast_eq he, ← cast_eq (show 0 ≤ m by omega)] at h1 h2
  exact ⟨h1, h2⟩
theorem and_iff_t {a b : Bool} : (a && b) = true ↔ a = true ∧ b = true := by simp
theorem n_validG (gr : Group) : F_impl_IsValidGroup gr = some (okG gr) := by
  unfold F_impl_IsValidGroup
  refine eq_of_rn (rn_then (ψ := fun b => b = okG gr) ?_ fun b hb => rn_some hb)
  refine rn_call (n_within _ _ _) (rn_if (fun h => ?_) fun h => ?_)
  · have hp : 3 ≤ gr.P ∧ gr.P ≤ 2000000000 := by simpa using h
    rw [wr64 (n := gr.P - 1) (by omega) (by omega)]
    refine rn_call (n_within _ _ _) (rn_if (fun h => ?_) fun h => ?_)
    · have hq : 2 ≤ gr.Q ∧ gr.Q ≤ gr.P - 1 := by simpa using h
      have ed : (gr.P - 1).tmod gr.Q = (((gr.P.toNat - 1) % gr.Q.toNat : Nat) : Int) := by
        rw [cast_eq (show 0 ≤ gr.P - 1 by omega), cast_eq (show 0 ≤ gr.Q by omega), tmod_cast]
        simp only [Int.toNat_natCast]
        congr 2; omega
      refine rn_gd (by omega) ?_
      rw [ed]
      refine rn_if (fun h => ?_) fun h => ?_
      · have hd : (gr.P.toNat - 1) % gr.Q.toNat = 0 := by
          have : (((gr.P.toNat - 1) % gr.Q.toNat : Nat) : Int) = 0 := by simpa using h
          omega
        refine rn_call (n_within _ _ _) (rn_if (fun h => ?_) fun h => ?_)
        · have hg : 2 ≤ gr.G ∧ gr.G ≤ gr.P - 1 := by simpa using h
          refine rn_call (n_isPrime _) (rn_if (fun h => ?_) fun h => ?_)
          · have hpp : Pr gr.P.toNat := by
              rw [and_iff_t, cast_eq (show 0 ≤ gr.P by omega), prB_t] at h
              exact h.2
            refine rn_call (n_isPrime _) (rn_if (fun h => ?_) fun h => ?_)
            · have hpq : Pr gr.Q.toNat := by
                rw [and_iff_t, cast_eq (show 0 ≤ gr.Q by omega), prB_t] at h
                exact h.2
              refine rn_call (n_powI (a := gr.G) (e := gr.Q) (m := gr.P) (by omega) (by omega) (by omega) (by omega) (by omega) (by omega)).1 (rn_some (okG_of (fun h => ⟨hp, hq, hd, hg, hpp, hpq, ?_⟩) fun h => ?_))
              · have : ((gr.G.toNat ^ gr.Q.toNat % gr.P.toNat : Nat) : Int) = 1 := by simpa using h
                omega
              · rw [h.o]; rfl
            · refine rn_some (okG_f fun hk => ?_).symm
              have : (decide (gr.Q ≤ 2000000000) && prB gr.Q) = true := by
                rw [and_iff_t, cast_eq (show 0 ≤ gr.Q by omega), prB_t]
                exact ⟨by simp; omega, hk.pq⟩
              rw [this] at h; cases h
          · refine rn_some (okG_f fun hk => ?_).symm
            have : (decide (gr.P ≤ 2000000000) && prB gr.P) = true := by
              rw [and_iff_t, cast_eq (show 0 ≤ gr.P by omega), prB_t]
              exact ⟨by simp; omega, hk.pp⟩
            rw [this] at h; cases h
        · refine rn_some (okG_f fun hk => ?_).symm
          have := hk.g
          simp at h; omega
      · refine rn_some (okG_f fun hk => ?_).symm
        rw [hk.d] at h; cases h
    · refine rn_some (okG_f fun hk => ?_).symm
      have := hk.q
      simp at h; omega
  · refine rn_some (okG_f fun hk => ?_).symm
    have := hk.p
    simp at h; omega
theorem n_l2Good (gr : Group) : F_spec_l2Good gr = some (okG gr) := by
  unfold F_spec_l2Good
  refine eq_of_rn (rn_then (ψ := fun b => b = okG gr) ?_ fun b hb => rn_some hb)
  refine rn_call (n_l1In _ _ _) (rn_if (fun h => ?_) fun h => ?_)
  · have hp : 3 ≤ gr.P ∧ gr.P ≤ 2000000000 := by simpa using h
    rw [wr64 (n := gr.P - 1) (by omega) (by omega)]
    refine rn_call (n_l1In _ _ _) (rn_if (fun h => ?_) fun h => ?_)
    · have hq : 2 ≤ gr.Q ∧ gr.Q ≤ gr.P - 1 := by simpa using h
      have ed : (gr.P - 1).tmod gr.Q = (((gr.P.toNat - 1) % gr.Q.toNat : Nat) : Int) := by
        rw [cast_eq (show 0 ≤ gr.P - 1 by omega), cast_eq (show 0 ≤ gr.Q by omega), tmod_cast]
        simp only [Int.toNat_natCast]
        congr 2; omega
      refine rn_gd (by omega) ?_
      rw [ed]
      refine rn_if (fun h => ?_) fun h => ?_
      · have hd : (gr.P.toNat - 1) % gr.Q.toNat = 0 := by
          have : (((gr.P.toNat - 1) % gr.Q.toNat : Nat) : Int) = 0 := by simpa using h
          omega
        refine rn_call (n_l1In _ _ _) (rn_if (fun h => ?_) fun h => ?_)
        · have hg : 2 ≤ gr.G ∧ gr.G ≤ gr.P - 1 := by simpa using h
          refine rn_call (n_powI (a := gr.G) (e := gr.Q) (m := gr.P) (by omega) (by omega) (by omega) (by omega) (by omega) (by omega)).2 (rn_if (fun h => ?_) fun h => ?_)
          · have ho : gr.G.toNat ^ gr.Q.toNat % gr.P.toNat = 1 := by
              have : ((gr.G.toNat ^ gr.Q.toNat % gr.P.toNat : Nat) : Int) = 1 := by simpa using h
              omega
            refine rn_call (n_nPrime _ (by omega)) (rn_if (fun h => ?_) fun h => ?_)
            · have hpq : Pr gr.Q.toNat := by
                rw [cast_eq (show 0 ≤ gr.Q by omega), prB_t] at h
                exact h
              refine rn_call (n_nPrime _ (by omega)) (rn_some (okG_of (fun h => ⟨hp, hq, hd, hg, ?_, hpq, ho⟩) fun h => ?_))
              · rw [cast_eq (show 0 ≤ gr.P by omega), prB_t] at h
                exact h
              · rw [cast_eq (show 0 ≤ gr.P by omega), prB_t]
                exact h.pp
            · refine rn_some (okG_f fun hk => ?_).symm
              have : prB gr.Q = true := by
                rw [cast_eq (show 0 ≤ gr.Q by omega), prB_t]
                exact hk.pq
              rw [this] at h; cases h
          · refine rn_some (okG_f fun hk => ?_).symm
            rw [hk.o] at h; cases h
        · refine rn_some (okG_f fun hk => ?_).symm
          have := hk.g
          simp at h; omega
      · refine rn_some (okG_f fun hk => ?_).symm
        rw [hk.d] at h; cases h
    · refine rn_some (okG_f fun hk => ?_).symm
      have := hk.q
      simp at h; omega
  · refine rn_some (okG_f fun hk => ?_).symm
    have := hk.p
    simp at h; omega
-- elements
def hasB (gr : Group) (x : Int) : Bool := decide (1 ≤ x) && decide (x ≤ gr.P - 1) && decide (x.toNat ^ gr.Q.toNat % gr.P.toNat = 1)
def expB (gr : Group) (x : Int) : Bool := decide (0 ≤ x) && decide (x ≤ gr.Q - 1)
theorem n_has {gr : Group} (k : OkG gr) (x : Int) : F_impl_Group_has gr x = some (hasB gr x) := by
  have hp := k.p
  have hq := k.q
  unfold F_impl_Group_has hasB
  rw [wr64 (n := gr.P - 1) (by omega) (by omega), n_within]
  refine eq_of_rn (rn_then (ψ := fun b => b = _) ?_ fun b hb => rn_some hb)
  refine rn_call rfl (rn_if (fun h => ?_) fun h => ?_)
  · have hx : 1 ≤ x ∧ x ≤ gr.P - 1 := by simpa using h
    refine rn_call (n_powI (a := x) (e := gr.Q) (m := gr.P) (by omega) (by omega) (by omega) (by omega) (by omega) (by omega)).1 (rn_some ?_)
    rw [h, Bool.true_and]
    by_cases h1 : x.toNat ^ gr.Q.toNat % gr.P.toNat = 1
    · simp [h1]
    · have : ¬ ((x.toNat ^ gr.Q.toNat % gr.P.toNat : Nat) : Int) = 1 := by omega
      rw [beq_false_of_ne this, decide_eq_false h1]
  · rw [h]; exact rn_some rfl
theorem n_gIs {gr : Group} (k : OkG gr) (l : List Int) : F_spec_gIs gr l = some (l.all (hasB gr)) := by
  have hp := k.p
  have hq := k.q
  unfold F_spec_gIs
  rw [wr64 (n := gr.P - 1) (by omega) (by omega)]
  refine eq_of_rn (rn_then (ψ := fun b => (b = .inl () ∧ l.all (hasB gr) = true) ∨ (b = .inr false ∧ l.all (hasB gr) = false)) (rn_rloop (fun i s => (l.take i).all (hasB gr) = true) rfl ?_ ?_) ?_)
  · rintro i s hi hI
    refine rn_ix hi (rn_then (ψ := fun b => b = !hasB gr l[i]) ?_ ?_)
    · refine rn_call (n_l1In _ _ _) (rn_if (fun h => rn_some ?_) fun h => ?_)
      · have h : (decide (1 ≤ l[i]) && decide (l[i] ≤ gr.P - 1)) = false := by rwa [Bool.not_eq_true'] at h
        simp [hasB, h]
      · have h : (decide (1 ≤ l[i]) && decide (l[i] ≤ gr.P - 1)) = true := by simpa using h
        have hx : 1 ≤ l[i] ∧ l[i] ≤ gr.P - 1 := by simpa using h
        refine rn_call (n_powI (a := l[i]) (e := gr.Q) (m := gr.P) (by omega) (by omega) (by omega) (by omega) (by omega) (by omega)).2 (rn_some ?_)
        simp only [hasB, h, Bool.true_and]
        by_cases h1 : l[i].toNat ^ gr.Q.toNat % gr.P.toNat = 1
        · simp [h1]
        · have : ¬ ((l[i].toNat ^ gr.Q.toNat % gr.P.toNat : Nat) : Int) = 1 := by omega
          simp only [bne, beq_false_of_ne this, decide_eq_false h1]
    · rintro b rfl
      refine rn_if (fun h => rn_some (.inr ⟨rfl, ?_⟩)) fun h => rn_some ?_
      · have h : hasB gr l[i] = false := by simpa using h
        rw [List.all_eq_false]
        exact ⟨l[i], List.getElem_mem hi, by simp [h]⟩
      · have h : hasB gr l[i] = true := by simpa using h
        show (l.take (i + 1)).all (hasB gr) = true
        rw [List.take_succ_eq_append_getElem hi, List.all_append, hI]
        simp [h]
  · rintro s hI
    rw [List.take_length] at hI
    exact .inl ⟨rfl, hI⟩
  · rintro b (⟨rfl, h⟩ | ⟨rfl, h⟩)
    · exact rn_some h.symm
    · exact rn_some h.symm
theorem n_l1All (l : List Int) (a b : Int) : F_spec_l1All l a b = some (l.all fun x => decide (a ≤ x) && decide (x ≤ b)) := by
  unfold F_spec_l1All
  refine eq_of_rn (rn_then (ψ := fun c => (c = .inl () ∧ (l.all fun x => decide (a ≤ x) && decide (x ≤ b)) = true) ∨ (c = .inr false ∧ (l.all fun x => decide (a ≤ x) && decide (x ≤ b)) = false)) (rn_rloop (fun i s => ((l.take i).all fun x => decide (a ≤ x) && decide (x ≤ b)) = true) rfl ?_ ?_) ?_)
  · rintro i s hi hI
    refine rn_ix hi (rn_call (n_l1In _ _ _) (rn_if (fun h => rn_some (.inr ⟨rfl, ?_⟩)) fun h => rn_some ?_))
    · rw [List.all_eq_false]
      exact ⟨l[i], List.getElem_mem hi, by rw [Bool.not_eq_true'] at h; rw [h]; simp⟩
    · show ((l.take (i + 1)).all fun x => decide (a ≤ x) && decide (x ≤ b)) = true
      rw [List.take_succ_eq_append_getElem hi, List.all_append, hI]
      simpa using h
  · rintro s hI
    rw [List.take_length] at hI
    exact .inl ⟨rfl, hI⟩
  · rintro c (⟨rfl, h⟩ | ⟨rfl, h⟩)
    · exact rn_some h.symm
    · exact rn_some h.symm
theorem n_gExps {gr : Group} (h : 0 ≤ gr.Q) (h2 : gr.Q ≤ 2000000000) (l : List Int) : F_spec_gExps gr l = some (l.all (expB gr)) := by
  unfold F_spec_gExps
  rw [wr64 (by omega) (by omega), n_l1All]; rfl
theorem n_isExp {gr : Group} (h : 0 ≤ gr.Q) (h2 : gr.Q ≤ 2000000000) (x : Int) : F_impl_Group_isExp gr x = some (expB gr x) := by
  unfold F_impl_Group_isExp
  rw [wr64 (by omega) (by omega), n_within]; rfl
-- powers and products
def powG (gr : Group) (x e : Int) : Int := ((x.toNat ^ (e % gr.Q).toNat % gr.P.toNat : Nat) : Int)
theorem powG_bd {gr : Group} (k : OkG gr) (x e : Int) : 0 ≤ powG gr x e ∧ powG gr x e ≤ gr.P - 1 := by
  have hp := k.p
  unfold powG
  have := Nat.mod_lt (x.toNat ^ (e % gr.Q).toNat) (y := gr.P.toNat) (by omega)
  omega
theorem n_pow {gr : Group} (k : OkG gr) {x : Int} (h0 : 0 ≤ x) (h1 : x ≤ 2000000000) (e : Int) : F_impl_Group_pow gr x e = some (powG gr x e) ∧ F_spec_gExp gr x e = some (powG gr x e) := by
  have hp := k.p
  have hq := k.q
  have b1 : 0 ≤ e % gr.Q := Int.emod_nonneg _ (by omega)
  have b2 : e % gr.Q < gr.Q := Int.emod_lt_of_pos _ (by omega)
  have hw := n_powI (a := x) (e := e % gr.Q) (m := gr.P) (by omega) (by omega) (by omega) (by omega) b1 (by omega)
  unfold F_impl_Group_pow F_spec_gExp
  rw [n_mod (by omega) (by omega), n_nMod (by omega) (by omega), Option.bind_some, Option.bind_some, hw.1, hw.2]
  exact ⟨rfl, rfl⟩
def mulG (gr : Group) (l : List Int) : Int := l.foldl (fun o x => o * x % gr.P) 1
theorem foldG_bd {gr : Group} (h : 1 ≤ gr.P) : ∀ (l : List Int) (o : Int), 0 ≤ o → o ≤ gr.P → (∀ x ∈ l, 0 ≤ x) → 0 ≤ l.foldl (fun o x => o * x % gr.P) o ∧ l.foldl (fun o x => o * x % gr.P) o ≤ gr.P := by
  intro l
  induction l with
  | nil => intro o h0 h1 _; exact ⟨h0, h1⟩
  | cons x l ih =>
    intro o h0 h1 h2
    exact ih _ (Int.emod_nonneg _ (by omega)) (Int.le_of_lt (Int.emod_lt_of_pos (o * x) (show 0 < gr.P by omega))) fun y hy => h2 y (List.mem_cons_of_mem _ hy)
theorem mul_eq (gr : Group) (l : List Int) : F_spec_gMul gr l = F_impl_Group_mul gr l := rfl
theorem n_mul {gr : Group} (k : OkG gr) {l : List Int} (hl : ∀ x ∈ l, 0 ≤ x ∧ x ≤ 2000000000) : F_impl_Group_mul gr l = some (mulG gr l) := by
  have hp := k.p
  unfold F_impl_Group_mul
  refine eq_of_rn (rn_then (ψ := fun b => b = mulG gr l) (rn_rloop (fun i s => s = (l.take i).foldl (fun o x => o * x % gr.P) 1) rfl ?_ ?_) fun b hb => rn_some hb)
  · rintro i s hi rfl
    have hb := foldG_bd (gr := gr) (by omega) (l.take i) 1 (by omega) (by omega) fun x hx => (hl x (List.mem_of_mem_take hx)).1
    have hx := hl l[i] (List.getElem_mem hi)
    refine rn_ix hi (rn_gd (by omega) (rn_some ?_))
    show _ = (l.take (i + 1)).foldl _ _
    rw [List.take_succ_eq_append_getElem hi, List.foldl_append]
    generalize (l.take i).foldl (fun o x => o * x % gr.P) 1 = o at hb ⊢
    have b1 : 0 ≤ o * l[i] := Int.mul_nonneg hb.1 hx.1
    have b2 : o * l[i] ≤ 2000000000 * 2000000000 := Int.mul_le_mul (by omega) hx.2 hx.1 (by omega)
    show (IntKind.i64.wrap (o * l[i])).tmod gr.P = o * l[i] % gr.P
    rw [wr64 (by omega) (by omega), Int.tmod_eq_emod_of_nonneg b1]
  · rintro s rfl
    rw [List.take_length]; rfl
theorem n_gMul {gr : Group} (k : OkG gr) {l : List Int} (hl : ∀ x ∈ l, 0 ≤ x ∧ x ≤ 2000000000) : F_spec_gMul gr l = some (mulG gr l) := by rw [mul_eq]; exact n_mul k hl
theorem mulG_bd {gr : Group} (k : OkG gr) {l : List Int} (hl : ∀ x ∈ l, 0 ≤ x ∧ x ≤ 2000000000) : 0 ≤ mulG gr l ∧ mulG gr l ≤ gr.P := by
  have hp := k.p
  exact foldG_bd (by omega) l 1 (by omega) (by omega) fun x hx => (hl x hx).1
theorem has_bd {gr : Group} {x : Int} (h : hasB gr x = true) : 1 ≤ x ∧ x ≤ gr.P - 1 := by
  simp only [hasB, Bool.and_eq_true, decide_eq_true_eq] at h
  exact h.1
theorem ite_n {α : Type} (b : Bool) (u v : α) : (if b = true then some u else some v) = some (if (!b) = true then v else u) := by cases b <;> rfl
theorem n_first {β : Type} {body : Int → Unit → Option (Stp Unit (Unit ⊕ β))} (m : Nat) (p : Nat → Bool) (val : Nat → β) (h : ∀ k, k < m → body (k : Int) () = some (if p k = true then .go () else .out (.inr (val k)))) :
    (rloop body (fun _ => .inl ()) m 0 () = some (.inl ()) ∧ ∀ k, k < m → p k = true) ∨ ∃ k, k < m ∧ p k = false ∧ (∀ j, j < k → p j = true) ∧ rloop body (fun _ => .inl ()) m 0 () = some (.inr (val k)) := by
  have key : Rn (rloop body (fun _ => Sum.inl ()) m 0 ()) (fun b => (b = .inl () ∧ ∀ k, k < m → p k = true) ∨ ∃ k, k < m ∧ p k = false ∧ (∀ j, j < k → p j = true) ∧ b = .inr (val k)) := by
    refine rn_rloop (fun k _ => ∀ j, j < k → p j = true) (fun j hj => by omega) ?_ fun s hs => .inl ⟨rfl, hs⟩
    intro k s hk hI
    refine ⟨_, h k hk, ?_⟩
    cases hp : p k with
    | true =>
      intro j hj
      rcases Nat.lt_or_ge j k with h | h
      · exact hI j h
      · have : j = k := by omega
        rw [this]; exact hp
    | false => exact .inr ⟨k, hk, hp, hI, rfl⟩
  obtain ⟨b, e, h1 | ⟨k, h1, h2, h3, h4⟩⟩ := key
  · exact .inl ⟨by rw [e, h1.1], h1.2⟩
  · exact .inr ⟨k, h1, h2, h3, by rw [e, h4]⟩
theorem n_all {α : Type} (l : List α) (p : α → Bool) (c : Bool) {body : Int → Unit → Option (Stp Unit (Unit ⊕ Bool))} (h : ∀ k (hk : k < l.length), body (k : Int) () = some (if p l[k] = true then .go () else .out (.inr c))) :
    (rloop body (fun _ => .inl ()) l.length 0 ()).bind (Sum.elim (fun _ => some (!c)) some) = some (if l.all p = true then !c else c) := by
  rcases n_first (body := body) l.length (fun k => (l[k]?).any p) (fun _ => c) (fun k hk => by rw [h k hk, List.getElem?_eq_getElem hk]; rfl) with ⟨e, h1⟩ | ⟨k, h1, h2, h3, e⟩
  · rw [e]
    have : l.all p = true := by
      rw [List.all_eq_true]
      intro x hx
      obtain ⟨k, hk, rfl⟩ := List.mem_iff_getElem.1 hx
      have := h1 k hk
      rw [List.getElem?_eq_getElem hk] at this
      exact this
    rw [this]; rfl
  · rw [e]
    have : l.all p = false := by
      rw [List.all_eq_false]
      refine ⟨l[k], List.getElem_mem h1, ?_⟩
      rw [List.getElem?_eq_getElem h1] at h2
      simpa using h2
    rw [this]; rfl
theorem n_l1Has (l : List Int) (x : Int) : F_spec_l1Has l x = some (l.contains x) := by
  unfold F_spec_l1Has
  have := n_all l (fun y => !(y == x)) true (body := fun i8 s7 => (ix l i8).bind fun x17 => if (x17 == x) = true then some (.out (.inr true)) else some (.go ())) fun k hk => by
    rw [ix_at hk, Option.bind_some]
    exact ite_n _ _ _
  rw [show (!true) = false from rfl] at this
  refine this.trans ?_
  congr 1
  cases hc : l.contains x with
  | true =>
    have hm : x ∈ l := by simpa using hc
    have : (l.all fun y => !(y == x)) = false := by
      rw [List.all_eq_false]
      exact ⟨x, hm, by simp⟩
    rw [this]; rfl
  | false =>
    have hm : ¬ x ∈ l := by simpa using hc
    have : (l.all fun y => !(y == x)) = true := by
      rw [List.all_eq_true]
      intro y hy
      have : y ≠ x := fun e => hm (e ▸ hy)
      simp [this]
    rw [this]; rfl
-- values of polynomials
def polyV (q : Int) (f : List Int) (x : Int) : Int := f.foldr (fun c a => (a * x + c) % q) 0
theorem n_hasCipher {gr : Group} (k : OkG gr) (c : Cipher) : F_impl_Group_hasCipher gr c = some (hasB gr c.A && hasB gr c.B) := by
  unfold F_impl_Group_hasCipher
  rw [n_has k, n_has k]
  cases hasB gr c.A <;> simp
theorem n_gIs1 {gr : Group} (k : OkG gr) (m : Int) : F_spec_gIs gr [m] = some (hasB gr m) := by
  rw [n_gIs k]; simp
theorem n_gInv {gr : Group} (k : OkG gr) {x : Int} (h0 : 0 ≤ x) (h1 : x ≤ 2000000000) : F_spec_gInv gr x = some (powG gr x (-1)) := by
  have hq := k.q
  have hp := k.p
  have e : (-1 : Int) % gr.Q = gr.Q - 1 := by
    have := Int.add_mul_emod_self_left (-1) gr.Q 1
    rw [← this, Int.mul_one]
    rw [Int.emod_eq_of_lt (by omega) (by omega)]; omega
  unfold F_spec_gInv
  rw [wr64 (by omega) (by omega), (n_powI h0 h1 (by omega) hp.2 (by omega) (by omega)).2]
  unfold powG
  rw [e]; rfl
structure Bt (code : List Int) : Prop where
  b : ∀ x ∈ code, 0 ≤ x ∧ x ≤ 255
  l : code.length ≤ 1048576
structure Cu (code : List Int) (n : Int) (c : List Int × Int × Int) : Prop where
  e : c.1 = code
  lo : 0 ≤ c.2.1
  hi : c.2.1 ≤ n
theorem Cu.mono {code : List Int} {n m : Int} {c : List Int × Int × Int} (h : Cu code n c) (hn : n ≤ m) : Cu code m c := ⟨h.e, h.lo, Int.le_trans h.hi hn⟩
theorem low8 (x : BitVec IntKind.u64.bits) : 0 ≤ IntKind.i64.wrap (IntKind.u64.wrap ((x &&& BitVec.ofInt IntKind.u64.bits 255).toNat : Int)) ∧ IntKind.i64.wrap (IntKind.u64.wrap ((x &&& BitVec.ofInt IntKind.u64.bits 255).toNat : Int)) ≤ 255 := by
  have hy : (x &&& BitVec.ofInt IntKind.u64.bits 255).toNat ≤ 255 := by
    rw [BitVec.toNat_and]
    exact Nat.le_trans Nat.and_le_right (by decide)
  generalize (x &&& BitVec.ofInt IntKind.u64.bits 255).toNat = y at hy ⊢
  rw [wrU (by omega) (by omega), wr64 (by omega) (by omega)]
  omega
theorem n_next {code c0 : List Int} {at_ seed n : Int} (hb : Bt code) (h : Cu code n (c0, at_, seed)) (hn : n ≤ 9000000000000000) : Rn (F_spec_l1Cur_next__io0 c0 at_ seed) (fun z => 0 ≤ z.1 ∧ z.1 ≤ 255 ∧ Cu code (n + 1) z.2) := by
  obtain ⟨h1, h2, h3⟩ := h
  have h1 : c0 = code := h1
  have h2 : 0 ≤ at_ := h2
  have h3 : at_ ≤ n := h3
  subst h1
  have hw : IntKind.i64.wrap (at_ + 1) = at_ + 1 := wr64 (by omega) (by omega)
  unfold F_spec_l1Cur_next__io0
  refine rn_then (ψ := fun v => 0 ≤ v ∧ v ≤ 255) ?_ fun v hv => ?_
  · refine rn_if (fun g => ?_) fun g => rn_some (by omega)
    obtain ⟨k, rfl⟩ := Int.eq_ofNat_of_zero_le h2
    have hk : k < c0.length := by simp at g; omega
    have := hb.b _ (List.getElem_mem hk)
    exact rn_ix hk (rn_some (by rw [wr64 (by omega) (by omega)]; exact this))
  · simp only [hw]
    refine rn_if (fun g => rn_some ⟨hv.1, hv.2, rfl, by show 0 ≤ at_ + 1; omega, by show at_ + 1 ≤ n + 1; omega⟩) fun g => rn_some ?_
    exact ⟨(low8 _).1, (low8 _).2, rfl, by show 0 ≤ at_ + 1; omega, by show at_ + 1 ≤ n + 1; omega⟩
theorem n_pick {code c0 : List Int} {at_ seed n m : Int} (hb : Bt code) (h : Cu code n (c0, at_, seed)) (hn : n ≤ 8000000000000000) : Rn (F_spec_l1Cur_pick__io0 c0 at_ seed m) (fun z => 0 ≤ z.1 ∧ (m ≤ 1 → z.1 = 0) ∧ (1 < m → z.1 < m) ∧ z.1 ≤ 65535 ∧ Cu code (n + 2) z.2) := by
  unfold F_spec_l1Cur_pick__io0
  refine rn_if (fun g => rn_some ⟨Int.le_refl 0, fun _ => rfl, fun h => by simp at g; omega, by show (0 : Int) ≤ _; omega, h.mono (by omega)⟩) fun g => ?_
  have g : 1 < m := by simpa using g
  refine rn_then (n_next hb h (by omega)) fun z ⟨z1, z2, z3⟩ => ?_
  refine rn_then (ψ := fun x => 0 ≤ x.2 ∧ x.2 ≤ 65535 ∧ Cu code (n + 2) x.1) ?_ fun x ⟨x1, x2, x3⟩ => ?_
  · refine rn_if (fun _ => rn_then (n_next hb z3 (by omega)) fun y ⟨y1, y2, y3⟩ => rn_some ?_) fun _ => rn_some ⟨z1, by show z.1 ≤ _; omega, z3.mono (by omega)⟩
    rw [wr64 (n := z.1 * 256) (by omega) (by omega), wr64 (by omega) (by omega)]
    exact ⟨by show 0 ≤ z.1 * 256 + y.1; omega, by show z.1 * 256 + y.1 ≤ _; omega, y3.mono (by omega)⟩
  · refine rn_gd (by omega) (rn_some ?_)
    rw [Int.tmod_eq_emod_of_nonneg x1]
    have b1 := Int.emod_nonneg x.2 (show m ≠ 0 by omega)
    have b2 := Int.emod_lt_of_pos x.2 (show 0 < m by omega)
    have b3 : x.2 % m ≤ x.2 := by
      rcases Int.lt_or_le x.2 m with h | h
      · rw [Int.emod_eq_of_lt x1 h]; exact Int.le_refl _
      · omega
    exact ⟨b1, fun h => by omega, fun _ => b2, by show x.2 % m ≤ _; omega, x3⟩
theorem n_one {code c0 : List Int} {at_ seed n m : Int} (hb : Bt code) (h : Cu code n (c0, at_, seed)) (hn : n ≤ 8000000000000000) : Rn (F_spec_l1Cur_one__io0 c0 at_ seed m) (fun z => Cu code (n + 2) z.2) := by
  unfold F_spec_l1Cur_one__io0
  exact rn_then (n_pick hb h hn) fun z hz => rn_some hz.2.2.2.2
theorem n_amongM {code c0 : List Int} {at_ seed n : Int} {l : List Int} (hb : Bt code) (h : Cu code n (c0, at_, seed)) (hn : n ≤ 8000000000000000) (hl : l ≠ []) : Rn (F_spec_l1Cur_among__io0_mv1 c0 at_ seed l) (fun z => z.1 ∈ l ∧ Cu code (n + 2) z.2) := by
  unfold F_spec_l1Cur_among__io0_mv1
  refine rn_then (n_pick hb h hn) fun z ⟨z1, z2, z3, z4, z5⟩ => ?_
  have h0 : 0 < l.length := List.length_pos_iff.2 hl
  obtain ⟨k, hk⟩ := Int.eq_ofNat_of_zero_le z1
  have hlt : k < l.length := by
    rcases Nat.lt_or_ge 1 l.length with h | h
    · have := z3 (by omega); omega
    · have := z2 (by omega); omega
  rw [hk]
  exact rn_ix hlt (rn_some ⟨List.getElem_mem hlt, z5⟩)
theorem Pr_gcd {n d : Nat} (h : Pr n) (hd : d % n ≠ 0) : Nat.gcd n d = 1 := by
  obtain ⟨k, hk⟩ := Nat.gcd_dvd_left n d
  have hn := h.1
  have h0 : 0 < Nat.gcd n d := Nat.gcd_pos_of_pos_left d (by omega)
  have hdv := Nat.gcd_dvd_right n d
  generalize Nat.gcd n d = g at hk h0 hdv
  apply Classical.byContradiction
  intro hg
  have hg2 : 2 ≤ g := by omega
  have hk2 : 2 ≤ k := by
    rcases Nat.lt_or_ge k 2 with h | h
    · have : k = 0 ∨ k = 1 := by omega
      rcases this with rfl | rfl
      · omega
      · rw [Nat.mul_one] at hk
        rw [← hk] at hdv
        exact absurd (Nat.mod_eq_zero_of_dvd hdv) hd
    · exact h
  rcases Nat.le_total g k with h' | h'
  · exact h.2 g hg2 (by rw [hk]; exact Nat.mul_le_mul_left g h') (by rw [hk]; exact Nat.mul_mod_right g k)
  · exact h.2 k hk2 (by rw [hk]; exact Nat.mul_le_mul_right k h') (by rw [hk]; exact Nat.mul_mod_left g k)
theorem Pr_mul {n : Nat} (h : Pr n) {a b : Int} (hab : (a * b) % (n : Int) = 0) : a % (n : Int) = 0 ∨ b % (n : Int) = 0 := by
  have h1 : n ∣ a.natAbs * b.natAbs := by
    rw [← Int.natAbs_mul]
    exact Int.ofNat_dvd_left.1 (Int.dvd_of_emod_eq_zero hab)
  by_cases ha : a.natAbs % n = 0
  · exact .inl (Int.emod_eq_zero_of_dvd (Int.ofNat_dvd_left.2 (Nat.dvd_of_mod_eq_zero ha)))
  · exact .inr (Int.emod_eq_zero_of_dvd (Int.ofNat_dvd_left.2 (Nat.Coprime.dvd_of_dvd_mul_left (Pr_gcd h ha) h1)))
def evP (f : List Int) (x : Int) : Int := f.foldr (fun c a => a * x + c) 0
theorem evP_cons (c : Int) (f : List Int) (x : Int) : evP (c :: f) x = evP f x * x + c := rfl
def dvP (r : Int) : List Int → List Int
  | [] => []
  | [_] => []
  | _ :: c :: f => evP (c :: f) r :: dvP r (c :: f)
theorem dvP_len (r : Int) : ∀ f : List Int, (dvP r f).length = f.length - 1
  | [] => rfl
  | [_] => rfl
  | _ :: c :: f => by
    show (dvP r (c :: f)).length + 1 = _
    rw [dvP_len r (c :: f)]; simp
theorem dvP_ev (r x : Int) : ∀ f : List Int, evP f x = evP (dvP r f) x * (x - r) + evP f r
  | [] => by simp [dvP, evP]
  | [c] => by simp [dvP, evP]
  | d :: c :: f => by
    have ih := dvP_ev r x (c :: f)
    show evP (c :: f) x * x + d = (evP (dvP r (c :: f)) x * x + evP (c :: f) r) * (x - r) + (evP (c :: f) r * r + d)
    rw [ih]
    grind
theorem dvP_last (r : Int) : ∀ f : List Int, 2 ≤ f.length → (dvP r f).getLastD 0 = f.getLastD 0
  | [], h => absurd h (by simp)
  | [_], h => absurd h (by simp)
  | [d, c], _ => by simp [dvP, evP]
  | e :: d :: c :: f, _ => by
    have ih := dvP_last r (d :: c :: f) (by simp)
    show (evP (d :: c :: f) r :: evP (c :: f) r :: dvP r (c :: f)).getLastD 0 = _
    have : dvP r (d :: c :: f) = evP (c :: f) r :: dvP r (c :: f) := rfl
    rw [this] at ih
    simpa [List.getLastD] using ih
theorem rootsP {p : Nat} (hp : Pr p) : ∀ (n : Nat) (f : List Int), f.length = n + 1 → f.getLastD 0 % (p : Int) ≠ 0 → ∀ rs : List Int, rs.Pairwise (fun a b => (b - a) % (p : Int) ≠ 0) → (∀ r ∈ rs, evP f r % (p : Int) = 0) → rs.length ≤ n
  | 0, f, hl, hf, rs, hd, hr => by
    match f, hl with
    | [c], _ =>
      cases rs with
      | nil => simp
      | cons r rs =>
        have := hr r (List.mem_cons_self ..)
        simp [evP] at this
        exact absurd (by first | exact this | exact Int.emod_eq_zero_of_dvd this) (by simpa [List.getLastD] using hf)
  | n + 1, f, hl, hf, rs, hd, hr => by
    cases rs with
    | nil => simp
    | cons r rs =>
      have h1 := List.pairwise_cons.1 hd
      have := rootsP hp n (dvP r f) (by rw [dvP_len]; omega) (by rw [dvP_last r f (by omega)]; exact hf) rs h1.2 fun s hs => by
        have e := dvP_ev r s f
        have hs0 := hr s (List.mem_cons_of_mem _ hs)
        have hr0 := hr r (List.mem_cons_self ..)
        have hm : (evP (dvP r f) s * (s - r)) % (p : Int) = 0 := by
          rw [show evP (dvP r f) s * (s - r) = evP f s - evP f r by omega, Int.sub_emod, hs0, hr0]; simp
        rcases Pr_mul hp hm with h | h
        · exact h
        · exact absurd h (h1.1 s hs)
      simpa using this
theorem evP_mono (k : Nat) (x : Int) : evP (List.replicate k 0 ++ [1]) x = x ^ k := by
  induction k with
  | zero => simp [evP]
  | succ k ih => rw [List.replicate_succ, List.cons_append, evP_cons, ih, Int.pow_succ]; omega
theorem unity_roots {p n : Nat} (hp : Pr p) (hn : 1 ≤ n) (rs : List Int) (hd : rs.Pairwise (fun a b => (b - a) % (p : Int) ≠ 0)) (hr : ∀ r ∈ rs, r ^ n % (p : Int) = 1) : rs.length ≤ n := by
  have h2 := hp.1
  have hone : (1 : Int) % (p : Int) = 1 := Int.emod_eq_of_lt (by omega) (by omega)
  obtain ⟨k, rfl⟩ : ∃ k, n = k + 1 := ⟨n - 1, by omega⟩
  refine rootsP hp (k + 1) (-1 :: (List.replicate k 0 ++ [1])) (by simp) ?_ rs hd fun r hr' => ?_
  · have : (-1 :: (List.replicate k (0 : Int) ++ [1])).getLastD 0 = 1 := by
      rw [← List.cons_append, List.getLastD_concat]
    rw [this, hone]; omega
  · rw [evP_cons, evP_mono, ← Int.pow_succ, Int.add_emod, hr r hr']
    have : ((-1 : Int) % (p : Int)) = p - 1 := by
      have := Int.add_mul_emod_self_left (-1) (p : Int) 1
      rw [← this, Int.mul_one, Int.emod_eq_of_lt (by omega) (by omega)]; omega
    rw [this, show 1 + ((p : Int) - 1) = p by omega, Int.emod_self]
theorem not_unity {p n : Nat} (hp : Pr p) (hn : 1 ≤ n) (hnp : n < p - 1) : ∃ h : Nat, 2 ≤ h ∧ h < p ∧ h ^ n % p ≠ 1 := by
  apply Classical.byContradiction
  intro hc
  have h2 := hp.1
  have h1 : ∀ h : Nat, 1 ≤ h → h < p → h ^ n % p = 1 := fun h a b => by
    rcases Nat.lt_or_ge h 2 with c | c
    · have : h = 1 := by omega
      subst this
      rw [Nat.one_pow, Nat.mod_eq_of_lt (by omega)]
    · exact Classical.byContradiction fun d => hc ⟨h, c, b, d⟩
  have := unity_roots hp hn ((List.range (p - 1)).map fun k => ((k + 1 : Nat) : Int)) ?_ ?_
  · simp at this; omega
  · rw [List.pairwise_map]
    refine List.Pairwise.imp_of_mem ?_ List.pairwise_lt_range
    intro a b ha hb hab
    have hb := List.mem_range.1 hb
    rw [show ((b + 1 : Nat) : Int) - ((a + 1 : Nat) : Int) = ((b - a : Nat) : Int) by omega, ← Int.natCast_emod, Nat.mod_eq_of_lt (by omega)]
    omega
  · intro r hr
    obtain ⟨k, hk, rfl⟩ := List.mem_map.1 hr
    have hk := List.mem_range.1 hk
    rw [← Int.natCast_pow, ← Int.natCast_emod, h1 (k + 1) (by omega) (by omega)]; rfl
structure Gs (gr : Group) : Prop where
  p : 0 ≤ gr.P ∧ gr.P ≤ 2000000000
  q : 0 ≤ gr.Q ∧ gr.Q ≤ 1000000000
  g : 0 ≤ gr.G ∧ gr.G ≤ 2000000000
theorem mg_dvd {q k : Nat} (hq : 2 ≤ q) : ((1 + (k : Int) * (q : Int)) - 1).tdiv (q : Int) = (k : Int) := by
  rw [show (1 + (k : Int) * (q : Int)) - 1 = (k : Int) * (q : Int) by omega, Int.mul_tdiv_cancel _ (by omega)]
theorem n_MakeGroup {q : Nat} (hq2 : q ≤ 1000000) : Rn (F_spec_MakeGroup (q : Int)) (fun z => Gs z.1 ∧ (z.2 = true → z.1.Q = q ∧ 3 ≤ z.1.P) ∧ (∀ k : Nat, 1 ≤ k → Pr (1 + k * q) → 1 + k * q ≤ 2000000000 → Pr q → z.2 = true)) := by
  unfold F_spec_MakeGroup
  refine rn_then (ψ := fun b => b = !(decide (2 ≤ q) && prB (q : Int))) ?_ ?_
  · refine rn_call (n_l1In _ _ _) ?_
    by_cases h : 2 ≤ q
    · refine rn_f (by simp; omega) (rn_call (n_nPrime _ (by omega)) (rn_some ?_))
      simp [h]
    · refine rn_t (by simp; omega) (rn_some ?_)
      simp [h]
  · rintro _ rfl
    cases hc : (decide (2 ≤ q) && prB (q : Int))
    · refine rn_t rfl (rn_some ⟨⟨⟨by decide, by decide⟩, ⟨by decide, by decide⟩, by decide, by decide⟩, fun h => (by cases h), fun k h1 h2 h3 h4 => ?_⟩)
      rw [prB_t.2 h4] at hc
      have := h4.1
      simp at hc; omega
    · have hq : 2 ≤ q := by simp at hc; exact hc.1
      have hpq : Pr q := by simp at hc; exact prB_t.1 hc.2
      refine rn_f rfl ?_
      refine rn_then (ψ := fun b => (b = .inl () ∧ ∀ k : Nat, 1 ≤ k → Pr (1 + k * q) → ¬ 1 + k * q ≤ 2000000000) ∨ ∃ z : Group × Bool, b = .inr z ∧ Gs z.1 ∧ z.2 = true ∧ z.1.Q = q ∧ 3 ≤ z.1.P) ?_ ?_
      · rw [wr64 (by omega) (by omega)]
        refine rn_wloop (fun s => ∃ k : Nat, 1 ≤ k ∧ s = 1 + (k : Int) * (q : Int) ∧ s ≤ 2001000001 ∧ ∀ j : Nat, 1 ≤ j → j < k → ¬ Pr (1 + j * q)) (fun s => (2001000001 - s).toNat) ⟨1, by omega, by omega, by omega, fun j h1 h2 => by omega⟩ ?_
        rintro s ⟨k, hk, rfl, hs, hn⟩
        have hkq : k * 2 ≤ k * q := Nat.mul_le_mul_left k hq
        have hkc : (k : Int) * (q : Int) = ((k * q : Nat) : Int) := mul_cast k q
        refine rn_if (fun g => ?_) fun g => ?_
        · have g : 1 + (k : Int) * (q : Int) ≤ 2000000000 := by simpa using g
          refine rn_call (n_nPrime _ (by omega)) ?_
          have hcast : 1 + (k : Int) * (q : Int) = ((1 + k * q : Nat) : Int) := by omega
          cases hp : prB (1 + (k : Int) * (q : Int))
          · refine rn_t rfl (rn_some ?_)
            have e : IntKind.i64.wrap (1 + (k : Int) * (q : Int) + (q : Int)) = 1 + ((k + 1 : Nat) : Int) * (q : Int) := by
              rw [wr64 (by omega) (by omega)]; grind
            refine ⟨⟨k + 1, by omega, e, by rw [wr64 (by omega) (by omega)]; omega, fun j h1 h2 => ?_⟩, ?_⟩
            · rcases Nat.lt_or_ge j k with h | h
              · exact hn j h1 h
              · have : j = k := by omega
                subst this
                intro hpr
                rw [hcast, prB_t.2 hpr] at hp
                cases hp
            · rw [wr64 (by omega) (by omega)]; omega
          · refine rn_f rfl ?_
            have hpr : Pr (1 + k * q) := by rw [hcast] at hp; exact prB_t.1 hp
            obtain ⟨h0, a1, a2, a3⟩ := not_unity hpr hk (by omega)
            have hdv : IntKind.i64.wrap ((IntKind.i64.wrap (1 + (k : Int) * (q : Int) - 1)).tdiv (q : Int)) = (k : Int) := by
              rw [wr64 (n := 1 + (k : Int) * (q : Int) - 1) (by omega) (by omega), mg_dvd hq, wr64 (by omega) (by omega)]
            simp only [hdv]
            simp only [hcast]
            refine rn_then (ψ := fun h => 2 ≤ h ∧ h ≤ (h0 : Int)) (rn_wloop (fun s => 2 ≤ s ∧ s ≤ (h0 : Int)) (fun s => (h0 - s).toNat) (by omega) ?_) ?_
            · rintro s ⟨s1, s2⟩
              have hpw := (n_powI (a := s) (e := (k : Int)) (m := ((1 + k * q : Nat) : Int)) (by omega) (by omega) (by omega) (by omega) (by omega) (by omega)).2
              refine rn_gd (by omega) (rn_call hpw ?_)
              refine rn_if (fun g => rn_some ?_) fun g => rn_some ⟨s1, s2⟩
              rw [wr64 (by omega) (by omega)]
              have hne : s ≠ (h0 : Int) := fun e => by
                subst e
                apply a3
                have g : ((((h0 : Int).toNat ^ (k : Int).toNat % ((1 + k * q : Nat) : Int).toNat : Nat)) : Int) = 1 := by simpa only [beq_iff_eq] using g
                rw [Int.toNat_natCast, Int.toNat_natCast, Int.toNat_natCast] at g
                omega
              refine ⟨⟨by omega, by omega⟩, ?_⟩
              omega
            · rintro h ⟨s1, s2⟩
              have hpw := (n_powI (a := h) (e := (k : Int)) (m := ((1 + k * q : Nat) : Int)) (by omega) (by omega) (by omega) (by omega) (by omega) (by omega)).2
              refine rn_gd (by omega) (rn_call hpw (rn_some ?_))
              have hlt : h.toNat ^ (k : Int).toNat % ((1 + k * q : Nat) : Int).toNat < 1 + k * q := by
                rw [Int.toNat_natCast (1 + k * q)]
                exact Nat.mod_lt _ (by omega)
              refine .inr ⟨_, rfl, ⟨⟨by show (0 : Int) ≤ ((1 + k * q : Nat) : Int); omega, by show ((1 + k * q : Nat) : Int) ≤ _; omega⟩, ⟨by show (0 : Int) ≤ (q : Int); omega, by show (q : Int) ≤ _; omega⟩, ?_, ?_⟩, rfl, rfl, by show (3 : Int) ≤ ((1 + k * q : Nat) : Int); omega⟩
              · show (0 : Int) ≤ ((_ : Nat) : Int); omega
              · show ((_ : Nat) : Int) ≤ 2000000000; omega
        · refine rn_some (.inl ⟨rfl, fun j h1 h2 h3 => ?_⟩)
          have g : ¬ 1 + (k : Int) * (q : Int) ≤ 2000000000 := by simpa using g
          rcases Nat.lt_or_ge j k with h | h
          · exact hn j h1 h h2
          · have : k * q ≤ j * q := Nat.mul_le_mul_right q h
            omega
      · rintro b (⟨rfl, h⟩ | ⟨z, rfl, h1, h2, h3, h4⟩)
        · exact rn_some ⟨⟨⟨by decide, by decide⟩, ⟨by decide, by decide⟩, by decide, by decide⟩, fun h => (by cases h), fun k h1 h2 h3 h4 => absurd h3 (h k h1 h2)⟩
        · exact rn_some ⟨h1, fun _ => ⟨h3, h4⟩, fun _ _ _ _ _ => h2⟩
theorem Pr64 {n : Nat} (hn : n < 64) (h2 : 2 ≤ n) (h : ∀ d, d < 8 → 2 ≤ d → d * d ≤ n → n % d ≠ 0) : Pr n := by
  refine ⟨h2, fun d h1 h3 => ?_⟩
  rcases Nat.lt_or_ge d 8 with h8 | h8
  · exact h d h8 h1 h3
  · have : 8 * 8 ≤ d * d := Nat.mul_le_mul h8 h8
    omega
structure Gw (gr : Group) : Prop where
  p : -10 ≤ gr.P ∧ gr.P ≤ 2100000000
  q : -10 ≤ gr.Q ∧ gr.Q ≤ 2100000000
  g : -10 ≤ gr.G ∧ gr.G ≤ 2100000000
theorem Gs.w {gr : Group} (h : Gs gr) : Gw gr := ⟨by have := h.p; omega, by have := h.q; omega, by have := h.g; omega⟩
theorem tiny_q {x : Int} (hx : x ∈ [(3 : Int), 5, 5, 7, 11, 11, 13, 23]) : ∃ q k : Nat, x = (q : Int) ∧ 3 ≤ q ∧ q ≤ 23 ∧ 1 ≤ k ∧ Pr (1 + k * q) ∧ 1 + k * q ≤ 2000000000 ∧ Pr q := by
  simp only [List.mem_cons, List.not_mem_nil, or_false] at hx
  rcases hx with rfl | rfl | rfl | rfl | rfl | rfl | rfl | rfl
  · exact ⟨3, 2, rfl, by decide, by decide, by decide, Pr64 (by decide) (by decide) (by decide), by decide, Pr64 (by decide) (by decide) (by decide)⟩
  · exact ⟨5, 2, rfl, by decide, by decide, by decide, Pr64 (by decide) (by decide) (by decide), by decide, Pr64 (by decide) (by decide) (by decide)⟩
  · exact ⟨5, 2, rfl, by decide, by decide, by decide, Pr64 (by decide) (by decide) (by decide), by decide, Pr64 (by decide) (by decide) (by decide)⟩
  · exact ⟨7, 4, rfl, by decide, by decide, by decide, Pr64 (by decide) (by decide) (by decide), by decide, Pr64 (by decide) (by decide) (by decide)⟩
  · exact ⟨11, 2, rfl, by decide, by decide, by decide, Pr64 (by decide) (by decide) (by decide), by decide, Pr64 (by decide) (by decide) (by decide)⟩
  · exact ⟨11, 2, rfl, by decide, by decide, by decide, Pr64 (by decide) (by decide) (by decide), by decide, Pr64 (by decide) (by decide) (by decide)⟩
  · exact ⟨13, 4, rfl, by decide, by decide, by decide, Pr64 (by decide) (by decide) (by decide), by decide, Pr64 (by decide) (by decide) (by decide)⟩
  · exact ⟨23, 2, rfl, by decide, by decide, by decide, Pr64 (by decide) (by decide) (by decide), by decide, Pr64 (by decide) (by decide) (by decide)⟩
theorem n_tiny {code c0 : List Int} {at_ seed n : Int} (hb : Bt code) (h : Cu code n (c0, at_, seed)) (hn : n ≤ 7000000000000000) : Rn (F_spec_l1Cur_tiny__io0 c0 at_ seed) (fun z => Gs z.1 ∧ 3 ≤ z.1.Q ∧ z.1.Q ≤ 23 ∧ 3 ≤ z.1.P ∧ Cu code (n + 2) z.2) := by
  unfold F_spec_l1Cur_tiny__io0
  refine rn_then (n_amongM hb h (by omega) (by simp)) fun z ⟨z1, z2⟩ => ?_
  obtain ⟨q, k, e, q1, q2, k1, k2, k3, k4⟩ := tiny_q z1
  rw [e]
  refine rn_then (n_MakeGroup (by omega)) fun y ⟨y1, y2, y3⟩ => rn_some ?_
  have y4 := y2 (y3 k k1 k2 k3 k4)
  exact ⟨y1, by show 3 ≤ y.1.Q; omega, by show y.1.Q ≤ 23; omega, y4.2, z2⟩
theorem n_gExpT {gr : Group} (h : Gs gr) (hq : 1 ≤ gr.Q) (hp : 1 ≤ gr.P) {x : Int} (hx : 0 ≤ x ∧ x ≤ 2000000000) (e : Int) : Rn (F_spec_gExp gr x e) (fun v => 0 ≤ v ∧ v ≤ 2000000000) := by
  have h1 := h.p
  have h2 := h.q
  have b1 : 0 ≤ e % gr.Q := Int.emod_nonneg _ (by omega)
  have b2 : e % gr.Q < gr.Q := Int.emod_lt_of_pos _ (by omega)
  have hw := (n_powI (a := x) (e := e % gr.Q) (m := gr.P) (by omega) (by omega) (by omega) (by omega) b1 (by omega)).2
  unfold F_spec_gExp
  refine rn_call (n_nMod (by omega) (by omega)) (rn_call hw (rn_some ?_))
  have hlt : x.toNat ^ (e % gr.Q).toNat % gr.P.toNat < gr.P.toNat := Nat.mod_lt _ (by omega)
  omega
theorem big_q {x : Int} (hx : x ∈ [(101 : Int), 1009, 1019, 65537, 999983]) : ∃ q : Nat, x = (q : Int) ∧ q ≤ 1000000 := by
  simp only [List.mem_cons, List.not_mem_nil, or_false] at hx
  rcases hx with rfl | rfl | rfl | rfl | rfl
  · exact ⟨101, rfl, by decide⟩
  · exact ⟨1009, rfl, by decide⟩
  · exact ⟨1019, rfl, by decide⟩
  · exact ⟨65537, rfl, by decide⟩
  · exact ⟨999983, rfl, by decide⟩
theorem gs_big : Gs (Group.mk 1000000007 500000003 4) := ⟨⟨by decide, by decide⟩, ⟨by decide, by decide⟩, by decide, by decide⟩
theorem cu0 (code : List Int) : Cu code 0 (code, 0, 0) := ⟨rfl, Int.le_refl 0, Int.le_refl 0⟩
theorem n_group {code c0 : List Int} {at_ seed n : Int} (hb : Bt code) (h : Cu code n (c0, at_, seed)) (hn : n ≤ 6000000000000000) : Rn (F_spec_l1Cur_group__io0 c0 at_ seed) (fun z => Gs z.1 ∧ Cu code (n + 6) z.2) := by
  unfold F_spec_l1Cur_group__io0
  refine rn_then (n_pick hb h (by omega)) fun z ⟨z1, z2, z3, z4, z5⟩ => ?_
  refine rn_if (fun _ => rn_some ⟨gs_big, z5.mono (by omega)⟩) fun _ => rn_if (fun _ => ?_) fun _ => ?_
  · refine rn_then (n_amongM hb z5 (by omega) (by simp)) fun y ⟨y1, y2⟩ => ?_
    obtain ⟨q, e, hq⟩ := big_q y1
    rw [e]
    exact rn_then (n_MakeGroup hq) fun x ⟨x1, _, _⟩ => rn_some ⟨x1, y2.mono (by omega)⟩
  · refine rn_then (n_tiny hb z5 (by omega)) fun y ⟨y1, y2, y3, y4, y5⟩ => ?_
    refine rn_then (n_pick hb y5 (by omega)) fun x ⟨x1, x2, x3, x4, x5⟩ => ?_
    have hg := y1.g
    refine rn_then (n_gExpT y1 (by omega) (by omega) hg _) fun v hv => rn_some ⟨⟨y1.p, y1.q, hv⟩, x5.mono (by omega)⟩
theorem n_anyGroup {code c0 : List Int} {at_ seed n : Int} (hb : Bt code) (h : Cu code n (c0, at_, seed)) (hn : n ≤ 5000000000000000) : Rn (F_spec_l1Cur_anyGroup__io0 c0 at_ seed) (fun z => Gw z.1 ∧ Cu code (n + 10) z.2) := by
  unfold F_spec_l1Cur_anyGroup__io0
  refine rn_then (n_group hb h (by omega)) fun z ⟨z1, z2⟩ => ?_
  have g1 := z1.p
  have g2 := z1.q
  have g3 := z1.g
  refine rn_then (n_pick hb z2 (by omega)) fun y ⟨_, _, _, _, y5⟩ => ?_
  rw [wr64 (n := z.1.P + 2) (by omega) (by omega), wr64 (n := z.1.Q + 1) (by omega) (by omega), wr64 (n := z.1.P - 1) (by omega) (by omega), wr64 (n := z.1.G + 1) (by omega) (by omega)]
  refine rn_then (ψ := fun x => Gw (Group.mk x.2.1 x.2.2.1 x.2.2.2) ∧ Cu code (n + 10) x.1) ?_ fun x hx => rn_some hx
  refine rn_if (fun _ => ?_) fun _ => rn_if (fun _ => ?_) fun _ => rn_if (fun _ => ?_) fun _ => rn_some ⟨z1.w, y5.mono (by omega)⟩
  · refine rn_then (n_amongM hb y5 (by omega) (by simp)) fun x ⟨x1, x2⟩ => rn_some ⟨?_, x2.mono (by omega)⟩
    simp only [List.mem_cons, List.not_mem_nil, or_false] at x1
    exact ⟨by show -10 ≤ x.1 ∧ x.1 ≤ _; omega, by show -10 ≤ z.1.Q ∧ z.1.Q ≤ _; omega, by show -10 ≤ z.1.G ∧ z.1.G ≤ _; omega⟩
  · refine rn_then (n_amongM hb y5 (by omega) (by simp)) fun x ⟨x1, x2⟩ => rn_some ⟨?_, x2.mono (by omega)⟩
    simp only [List.mem_cons, List.not_mem_nil, or_false] at x1
    exact ⟨by show -10 ≤ z.1.P ∧ z.1.P ≤ _; omega, by show -10 ≤ x.1 ∧ x.1 ≤ _; omega, by show -10 ≤ z.1.G ∧ z.1.G ≤ _; omega⟩
  · refine rn_then (n_amongM hb y5 (by omega) (by simp)) fun x ⟨x1, x2⟩ => rn_some ⟨?_, x2.mono (by omega)⟩
    simp only [List.mem_cons, List.not_mem_nil, or_false] at x1
    exact ⟨by show -10 ≤ z.1.P ∧ z.1.P ≤ _; omega, by show -10 ≤ z.1.Q ∧ z.1.Q ≤ _; omega, by show -10 ≤ x.1 ∧ x.1 ≤ _; omega⟩
theorem n_expo {code c0 : List Int} {at_ seed n : Int} {gr : Group} (hb : Bt code) (h : Cu code n (c0, at_, seed)) (hn : n ≤ 7000000000000000) (hg : gr.Q ≤ 2100000000) : Rn (F_spec_l1Cur_expo__io0 c0 at_ seed gr) (fun z => 0 ≤ z.1 ∧ z.1 ≤ 2100000000 ∧ (2 ≤ gr.Q → z.1 < gr.Q) ∧ Cu code (n + 4) z.2) := by
  unfold F_spec_l1Cur_expo__io0
  refine rn_if (fun g => rn_some ⟨Int.le_refl 0, by show (0 : Int) ≤ _; omega, fun h => by simp at g; omega, h.mono (by omega)⟩) fun g => ?_
  have g : 2 ≤ gr.Q := by simp at g; omega
  refine rn_then (n_pick hb h (by omega)) fun z ⟨z1, z2, z3, z4, z5⟩ => ?_
  refine rn_then (n_pick hb z5 (by omega)) fun y ⟨y1, y2, y3, y4, y5⟩ => rn_gd (by omega) (rn_some ?_)
  rw [wr64 (n := z.1 * 60000) (by omega) (by omega), wr64 (by omega) (by omega), Int.tmod_eq_emod_of_nonneg (by omega)]
  have b1 := Int.emod_nonneg (z.1 * 60000 + y.1) (show gr.Q ≠ 0 by omega)
  have b2 := Int.emod_lt_of_pos (z.1 * 60000 + y.1) (show 0 < gr.Q by omega)
  exact ⟨b1, by show _ % gr.Q ≤ _; omega, fun _ => b2, y5.mono (by omega)⟩
theorem n_anyExpo {code c0 : List Int} {at_ seed n : Int} {gr : Group} (hb : Bt code) (h : Cu code n (c0, at_, seed)) (hn : n ≤ 6000000000000000) (hg : Gw gr) : Rn (F_spec_l1Cur_anyExpo__io0 c0 at_ seed gr) (fun z => -100 ≤ z.1 ∧ z.1 ≤ 2100000000 ∧ Cu code (n + 6) z.2) := by
  have g2 := hg.q
  unfold F_spec_l1Cur_anyExpo__io0
  refine rn_then (n_one hb h (by omega)) fun z z1 => ?_
  rw [wr64 (by omega) (by omega)]
  refine rn_if (fun _ => ?_) fun _ => ?_
  · refine rn_then (n_amongM hb z1 (by omega) (by simp)) fun y ⟨y1, y2⟩ => rn_some ?_
    simp only [List.mem_cons, List.not_mem_nil, or_false] at y1
    exact ⟨by show -100 ≤ y.1; omega, by show y.1 ≤ _; omega, y2.mono (by omega)⟩
  · exact rn_then (n_expo hb z1 (by omega) (by omega)) fun y ⟨y1, y2, _, y3⟩ => rn_some ⟨by show -100 ≤ y.1; omega, y2, y3.mono (by omega)⟩
theorem n_coins {code c0 : List Int} {at_ seed n : Int} {gr : Group} {k : Nat} (hb : Bt code) (h : Cu code n (c0, at_, seed)) (hn : n ≤ 5000000000000000) (hg : Gw gr) (hk : k ≤ 1000000) : Rn (F_spec_l1Cur_coins__io0 c0 at_ seed gr (k : Int)) (fun z => z.1.length = k ∧ (∀ x ∈ z.1, 0 ≤ x ∧ x ≤ 2100000000 ∧ (2 ≤ gr.Q → x < gr.Q)) ∧ Cu code (n + 4 * k) z.2) := by
  unfold F_spec_l1Cur_coins__io0
  refine rn_then (ψ := fun r => r.2.length = k ∧ (∀ x ∈ r.2, 0 ≤ x ∧ x ≤ 2100000000 ∧ (2 ≤ gr.Q → x < gr.Q)) ∧ Cu code (n + 4 * k) r.1) (rn_cloop k (fun j s => s.2.1 = (k : Int) - j ∧ s.2.2.length = j ∧ (∀ x ∈ s.2.2, 0 ≤ x ∧ x ≤ 2100000000 ∧ (2 ≤ gr.Q → x < gr.Q)) ∧ Cu code (n + 4 * j) s.1) ⟨by show (k : Int) = _; omega, rfl, by simp, h.mono (by omega)⟩ ?_ ?_) fun r hr => rn_some hr
  · rintro j s hj ⟨h1, h2, h3, h4⟩
    refine rn_t (by rw [h1]; simp; omega) (rn_then (n_expo hb h4 (by omega) hg.q.2) fun z ⟨z1, z2, z3, z4⟩ => rn_gd (by omega) (rn_some ⟨?_, by simp [h2], fun x hx => ?_, z4.mono (by omega)⟩))
    · show IntKind.i64.wrap (s.2.1 - 1) = _
      rw [h1, wr64 (by omega) (by omega)]; omega
    · rcases List.mem_append.1 hx with h | h
      · exact h3 x h
      · rw [List.mem_singleton.1 h]; exact ⟨z1, z2, z3⟩
  · rintro s ⟨h1, h2, h3, h4⟩
    exact rn_f (by rw [h1]; simp) (rn_some ⟨h2, h3, h4⟩)
def ptsM (m : Nat) : List Int := (List.range m).map fun i => ((i : Nat) : Int) + 1
def hit (q : Nat) (known : List Int) (f : List Int) (v : Nat) : Int := if (ptsM known.length).map (polyV q f) = known ∧ f.headD 0 = (v : Int) then 1 else 0
theorem n_nModW {a q : Int} (h0 : 0 < q) (h1 : q ≤ 4000000000000000000) : F_spec_nMod a q = some (a % q) := by
  unfold F_spec_nMod
  rw [gd_t (by omega), gd_t (by omega)]
  have b1 : a.tmod q < q := Int.tmod_lt_of_pos a h0
  have b2 : -q < a.tmod q := by
    have := Int.lt_tmod_of_pos a h0
    omega
  rw [wr64 (by omega) (by omega), Int.tmod_eq_emod_of_nonneg (by omega)]
  congr 1
  rw [Int.add_emod_right]
  rw [Int.tmod_def, Int.sub_emod, Int.mul_emod_right, Int.sub_zero, Int.emod_emod]
theorem tmod_bd (a : Int) {m : Int} (h : 0 < m) : -m < a.tmod m ∧ a.tmod m < m := by
  have h1 := Int.tmod_lt_of_pos a h
  have h2 := Int.lt_tmod_of_pos a h
  omega
theorem n_nPowerT (a : Int) {e m : Int} (h1 : 1 ≤ m) (h2 : 0 ≤ e) (h3 : e ≤ 4000000000000000000) : Rn (F_spec_nPower a e m) (fun v => -m < v ∧ v < m) := by
  unfold F_spec_nPower
  refine rn_gd (by omega) (rn_then (ψ := fun v => -m < v ∧ v < m) (rn_wloop (fun s => (-m < s.2.2 ∧ s.2.2 < m) ∧ 0 ≤ s.2.1 ∧ s.2.1 ≤ e) (fun s => s.2.1.toNat) ⟨tmod_bd _ (by omega), h2, Int.le_refl _⟩ ?_) fun x hx => rn_some hx)
  rintro s ⟨hs, h4, h5⟩
  refine rn_if (fun g => ?_) fun _ => rn_some hs
  have g : 0 < s.2.1 := by simpa using g
  refine rn_then (ψ := fun v => -m < v ∧ v < m) (rn_if (fun _ => rn_gd (by omega) (rn_some (tmod_bd _ (by omega)))) fun _ => rn_some hs) fun x hx => rn_gd (by omega) (rn_some ?_)
  have e1 : s.2.1.tdiv 2 = s.2.1 / 2 := Int.tdiv_eq_ediv_of_nonneg (by omega)
  have e2 : IntKind.i64.wrap (s.2.1.tdiv 2) = s.2.1 / 2 := by rw [e1, wr64 (by omega) (by omega)]
  exact ⟨⟨hx, by show 0 ≤ IntKind.i64.wrap _; rw [e2]; omega, by show IntKind.i64.wrap _ ≤ e; rw [e2]; omega⟩, by show (IntKind.i64.wrap _).toNat < _; rw [e2]; omega⟩
theorem n_gExpW {gr : Group} (hq : 1 ≤ gr.Q ∧ gr.Q ≤ 4000000000000000000) (hp : 1 ≤ gr.P) (x e : Int) : Rn (F_spec_gExp gr x e) (fun v => -gr.P < v ∧ v < gr.P) := by
  unfold F_spec_gExp
  refine rn_call (n_nModW (by omega) hq.2) (rn_then (n_nPowerT x hp (Int.emod_nonneg _ (by omega)) ?_) fun v hv => rn_some hv)
  have := Int.emod_lt_of_pos e (show 0 < gr.Q by omega)
  omega
theorem n_element {code c0 : List Int} {at_ seed n : Int} {gr : Group} (hb : Bt code) (h : Cu code n (c0, at_, seed)) (hn : n ≤ 6000000000000000) (hg : Gw gr) : Rn (F_spec_l1Cur_element__io0 c0 at_ seed gr) (fun z => -2200000000 ≤ z.1 ∧ z.1 ≤ 2200000000 ∧ Cu code (n + 4) z.2) := by
  have g1 := hg.p
  have g2 := hg.q
  unfold F_spec_l1Cur_element__io0
  refine rn_then (ψ := fun b => b = false → 3 ≤ gr.P ∧ 1 ≤ gr.Q) (rn_if (fun _ => rn_some fun h => by cases h) fun a => rn_some fun b => by simp at a b; omega) fun b hb' => rn_if (fun _ => rn_some ⟨by show -2200000000 ≤ (1 : Int); decide, by show (1 : Int) ≤ _; decide, h.mono (by omega)⟩) fun e => ?_
  obtain ⟨k1, k2⟩ := hb' e
  refine rn_call (n_nModW (by omega) (by omega)) (rn_then (n_expo hb h (by omega) (by omega)) fun z ⟨z1, z2, _, z3⟩ => rn_then (n_gExpW ⟨k2, by omega⟩ (by omega) _ _) fun v hv => rn_some ⟨by show _ ≤ v; omega, by show v ≤ _; omega, z3⟩)
theorem n_anyElement {code c0 : List Int} {at_ seed n : Int} {gr : Group} (hb : Bt code) (h : Cu code n (c0, at_, seed)) (hn : n ≤ 5000000000000000) (hg : Gw gr) : Rn (F_spec_l1Cur_anyElement__io0 c0 at_ seed gr) (fun z => -2200000000 ≤ z.1 ∧ z.1 ≤ 2200000000 ∧ Cu code (n + 6) z.2) := by
  have g1 := hg.p
  unfold F_spec_l1Cur_anyElement__io0
  refine rn_then (n_one hb h (by omega)) fun z z1 => rn_if (fun _ => ?_) fun _ => rn_then (n_element hb z1 (by omega) hg) fun y ⟨y1, y2, y3⟩ => rn_some ⟨y1, y2, y3.mono (by omega)⟩
  rw [wr64 (n := gr.P - 1) (by omega) (by omega)]
  refine rn_then (n_amongM hb z1 (by omega) (by simp)) fun y ⟨y1, y2⟩ => rn_some ?_
  simp only [List.mem_cons, List.not_mem_nil, or_false] at y1
  exact ⟨by show -2200000000 ≤ y.1; omega, by show y.1 ≤ _; omega, y2.mono (by omega)⟩
theorem n_qI {l : List Int} : F_laws_qInts l l = some true := by
  unfold F_laws_qInts
  refine eq_of_rn (rn_f (by simp) (rn_then (ψ := fun v => v = .inl ()) (rn_rloop (fun _ _ => True) trivial ?_ fun s _ => rfl) ?_))
  · rintro k s hk _
    exact rn_ix hk (rn_ix hk (rn_f (by simp) (rn_some trivial)))
  · rintro _ rfl
    exact rn_some rfl
theorem p_inner5 {q d i : Nat} (h2 : 2 ≤ q) (hq : q ≤ 23) (hd : d ≤ 4) (hi : i < q) (w0 : List Int) (h0 : Tab w0 q fun j => rows q d j i) :
    ∃ w, wloop (σ := (List Int) × Int) (β := (List Int)) (fun s203 =>
      if decide (s203.2 < (q : Int)) = true then (
      gd ((q : Int) ≠ 0) <|
      (ix s203.1 ((IntKind.i64.wrap ((i : Int) + s203.2)).tmod (q : Int))).bind fun x216 =>
      some (.go (s203.1.set (((IntKind.i64.wrap ((i : Int) + s203.2)).tmod (q : Int)).toNat) (IntKind.i64.wrap (x216 + Cq q d i)), IntKind.i64.wrap (s203.2 + 1)))) else (
      some (.out s203.1))) (w0, 1) = some w ∧ Tab w q fun j => rows q d j (i + 1) := by
  have hp : (529 : Int) ^ d ≤ 78310985281 := by
    have : d = 0 ∨ d = 1 ∨ d = 2 ∨ d = 3 ∨ d = 4 := by omega
    rcases this with rfl | rfl | rfl | rfl | rfl <;> decide
  refine cloop_post (q - 1) (fun a s => ∃ w, s = (w, ((a + 1 : Nat) : Int)) ∧ Tab w q fun j => rows q d j i + row q d i j a) _ ⟨w0, rfl, h0.1, fun j h => by rw [h0.2 j h]; simp [row, Sm]⟩ ?_ ?_
  · rintro a s ha ⟨w, rfl, hl, hw⟩
    have hdc : decide (((a + 1 : Nat) : Int) < (q : Int)) = true := by simp only [decide_eq_true_eq]; omega
    have hm : (IntKind.i64.wrap ((i : Int) + ((a + 1 : Nat) : Int))).tmod (q : Int) = (((i + a + 1) % q : Nat) : Int) := by
      rw [wr64 (by omega) (by omega), Int.tmod_eq_emod_of_nonneg (by omega)]; push_cast; congr 1
    have hk : (i + a + 1) % q < w.length := by rw [hl]; exact Nat.mod_lt _ (by omega)
    refine .inl ⟨(w.set ((i + a + 1) % q) (w[(i + a + 1) % q] + Cq q d i), ((a + 1 + 1 : Nat) : Int)), ?_, _, rfl, by simpa using hl, fun j hj => ?_⟩
    · simp only [hdc, if_true, hm, ix_at hk, Option.bind_some, Int.toNat_natCast]
      have b1 := rows_bd hq d ((i + a + 1) % q) (n := i) (by omega)
      have b2 := row_bd hq d i ((i + a + 1) % q) (n := a) (by omega)
      have b3 := Cq_bd hq d i
      have b4 := Cq_nonneg q d i
      have b5 := hw _ hk; dsimp only at b5
      rw [gd_t (by omega), wr64 (n := w[(i + a + 1) % q] + Cq q d i) (by omega) (by omega), wr64 (n := ((a + 1 : Nat) : Int) + 1) (by omega) (by omega)]
      push_cast; rfl
    · have hj' : j < w.length := by simpa using hj
      rw [List.getElem_set]
      by_cases e : (i + a + 1) % q = j
      · rw [if_pos e, hw _ hk, e]
        simp only [row, Sm, e, if_true]; omega
      · rw [if_neg e, hw _ hj']
        simp only [row, Sm, e, if_false]; omega
  · rintro s ⟨w, rfl, hl, hw⟩
    have hdc : decide (((q - 1 + 1 : Nat) : Int) < (q : Int)) = false := by simp only [decide_eq_false_iff_not]; omega
    exact ⟨w, by simp only [hdc, Bool.false_eq_true, if_false], hl, fun j h => by rw [hw j h]; rfl⟩
theorem p_round5 {q d : Nat} (h2 : 2 ≤ q) (hq : q ≤ 23) (hd : d ≤ 4) (l : List Int) (h0 : Tab l q (Cq q d)) :
    ∃ w, rloop (σ := (List Int)) (β := (List Int)) (fun i157 s156 =>
      (((ix l i157).bind fun x172 =>
      wloop (σ := (List Int) × Int) (β := (List Int)) (fun s203 =>
      if decide (s203.2 < (q : Int)) = true then (
      gd ((q : Int) ≠ 0) <|
      (ix s203.1 ((IntKind.i64.wrap (i157 + s203.2)).tmod (q : Int))).bind fun x216 =>
      some (.go (s203.1.set (((IntKind.i64.wrap (i157 + s203.2)).tmod (q : Int)).toNat) (IntKind.i64.wrap (x216 + x172)), IntKind.i64.wrap (s203.2 + 1)))) else (
      some (.out s203.1))) (s156, 1) : Option ((List Int))).bind fun (x170 : (List Int)) =>
      some (.go x170))) (fun s156 => s156) (l.length) 0 (List.replicate q 0) = some w ∧ Tab w q (Cq q (d + 1)) := by
  refine rloop_post (fun i w => Tab w q fun j => rows q d j i) _ ⟨by simp, fun j h => by simp [rows, Sm]⟩ ?_ ?_
  · rintro i w hi hw
    have hiq : i < q := by rw [← h0.1]; exact hi
    obtain ⟨w', e1, e2⟩ := p_inner5 h2 hq hd hiq w hw
    rw [Int.zero_add]
    refine .inl ⟨w', ?_, e2⟩
    simp only [ix_at hi, Option.bind_some, h0.2 i hi]
    rw [e1]; rfl
  · intro w hw
    rw [h0.1] at hw
    exact hw
theorem p_conv5 {q d : Nat} (h2 : 2 ≤ q) (hq : q ≤ 23) (hd : d ≤ 5) :
    ∃ w, wloop (σ := Int × (List Int)) (β := (List Int)) (fun s58 =>
      if decide (0 < s58.1) = true then (
      gd (0 ≤ (q : Int) ∧ (q : Int) ≤ (q : Int) ∧ 8 * (q : Int) ≤ 140737488355328 ∧ (q : Int) ≤ 4611686018427387904) <|
      (some (List.replicate (q : Int).toNat 0)).bind fun x71 =>
      ((rloop (σ := (List Int)) (β := (List Int)) (fun i157 s156 =>
      (((ix s58.2 i157).bind fun x172 =>
      wloop (σ := (List Int) × Int) (β := (List Int)) (fun s203 =>
      if decide (s203.2 < (q : Int)) = true then (
      gd ((q : Int) ≠ 0) <|
      (ix s203.1 ((IntKind.i64.wrap (i157 + s203.2)).tmod (q : Int))).bind fun x216 =>
      some (.go (s203.1.set (((IntKind.i64.wrap (i157 + s203.2)).tmod (q : Int)).toNat) (IntKind.i64.wrap (x216 + x172)), IntKind.i64.wrap (s203.2 + 1)))) else (
      some (.out s203.1))) (s156, 1) : Option ((List Int))).bind fun (x170 : (List Int)) =>
      some (.go x170))) (fun s156 => s156) (s58.2.length) 0 x71 : Option ((List Int))).bind fun (x80 : (List Int)) =>
      some (.go (IntKind.i64.wrap (s58.1 - 1), x80)))) else (
      some (.out s58.2))) ((d : Int), (List.replicate q 0).set 0 1) = some w ∧ Tab w q (Cq q d) := by
  refine cloop_post d (fun k s => ∃ l, s = (((d - k : Nat) : Int), l) ∧ Tab l q (Cq q k)) _ ⟨_, rfl, by simp, fun j h => ?_⟩ ?_ ?_
  · rw [List.getElem_set]
    simp only [Cq]
    by_cases e : j = 0
    · subst e; simp
    · rw [if_neg (fun h => e h.symm), if_neg e]; simp
  · rintro k s hk ⟨l, rfl, hl⟩
    obtain ⟨w, e1, e2⟩ := p_round5 h2 hq (by omega : k ≤ 4) l hl
    have hdc : decide (0 < ((d - k : Nat) : Int)) = true := by simp only [decide_eq_true_eq]; omega
    refine .inl ⟨(((d - (k + 1) : Nat) : Int), w), ?_, w, rfl, e2⟩
    simp only [hdc, if_true]
    rw [gd_t (by omega), Option.bind_some, Int.toNat_natCast, e1, Option.bind_some, wr64 (by omega) (by omega)]
    have : ((d - k : Nat) : Int) - 1 = ((d - (k + 1) : Nat) : Int) := by omega
    rw [this]
  · rintro s ⟨l, rfl, hl⟩
    exact ⟨l, by simp, hl⟩
theorem Cq_all {q d : Nat} (hq : 2 ≤ q) : Sm q (Cq q d) = (((q - 1) ^ d : Nat) : Int) := by
  have h := Sm_fib ((q - 1) ^ d) q (fun t => Eq' (q - 1) d t % q) (fun _ => 1) fun t _ => Nat.mod_lt _ (by omega)
  have h1 : ∀ n, Sm n (fun _ => (1 : Int)) = n := by
    intro n
    induction n with
    | zero => rfl
    | succ n ih => simp only [Sm, ih]; push_cast; rfl
  rw [h1] at h
  rw [h]
  refine Sm_congr fun j hj => ?_
  rw [count_E q d j hq, if_pos hj, Int.one_mul]
theorem Cq_rec {q d : Nat} (hq : 2 ≤ q) : Cq q (d + 1) 0 = (((q - 1) ^ d : Nat) : Int) - Cq q d 0 := by
  have h1 : Cq q (d + 1) 0 = Sm q (fun i => Cq q d i - if 0 = i then Cq q d i else 0) := by
    simp only [Cq]
    refine Sm_congr fun i hi => ?_
    by_cases h0 : 0 = i
    · subst h0
      rw [if_pos rfl, Sm_congr (g := fun _ => 0) fun a ha => by
        rw [if_neg]
        rw [Nat.mod_eq_of_lt (by omega)]; omega, Sm_zero]
      omega
    · rw [if_neg h0]
      have e : Sm (q - 1) (fun a => if (i + a + 1) % q = 0 then Cq q d i else 0) = Sm (q - 1) (fun a => if q - 1 - i = a then (fun _ => Cq q d i) a else 0) := Sm_congr fun a ha => by
        by_cases h : q - 1 - i = a
        · rw [if_pos h, if_pos]
          have : i + a + 1 = q := by omega
          rw [this, Nat.mod_self]
        · rw [if_neg h, if_neg]
          rcases Nat.lt_or_ge (i + a + 1) q with hlt | hge
          · rw [Nat.mod_eq_of_lt hlt]; omega
          · rw [Nat.mod_eq_sub_mod hge, Nat.mod_eq_of_lt (by omega)]; omega
      rw [e, Sm_one (fun _ => Cq q d i) (by omega)]
      omega
  have h2 : Sm q (fun i => Cq q d i - if 0 = i then Cq q d i else 0) + Sm q (fun i => if 0 = i then Cq q d i else 0) = Sm q (Cq q d) := by
    rw [← Sm_add]
    exact Sm_congr fun i _ => by omega
  have h3 : Sm q (fun i => if 0 = i then Cq q d i else 0) = Cq q d 0 := Sm_one (Cq q d) (by omega)
  rw [Cq_all hq] at h2
  omega
theorem p_falseG (q k : Int) : (((F_spec_l1In q 2 23).bind fun z4 =>
    if (!z4) = true then (some true) else (
    (F_spec_nPrime q).bind fun z6 =>
    if (!z6) = true then (some true) else (
    (F_spec_l1In k 1 5).bind fun z8 => some (!z8))) : Option Bool) = some (!(decide (2 ≤ q) && decide (q ≤ 23) && pr23 q && decide (1 ≤ k) && decide (k ≤ 5)))) ∧
    ((if decide (23 < q) = true then (some true) else (
    (F_impl_isPrime q).bind fun z5 =>
    if (!z5) = true then (some true) else (
    (F_impl_within k 1 5).bind fun z7 => some (!z7))) : Option Bool) = some (!(decide (2 ≤ q) && decide (q ≤ 23) && pr23 q && decide (1 ≤ k) && decide (k ≤ 5)))) := by
  rw [p_l1In, p_l1In, p_within]
  by_cases h2 : 2 ≤ q
  · by_cases h3 : q ≤ 23
    · rw [p_nPrime q h2 h3, p_isPrime q h2 h3, if_neg (by simp; omega)]
      simp only [Option.bind_some, h2, h3, decide_true, Bool.true_and, Bool.not_true, Bool.false_eq_true, if_false]
      cases pr23 q <;> simp
    · rw [if_pos (by simp; omega)]
      simp [h3]
  · rw [p_isPrime0 q (by omega), if_neg (by simp; omega)]
    simp [h2]
theorem n_false (q k : Int) : ∃ r t, F_spec_FalseEqualCount q k = some (r, t) ∧ F_impl_FalseEqualCount q k = some (r, t) ∧ (t = true → ∃ Q K : Nat, q = Q ∧ k = K ∧ 2 ≤ Q ∧ Q ≤ 23 ∧ pr23 Q = true ∧ 1 ≤ K ∧ K ≤ 5 ∧ r = Cq Q K 0) := by
  obtain ⟨g1, g2⟩ := p_falseG q k
  unfold F_spec_FalseEqualCount F_impl_FalseEqualCount
  rw [g1, g2]
  cases hg : (decide (2 ≤ q) && decide (q ≤ 23) && pr23 q && decide (1 ≤ k) && decide (k ≤ 5)) with
  | false => exact ⟨0, false, rfl, rfl, fun h => by cases h⟩
  | true =>
    simp only [Bool.and_eq_true, decide_eq_true_eq] at hg
    obtain ⟨⟨⟨⟨h2, h23⟩, hp⟩, h1⟩, h5⟩ := hg
    obtain ⟨Q, rfl⟩ := Int.eq_ofNat_of_zero_le (show 0 ≤ q by omega)
    obtain ⟨K, rfl⟩ := Int.eq_ofNat_of_zero_le (show 0 ≤ k by omega)
    have h2 : 2 ≤ Q := by omega
    have h23 : Q ≤ 23 := by omega
    refine ⟨Cq Q K 0, true, eq_of_rn ?_, eq_of_rn ?_, fun _ => ⟨Q, K, rfl, rfl, h2, h23, hp, by omega, by omega, rfl⟩⟩
    · refine rn_call rfl (rn_f rfl (rn_gd (by omega) ?_))
      have hx : ix (List.replicate ((Q : Int)).toNat (0 : Int)) 0 = some 0 := by
        rw [show (0 : Int) = ((0 : Nat) : Int) from rfl, ix_at (by simp; omega)]; simp
      refine rn_call rfl (rn_call hx ?_)
      obtain ⟨w, w1, w2, w3⟩ := p_conv5 h2 h23 (by omega : K ≤ 5)
      refine rn_call w1 ?_
      refine rn_ix (k := 0) (by omega) (rn_some ?_)
      rw [w3 0 (by omega)]
    · refine rn_call rfl (rn_f rfl ?_)
      have pw : ∀ i, i ≤ 5 → ((((Q - 1) ^ i : Nat)) : Int) ≤ 5153632 := fun i hi => by
        have a : (Q - 1) ^ i ≤ 22 ^ i := Nat.pow_le_pow_left (by omega) i
        have b : 22 ^ i ≤ 22 ^ 5 := Nat.pow_le_pow_right (by omega) hi
        have c : 22 ^ 5 = 5153632 := by decide
        omega
      refine rn_then (ψ := fun z => z = Cq Q K 0) (rn_cloop K (fun i s => s.2.2 = (i : Int) ∧ s.2.1 = (((Q - 1) ^ i : Nat) : Int) ∧ (i = 0 → s.1 = 0) ∧ (0 < i → s.1 = Cq Q i 0)) ⟨rfl, rfl, fun _ => rfl, fun h => by omega⟩ ?_ ?_) fun z hz => rn_some (by rw [hz])
      · rintro i s hi ⟨s1, s2, s3, s4⟩
        refine rn_t (by rw [s1]; simp; omega) ?_
        have b1 := pw i (by omega)
        have b2 := pw (i + 1) (by omega)
        have b3 := Cq_nonneg Q i 0
        have b4 : Cq Q i 0 ≤ 5153632 := by
          have := Cq_nonneg Q (i + 1) 0
          rw [Cq_rec h2] at this
          omega
        refine rn_then (ψ := fun x => x = Cq Q (i + 1) 0) (rn_if (fun h => rn_some ?_) fun h => rn_some ?_) fun x hx => rn_some ⟨?_, ?_, fun h => by omega, fun _ => hx⟩
        · rw [s1] at h
          have h : 0 < i := by simp at h; omega
          rw [s2, s4 h, Cq_rec h2, wr64 (by omega) (by omega)]
        · rw [s1] at h
          have h : i = 0 := by simp at h; omega
          subst h
          rw [s3 rfl, Cq_rec h2]
          simp [Cq]
        · show IntKind.i64.wrap (s.2.2 + 1) = _
          rw [s1, wr64 (by omega) (by omega)]; push_cast; rfl
        · show IntKind.i64.wrap (s.2.1 * IntKind.i64.wrap ((Q : Int) - 1)) = _
          have e : (Q : Int) - 1 = ((Q - 1 : Nat) : Int) := by omega
          have e2 : (((Q - 1) ^ i : Nat) : Int) * ((Q - 1 : Nat) : Int) = (((Q - 1) ^ (i + 1) : Nat) : Int) := by rw [Nat.pow_succ, Int.natCast_mul]
          rw [wr64 (n := (Q : Int) - 1) (by omega) (by omega), s2, e, e2, wr64 (by omega) (by omega)]
      · rintro s ⟨s1, s2, s3, s4⟩
        refine rn_f (by rw [s1]; simp) (rn_some (s4 (by omega)))
theorem n_zero {q k : Nat} (h2 : 2 ≤ q) (hq : q ≤ 23) (hp : pr23 q = true) (h1 : 1 ≤ k) (hk : k ≤ 3) :
    ∃ v, F_impl_BlindViews (q : Int) 1 (k : Int) = some (v, true) ∧ (v.map (·.View)).Nodup ∧ cnt v [0] = Cq q k 0 := by
  obtain ⟨out, o1, o2, o3, o4⟩ := p_blindI (d := 1) h2 hq hp (by omega) h1 hk
  refine ⟨out, o1, ?_, ?_⟩
  · rw [List.Nodup, List.pairwise_iff_getElem]
    intro i j hi hj hij
    rw [List.length_map] at hi hj
    rw [List.getElem_map, List.getElem_map]
    intro he
    have := o2.s i j hij hj
    unfold ltV at this
    rw [gv_at hi, gv_at hj, he, lexC_self] at this
    cases this
  · rw [o2.c [0]]
    rw [Sm_congr (g := fun s => if 0 = s then Cq q k s else 0) fun s hs => ?_, Sm_one (Cq q k) (by omega)]
    have e : bv q 1 s = [(s : Int)] := by unfold bv; rw [Nat.one_mul, Nat.mod_eq_of_lt hs]
    rw [e]
    by_cases h : 0 = s
    · subst h; simp
    · rw [if_neg h, if_neg]
      intro h'
      injection h' with h'
      omega
def hasC (gr : Group) (c : Cipher) : Bool := hasB gr c.A && hasB gr c.B
def decG (gr : Group) (s : Int) (c : Cipher) : Int := mulG gr [c.B, powG gr (powG gr c.A s) (-1)]
theorem hasC_bd {gr : Group} (k : OkG gr) {c : Cipher} (h : hasC gr c = true) : 0 ≤ c.A ∧ c.A ≤ 2000000000 ∧ 0 ≤ c.B ∧ c.B ≤ 2000000000 := by
  simp only [hasC, Bool.and_eq_true] at h
  have h1 := has_bd h.1
  have h2 := has_bd h.2
  have hp := k.p
  omega
theorem n_dec {gr : Group} (k : OkG gr) (s : Int) {c : Cipher} (h : hasC gr c = true) : F_impl_Group_decrypt gr s c = some (decG gr s c) ∧ F_spec_eDec gr s c = some (decG gr s c) := by
  obtain ⟨b1, b2, b3, b4⟩ := hasC_bd k h
  have hp := k.p
  have p1 := powG_bd k c.A s
  have p2 := powG_bd k (powG gr c.A s) (-1)
  have hl : ∀ x ∈ [c.B, powG gr (powG gr c.A s) (-1)], 0 ≤ x ∧ x ≤ 2000000000 := by
    intro x hx
    simp only [List.mem_cons, List.not_mem_nil, or_false] at hx
    rcases hx with rfl | rfl <;> omega
  constructor
  · unfold F_impl_Group_decrypt F_impl_Group_inv
    rw [(n_pow k b1 b2 s).1, Option.bind_some, (n_pow k p1.1 (by omega) (-1)).1, Option.bind_some, Option.bind_some, n_mul k hl]
    rfl
  · unfold F_spec_eDec
    rw [(n_pow k b1 b2 s).2, Option.bind_some, n_gInv k p1.1 (by omega), Option.bind_some, n_gMul k hl]
    rfl
theorem n_idxC {gr : Group} (k : OkG gr) (l : List Cipher) : Rn (F_slices_IndexFunc_impl_Cipher_impl_Cipher__impl_Group_hasCiphers_1 l gr.P gr.Q gr.G) (fun x => (x = -1 ∧ l.all (hasC gr) = true) ∨ (0 ≤ x ∧ l.all (hasC gr) = false)) := by
  unfold F_slices_IndexFunc_impl_Cipher_impl_Cipher__impl_Group_hasCiphers_1
  refine rn_then (ψ := fun x => (x = .inl () ∧ l.all (hasC gr) = true) ∨ (∃ j : Nat, x = .inr (j : Int) ∧ l.all (hasC gr) = false)) (rn_rloop (fun n _ => ∀ m, m < n → ∀ h : m < l.length, hasC gr l[m] = true) (fun m hm => by omega) ?_ fun s hs => .inl ⟨rfl, ?_⟩) ?_
  · rintro n s hn hI
    refine rn_ix hn ?_
    unfold F_impl_Group_hasCiphers_1_
    refine rn_then (ψ := fun b => b = !hasC gr l[n]) (rn_call (n_hasCipher k l[n]) (rn_some rfl)) ?_
    rintro _ rfl
    refine rn_if (fun h => rn_some (.inr ⟨n, rfl, ?_⟩)) fun h => rn_some fun m hm hl => ?_
    · rw [List.all_eq_false]
      exact ⟨l[n], List.getElem_mem hn, by simpa using h⟩
    · rcases Nat.lt_or_ge m n with h1 | h1
      · exact hI m h1 hl
      · have : m = n := by omega
        subst this
        simpa using h
  · rw [List.all_eq_true]
    intro x hx
    obtain ⟨m, hm, rfl⟩ := List.mem_iff_getElem.1 hx
    exact hs m hm hm
  · rintro x (⟨rfl, h⟩ | ⟨j, rfl, h⟩)
    · exact rn_some (.inl ⟨rfl, h⟩)
    · exact rn_some (.inr ⟨by show (0 : Int) ≤ (j : Int); omega, h⟩)
theorem n_hasCiphers {gr : Group} (k : OkG gr) (l : List Cipher) : F_impl_Group_hasCiphers gr l = some (decide (l.length ≤ 24) && l.all (hasC gr)) := by
  unfold F_impl_Group_hasCiphers
  refine eq_of_rn (rn_then (ψ := fun b => b = (decide (l.length ≤ 24) && l.all (hasC gr))) (rn_if (fun h => ?_) fun h => rn_some ?_) fun b hb => rn_some hb)
  · have h : l.length ≤ 24 := by simp at h; omega
    unfold F_slices_ContainsFunc_impl_Cipher_impl_Cipher__impl_Group_hasCiphers_1
    refine rn_then (ψ := fun b => b = !l.all (hasC gr)) (rn_then (n_idxC k l) fun x hx => rn_some ?_) ?_
    · rcases hx with ⟨rfl, h⟩ | ⟨h0, h⟩
      · rw [h]; rfl
      · rw [h]; simpa using h0
    · rintro _ rfl
      exact rn_some (by simp [h])
  · have h : ¬ l.length ≤ 24 := by simp at h; omega
    simp [h]
theorem n_eGood {gr : Group} (k : OkG gr) (l : List Cipher) : F_spec_eGood gr l = some (decide (l.length ≤ 24) && l.all (hasC gr)) := by
  unfold F_spec_eGood
  by_cases h : 24 < (l.length : Int)
  · rw [if_pos (by simpa using h)]
    have h : ¬ l.length ≤ 24 := by omega
    simp [h]
  · rw [if_neg (by simpa using h)]
    refine (n_all l (hasC gr) false (fun n hn => ?_)).trans ?_
    · rw [ix_at hn, Option.bind_some, n_gIs k, Option.bind_some]
      have e : ([l[n].A, l[n].B].all (hasB gr)) = hasC gr l[n] := by simp [hasC]
      rw [e]
      cases hasC gr l[n] <;> rfl
    · have h : l.length ≤ 24 := by omega
      cases l.all (hasC gr) <;> simp [h]
def FI (f : Nat → Int) (i : Nat) (x : Int) : Prop := ∃ j : Nat, x = (j : Int) ∧ j ≤ i ∧ f j = f i ∧ ∀ m, m < j → f m ≠ f i
theorem FI_uniq {f : Nat → Int} {i : Nat} {x y : Int} (h1 : FI f i x) (h2 : FI f i y) : x = y := by
  obtain ⟨a, rfl, _, a2, a3⟩ := h1
  obtain ⟨b, rfl, _, b2, b3⟩ := h2
  rcases Nat.lt_trichotomy a b with h | h | h
  · exact absurd a2 (b3 a h)
  · rw [h]
  · exact absurd b2 (a3 b h)
theorem n_indexF (f : Nat → Int) (i : Nat) : Rn (F_slices_Index_int_int ((List.range (i + 1)).map f) (f i)) (FI f i) := by
  unfold F_slices_Index_int_int
  refine rn_then (ψ := fun x => ∃ y, x = .inr y ∧ FI f i y) (rn_rloop (fun n _ => ∀ m, m < n → f m ≠ f i) (fun m hm => by omega) ?_ fun s hs => ?_) ?_
  · rintro n s hn hI
    refine rn_ix hn ?_
    have e : ((List.range (i + 1)).map f)[n] = f n := by simp
    rw [e]
    have hn : n < i + 1 := by simpa using hn
    refine rn_if (fun h => rn_some ⟨(n : Int), rfl, n, rfl, by omega, ?_, hI⟩) fun h => rn_some fun m hm => ?_
    · exact (by simpa using h : f i = f n).symm
    · rcases Nat.lt_or_ge m n with h1 | h1
      · exact hI m h1
      · have : m = n := by omega
        subst this
        exact fun e => (by simpa using h : ¬ f i = f m) e.symm
  · exact absurd rfl (hs i (by simp))
  · rintro _ ⟨y, rfl, hy⟩
    exact rn_some hy
def mF (gr : Group) (s : Int) (l : List Cipher) (i : Nat) : Int := decG gr s (l.getD i ⟨0, 0⟩)
theorem mF_at {gr : Group} {s : Int} {l : List Cipher} {i : Nat} (h : i < l.length) : mF gr s l i = decG gr s l[i] := by simp [mF, h]
theorem rng_add (f : Nat → Int) (i : Nat) : (List.range i).map f ++ [f i] = (List.range (i + 1)).map f := by rw [List.range_succ, List.map_append]; rfl
def FL (f : Nat → Int) (n : Nat) (l : List Int) : Prop := l.length = n ∧ ∀ i (h : i < l.length), FI f i l[i]
theorem FL_uniq {f : Nat → Int} {n : Nat} {l r : List Int} (h1 : FL f n l) (h2 : FL f n r) : l = r :=
  List.ext_getElem (h1.1.trans h2.1.symm) fun i a b => FI_uniq (h1.2 i a) (h2.2 i b)
theorem FL_add {f : Nat → Int} {n : Nat} {l : List Int} {x : Int} (h1 : FL f n l) (h2 : FI f n x) : FL f (n + 1) (l ++ [x]) := by
  refine ⟨by simp [h1.1], fun i h => ?_⟩
  rw [List.getElem_append]
  split
  · exact h1.2 i _
  · have h : i < n + 1 := by simpa [h1.1] using h
    have hi : i = n := by have := h1.1; omega
    subst hi
    simpa [h1.1] using h2
theorem n_groups (gr : Group) (s : Int) (l : List Cipher) : ∃ r t, F_impl_EqualGroups gr s l = some (r, t) ∧ F_spec_EqualGroups gr s l = some (r, t) ∧
    (t = true → OkG gr ∧ expB gr s = true ∧ l.length ≤ 24 ∧ l.all (hasC gr) = true ∧ FL (mF gr s l) l.length r) := by
  unfold F_impl_EqualGroups F_spec_EqualGroups
  by_cases k : OkG gr
  · have hq := k.q
    have hp := k.p
    have hk : okG gr = true := okG_t.2 k
    by_cases hs : expB gr s = true
    · cases hc : (decide (l.length ≤ 24) && l.all (hasC gr)) with
      | false =>
        refine ⟨[], false, ?_, ?_, fun h => by cases h⟩
        · simp only [n_validG, hk, n_isExp (show 0 ≤ gr.Q by omega) (by omega), n_hasCiphers k, hs, hc, Bool.not_true, Bool.not_false, Bool.false_eq_true, if_false, if_true, Option.bind_some]
        · simp only [n_l2Good, hk, n_gExps (show 0 ≤ gr.Q by omega) (by omega), n_eGood k, List.all_cons, List.all_nil, Bool.and_true, hs, hc, Bool.not_true, Bool.not_false, Bool.false_eq_true, if_false, if_true, Option.bind_some]
      | true =>
        have hcc := hc
        simp only [Bool.and_eq_true, decide_eq_true_eq] at hc
        obtain ⟨h24, hall⟩ := hc
        have hat : ∀ i (h : i < l.length), hasC gr l[i] = true := fun i h => List.all_eq_true.1 hall _ (List.getElem_mem h)
        have A : Rn (rloop (σ := (List Int) × (List Int)) (β := List Int) (fun i14 s13 =>
            (ix l i14).bind fun x20 =>
            (F_impl_Group_decrypt gr s x20).bind fun z21 =>
            gd ((s13.2.length + 1) * 8 ≤ 140737488355328 ∧ s13.2.length + 1 ≤ 4611686018427387904) <|
            (some (s13.2 ++ [z21])).bind fun x22 =>
            (ix x22 (IntKind.i64.wrap ((x22.length : Int) - 1))).bind fun x24 =>
            (F_slices_Index_int_int x22 x24).bind fun z25 =>
            gd ((s13.1.length + 1) * 8 ≤ 140737488355328 ∧ s13.1.length + 1 ≤ 4611686018427387904) <|
            some (.go (s13.1 ++ [z25], x22))) (fun s13 => s13.1) (l.length) 0 ([], [])) (FL (mF gr s l) l.length) := by
          refine rn_rloop (fun i x => FL (mF gr s l) i x.1 ∧ x.2 = (List.range i).map (mF gr s l)) ⟨⟨rfl, fun i h => by simp at h⟩, rfl⟩ ?_ fun x hx => hx.1
          rintro i ⟨o, ms⟩ hi ⟨h1, rfl⟩
          refine rn_ix hi (rn_call (n_dec k s (hat i hi)).1 (rn_gd (by simp; omega) (rn_call rfl ?_)))
          rw [← mF_at hi]
          show Rn ((ix ((List.range i).map (mF gr s l) ++ [mF gr s l i]) _).bind _) _
          rw [rng_add]
          have e : IntKind.i64.wrap (((((List.range (i + 1)).map (mF gr s l)).length : Nat) : Int) - 1) = (i : Int) := by
            rw [List.length_map, List.length_range, wr64 (by omega) (by omega)]; omega
          rw [e]
          refine rn_ix (by simp) ?_
          have e2 : ((List.range (i + 1)).map (mF gr s l))[i]'(by simp) = mF gr s l i := by simp
          rw [e2]
          refine rn_then (n_indexF _ i) fun x hx => rn_gd (by have := h1.1; dsimp only at this ⊢; omega) (rn_some ⟨FL_add h1 hx, rfl⟩)
        have B : Rn (rloop (σ := (List Int) × (List Int)) (β := List Int) (fun i14 s13 =>
            (ix l i14).bind fun x20 =>
            (F_spec_eDec gr s x20).bind fun z21 =>
            ((rloop (σ := Int) (fun i26 s25 =>
            (((ix s13.1 i26).bind fun x35 =>
            ((if (x35 == z21) = true then (
            some (s25 == i14)) else (
            some false) : Option (Bool)).bind fun x38 =>
            if x38 = true then (
            some i26) else (
            some s25)) : Option (Int)).bind fun x34 =>
            some (.go x34))) (fun s25 => s25) (s13.1.length) 0 i14 : Option (Int)).bind fun x24 =>
            gd ((s13.1.length + 1) * 8 ≤ 140737488355328 ∧ s13.1.length + 1 ≤ 4611686018427387904) <|
            gd ((s13.2.length + 1) * 8 ≤ 140737488355328 ∧ s13.2.length + 1 ≤ 4611686018427387904) <|
            some (.go (s13.1 ++ [z21], s13.2 ++ [x24])))) (fun s13 => s13.2) (l.length) 0 ([], [])) (FL (mF gr s l) l.length) := by
          refine rn_rloop (fun i x => FL (mF gr s l) i x.2 ∧ x.1 = (List.range i).map (mF gr s l)) ⟨⟨rfl, fun i h => by simp at h⟩, rfl⟩ ?_ fun x hx => hx.1
          rintro i ⟨ms, o⟩ hi ⟨h1, rfl⟩
          refine rn_ix hi (rn_call (n_dec k s (hat i hi)).2 ?_)
          rw [← mF_at hi]
          refine rn_then (ψ := FI (mF gr s l) i) (rn_rloop (fun n x => (x = (i : Int) ∧ ∀ m, m < n → mF gr s l m ≠ mF gr s l i) ∨ (∃ j : Nat, x = (j : Int) ∧ j < i ∧ mF gr s l j = mF gr s l i ∧ ∀ m, m < j → mF gr s l m ≠ mF gr s l i)) (.inl ⟨rfl, fun m hm => by omega⟩) ?_ ?_) fun x hx => ?_
          · rintro n x hn hI
            have hn' : n < i := by simpa using hn
            have e2 : ((List.range i).map (mF gr s l))[n]'hn = mF gr s l n := by simp
            refine rn_then (ψ := fun y => (y = (i : Int) ∧ ∀ m, m < n + 1 → mF gr s l m ≠ mF gr s l i) ∨ (∃ j : Nat, y = (j : Int) ∧ j < i ∧ mF gr s l j = mF gr s l i ∧ ∀ m, m < j → mF gr s l m ≠ mF gr s l i)) (rn_ix hn ?_) fun y hy => rn_some hy
            rw [e2]
            by_cases he : mF gr s l n = mF gr s l i
            · refine rn_call (eq_of_rn (rn_t (by simpa using he) (rn_some rfl))) ?_
              rcases hI with ⟨rfl, hI⟩ | ⟨j, rfl, j1, j2, j3⟩
              · exact rn_t (by simp) (rn_some (.inr ⟨n, rfl, hn', he, hI⟩))
              · exact rn_f (by simp; omega) (rn_some (.inr ⟨j, rfl, j1, j2, j3⟩))
            · refine rn_call (eq_of_rn (rn_f (by simpa using he) (rn_some rfl))) (rn_f rfl (rn_some ?_))
              rcases hI with ⟨rfl, hI⟩ | h
              · refine .inl ⟨rfl, fun m hm => ?_⟩
                rcases Nat.lt_or_ge m n with h1 | h1
                · exact hI m h1
                · have : m = n := by omega
                  subst this
                  exact he
              · exact .inr h
          · rintro x (⟨rfl, hI⟩ | ⟨j, rfl, j1, j2, j3⟩)
            · exact ⟨i, rfl, Nat.le_refl _, rfl, fun m hm => hI m (by simpa using hm)⟩
            · exact ⟨j, rfl, by omega, j2, j3⟩
          · exact rn_gd (by simp; omega) (rn_gd (by have := h1.1; dsimp only at this ⊢; omega) (rn_some ⟨FL_add h1 hx, rng_add _ i⟩))
        obtain ⟨r, r1, r2⟩ := A
        obtain ⟨w, w1, w2⟩ := B
        have e := FL_uniq w2 r2
        subst e
        refine ⟨w, true, eq_of_rn (rn_then (ψ := fun b => b = false) (rn_call (n_validG gr) (rn_f (by rw [hk]; rfl) (rn_call (n_isExp (by omega) (by omega) s) (rn_f (by rw [hs]; rfl) (rn_call (n_hasCiphers k l) (rn_some (by rw [hcc]; rfl))))))) ?_), eq_of_rn (rn_then (ψ := fun b => b = false) (rn_call (n_l2Good gr) (rn_f (by rw [hk]; rfl) (rn_call (n_gExps (by omega) (by omega) _) (rn_f (by rw [List.all_cons, hs]; rfl) (rn_call (n_eGood k l) (rn_some (by rw [hcc]; rfl))))))) ?_), fun _ => ⟨k, hs, h24, hall, r2⟩⟩
        · rintro _ rfl
          exact rn_f rfl (rn_call r1 (rn_some rfl))
        · rintro _ rfl
          exact rn_f rfl (rn_call w1 (rn_some rfl))
    · have hs : expB gr s = false := by simpa using hs
      refine ⟨[], false, ?_, ?_, fun h => by cases h⟩
      · simp only [n_validG, hk, n_isExp (show 0 ≤ gr.Q by omega) (by omega), hs, Bool.not_true, Bool.not_false, Bool.false_eq_true, if_false, if_true, Option.bind_some]
      · simp only [n_l2Good, hk, n_gExps (show 0 ≤ gr.Q by omega) (by omega), List.all_cons, List.all_nil, Bool.and_true, hs, Bool.not_true, Bool.not_false, Bool.false_eq_true, if_false, if_true, Option.bind_some]
  · simp only [n_validG, n_l2Good, okG_f k]
    exact ⟨[], false, rfl, rfl, fun h => by cases h⟩
theorem n_decEl {gr : Group} (k : OkG gr) {s : Int} (hs : expB gr s = true) {c : Cipher} (h : hasC gr c = true) : F_impl_DecryptElement gr s c = some (decG gr s c, true) := by
  have hq := k.q
  have hp := k.p
  have h2 : (hasB gr c.A && hasB gr c.B) = true := h
  unfold F_impl_DecryptElement
  simp only [n_validG, okG_t.2 k, n_isExp (show 0 ≤ gr.Q by omega) (by omega), hs, n_hasCipher k, h2, Bool.not_true, Bool.false_eq_true, if_false, Option.bind_some, (n_dec k s h).1]
theorem n_cipher {code c0 : List Int} {at_ seed n : Int} {gr : Group} (hb : Bt code) (h : Cu code n (c0, at_, seed)) (hn : n ≤ 4000000000000000) (hg : Gw gr) : Rn (F_spec_l1Cur_cipher__io0 c0 at_ seed gr) (fun z => Cu code (n + 8) z.2) := by
  unfold F_spec_l1Cur_cipher__io0
  exact rn_then (n_element hb h (by omega) hg) fun z ⟨_, _, z3⟩ => rn_then (n_element hb z3 (by omega) hg) fun y ⟨_, _, y3⟩ => rn_some (y3.mono (by omega))
theorem n_anyCipher {code c0 : List Int} {at_ seed n : Int} {gr : Group} (hb : Bt code) (h : Cu code n (c0, at_, seed)) (hn : n ≤ 4000000000000000) (hg : Gw gr) : Rn (F_spec_l1Cur_anyCipher__io0 c0 at_ seed gr) (fun z => Cu code (n + 12) z.2) := by
  unfold F_spec_l1Cur_anyCipher__io0
  exact rn_then (n_anyElement hb h (by omega) hg) fun z ⟨_, _, z3⟩ => rn_then (n_anyElement hb z3 (by omega) hg) fun y ⟨_, _, y3⟩ => rn_some (y3.mono (by omega))
theorem n_perm {code c0 : List Int} {at_ seed n : Int} {k : Nat} (hb : Bt code) (h : Cu code n (c0, at_, seed)) (hn : n ≤ 4000000000000000) (hk : k ≤ 1000) : Rn (F_spec_l1Cur_perm__io0 c0 at_ seed (k : Int)) (fun z => z.1.length = k ∧ Cu code (n + 2 * k + 2) z.2) := by
  unfold F_spec_l1Cur_perm__io0
  refine rn_then (ψ := fun l => l.length = k) (rn_cloop k (fun j s => s.2 = (j : Int) ∧ s.1.length = j) ⟨rfl, rfl⟩ ?_ ?_) fun l hl => ?_
  · rintro j ⟨l, i⟩ hj ⟨h1, h2⟩
    have h1 : i = (j : Int) := h1
    have h2 : l.length = j := h2
    subst h1
    refine rn_t (by simp; omega) (rn_gd (by dsimp only; omega) (rn_some ⟨?_, by simp [h2]⟩))
    show IntKind.i64.wrap ((j : Int) + 1) = _
    rw [wr64 (by omega) (by omega)]; push_cast; rfl
  · rintro ⟨l, i⟩ ⟨h1, h2⟩
    have h1 : i = (k : Int) := h1
    subst h1
    exact rn_f (by simp) (rn_some h2)
  · rw [wr64 (n := (k : Int) - 1) (by omega) (by omega)]
    refine rn_then (ψ := fun x => x.2.length = k ∧ Cu code (n + 2 * k + 2) x.1) (rn_wloop (fun s => s.2.1.length = k ∧ -1 ≤ s.2.2 ∧ s.2.2 ≤ (k : Int) - 1 ∧ Cu code (n + 2 * ((k : Int) - 1 - s.2.2)) s.1) (fun s => s.2.2.toNat) ⟨hl, by dsimp only; omega, by dsimp only; omega, h.mono (by dsimp only; omega)⟩ ?_) fun x hx => rn_some hx
    rintro ⟨c, l, i⟩ ⟨h1, h2, h3, h4⟩
    have h1 : l.length = k := h1
    have h2 : -1 ≤ i := h2
    have h3 : i ≤ (k : Int) - 1 := h3
    have h4 : Cu code (n + 2 * ((k : Int) - 1 - i)) c := h4
    refine rn_if (fun g => ?_) fun g => rn_some ⟨h1, h4.mono (by omega)⟩
    have g : 0 < i := by simpa using g
    obtain ⟨m, rfl⟩ := Int.eq_ofNat_of_zero_le (show 0 ≤ i by omega)
    dsimp only
    rw [wr64 (n := (m : Int) + 1) (by omega) (by omega)]
    refine rn_then (n_pick hb h4 (by omega)) fun z ⟨z1, _, z3, _, z5⟩ => ?_
    have z3 := z3 (by omega)
    obtain ⟨j, hj⟩ := Int.eq_ofNat_of_zero_le z1
    rw [hj]
    refine rn_ix (show m < l.length by omega) (rn_ix (show j < l.length by omega) (rn_ix (show j < (l.set _ _).length by rw [List.length_set]; omega) (rn_some ⟨⟨by simp [h1], ?_, ?_, z5.mono ?_⟩, ?_⟩)))
    · show -1 ≤ IntKind.i64.wrap ((m : Int) - 1)
      rw [wr64 (by omega) (by omega)]; omega
    · show IntKind.i64.wrap ((m : Int) - 1) ≤ _
      rw [wr64 (by omega) (by omega)]; omega
    · show _ ≤ n + 2 * ((k : Int) - 1 - IntKind.i64.wrap ((m : Int) - 1))
      rw [wr64 (by omega) (by omega)]; omega
    · show (IntKind.i64.wrap ((m : Int) - 1)).toNat < (m : Int).toNat
      rw [wr64 (by omega) (by omega)]; omega
theorem n_anyCoins {code c0 : List Int} {at_ seed n : Int} {gr : Group} {k : Nat} (hb : Bt code) (h : Cu code n (c0, at_, seed)) (hn : n ≤ 3000000000000000) (hg : Gw gr) (hk : k ≤ 1000) : Rn (F_spec_l1Cur_anyCoins__io0 c0 at_ seed gr (k : Int)) (fun z => z.1.length ≤ k + 1 ∧ Cu code (n + 4 * k + 20) z.2) := by
  unfold F_spec_l1Cur_anyCoins__io0
  refine rn_then (n_coins hb h (by omega) hg (by omega)) fun z ⟨z1, _, z3⟩ => ?_
  refine rn_then (n_pick hb z3 (by omega)) fun p ⟨_, _, _, _, p5⟩ => ?_
  refine rn_then (ψ := fun v => Sum.elim (fun x => x.2.length ≤ k + 1 ∧ Cu code (n + 4 * k + 20) x.1) (fun y => y.1.length ≤ k + 1 ∧ Cu code (n + 4 * k + 20) y.2) v) ?_ ?_
  · refine rn_if (fun _ => rn_gd (by omega) (rn_some ⟨by simp [z1], p5.mono (by omega)⟩)) fun _ => rn_if (fun _ => rn_if (fun g => ?_) fun _ => rn_some ⟨by dsimp only; omega, p5.mono (by omega)⟩) fun _ => rn_if (fun _ => rn_if (fun g => ?_) fun _ => rn_some ⟨by dsimp only; omega, p5.mono (by omega)⟩) fun _ => rn_some ⟨by dsimp only; omega, p5.mono (by omega)⟩
    · have g : 0 < (k : Int) := by simpa using g
      exact rn_gd (by omega) (rn_some ⟨by simp [z1]; omega, p5.mono (by omega)⟩)
    · have g : 0 < (k : Int) := by simpa using g
      refine rn_then (n_pick hb p5 (by omega)) fun q ⟨q1, q2, q3, _, q5⟩ => ?_
      refine rn_then (n_amongM hb q5 (by omega) (by simp)) fun w ⟨_, w2⟩ => ?_
      obtain ⟨j, hj⟩ := Int.eq_ofNat_of_zero_le q1
      have hlt : j < z.1.length := by
        rcases Nat.lt_or_ge 1 k with h | h
        · have := q3 (by omega); omega
        · have := q2 (by omega); omega
      rw [hj]
      exact rn_ix hlt (rn_some ⟨by show (z.1.set _ _).length ≤ _; rw [List.length_set]; omega, w2.mono (by omega)⟩)
  · rintro (x | y) hx
    · exact rn_some hx
    · exact rn_some hx
theorem n_mixed {code c0 : List Int} {at_ seed n : Int} (hb : Bt code) (h : Cu code n (c0, at_, seed)) (hn : n ≤ 1000000000000000) : Rn (F_spec_l1Cur_mixed__io0 c0 at_ seed) (fun z => Gw z.1 ∧ z.2.2.1.length ≤ 13 ∧ Cu code (n + 400) z.2.2.2.2.2) := by
  unfold F_spec_l1Cur_mixed__io0
  refine rn_then (n_group hb h (by omega)) fun z ⟨z1, z2⟩ => rn_then (n_one hb z2 (by omega)) fun y y1 => ?_
  refine rn_then (ψ := fun x => Gw (Group.mk x.2.1 x.2.2.1 x.2.2.2) ∧ Cu code (n + 20) x.1) (rn_if (fun _ => rn_then (n_anyGroup hb y1 (by omega)) fun w ⟨w1, w2⟩ => rn_some ⟨w1, w2.mono (by omega)⟩) fun _ => rn_some ⟨z1.w, y1.mono (by omega)⟩) fun x ⟨x1, x2⟩ => ?_
  refine rn_then (n_pick hb x2 (by omega)) fun p ⟨p1, _, p3, _, p5⟩ => ?_
  have p3 := p3 (by omega)
  obtain ⟨K, hK⟩ := Int.eq_ofNat_of_zero_le p1
  rw [hK, wr64 (n := 1 + (K : Int)) (by omega) (by omega)]
  refine rn_then (ψ := fun r => r.2.length = K + 1 ∧ Cu code (n + 60) r.1) (rn_cloop (K + 1) (fun j s => s.2.2 = (K : Int) + 1 - j ∧ s.2.1.length = j ∧ Cu code (n + 22 + 8 * j) s.1) ⟨by dsimp only; omega, rfl, p5.mono (by omega)⟩ ?_ ?_) fun r ⟨r1, r2⟩ => ?_
  · rintro j ⟨c, l, i⟩ hj ⟨h1, h2, h3⟩
    have h1 : i = (K : Int) + 1 - j := h1
    have h2 : l.length = j := h2
    refine rn_t (by simp; omega) (rn_then (n_cipher hb h3 (by omega) x1) fun w w1 => rn_gd (by dsimp only; omega) (rn_some ⟨?_, by simp [h2], w1.mono (by push_cast; omega)⟩))
    show IntKind.i64.wrap (i - 1) = _
    rw [wr64 (by omega) (by omega)]; push_cast; omega
  · rintro ⟨c, l, i⟩ ⟨h1, h2, h3⟩
    have h1 : i = (K : Int) + 1 - ((K + 1 : Nat) : Int) := h1
    exact rn_f (by simp; omega) (rn_some ⟨h2, h3.mono (by omega)⟩)
  refine rn_then (n_perm hb r2 (by omega) (by omega)) fun u ⟨u1, u2⟩ => ?_
  refine rn_then (n_anyCoins hb u2 (by omega) x1 (by omega)) fun v ⟨v1, v2⟩ => ?_
  refine rn_then (n_pick hb v2 (by omega)) fun q ⟨_, _, _, _, q5⟩ => ?_
  refine rn_then (ψ := fun x => x.2.1.length ≤ 13 ∧ Cu code (n + 300) x.1) (rn_if (fun _ => ?_) fun _ => rn_if (fun _ => ?_) fun _ => rn_if (fun _ => rn_some ⟨by simp, q5.mono (by omega)⟩) fun _ => rn_if (fun _ => ?_) fun _ => rn_some ⟨by dsimp only; omega, q5.mono (by omega)⟩) fun w ⟨w1, w2⟩ => ?_
  · exact rn_then (n_anyCipher hb q5 (by omega) x1) fun w w1 => rn_ix (k := 0) (by omega) (rn_some ⟨by show (r.2.set _ _).length ≤ _; rw [List.length_set]; omega, w1.mono (by omega)⟩)
  · exact rn_then (n_amongM hb q5 (by omega) (by simp)) fun w ⟨_, w1⟩ => rn_ix (k := 0) (by omega) (rn_some ⟨by dsimp only; omega, w1.mono (by omega)⟩)
  · refine rn_wloop (fun s => 1 ≤ s.2.length ∧ s.2.length ≤ 13 ∧ Cu code (n + 200 + 2 * s.2.length) s.1) (fun s => 13 - s.2.length) ⟨by dsimp only; omega, by dsimp only; omega, q5.mono (by dsimp only; omega)⟩ ?_
    rintro ⟨c, l⟩ ⟨h1, h2, h3⟩
    have h1 : 1 ≤ l.length := h1
    have h2 : l.length ≤ 13 := h2
    have h3 : Cu code (n + 200 + 2 * l.length) c := h3
    refine rn_then (n_pick hb h3 (by omega)) fun w ⟨w1, _, w3, _, w5⟩ => ?_
    have w3 := w3 (by omega)
    dsimp only
    rw [wr64 (n := 12 + w.1) (by omega) (by omega)]
    refine rn_if (fun g => ?_) fun _ => rn_some ⟨by dsimp only; omega, w5.mono (by omega)⟩
    have g : (l.length : Int) < 12 + w.1 := by simpa using g
    exact rn_ix (k := 0) (by omega) (rn_gd (by omega) (rn_some ⟨⟨by simp, by simp; omega, w5.mono (by simp; omega)⟩, by simp; omega⟩))
  · exact rn_then (n_anyElement hb w2 (by omega) x1) fun t ⟨_, _, t3⟩ => rn_some ⟨x1, w1, t3.mono (by omega)⟩
theorem n_yP (l : List Int) : Rn (F_spec_yPoints l) (fun _ => True) := by
  unfold F_spec_yPoints
  refine rn_then (ψ := fun _ => True) (rn_rloop (fun _ _ => True) trivial ?_ fun _ _ => trivial) ?_
  · rintro k s hk _
    exact rn_ix hk (rn_gd (by omega) (rn_gd (by omega) (rn_call (n_l1Has _ _) (rn_if (fun _ => rn_some trivial) fun _ => rn_some trivial))))
  · rintro (x | y) _
    · exact rn_some trivial
    · exact rn_some trivial
theorem n_eReT {gr : Group} (k : OkG gr) {key : Int} (hk : hasB gr key = true) {c : Cipher} (hc : hasC gr c = true) (r : Int) : Rn (F_spec_eRe gr key c r) (fun _ => True) := by
  have hp := k.p
  obtain ⟨b1, b2, b3, b4⟩ := hasC_bd k hc
  have kb := has_bd hk
  have gb := k.g
  have p1 := powG_bd k gr.G r
  have p2 := powG_bd k key r
  have ml : ∀ a b : Int, 0 ≤ a → a ≤ 2000000000 → 0 ≤ b → b ≤ 2000000000 → F_spec_gMul gr [a, b] = some (mulG gr [a, b]) ∧ 0 ≤ mulG gr [a, b] ∧ mulG gr [a, b] ≤ gr.P := fun a b h1 h2 h3 h4 => by
    have hl : ∀ x ∈ [a, b], 0 ≤ x ∧ x ≤ 2000000000 := by
      intro x hx
      simp only [List.mem_cons, List.not_mem_nil, or_false] at hx
      rcases hx with rfl | rfl <;> omega
    exact ⟨n_gMul k hl, mulG_bd k hl⟩
  obtain ⟨m1, m2, m3⟩ := ml 1 (powG gr key r) (by omega) (by omega) (by omega) (by omega)
  unfold F_spec_eRe F_spec_eEnc F_spec_eMul
  refine rn_call (a := Cipher.mk (powG gr gr.G r) (mulG gr [1, powG gr key r])) ?_ (rn_then (ψ := fun _ => True) ?_ fun _ _ => rn_some trivial)
  · rw [(n_pow k (by omega) (by omega) r).2, Option.bind_some, (n_pow k (by omega) (by omega) r).2, Option.bind_some, m1]; rfl
  · refine rn_then (ψ := fun _ => True) (rn_rloop (fun _ s => 0 ≤ s.1 ∧ s.1 ≤ 2000000000 ∧ 0 ≤ s.2 ∧ s.2 ≤ 2000000000) ⟨by decide, by decide, by decide, by decide⟩ ?_ fun _ _ => trivial) fun _ _ => rn_some trivial
    rintro i ⟨s, t⟩ hi ⟨h1, h2, h3, h4⟩
    have h1 : 0 ≤ s := h1
    have h2 : s ≤ 2000000000 := h2
    have h3 : 0 ≤ t := h3
    have h4 : t ≤ 2000000000 := h4
    have hb : ∀ x ∈ [c, Cipher.mk (powG gr gr.G r) (mulG gr [1, powG gr key r])], 0 ≤ x.A ∧ x.A ≤ 2000000000 ∧ 0 ≤ x.B ∧ x.B ≤ 2000000000 := by
      intro x hx
      simp only [List.mem_cons, List.not_mem_nil, or_false] at hx
      rcases hx with rfl | rfl
      · exact ⟨b1, b2, b3, b4⟩
      · exact ⟨p1.1, by show powG gr gr.G r ≤ _; omega, m2, by show mulG gr _ ≤ _; omega⟩
    obtain ⟨c1, c2, c3, c4⟩ := hb _ (List.getElem_mem hi)
    obtain ⟨n1, n2, n3⟩ := ml s _ h1 h2 c1 c2
    obtain ⟨o1, o2, o3⟩ := ml t _ h3 h4 c3 c4
    exact rn_ix hi (rn_call n1 (rn_call o1 (rn_some ⟨n2, by dsimp only; omega, o2, by dsimp only; omega⟩)))
theorem n_mListT {gr : Group} (k : OkG gr) (key : Int) (l : List Cipher) : Rn (F_spec_mList gr key l) (fun b => b = true → hasB gr key = true ∧ 1 ≤ l.length ∧ l.length ≤ 12 ∧ l.all (hasC gr) = true) := by
  unfold F_spec_mList F_spec_eKey
  refine rn_then (ψ := fun b => b = true → hasB gr key = true ∧ 1 ≤ l.length ∧ l.length ≤ 12 ∧ l.all (hasC gr) = true) (rn_then (ψ := fun b => b = hasB gr key) (rn_then (ψ := fun b => b = hasB gr key) (rn_call (n_l2Good gr) (rn_t (okG_t.2 k) (rn_call (n_gIs1 k key) (rn_some rfl)))) fun b hb => rn_some hb) fun b hb => rn_if (fun h => ?_) fun _ => rn_some fun h => by cases h) fun b hb => rn_some hb
  refine rn_call (n_l1In _ _ _) (rn_if (fun g => ?_) fun _ => rn_some fun h => by cases h)
  simp only [Bool.and_eq_true, decide_eq_true_eq] at g
  refine rn_call (n_eGood k l) (rn_some fun h2 => ?_)
  simp only [Bool.and_eq_true] at h2
  exact ⟨hb ▸ h, by omega, by omega, h2.2⟩
theorem n_mPermT (l : List Int) (m : Nat) (hm : m ≤ 1000) : Rn (F_spec_mPerm l (m : Int)) (fun b => b = true → l.length = m ∧ ∀ x ∈ l, 0 ≤ x ∧ x ≤ (m : Int) - 1) := by
  unfold F_spec_mPerm
  refine rn_then (ψ := fun b => b = true → l.length = m ∧ ∀ x ∈ l, 0 ≤ x ∧ x ≤ (m : Int) - 1) (rn_if (fun g => ?_) fun _ => rn_some fun h => by cases h) fun b hb => rn_some hb
  have g : (l.length : Int) = m := by simpa using g
  have g : l.length = m := by omega
  rw [wr64 (n := (m : Int) - 1) (by omega) (by omega)]
  refine rn_call (n_l1All _ _ _) (rn_if (fun g2 => ?_) fun _ => rn_some fun h => by cases h)
  refine rn_then (n_yP l) fun b _ => rn_some fun _ => ⟨g, fun x hx => ?_⟩
  have := List.all_eq_true.1 g2 x hx
  simpa using this
theorem n_Mix {gr : Group} (k : OkG gr) (key : Int) (l : List Cipher) (perm rs : List Int) (hl : l.length ≤ 1000) : Rn (F_spec_MixCiphers gr key l perm rs) (fun z => (z.2 = true → 1 ≤ z.1.length) ∧ z.1.length ≤ 12) := by
  have hq := k.q
  have hp := k.p
  unfold F_spec_MixCiphers
  refine rn_then (ψ := fun b => b = false → hasB gr key = true ∧ 1 ≤ l.length ∧ l.length ≤ 12 ∧ l.all (hasC gr) = true ∧ perm.length = l.length ∧ (∀ x ∈ perm, 0 ≤ x ∧ x ≤ (l.length : Int) - 1) ∧ rs.length = l.length) ?_ fun b hb => ?_
  · refine rn_then (n_mListT k key l) fun a ha => rn_if (fun _ => rn_some fun h => by cases h) fun g1 => ?_
    refine rn_then (n_mPermT perm l.length hl) fun b hb => rn_if (fun _ => rn_some fun h => by cases h) fun g2 => rn_if (fun _ => rn_some fun h => by cases h) fun g3 => ?_
    rw [n_gExps (by omega) (by omega)]
    have g1 : a = true := by simpa using g1
    have g2 : b = true := by simpa using g2
    have g3 : (rs.length : Int) = l.length := by simpa using g3
    have g3 : rs.length = l.length := by omega
    obtain ⟨a1, a2, a3, a4⟩ := ha g1
    obtain ⟨b1, b2⟩ := hb g2
    exact rn_call rfl (rn_some fun _ => ⟨a1, a2, a3, a4, b1, b2, g3⟩)
  · refine rn_if (fun _ => rn_some ⟨fun h => (by cases h), by simp⟩) fun g => ?_
    obtain ⟨c1, c2, c3, c4, c5, c6, c7⟩ := hb g
    refine rn_then (ψ := fun o => o.length = perm.length) ?_ fun o ho => rn_some ⟨fun _ => by dsimp only; omega, by dsimp only; omega⟩
    unfold F_spec_mMix
    refine rn_then (ψ := fun o => o.length = perm.length) (rn_rloop (fun i s => s.length = i) rfl ?_ fun s hs => hs) fun o ho => rn_some ho
    rintro i s hi hs
    have hx := c6 _ (List.getElem_mem hi)
    obtain ⟨j, hj⟩ := Int.eq_ofNat_of_zero_le hx.1
    refine rn_ix hi ?_
    rw [hj]
    have hj2 : j < l.length := by omega
    refine rn_ix hj2 (rn_ix (show i < rs.length by omega) (rn_then (n_eReT k c1 (List.all_eq_true.1 c4 _ (List.getElem_mem hj2)) _) fun w _ => rn_gd (by omega) (rn_some (by show (s ++ [w]).length = _; simp [hs]))))
theorem n_DSame {code : List Int} (hb : Bt code) : Rn (F_spec_DrawSameMessages code) (fun z => z.2.2.1.length ≤ 13 ∧ z.2.2.2.length ≤ 12) := by
  unfold F_spec_DrawSameMessages
  refine rn_then (n_mixed hb (cu0 code) (by omega)) fun z ⟨z1, z2, z3⟩ => ?_
  refine rn_then (n_anyExpo hb z3 (by omega) z1) fun y ⟨_, _, y3⟩ => ?_
  refine rn_then (ψ := fun b => b = true → OkG z.1) ?_ fun b hb0 => ?_
  · refine rn_call (n_l2Good z.1) (rn_if (fun g => ?_) fun _ => rn_some fun h => by cases h)
    have k := okG_t.1 g
    have hq := k.q
    have hp := k.p
    exact rn_call (n_gExps (by omega) (by omega) _) (rn_some fun _ => k)
  refine rn_then (ψ := fun x => (x.2 = true → 1 ≤ x.1.length) ∧ x.1.length ≤ 12) ?_ fun x ⟨x1, x2⟩ => ?_
  · refine rn_if (fun g => ?_) fun _ => rn_some ⟨fun h => (by cases h), by simp⟩
    have k := hb0 g
    have hp := k.p
    have gb := k.g
    refine rn_call (n_pow k (by omega) (by omega) _).2 ?_
    exact rn_then (n_Mix k _ _ _ _ (by omega)) fun w hw => rn_some hw
  refine rn_then (ψ := fun v => Cu code 500 v.1 ∧ (v.2 = true → x.2 = true)) ?_ fun v ⟨v1, v2⟩ => ?_
  · exact rn_if (fun g => rn_then (n_one hb y3 (by omega)) fun w w1 => rn_some ⟨w1.mono (by omega), fun _ => g⟩) fun _ => rn_some ⟨y3.mono (by omega), fun h => (by cases h)⟩
  refine rn_then (ψ := fun w => Cu code 600 w.1 ∧ w.2.length = x.1.length) ?_ fun w ⟨w1, w2⟩ => ?_
  · refine rn_if (fun g => ?_) fun _ => rn_some ⟨v1.mono (by omega), rfl⟩
    have hl := x1 (v2 g)
    refine rn_then (n_pick hb v1 (by omega)) fun p ⟨p1, p2, p3, _, p5⟩ => ?_
    obtain ⟨j, hj⟩ := Int.eq_ofNat_of_zero_le p1
    have hlt : j < x.1.length := by
      rcases Nat.lt_or_ge 1 x.1.length with h | h
      · have := p3 (by omega); omega
      · have := p2 (by omega); omega
    refine rn_then (n_anyCipher hb p5 (by omega) z1) fun c c1 => ?_
    rw [hj]
    exact rn_ix hlt (rn_some ⟨c1.mono (by omega), by show (x.1.set _ _).length = _; rw [List.length_set]⟩)
  refine rn_then (ψ := fun b => b = true → x.2 = true) ?_ fun b2 hb2 => ?_
  · exact rn_if (fun g => rn_then (n_one hb w1 (by omega)) fun _ _ => rn_some fun _ => g) fun _ => rn_some fun h => by cases h
  refine rn_then (ψ := fun l => l.length ≤ 12) ?_ fun l hl => rn_some ⟨z2, hl⟩
  refine rn_if (fun g => ?_) fun _ => rn_some (by show w.2.length ≤ _; omega)
  have hl := x1 (hb2 g)
  exact rn_gd (by omega) (rn_some (by simp; omega))
theorem n_DEq {code : List Int} (hb : Bt code) : Rn (F_spec_DrawEqualGroups code) (fun _ => True) := by
  unfold F_spec_DrawEqualGroups
  exact rn_then (n_DSame hb) fun z ⟨z1, z2⟩ => rn_then (n_one hb (cu0 code) (by omega)) fun _ _ => rn_if (fun _ => rn_gd (by omega) (rn_some trivial)) fun _ => rn_some trivial
theorem n_DFalse {code : List Int} (hb : Bt code) : Rn (F_spec_DrawFalseEqualCount code) (fun _ => True) := by
  unfold F_spec_DrawFalseEqualCount
  exact rn_then (n_amongM hb (cu0 code) (by omega) (by simp)) fun z ⟨_, z2⟩ => rn_then (n_amongM hb z2 (by omega) (by simp)) fun _ _ => rn_some trivial
theorem n_zeroL {v : List ViewCount} (hd : (v.map (·.View)).Nodup) : Rn (rloop (σ := Int) (β := Int) (fun i29 s28 =>
    (((ix v i29).bind fun x38 =>
    ((if ((x38.View.length : Int) == 1) = true then (
    (ix x38.View 0).bind fun x43 =>
    some (x43 == 0)) else (
    some false) : Option (Bool)).bind fun x41 =>
    if x41 = true then (
    some x38.Times) else (
    some s28)) : Option (Int)).bind fun x37 =>
    some (.go x37))) (fun s28 => s28) (v.length) 0 0) (fun s => s = cnt v [0]) := by
  refine rn_rloop (fun i s => s = cnt (v.take i) [0]) (by simp [cnt]) ?_ fun s hs => by rw [hs, List.take_length]
  rintro i s hi rfl
  refine rn_then (ψ := fun x => x = cnt (v.take (i + 1)) [0]) (rn_ix hi (rn_then (ψ := fun b => b = true ↔ v[i].View = [0]) ?_ fun b hb => ?_)) fun x hx => rn_some hx
  · refine rn_if (fun g => ?_) fun g => rn_some ?_
    · have g : (v[i].View.length : Int) = 1 := by simpa using g
      have g : v[i].View.length = 1 := by omega
      refine rn_ix (k := 0) (by omega) (rn_some ?_)
      rw [beq_iff_eq]
      obtain ⟨a, ha⟩ := List.length_eq_one_iff.1 g
      simp [ha]
    · constructor
      · intro h; cases h
      · intro h
        rw [h] at g
        simp at g
  · rw [cnt_take hi]
    refine rn_if (fun g => rn_some ?_) fun g => rn_some ?_
    · have e := hb.1 g
      rw [if_pos e, cnt_none fun x hx he => ?_]
      · omega
      · obtain ⟨m, hm, rfl⟩ := List.mem_iff_getElem.1 hx
        rw [List.length_take] at hm
        rw [List.getElem_take] at he
        have := (List.pairwise_iff_getElem.1 hd) m i (by simp; omega) (by simpa using hi) (by omega)
        rw [List.getElem_map, List.getElem_map] at this
        exact this (he.trans e.symm)
    · rw [if_neg fun e => by rw [hb.2 e] at g; cases g]
      omega
theorem law14 (a b : List Int) (h0 : ∀ x ∈ a, 0 ≤ x ∧ x ≤ 255) (h1 : ∀ x ∈ b, 0 ≤ x ∧ x ≤ 255) (hl0 : a.length ≤ 1048576) (hl1 : b.length ≤ 1048576) : F_laws_FnEqualGroups a b = some true := by
  unfold F_laws_FnEqualGroups
  refine eq_of_rn (rn_if (fun _ => rn_some rfl) fun _ => ?_)
  refine rn_then (n_DEq ⟨h0, hl0⟩) fun z _ => ?_
  obtain ⟨r, t, e1, e2, e3⟩ := n_groups z.1 z.2.1 z.2.2
  refine rn_call e1 (rn_call e2 ?_)
  refine rn_then (n_DFalse ⟨h1, hl1⟩) fun y _ => ?_
  obtain ⟨w, u, f1, f2, f3⟩ := n_false y.1 y.2
  refine rn_call f2 (rn_call f1 ?_)
  refine rn_then (ψ := fun x => x = false) (rn_f (by simp) (rn_call n_qI (rn_f rfl (rn_f (by simp) (rn_some (by simp)))))) ?_
  rintro _ rfl
  refine rn_f rfl ?_
  refine rn_then (ψ := fun x => x = true → u = true ∧ y.2 ≤ 3) (rn_if (fun g => rn_some fun h => ⟨g, by simpa using h⟩) fun _ => rn_some fun h => by cases h) fun x hx => ?_
  refine rn_then (ψ := fun v => v = .inl ()) (rn_if (fun g => ?_) fun _ => rn_some rfl) ?_
  · obtain ⟨g1, g2⟩ := hx g
    obtain ⟨Q, K, q1, q2, q3, q4, q5, q6, q7, q8⟩ := f3 g1
    obtain ⟨v, v1, v2, v3⟩ := n_zero (q := Q) (k := K) q3 q4 q5 q6 (by omega)
    have e : F_impl_BlindViews y.1 1 y.2 = some (v, true) := by rw [q1, q2]; exact v1
    refine rn_call e (rn_then (n_zeroL v2) ?_)
    rintro s rfl
    refine rn_then (ψ := fun x => x = false) (rn_f rfl (rn_some ?_)) ?_
    · show (cnt v [0] != w) = false
      rw [v3, q8]; simp
    · rintro _ rfl
      exact rn_f rfl (rn_some rfl)
  rintro _ rfl
  show Rn (ite _ _ _) _
  refine rn_if (fun _ => rn_some rfl) fun g => ?_
  have g : t = true := by simpa using g
  obtain ⟨k, hs, h24, hall, hF⟩ := e3 g
  have hat : ∀ i (h : i < z.2.2.length), hasC z.1 z.2.2[i] = true := fun i h => List.all_eq_true.1 hall _ (List.getElem_mem h)
  refine rn_then (ψ := fun v => v = .inl ()) (rn_rloop (fun _ _ => True) trivial ?_ fun s _ => rfl) ?_
  · rintro i s hi _
    have hi : i < r.length := hi
    have hil : i < z.2.2.length := by have := hF.1; omega
    obtain ⟨j, j0, j1, j2, j3⟩ := hF.2 i hi
    have hjl : j < z.2.2.length := by omega
    have hjr : j < r.length := by omega
    obtain ⟨m, m0, m1, m2, m3⟩ := hF.2 j hjr
    have hm : m = j := by
      rcases Nat.lt_or_ge m j with h | h
      · exact absurd (m2.trans j2) (j3 m h)
      · omega
    refine rn_ix hi ?_
    rw [j0]
    refine rn_ix hil (rn_call (n_decEl k hs (hat i hil)) (rn_ix hjl (rn_call (n_decEl k hs (hat j hjl)) ?_)))
    rw [← mF_at hil, ← mF_at hjl, j2]
    refine rn_then (ψ := fun x => x = false) (rn_f rfl (rn_f rfl (rn_f (by simp) (rn_ix hjr (rn_some ?_))))) ?_
    · rw [m0, hm]; simp
    · rintro _ rfl
      exact rn_f rfl (rn_some trivial)
  · rintro _ rfl
    exact rn_some rfl
end Go.Pm
