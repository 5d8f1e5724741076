/-
  The plain law of 'FnExactProjectCounts': the plain function answers true.
  Its conditions: the sizes of what is given are below 1048576.
-/
import Derived.Test.YthdjiekgolgmfaaWc
namespace Go.Pm
open Go.Am
set_option linter.unusedVariables false
set_option linter.unusedSimpArgs false

theorem totV_le {l : List ViewCount} {c : Int} (h : ∀ x ∈ l, (x.View.length : Int) ≤ c) : totV l ≤ l.length * (c + 1) := by
  induction l with
  | nil => simp [totV]
  | cons x l ih =>
    have h1 := h x (List.mem_cons_self ..)
    have h2 := ih fun y hy => h y (List.mem_cons_of_mem _ hy)
    simp only [totV, List.map_cons, List.sum_cons, List.length_cons] at h2 ⊢
    push_cast
    rw [Int.add_mul]; omega
theorem totV_small {l : List ViewCount} (hl : l.length ≤ 1048576) (hv : ∀ x ∈ l, x.View.length ≤ 1048576) : totV l ≤ 1152921504606846970 := by
  have h1 := totV_le (l := l) (c := 1048576) fun x hx => by have := hv x hx; omega
  have h2 : (l.length : Int) * (1048576 + 1) ≤ 1048576 * (1048576 + 1) := Int.mul_le_mul_of_nonneg_right (by omega) (by omega)
  omega
def cutv (f g : Nat) (v : List Int) : List Int := (v.take (min g v.length)).drop (min f v.length)
def projL (f g : Nat) (l : List ViewCount) : List ViewCount := l.map fun x => ⟨cutv f g x.View, x.Times⟩
theorem cutv_len (f g : Nat) (v : List Int) : (cutv f g v).length ≤ v.length ∧ (cutv f g v).length ≤ g := by
  unfold cutv
  simp only [List.length_drop, List.length_take]
  omega
theorem projL_len (f g : Nat) (l : List ViewCount) : (projL f g l).length = l.length := by simp [projL]
theorem projL_sum (f g : Nat) (l : List ViewCount) : sumT (projL f g l) = sumT l := by
  unfold sumT projL; rw [List.map_map]; rfl
theorem projL_at {f g : Nat} {l : List ViewCount} {k : Nat} (h : k < l.length) : (projL f g l)[k]'(by rw [projL_len]; exact h) = ⟨cutv f g l[k].View, l[k].Times⟩ := by simp [projL]
theorem p_least (f n : Nat) : F_spec_l1Least (f : Int) (n : Int) = some ((min f n : Nat) : Int) := by
  unfold F_spec_l1Least
  by_cases h : f < n
  · rw [if_pos (by simpa using h), Nat.min_eq_left (by omega)]
  · rw [if_neg (by simpa using h), Nat.min_eq_right (by omega)]
theorem min_if (f n : Nat) : (if (n : Int) < (f : Int) then (n : Int) else (f : Int)) = ((min f n : Nat) : Int) := by
  by_cases h : n < f
  · rw [if_pos (by omega), Nat.min_eq_right (by omega)]
  · rw [if_neg (by omega), Nat.min_eq_left (by omega)]

theorem p_project (l : List ViewCount) (a b : Int) (hl : l.length ≤ 1048576) (hv : ∀ x ∈ l, x.View.length ≤ 1048576) :
    ∃ r t, F_spec_ProjectCounts l a b = some (r, t) ∧ F_impl_ProjectCounts l a b = some (r, t) ∧ r.length ≤ 3000 ∧ ∀ x ∈ r, x.View.length ≤ 24 := by
  obtain ⟨ga, s1, s2⟩ := p_wGood l hl hv
  obtain ⟨ga', i1, i2⟩ := p_isCount l hl hv
  have ea : ga' = ga := by rw [Bool.eq_iff_iff, i2, s2]
  subst ea
  unfold F_spec_ProjectCounts F_impl_ProjectCounts
  rw [s1, i1]
  simp only [Option.bind_some, p_l1In, p_within]
  by_cases hg : ga' = true ∧ (0 ≤ b ∧ b ≤ 24) ∧ 0 ≤ a ∧ a ≤ b
  · obtain ⟨h1, ⟨h2, h3⟩, h4, h5⟩ := hg
    have G := s2.1 h1
    have lt := good_times G
    obtain ⟨f, rfl⟩ : ∃ f : Nat, a = (f : Int) := ⟨a.toNat, by omega⟩
    obtain ⟨g, rfl⟩ : ∃ g : Nat, b = (g : Int) := ⟨b.toNat, by omega⟩
    have d1 : decide (0 ≤ (g : Int)) = true := by simp
    have d2 : decide ((g : Int) ≤ 24) = true := by simpa using h3
    have d3 : decide (0 ≤ (f : Int)) = true := by simp
    have d4 : decide ((f : Int) ≤ (g : Int)) = true := by simpa using h5
    simp only [h1, d1, d2, d3, d4, Bool.not_true, Bool.and_self, Bool.false_eq_true, if_false, Option.bind_some]
    have hfg : f ≤ g := by omega
    have Gl := G.1
    have Gs := G.2.2
    -- the reference's loop
    obtain ⟨out, e1, c1, c2, c3, c4⟩ := rloop_post (σ := (List ViewCount)) (β := (List ViewCount)) (body := fun i38 s37 =>
      (ix l i38).bind fun x47 =>
      (F_spec_l1Least (f : Int) (x47.View.length : Int)).bind fun z55 =>
      (F_spec_l1Least (g : Int) (x47.View.length : Int)).bind fun z58 =>
      gd (0 ≤ z55) <|
      gd (0 ≤ z58) <|
      gd (z55.toNat ≤ z58.toNat ∧ z58.toNat ≤ x47.View.length) <|
      (F_spec_wAdd__mv0 s37 ((x47.View.take z58.toNat).drop z55.toNat) x47.Times).bind fun z70 =>
      some (.go z70)) (stop := fun s37 => s37) (m := l.length) (i0 := 0) (s0 := [])
      (fun k s => Canon s (cnt ((projL f g l).take k)) ∧ sumT s = sumT ((projL f g l).take k) ∧ s.length ≤ k ∧ ∀ x ∈ s, x.View.length ≤ 24)
      (fun s => Canon s (cnt (projL f g l)) ∧ sumT s = sumT l ∧ s.length ≤ l.length ∧ ∀ x ∈ s, x.View.length ≤ 24)
      ⟨by rw [List.take_zero]; exact canon_nil, by simp [sumT], Nat.le_refl _, fun x hx => by simp at hx⟩
      (by
        rintro k s hk ⟨q1, q2, q3, q4⟩
        have hk' : k < (projL f g l).length := by rw [projL_len]; exact hk
        have hx := lt l[k] (List.getElem_mem hk)
        have hc := cutv_len f g l[k].View
        have st := sumT_take hk'
        have sl : sumT ((projL f g l).take (k + 1)) ≤ 1000000 := by
          have e : sumT (projL f g l) = sumT ((projL f g l).take (k + 1)) + sumT ((projL f g l).drop (k + 1)) := by rw [← sumT_append, List.take_append_drop]
          rw [projL_sum] at e
          have := sumT_nonneg (l := (projL f g l).drop (k + 1)) fun x hx => by
            have hm := List.mem_of_mem_drop hx
            obtain ⟨y, hy, rfl⟩ := List.mem_map.1 hm
            have := (lt y hy).1
            show 0 ≤ y.Times; omega
          omega
        rw [projL_at hk] at st
        dsimp only at st
        obtain ⟨s2, w1, w2, w3, w4, w5⟩ := p_wAdd s (cutv f g l[k].View) l[k].Times q1 (by omega) (fun x hx => by have := q4 x hx; omega) (by omega) hx.1 (by omega)
        rw [Int.zero_add]
        refine .inl ⟨s2, ?_, w2.congr fun v => by rw [cnt_take hk', projL_at hk], by omega, by omega, fun x hx => ?_⟩
        · simp only [ix_at hk, Option.bind_some, p_least, Int.toNat_natCast]
          rw [gd_t (by omega), gd_t (by omega), gd_t (by omega)]
          have := w1
          unfold cutv at this
          rw [this]; rfl
        · rcases w5 x hx with h | ⟨y, hy, h⟩
          · rw [h]; omega
          · rw [h]; exact q4 y hy)
      (by
        rintro s ⟨q1, q2, q3, q4⟩
        have e : (projL f g l).take l.length = projL f g l := List.take_of_length_le (by rw [projL_len]; exact Nat.le_refl _)
        rw [e] at q1 q2
        exact ⟨q1, by rw [q2, projL_sum], q3, q4⟩)
    rw [e1, Option.bind_some]
    -- the program's loop
    have e2 : rloop (σ := (List ViewCount)) (β := (List ViewCount)) (fun i38 s37 =>
      (ix l i38).bind fun x47 =>
      gd (0 ≤ (if (x47.View.length : Int) < (f : Int) then (x47.View.length : Int) else (f : Int))) <|
      gd (0 ≤ (if (x47.View.length : Int) < (g : Int) then (x47.View.length : Int) else (g : Int))) <|
      gd ((if (x47.View.length : Int) < (f : Int) then (x47.View.length : Int) else (f : Int)).toNat ≤ (if (x47.View.length : Int) < (g : Int) then (x47.View.length : Int) else (g : Int)).toNat ∧ (if (x47.View.length : Int) < (g : Int) then (x47.View.length : Int) else (g : Int)).toNat ≤ x47.View.length) <|
      gd ((s37.length + 1) * 32 ≤ 140737488355328 ∧ s37.length + 1 ≤ 4611686018427387904) <|
      some (.go (s37 ++ [(ViewCount.mk ((x47.View.take ((if (x47.View.length : Int) < (g : Int) then (x47.View.length : Int) else (g : Int)).toNat)).drop ((if (x47.View.length : Int) < (f : Int) then (x47.View.length : Int) else (f : Int)).toNat)) x47.Times)]))) (fun s37 => s37) (l.length) 0 [] = some (projL f g l) := by
      refine some_of (rloop_post (fun k s => s = (projL f g l).take k) _ (by simp) ?_ (fun s h => by rw [h]; exact List.take_of_length_le (by rw [projL_len]; exact Nat.le_refl _)))
      rintro k s hk rfl
      have hk' : k < (projL f g l).length := by rw [projL_len]; exact hk
      rw [Int.zero_add]
      refine .inl ⟨_, ?_, rfl⟩
      simp only [ix_at hk, Option.bind_some, min_if, Int.toNat_natCast]
      rw [gd_t (by omega), gd_t (by omega), gd_t (by omega), gd_t (by simp; omega), List.take_succ_eq_append_getElem hk', projL_at hk]
      rfl
    rw [e2, Option.bind_some]
    obtain ⟨o2, o3, o4, o5, o6, o7⟩ := p_gathered (projL f g l) (by rw [projL_len]; exact hl) (fun x hx => by
      obtain ⟨y, hy, rfl⟩ := List.mem_map.1 hx
      have := cutv_len f g y.View
      have := hv y hy
      show (cutv f g y.View).length ≤ _; omega) (fun x hx => by
      obtain ⟨y, hy, rfl⟩ := List.mem_map.1 hx
      exact (lt y hy).1) (by rw [projL_sum]; omega)
    have eo : out = o2 := canon_uniq c1 o3
    subst eo
    have good : GoodC out := good_of_canon c1 (by omega) c4 (by omega)
    rcases o7 with ⟨_, o8⟩ | ⟨o8, _⟩
    · rw [o8]
      exact ⟨out, true, rfl, rfl, by omega, c4⟩
    · exact absurd good o8
  · refine ⟨[], false, ?_, ?_, by simp, fun x hx => by simp at hx⟩
    all_goals
      by_cases h1 : ga' = true
      · by_cases h2 : 0 ≤ b ∧ b ≤ 24
        · have h3 : ¬ (0 ≤ a ∧ a ≤ b) := fun h => hg ⟨h1, h2, h⟩
          have d : (decide (0 ≤ a) && decide (a ≤ b)) = false := by simp; omega
          simp [h1, h2, d]
        · have d : (decide (0 ≤ b) && decide (b ≤ 24)) = false := by simp; omega
          simp [h1, d]
      · simp [h1]

theorem law5 (l : List ViewCount) (a b : Int) (hl : l.length ≤ 1048576) (hv : ∀ x ∈ l, x.View.length ≤ 1048576) : F_laws_FnExactProjectCounts l a b = some true := by
  unfold F_laws_FnExactProjectCounts
  obtain ⟨z1, h1, h2⟩ := p_szViewCountS (l := l) (n := 1048576) (by omega) (by omega) hl hv
  rw [h1, Option.bind_some]
  by_cases c1 : z1 < 0
  · simp [c1]
  · simp only [c1, decide_false, Bool.false_eq_true, if_false, p_toViewCountS hl hv, Option.bind_some]
    obtain ⟨r, t, r1, r2, r3, r4⟩ := p_project l a b hl hv
    have rl : r.length ≤ 1048576 := by omega
    have rv : ∀ x ∈ r, x.View.length ≤ 1048576 := fun x hx => by have := r4 x hx; omega
    obtain ⟨m, m1, m2, m3, m4⟩ := p_markV l hl hv (totV_small hl hv)
    obtain ⟨n, n1, n2, n3, n4⟩ := p_markV r rl rv (totV_small rl rv)
    have hh := p_heldV n (1 + totV r) (by omega) n4 (by have := totV_small rl rv; omega) n3
    have t1 := totV_nonneg l
    have t2 := totV_nonneg r
    have q1 : ¬ (1 + totV l < 0) := by omega
    have q2 : ¬ (1 + totV r < 0) := by omega
    rw [r1, r2]
    simp [p_eqViewCountS rl rv, p_eqViewCountS hl hv, m1, n1, hh, q1, q2]
end Go.Pm
