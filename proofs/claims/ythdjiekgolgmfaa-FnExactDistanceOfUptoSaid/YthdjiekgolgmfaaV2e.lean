/-
  The plain law of 'FnExactDistanceOf': the plain function answers true.
  Its conditions: the sizes of what is given are below 1048576.
-/
import Derived.Test.YthdjiekgolgmfaaV2d
namespace Go.Pm
open Go.Am
set_option linter.unusedVariables false
set_option linter.unusedSimpArgs false

theorem sum_pos {l : List ViewCount} (h : ∀ x ∈ l, 1 ≤ x.Times) (h0 : l ≠ []) : 1 ≤ sumT l := by
  cases l with
  | nil => exact absurd rfl h0
  | cons a l =>
    have h1 := h a (List.mem_cons_self ..)
    have h2 := sumT_nonneg (l := l) fun x hx => by have := h x (List.mem_cons_of_mem _ hx); omega
    simp only [sumT, List.map_cons, List.sum_cons] at h2 ⊢
    omega
theorem good_times {l : List ViewCount} (h : GoodC l) : ∀ x ∈ l, 1 ≤ x.Times ∧ x.Times ≤ 1000000 := by
  intro x hx
  obtain ⟨k, hk⟩ := List.getElem?_of_mem hx
  exact ⟨(h.2.1 k x hk).1, (h.2.1 k x hk).2.1⟩
/-- Two loops over a list that do the same at each element. -/
theorem rloop_congr {σ β : Type} {body body' : Int → σ → Option (Stp σ β)} {stop : σ → β} : ∀ (m : Nat) (i : Int) (s : σ), (∀ (k : Nat) (s : σ), k < m → body (i + (k : Int)) s = body' (i + (k : Int)) s) → rloop body stop m i s = rloop body' stop m i s := by
  intro m
  induction m with
  | zero => intro i s _; rfl
  | succ m ih =>
    intro i s h
    have h0 := h 0 s (by omega)
    simp at h0
    simp only [rloop, h0]
    congr 1
    funext x
    cases x with
    | go s' =>
      refine ih (i + 1) s' fun k s hk => ?_
      have := h (k + 1) s (by omega)
      have e : i + ((k + 1 : Nat) : Int) = i + 1 + (k : Int) := by push_cast; omega
      rwa [e] at this
    | out b => rfl
/-- A loop that always goes on ends. -/
theorem rloop_go {σ β : Type} {body : Int → σ → Option (Stp σ β)} {stop : σ → β} (m : Nat) (i : Int) (s : σ) (h : ∀ (k : Nat) (s : σ), k < m → ∃ s', body (i + (k : Int)) s = some (.go s')) : ∃ s', rloop body stop m i s = some (stop s') := by
  obtain ⟨b, h1, s', h2⟩ := rloop_post (body := body) (stop := stop) (m := m) (i0 := i) (s0 := s) (fun _ _ => True) (fun b => ∃ s', b = stop s') True.intro (fun k s hk _ => by
    obtain ⟨s', h⟩ := h k s hk
    exact .inl ⟨s', h, True.intro⟩) (fun s _ => ⟨s, rfl⟩)
  exact ⟨s', by rw [h1, h2]⟩
theorem max_eq (d : Int) : F_spec_l1Most d (IntKind.i64.wrap (0 - d)) = some (if d < IntKind.i64.wrap (0 - d) then IntKind.i64.wrap (0 - d) else d) := by
  unfold F_spec_l1Most
  generalize IntKind.i64.wrap (0 - d) = e
  by_cases h : e < d
  · rw [if_pos (by simpa using h), if_neg (by omega)]
  · rw [if_neg (by simpa using h)]
    by_cases h2 : d < e
    · rw [if_pos h2]
    · rw [if_neg h2]; congr 1; omega

theorem p_Distance (a b : List ViewCount) (ha : a.length ≤ 1048576) (hb : b.length ≤ 1048576) (hva : ∀ x ∈ a, x.View.length ≤ 1048576) (hvb : ∀ x ∈ b, x.View.length ≤ 1048576) :
    ∃ r, F_spec_DistanceOf a b = some r ∧ F_impl_DistanceOf a b = some r := by
  obtain ⟨ga, s1, s2⟩ := p_wGood a ha hva
  obtain ⟨gb, s3, s4⟩ := p_wGood b hb hvb
  obtain ⟨ga', i1, i2⟩ := p_isCount a ha hva
  obtain ⟨gb', i3, i4⟩ := p_isCount b hb hvb
  have ea : ga' = ga := by rw [Bool.eq_iff_iff, i2, s2]
  have eb : gb' = gb := by rw [Bool.eq_iff_iff, i4, s4]
  subst ea; subst eb
  unfold F_spec_DistanceOf F_impl_DistanceOf
  rw [s1, s3, i1, i3]
  simp only [Option.bind_some]
  by_cases hg : ga' = true ∧ gb' = true ∧ a ≠ [] ∧ b ≠ []
  · obtain ⟨h1, h2, h3, h4⟩ := hg
    have Ga := s2.1 h1
    have Gb := s4.1 h2
    have la : ((a.length : Int) == 0) = false := by
      cases a with
      | nil => exact absurd rfl h3
      | cons x l => simp; omega
    have lb : ((b.length : Int) == 0) = false := by
      cases b with
      | nil => exact absurd rfl h4
      | cons x l => simp; omega
    have ta := good_times Ga
    have tb := good_times Gb
    have pa := sum_pos (fun x hx => (ta x hx).1) h3
    have pb := sum_pos (fun x hx => (tb x hx).1) h4
    have qa := Ga.2.2
    have qb := Gb.2.2
    simp only [h1, h2, Bool.not_true, Bool.false_eq_true, if_false, la, lb, Option.bind_some, p_wSum Ga.1 ta, p_wSum Gb.1 tb, p_total Ga.1 ta, p_total Gb.1 tb]
    -- the first loop
    have L1 : ∃ x, rloop (σ := Int) (β := Int) (fun i71 s70 =>
        (ix a i71).bind fun x80 =>
        (F_spec_wTimes b x80.View).bind fun z87 =>
        (F_spec_l1Most (IntKind.i64.wrap ((IntKind.i64.wrap (x80.Times * sumT b)) - (IntKind.i64.wrap (z87 * sumT a)))) (IntKind.i64.wrap (0 - (IntKind.i64.wrap ((IntKind.i64.wrap (x80.Times * sumT b)) - (IntKind.i64.wrap (z87 * sumT a))))))).bind fun z90 =>
        some (.go (IntKind.i64.wrap (s70 + z90)))) (fun s70 => s70) (a.length) 0 0 = some x ∧
      rloop (σ := Int) (β := Int) (fun i68 s67 =>
        (ix a i68).bind fun x77 =>
        (F_impl_timesOf b x77.View).bind fun z84 =>
        some (.go (IntKind.i64.wrap (s67 + (if (IntKind.i64.wrap ((IntKind.i64.wrap (x77.Times * sumT b)) - (IntKind.i64.wrap (z84 * sumT a)))) < (IntKind.i64.wrap (0 - (IntKind.i64.wrap ((IntKind.i64.wrap (x77.Times * sumT b)) - (IntKind.i64.wrap (z84 * sumT a)))))) then (IntKind.i64.wrap (0 - (IntKind.i64.wrap ((IntKind.i64.wrap (x77.Times * sumT b)) - (IntKind.i64.wrap (z84 * sumT a)))))) else (IntKind.i64.wrap ((IntKind.i64.wrap (x77.Times * sumT b)) - (IntKind.i64.wrap (z84 * sumT a))))))))) (fun s67 => s67) (a.length) 0 0 = some x := by
      have hcong := rloop_congr (stop := fun s : Int => s) (body := fun i71 s70 =>
        (ix a i71).bind fun x80 =>
        (F_spec_wTimes b x80.View).bind fun z87 =>
        (F_spec_l1Most (IntKind.i64.wrap ((IntKind.i64.wrap (x80.Times * sumT b)) - (IntKind.i64.wrap (z87 * sumT a)))) (IntKind.i64.wrap (0 - (IntKind.i64.wrap ((IntKind.i64.wrap (x80.Times * sumT b)) - (IntKind.i64.wrap (z87 * sumT a))))))).bind fun z90 =>
        some (.go (IntKind.i64.wrap (s70 + z90)))) (body' := fun i68 s67 =>
        (ix a i68).bind fun x77 =>
        (F_impl_timesOf b x77.View).bind fun z84 =>
        some (.go (IntKind.i64.wrap (s67 + (if (IntKind.i64.wrap ((IntKind.i64.wrap (x77.Times * sumT b)) - (IntKind.i64.wrap (z84 * sumT a)))) < (IntKind.i64.wrap (0 - (IntKind.i64.wrap ((IntKind.i64.wrap (x77.Times * sumT b)) - (IntKind.i64.wrap (z84 * sumT a)))))) then (IntKind.i64.wrap (0 - (IntKind.i64.wrap ((IntKind.i64.wrap (x77.Times * sumT b)) - (IntKind.i64.wrap (z84 * sumT a)))))) else (IntKind.i64.wrap ((IntKind.i64.wrap (x77.Times * sumT b)) - (IntKind.i64.wrap (z84 * sumT a)))))))))
        a.length 0 0 (fun k s hk => by
          obtain ⟨t, t1, t2⟩ := times_eq b a[k].View Gb hb hvb (hva _ (List.getElem_mem hk))
          rw [Int.zero_add]
          simp only [ix_at hk, Option.bind_some, t1, t2, max_eq])
      rw [hcong]
      obtain ⟨x, hx⟩ := rloop_go (stop := fun s : Int => s) (body := fun i68 s67 =>
        (ix a i68).bind fun x77 =>
        (F_impl_timesOf b x77.View).bind fun z84 =>
        some (.go (IntKind.i64.wrap (s67 + (if (IntKind.i64.wrap ((IntKind.i64.wrap (x77.Times * sumT b)) - (IntKind.i64.wrap (z84 * sumT a)))) < (IntKind.i64.wrap (0 - (IntKind.i64.wrap ((IntKind.i64.wrap (x77.Times * sumT b)) - (IntKind.i64.wrap (z84 * sumT a)))))) then (IntKind.i64.wrap (0 - (IntKind.i64.wrap ((IntKind.i64.wrap (x77.Times * sumT b)) - (IntKind.i64.wrap (z84 * sumT a)))))) else (IntKind.i64.wrap ((IntKind.i64.wrap (x77.Times * sumT b)) - (IntKind.i64.wrap (z84 * sumT a))))))))) a.length 0 0 (fun k s hk => by
          obtain ⟨t, t1, t2⟩ := times_eq b a[k].View Gb hb hvb (hva _ (List.getElem_mem hk))
          rw [Int.zero_add]
          simp only [ix_at hk, Option.bind_some, t1]
          exact ⟨_, rfl⟩)
      exact ⟨x, hx, hx⟩
    obtain ⟨x, x1, x2⟩ := L1
    rw [x1, x2]
    simp only [Option.bind_some]
    -- the second loop
    have L2 : ∃ y, rloop (σ := Int) (β := Int) (fun i138 s137 =>
        (((ix b i138).bind fun x153 =>
        (F_spec_wTimes a x153.View).bind fun z160 =>
        if (z160 == 0) = true then (
        some (IntKind.i64.wrap (s137 + (IntKind.i64.wrap (x153.Times * sumT a))))) else (
        some s137) : Option (Int)).bind fun (x151 : Int) =>
        some (.go x151))) (fun s137 => s137) (b.length) 0 x = some y ∧
      rloop (σ := Int) (β := Int) (fun i132 s131 =>
        (((ix b i132).bind fun x147 =>
        (F_impl_timesOf a x147.View).bind fun z154 =>
        if (z154 == 0) = true then (
        some (IntKind.i64.wrap (s131 + (IntKind.i64.wrap (x147.Times * sumT a))))) else (
        some s131) : Option (Int)).bind fun (x145 : Int) =>
        some (.go x145))) (fun s131 => s131) (b.length) 0 x = some y := by
      have hcong := rloop_congr (stop := fun s : Int => s) (body := fun i138 s137 =>
        (((ix b i138).bind fun x153 =>
        (F_spec_wTimes a x153.View).bind fun z160 =>
        if (z160 == 0) = true then (
        some (IntKind.i64.wrap (s137 + (IntKind.i64.wrap (x153.Times * sumT a))))) else (
        some s137) : Option (Int)).bind fun (x151 : Int) =>
        some (.go x151))) (body' := fun i132 s131 =>
        (((ix b i132).bind fun x147 =>
        (F_impl_timesOf a x147.View).bind fun z154 =>
        if (z154 == 0) = true then (
        some (IntKind.i64.wrap (s131 + (IntKind.i64.wrap (x147.Times * sumT a))))) else (
        some s131) : Option (Int)).bind fun (x145 : Int) =>
        some (.go x145))) b.length 0 x (fun k s hk => by
          obtain ⟨t, t1, t2⟩ := times_eq a b[k].View Ga ha hva (hvb _ (List.getElem_mem hk))
          rw [Int.zero_add]
          simp only [ix_at hk, Option.bind_some, t1, t2])
      rw [hcong]
      obtain ⟨y, hy⟩ := rloop_go (stop := fun s : Int => s) (body := fun i132 s131 =>
        (((ix b i132).bind fun x147 =>
        (F_impl_timesOf a x147.View).bind fun z154 =>
        if (z154 == 0) = true then (
        some (IntKind.i64.wrap (s131 + (IntKind.i64.wrap (x147.Times * sumT a))))) else (
        some s131) : Option (Int)).bind fun (x145 : Int) =>
        some (.go x145))) b.length 0 x (fun k s hk => by
          obtain ⟨t, t1, t2⟩ := times_eq a b[k].View Ga ha hva (hvb _ (List.getElem_mem hk))
          rw [Int.zero_add]
          simp only [ix_at hk, Option.bind_some, t1]
          by_cases hz : (t == 0) = true
          · exact ⟨_, by rw [if_pos hz]; rfl⟩
          · exact ⟨_, by rw [if_neg hz]; rfl⟩)
      exact ⟨y, hy, hy⟩
    obtain ⟨y, y1, y2⟩ := L2
    rw [y1, y2]
    simp only [Option.bind_some]
    have hden : IntKind.i64.wrap (IntKind.i64.wrap (2 * sumT a) * sumT b) = 2 * sumT a * sumT b := by
      rw [wr64 (n := 2 * sumT a) (by omega) (by omega)]
      have h5 : 0 ≤ 2 * sumT a * sumT b := Int.mul_nonneg (by omega) (by omega)
      have h6 : 2 * sumT a * sumT b ≤ 2000000 * 1000000 := Int.mul_le_mul (by omega) (by omega) (by omega) (by omega)
      rw [wr64 (by omega) (by omega)]
    have hne : 2 * sumT a * sumT b ≠ 0 := by
      have : 0 < 2 * sumT a * sumT b := Int.mul_pos (by omega) (by omega)
      omega
    rw [hden]
    unfold F_spec_nGcd F_impl_reduced
    obtain ⟨g, g1, g2⟩ := p_gcd0 y (2 * sumT a * sumT b) hne
    rw [g1]
    simp only [Option.bind_some, gd_t g2]
    exact ⟨_, rfl, rfl⟩
  · have hx : ∀ (sa sb : Bool), (if (!ga') = true then some true else if (!gb') = true then some true else if ((a.length : Int) == 0) = true then some true else some ((b.length : Int) == 0)) = some true := by
      intro _ _
      by_cases h1 : ga' = true
      · by_cases h2 : gb' = true
        · by_cases h3 : a = []
          · simp [h1, h2, h3]
          · have h4 : b = [] := by
              cases b with
              | nil => rfl
              | cons x l => exact absurd ⟨h1, h2, h3, by simp⟩ hg
            simp [h1, h2, h4]
        · simp [h1, h2]
      · simp [h1]
    rw [hx true true]
    exact ⟨_, rfl, rfl⟩

theorem law2 (a b : List ViewCount) (ha : a.length ≤ 1048576) (hb : b.length ≤ 1048576) (hva : ∀ x ∈ a, x.View.length ≤ 1048576) (hvb : ∀ x ∈ b, x.View.length ≤ 1048576) : F_laws_FnExactDistanceOf a b = some true := by
  unfold F_laws_FnExactDistanceOf
  obtain ⟨z1, h1, h2⟩ := p_szViewCountS (l := a) (n := 1048576) (by omega) (by omega) ha hva
  rw [h1, Option.bind_some]
  by_cases c1 : z1 < 0
  · simp [c1]
  · simp only [c1, decide_false, Bool.false_eq_true, if_false]
    obtain ⟨z2, h3, h4⟩ := p_szViewCountS (l := b) (n := z1) (by omega) (by omega) hb hvb
    rw [h3, Option.bind_some]
    by_cases c2 : z2 < 0
    · simp [c2]
    · simp only [c2, decide_false, Bool.false_eq_true, if_false, p_toViewCountS ha hva, p_toViewCountS hb hvb, Option.bind_some]
      obtain ⟨r, r1, r2⟩ := p_Distance a b ha hb hva hvb
      rw [r1, r2]
      simp [p_eqViewCountS ha hva, p_eqViewCountS hb hvb]
end Go.Pm
