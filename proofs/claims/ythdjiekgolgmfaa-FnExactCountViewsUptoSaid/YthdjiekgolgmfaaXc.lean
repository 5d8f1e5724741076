/-
  FnExactCountViews: counts, gathered lists, marks.
  No condition.
-/
import Derived.Test.YthdjiekgolgmfaaXb
namespace Go.Pm
open Go.Am
set_option linter.unusedVariables false
set_option linter.unusedSimpArgs false

theorem sum_pos {l : List ViewCount} (h : ∀ x ∈ l, 1 ≤ x.Times) (h0 : l ≠ []) : 1 ≤ sumT l := by
  cases l with
  | nil => exact absurd rfl h0
  | cons a l =>
    have h1 := h a (List.mem_cons_self ..)
    have h2 := sumT_nonneg (l := l) fun x hx => by have := h x (List.mem_cons_of_mem _ hx); omega
    simp only [sumT, List.map_cons, List.sum_cons] at h2 ⊢
    omega
theorem good_times {l : List ViewCount} (h : GoodC l) : ∀ x ∈ l, 1 ≤ x.Times ∧ x.Times ≤ 1000000 := by
  intro x hx
  obtain ⟨k, hk⟩ := List.getElem?_of_mem hx
  exact ⟨(h.2.1 k x hk).1, (h.2.1 k x hk).2.1⟩
/-- Two loops over a list that do the same at each element. -/
theorem rloop_congr {σ β : Type} {body body' : Int → σ → Option (Stp σ β)} {stop : σ → β} : ∀ (m : Nat) (i : Int) (s : σ), (∀ (k : Nat) (s : σ), k < m → body (i + (k : Int)) s = body' (i + (k : Int)) s) → rloop body stop m i s = rloop body' stop m i s := by
  intro m
  induction m with
  | zero => intro i s _; rfl
  | succ m ih =>
    intro i s h
    have h0 := h 0 s (by omega)
    simp at h0
    simp only [rloop, h0]
    congr 1
    funext x
    cases x with
    | go s' =>
      refine ih (i + 1) s' fun k s hk => ?_
      have := h (k + 1) s (by omega)
      have e : i + ((k + 1 : Nat) : Int) = i + 1 + (k : Int) := by push_cast; omega
      rwa [e] at this
    | out b => rfl
/-- A loop that always goes on ends. -/
theorem rloop_go {σ β : Type} {body : Int → σ → Option (Stp σ β)} {stop : σ → β} (m : Nat) (i : Int) (s : σ) (h : ∀ (k : Nat) (s : σ), k < m → ∃ s', body (i + (k : Int)) s = some (.go s')) : ∃ s', rloop body stop m i s = some (stop s') := by
  obtain ⟨b, h1, s', h2⟩ := rloop_post (body := body) (stop := stop) (m := m) (i0 := i) (s0 := s) (fun _ _ => True) (fun b => ∃ s', b = stop s') True.intro (fun k s hk _ => by
    obtain ⟨s', h⟩ := h k s hk
    exact .inl ⟨s', h, True.intro⟩) (fun s _ => ⟨s, rfl⟩)
  exact ⟨s', by rw [h1, h2]⟩
/-- How often a view is in a list, all its elements added up. -/
def cnt : List ViewCount → List Int → Int
  | [], _ => 0
  | x :: l, v => (if x.View = v then x.Times else 0) + cnt l v
theorem cnt_append (l r : List ViewCount) (v : List Int) : cnt (l ++ r) v = cnt l v + cnt r v := by
  induction l with
  | nil => simp [cnt]
  | cons x l ih => simp only [List.cons_append, cnt, ih]; omega
theorem cnt_perm {l r : List ViewCount} (h : l.Perm r) (v : List Int) : cnt l v = cnt r v := by
  induction h with
  | nil => rfl
  | cons x _ ih => simp only [cnt, ih]
  | swap x y l => simp only [cnt]; omega
  | trans _ _ h1 h2 => rw [h1, h2]
theorem cnt_nonneg {l : List ViewCount} (h : ∀ x ∈ l, 1 ≤ x.Times) (v : List Int) : 0 ≤ cnt l v := by
  induction l with
  | nil => exact Int.le_refl _
  | cons x l ih =>
    have h1 := h x (List.mem_cons_self ..)
    have h2 := ih fun y hy => h y (List.mem_cons_of_mem _ hy)
    simp only [cnt]
    split <;> omega
theorem cnt_pos {l : List ViewCount} (h : ∀ x ∈ l, 1 ≤ x.Times) {x : ViewCount} (hx : x ∈ l) : 1 ≤ cnt l x.View := by
  induction l with
  | nil => cases hx
  | cons y l ih =>
    have h1 := h y (List.mem_cons_self ..)
    have h2 := cnt_nonneg (l := l) (fun y hy => h y (List.mem_cons_of_mem _ hy)) x.View
    simp only [cnt]
    cases List.mem_cons.1 hx with
    | inl e => subst e; rw [if_pos rfl]; omega
    | inr e =>
      have := ih (fun y hy => h y (List.mem_cons_of_mem _ hy)) e
      split <;> omega
theorem cnt_none {l : List ViewCount} {v : List Int} (h : ∀ x ∈ l, x.View ≠ v) : cnt l v = 0 := by
  induction l with
  | nil => rfl
  | cons x l ih =>
    simp only [cnt]
    rw [if_neg (h x (List.mem_cons_self ..)), ih fun y hy => h y (List.mem_cons_of_mem _ hy)]; rfl
theorem cnt_le {l : List ViewCount} (h : ∀ x ∈ l, 1 ≤ x.Times) (v : List Int) : cnt l v ≤ sumT l := by
  induction l with
  | nil => exact Int.le_refl _
  | cons x l ih =>
    have h1 := h x (List.mem_cons_self ..)
    have h2 := ih fun y hy => h y (List.mem_cons_of_mem _ hy)
    simp only [cnt, sumT, List.map_cons, List.sum_cons] at h2 ⊢
    split <;> omega
theorem gv_mem {l : List ViewCount} {i : Nat} (h : i < l.length) : gv l i ∈ l := by rw [gv_at h]; exact List.getElem_mem h
theorem mem_gv {l : List ViewCount} {x : ViewCount} (h : x ∈ l) : ∃ i, i < l.length ∧ gv l i = x := by
  obtain ⟨i, hi, e⟩ := List.getElem_of_mem h
  exact ⟨i, hi, by rw [gv_at hi, e]⟩
/-- Strictly in order. -/
def StrS (l : List ViewCount) : Prop := ∀ i j, i < j → j < l.length → ltV (gv l i) (gv l j)
theorem StrS.cons {x : ViewCount} {l : List ViewCount} (h : StrS (x :: l)) : (∀ y ∈ l, ltV x y) ∧ StrS l := by
  refine ⟨fun y hy => ?_, fun i j h1 h2 => ?_⟩
  · obtain ⟨i, hi, rfl⟩ := mem_gv hy
    exact h 0 (i + 1) (by omega) (by simpa using hi)
  · exact h (i + 1) (j + 1) (by omega) (by simpa using h2)
theorem ltV_ne {x y : ViewCount} (h : ltV x y) : x.View ≠ y.View := fun e => by
  unfold ltV at h
  rw [e, lexC_self] at h; omega
theorem ltV_tri (x y : ViewCount) : ltV x y ∨ x.View = y.View ∨ ltV y x := by
  unfold ltV
  have h1 := lexC_rng x.View y.View
  have h2 := lexC_swap x.View y.View
  rcases h1 with h1 | h1 | h1
  · exact .inl h1
  · exact .inr (.inl (lexC_eq h1))
  · exact .inr (.inr (by omega))
theorem ltV_trans {x y z : ViewCount} (h1 : ltV x y) (h2 : ltV y z) : ltV x z := lexC_trans h1 h2
theorem ltV_view {x y z : ViewCount} (h : ltV x y) (e : y.View = z.View) : ltV x z := by unfold ltV at *; rwa [← e]
theorem ltV_view' {x y z : ViewCount} (h : ltV y x) (e : y.View = z.View) : ltV z x := by unfold ltV at *; rwa [← e]
/-- A count of views. -/
structure Canon (l : List ViewCount) (f : List Int → Int) : Prop where
  s : StrS l
  p : ∀ x ∈ l, 1 ≤ x.Times
  c : ∀ v, cnt l v = f v
theorem canon_uniq : ∀ {l r : List ViewCount} {f : List Int → Int}, Canon l f → Canon r f → l = r := by
  intro l
  induction l with
  | nil =>
    intro r f h1 h2
    cases r with
    | nil => rfl
    | cons y r =>
      have a := cnt_pos h2.p (List.mem_cons_self (a := y))
      rw [h2.c, ← h1.c] at a
      simp [cnt] at a
  | cons x l ih =>
    intro r f h1 h2
    cases r with
    | nil =>
      have a := cnt_pos h1.p (List.mem_cons_self (a := x))
      rw [h1.c, ← h2.c] at a
      simp [cnt] at a
    | cons y r =>
      obtain ⟨sx, sl⟩ := h1.s.cons
      obtain ⟨sy, sr⟩ := h2.s.cons
      have px := h1.p x (List.mem_cons_self ..)
      have py := h2.p y (List.mem_cons_self ..)
      have hv : x.View = y.View := by
        rcases ltV_tri x y with h | h | h
        · exfalso
          have a := cnt_pos h1.p (List.mem_cons_self (a := x))
          rw [h1.c, ← h2.c] at a
          have : cnt (y :: r) x.View = 0 := cnt_none fun z hz => by
            cases List.mem_cons.1 hz with
            | inl e => subst e; exact (ltV_ne h).symm
            | inr e => exact (ltV_ne (ltV_trans h (sy z e))).symm
          omega
        · exact h
        · exfalso
          have a := cnt_pos h2.p (List.mem_cons_self (a := y))
          rw [h2.c, ← h1.c] at a
          have : cnt (x :: l) y.View = 0 := cnt_none fun z hz => by
            cases List.mem_cons.1 hz with
            | inl e => subst e; exact (ltV_ne h).symm
            | inr e => exact (ltV_ne (ltV_trans h (sx z e))).symm
          omega
      have e1 : cnt l x.View = 0 := cnt_none fun z hz => (ltV_ne (sx z hz)).symm
      have e2 : cnt r x.View = 0 := cnt_none fun z hz => by rw [hv]; exact (ltV_ne (sy z hz)).symm
      have c1 := h1.c x.View
      have c2 := h2.c x.View
      simp only [cnt, if_true, e1, e2] at c1 c2
      rw [if_pos hv.symm] at c2
      have ht : x.Times = y.Times := by omega
      have hxy : x = y := by
        cases x; cases y; simp only at hv ht; rw [hv, ht]
      subst hxy
      rw [ih (f := fun v => cnt l v) ⟨sl, fun z hz => h1.p z (List.mem_cons_of_mem _ hz), fun v => rfl⟩ ⟨sr, fun z hz => h2.p z (List.mem_cons_of_mem _ hz), fun v => by
        have a := h1.c v
        have b := h2.c v
        simp only [cnt] at a b
        omega⟩]
theorem Canon.congr {l : List ViewCount} {f g : List Int → Int} (h : Canon l f) (e : ∀ v, f v = g v) : Canon l g := ⟨h.s, h.p, fun v => (h.c v).trans (e v)⟩
theorem canon_nil : Canon [] (fun _ => 0) := ⟨fun i j h1 h2 => by simp at h2, fun x hx => by simp at hx, fun v => rfl⟩
/-- A list that is strictly in order is a good count, if it is small. -/
theorem good_of_canon {l : List ViewCount} {f : List Int → Int} (h : Canon l f) (h1 : l.length ≤ 3000) (h2 : ∀ x ∈ l, x.View.length ≤ 24) (h3 : sumT l ≤ 1000000) : GoodC l := by
  have tle : ∀ x ∈ l, x.Times ≤ sumT l := by
    intro x hx
    clear h1 h2 h3
    have hp := h.p
    clear h
    induction l with
    | nil => cases hx
    | cons y l ih =>
      have h0 := sumT_nonneg (l := l) fun z hz => by have := hp z (List.mem_cons_of_mem _ hz); omega
      have h1 := hp y (List.mem_cons_self ..)
      have e : sumT (y :: l) = y.Times + sumT l := by simp [sumT]
      cases List.mem_cons.1 hx with
      | inl e' => subst e'; omega
      | inr e' => have := ih e' fun z hz => hp z (List.mem_cons_of_mem _ hz); omega
  refine ⟨h1, fun k x hx => ?_, h3⟩
  have hk := (List.getElem?_eq_some_iff.1 hx).1
  have hm := List.mem_of_getElem? hx
  refine ⟨h.p x hm, by have := tle x hm; omega, h2 x hm, fun y h0 hy => ?_⟩
  have hs := h.s (k - 1) k (by omega) hk
  rw [gv_get hk] at hx
  rw [gv_get (by omega)] at hy
  cases hx; cases hy
  exact hs
theorem canon_of_good {l : List ViewCount} (h : GoodC l) : Canon l (cnt l) := by
  refine ⟨fun i j h1 h2 => ?_, fun x hx => (good_times h x hx).1, fun v => rfl⟩
  exact good_sorted h j i _ _ h1 (gv_get (by omega)) (gv_get h2)
theorem p_Equal (a b : List Int) : F_slices_Equal_int_int a b = some (decide (a = b)) := by
  unfold F_slices_Equal_int_int
  by_cases hl : a.length = b.length
  · have e : ((a.length : Int) != (b.length : Int)) = false := by simp [hl]
    simp only [e, Bool.false_eq_true, if_false]
    obtain ⟨r, hb, hp⟩ := rloop_post (σ := Unit) (β := Unit ⊕ Bool) (body := fun i16 s15 =>
      (ix a i16).bind fun x25 =>
      (ix b i16).bind fun x32 =>
      if (x25 != x32) = true then (
      some (.out (.inr false))) else (
      some (.go ()))) (stop := fun s15 => .inl ()) (m := a.length) (i0 := 0) (s0 := ()) (fun k _ => a.take k = b.take k)
      (fun r => Sum.elim (fun _ => a = b) (fun r => r = false ∧ a ≠ b) r) (by simp)
      (by
        rintro k s hk hI
        have hk2 : k < b.length := by omega
        rw [Int.zero_add]
        simp only [ix_at hk, ix_at hk2, Option.bind_some]
        by_cases he : a[k] = b[k]
        · exact .inl ⟨(), by simp [he], take_step hk hk2 hI he⟩
        · exact .inr ⟨.inr false, by simp [he], rfl, fun h => by subst h; exact he rfl⟩)
      (by
        rintro s hI
        rw [List.take_length, hl, List.take_length] at hI
        exact hI)
    rw [hb, Option.bind_some]
    cases r with
    | inl u => have hp : a = b := hp; simp [hp]
    | inr r =>
      obtain ⟨h1, h2⟩ : r = false ∧ a ≠ b := hp
      simp [h1, h2]
  · have e : ((a.length : Int) != (b.length : Int)) = true := by simp; omega
    have : a ≠ b := fun h => hl (by rw [h])
    simp [e, this]
theorem p_cloneI {a : List Int} (h : a.length ≤ 1048576) : F_slices_Clone_int_int a = some a := by unfold F_slices_Clone_int_int; rw [gd_t (by omega)]
theorem p_cloneV {a : List ViewCount} (h : a.length ≤ 1048576) : F_slices_Clone_impl_ViewCount_impl_ViewCount a = some a := by unfold F_slices_Clone_impl_ViewCount_impl_ViewCount; rw [gd_t (by omega)]
theorem sumT_perm {l r : List ViewCount} (h : l.Perm r) : sumT l = sumT r := by
  induction h with
  | nil => rfl
  | cons x _ ih => simp only [sumT, List.map_cons, List.sum_cons] at ih ⊢; omega
  | swap x y l => simp only [sumT, List.map_cons, List.sum_cons]; omega
  | trans _ _ h1 h2 => rw [h1, h2]
theorem sumT_append (l r : List ViewCount) : sumT (l ++ r) = sumT l + sumT r := by simp [sumT]
theorem cnt_take {l : List ViewCount} {k : Nat} (h : k < l.length) (v : List Int) : cnt (l.take (k + 1)) v = cnt (l.take k) v + if l[k].View = v then l[k].Times else 0 := by
  rw [List.take_succ_eq_append_getElem h, cnt_append]
  simp [cnt]
theorem gv_append_l {l r : List ViewCount} {i : Nat} (h : i < l.length) : gv (l ++ r) i = gv l i := by
  unfold gv; simp [List.getD_eq_getElem?_getD, List.getElem?_append_left h]
theorem gv_append_r {l : List ViewCount} {x : ViewCount} : gv (l ++ [x]) l.length = x := by
  unfold gv; simp [List.getD_eq_getElem?_getD]
/-- One more at the end of a count. -/
theorem canon_snoc {l : List ViewCount} {f : List Int → Int} {x : ViewCount} (h : Canon l f) (hx : ∀ y ∈ l, ltV y x) (hp : 1 ≤ x.Times) : Canon (l ++ [x]) (fun v => f v + if x.View = v then x.Times else 0) := by
  refine ⟨fun i j h1 h2 => ?_, fun y hy => ?_, fun v => ?_⟩
  · simp at h2
    by_cases hj : j < l.length
    · rw [gv_append_l hj, gv_append_l (by omega)]; exact h.s i j h1 hj
    · have : j = l.length := by omega
      subst this
      rw [gv_append_r, gv_append_l h1]
      exact hx _ (gv_mem h1)
  · rcases List.mem_append.1 hy with hy | hy
    · exact h.p y hy
    · rw [List.mem_singleton.1 hy]; exact hp
  · rw [cnt_append, h.c]; simp [cnt]
theorem cnt_set {l : List ViewCount} {k : Nat} {t : Int} (hk : k < l.length) (v : List Int) : cnt (l.set k ⟨(gv l k).View, (gv l k).Times + t⟩) v = cnt l v + if (gv l k).View = v then t else 0 := by
  induction l generalizing k with
  | nil => simp at hk
  | cons x l ih =>
    cases k with
    | zero =>
      have e : gv (x :: l) 0 = x := rfl
      simp only [e, List.set_cons_zero, cnt]
      split <;> omega
    | succ k =>
      have e : gv (x :: l) (k + 1) = gv l k := rfl
      simp only [e, List.set_cons_succ, cnt, ih (by simpa using hk)]
      omega
/-- One element of a count becomes more. -/
theorem canon_more {l : List ViewCount} {f : List Int → Int} {k : Nat} {t : Int} (h : Canon l f) (hk : k < l.length) (ht : 0 ≤ t) : Canon (l.set k ⟨(gv l k).View, (gv l k).Times + t⟩) (fun v => f v + if (gv l k).View = v then t else 0) := by
  have vw : ∀ i, (gv (l.set k ⟨(gv l k).View, (gv l k).Times + t⟩) i).View = (gv l i).View := by
    intro i
    rw [gv_set hk]
    split
    · rename_i e; rw [e]
    · rfl
  refine ⟨fun i j h1 h2 => ?_, fun y hy => ?_, fun v => by rw [cnt_set hk, h.c]⟩
  · have := h.s i j h1 (by simpa using h2)
    unfold ltV at this ⊢
    rw [vw, vw]; exact this
  · obtain ⟨i, hi, rfl⟩ := mem_gv hy
    rw [gv_set hk]
    split
    · have := h.p _ (gv_mem hk); simp only; omega
    · exact h.p _ (gv_mem (by simpa using hi))
theorem times_le_sum {l : List ViewCount} (hp : ∀ x ∈ l, 1 ≤ x.Times) {x : ViewCount} (hx : x ∈ l) : x.Times ≤ sumT l := by
  induction l with
  | nil => cases hx
  | cons y l ih =>
    have h0 := sumT_nonneg (l := l) fun z hz => by have := hp z (List.mem_cons_of_mem _ hz); omega
    have h1 := hp y (List.mem_cons_self ..)
    have e : sumT (y :: l) = y.Times + sumT l := by simp [sumT]
    cases List.mem_cons.1 hx with
    | inl e' => subst e'; omega
    | inr e' => have := ih (fun z hz => hp z (List.mem_cons_of_mem _ hz)) e'; omega
theorem sumT_set {l : List ViewCount} {k : Nat} {t : Int} (hk : k < l.length) : sumT (l.set k ⟨(gv l k).View, (gv l k).Times + t⟩) = sumT l + t := by
  induction l generalizing k with
  | nil => simp at hk
  | cons x l ih =>
    cases k with
    | zero => simp [sumT, gv]; omega
    | succ k =>
      have e : gv (x :: l) (k + 1) = gv l k := rfl
      have := ih (k := k) (by simpa using hk)
      simp only [sumT, List.map_cons, List.sum_cons, e, List.set_cons_succ] at this ⊢
      omega
theorem p_gathered (l : List ViewCount) (hl : l.length ≤ 1048576) (hv : ∀ x ∈ l, x.View.length ≤ 1048576) (hp : ∀ x ∈ l, 1 ≤ x.Times) (hs : sumT l ≤ 1152921504606846976) :
    ∃ out, Canon out (cnt l) ∧ sumT out = sumT l ∧ out.length ≤ l.length ∧ (∀ x ∈ out, ∃ y ∈ l, x.View = y.View) ∧ ((GoodC out ∧ F_impl_gathered l = some (out, true)) ∨ (¬ GoodC out ∧ F_impl_gathered l = some ([], false))) := by
  unfold F_impl_gathered
  rw [p_cloneV hl, Option.bind_some]
  obtain ⟨z, z1, z2, z3⟩ := p_sort l hl
  rw [z1, Option.bind_some]
  have zl : z.length = l.length := z2.length_eq
  have zm : ∀ x, x ∈ z ↔ x ∈ l := fun x => z2.mem_iff
  have zs : sumT z = sumT l := sumT_perm z2
  obtain ⟨out, o1, o2, o3, o4, o5⟩ := rloop_post (σ := (List ViewCount)) (β := (List ViewCount)) (body := fun i74 s73 =>
    (((ix z i74).bind fun x89 =>
    ((if decide (0 ≤ (IntKind.i64.wrap ((s73.length : Int) - 1))) = true then (
    (ix s73 (IntKind.i64.wrap ((s73.length : Int) - 1))).bind fun x105 =>
    (F_slices_Equal_int_int x105.View x89.View).bind fun z112 =>
    some z112) else (
    some false) : Option (Bool)).bind fun (x101 : Bool) =>
    if x101 = true then (
    (ix s73 (IntKind.i64.wrap ((s73.length : Int) - 1))).bind fun x120 =>
    some (s73.set ((IntKind.i64.wrap ((s73.length : Int) - 1)).toNat) (ViewCount.mk x120.View (IntKind.i64.wrap (x120.Times + x89.Times))))) else (
    (F_slices_Clone_int_int x89.View).bind fun z129 =>
    gd ((s73.length + 1) * 32 ≤ 140737488355328 ∧ s73.length + 1 ≤ 4611686018427387904) <|
    some (s73 ++ [(ViewCount.mk z129 x89.Times)]))) : Option ((List ViewCount))).bind fun (x87 : (List ViewCount)) =>
    some (.go x87))) (stop := fun s73 => s73) (m := z.length) (i0 := 0) (s0 := [])
    (fun k s => Canon s (cnt (z.take k)) ∧ sumT s = sumT (z.take k) ∧ s.length ≤ k ∧ (∀ x ∈ s, ∃ y ∈ l, x.View = y.View) ∧ ∀ x ∈ s, ∀ j, k ≤ j → j < z.length → leV x (gv z j))
    (fun s => Canon s (cnt l) ∧ sumT s = sumT l ∧ s.length ≤ l.length ∧ ∀ x ∈ s, ∃ y ∈ l, x.View = y.View)
    ⟨by rw [List.take_zero]; exact canon_nil, by simp [sumT], Nat.le_refl _, fun x hx => by simp at hx, fun x hx => by simp at hx⟩
    (by
      rintro k s hk ⟨h1, h2, h3, h4, h5⟩
      rw [Int.zero_add]
      have hz : z[k] ∈ l := (zm _).1 (List.getElem_mem hk)
      have hzp := hp _ hz
      have hzv := hv _ hz
      have hzk : gv z k = z[k] := gv_at hk
      have st : sumT (z.take (k + 1)) ≤ sumT l := by
        have e : sumT z = sumT (z.take (k + 1)) + sumT (z.drop (k + 1)) := by rw [← sumT_append, List.take_append_drop]
        have := sumT_nonneg (l := z.drop (k + 1)) fun x hx => by have := hp x ((zm _).1 (List.mem_of_mem_drop hx)); omega
        omega
      have st2 := sumT_take hk
      rw [← h2] at st2
      simp only [ix_at hk, Option.bind_some]
      by_cases h0 : s.length = 0
      · -- the first
        have : s = [] := List.eq_nil_of_length_eq_zero h0
        subst this
        have hw : IntKind.i64.wrap ((([] : List ViewCount).length : Int) - 1) = -1 := wr64 (by simp) (by simp)
        refine .inl ⟨[⟨z[k].View, z[k].Times⟩], ?_, ?_, ?_, by simp, fun x hx => ?_, fun x hx j hj1 hj2 => ?_⟩
        · rw [hw]
          simp [p_cloneI hzv, gd]
        · have := canon_snoc h1 (x := z[k]) (fun y hy => by simp at hy) hzp
          refine (show Canon [z[k]] _ from this).congr fun v => by rw [cnt_take hk]
        · rw [sumT_take hk, ← h2]; simp [sumT]
        · simp at hx; subst hx; exact ⟨z[k], hz, rfl⟩
        · simp at hx; subst hx
          have := z3.le (i := k) (j := j) (by omega) (by omega) (by omega)
          rwa [hzk] at this
      · have hw : IntKind.i64.wrap ((s.length : Int) - 1) = ((s.length - 1 : Nat) : Int) := nat_wrap (by omega) (by omega)
        have hlast : s.length - 1 < s.length := by omega
        have hd : decide (0 ≤ ((s.length - 1 : Nat) : Int)) = true := by simp
        simp only [hw, hd, if_true, gv_ix hlast, Option.bind_some, p_Equal]
        have hle := h5 _ (gv_mem hlast) k (Nat.le_refl _) hk
        rw [hzk] at hle
        by_cases he : (gv s (s.length - 1)).View = z[k].View
        · -- as the last
          have hb : (gv s (s.length - 1)).Times + z[k].Times ≤ sumT l := by
            have := times_le_sum h1.p (gv_mem hlast)
            omega
          have hpos := h1.p _ (gv_mem hlast)
          refine .inl ⟨s.set (s.length - 1) ⟨(gv s (s.length - 1)).View, (gv s (s.length - 1)).Times + z[k].Times⟩, ?_, (canon_more h1 hlast (by omega)).congr fun v => by rw [cnt_take hk, he], by rw [sumT_set hlast, st2], by simp; omega, fun x hx => ?_, fun x hx j hj1 hj2 => ?_⟩
          · rw [if_pos (by simpa using he), Option.bind_some, Int.toNat_natCast, wr64 (by omega) (by omega)]
          · obtain ⟨i, hi, rfl⟩ := mem_gv hx
            have hi : i < s.length := by simpa using hi
            rw [gv_set hlast]
            split
            · exact h4 (gv s (s.length - 1)) (gv_mem hlast)
            · exact h4 _ (gv_mem hi)
          · obtain ⟨i, hi, rfl⟩ := mem_gv hx
            have hi : i < s.length := by simpa using hi
            rw [gv_set hlast]
            split
            · exact h5 (gv s (s.length - 1)) (gv_mem hlast) j (by omega) hj2
            · exact h5 _ (gv_mem hi) j (by omega) hj2
        · -- a new one
          have hlt : ltV (gv s (s.length - 1)) z[k] := by
            unfold leV at hle; unfold ltV
            have hr := lexC_rng (gv s (s.length - 1)).View z[k].View
            rcases hr with hr | hr | hr
            · exact hr
            · exact absurd (lexC_eq hr) he
            · exact absurd hr hle
          have hall : ∀ y ∈ s, ltV y z[k] := by
            intro y hy
            obtain ⟨i, hi, rfl⟩ := mem_gv hy
            by_cases hi2 : i = s.length - 1
            · subst hi2; exact hlt
            · exact ltV_trans (h1.s i (s.length - 1) (by omega) hlast) hlt
          refine .inl ⟨s ++ [z[k]], ?_, (canon_snoc h1 hall hzp).congr fun v => by rw [cnt_take hk], by rw [sumT_append, st2]; simp [sumT], by simp; omega, fun x hx => ?_, fun x hx j hj1 hj2 => ?_⟩
          · rw [if_neg (by simpa using he), p_cloneI hzv, Option.bind_some, gd_t (by omega), Option.bind_some]
          · rcases List.mem_append.1 hx with hx | hx
            · exact h4 x hx
            · rw [List.mem_singleton.1 hx]; exact ⟨z[k], hz, rfl⟩
          · rcases List.mem_append.1 hx with hx | hx
            · exact h5 x hx j (by omega) hj2
            · rw [List.mem_singleton.1 hx]
              have := z3.le (i := k) (j := j) (by omega) (by omega) (by omega)
              rwa [hzk] at this)
    (by
      rintro s ⟨h1, h2, h3, h4, h5⟩
      rw [List.take_length] at h1 h2
      exact ⟨h1.congr (cnt_perm z2), by omega, by omega, h4⟩)
  rw [o1, Option.bind_some]
  have ov : ∀ x ∈ out, x.View.length ≤ 1048576 := fun x hx => by
    obtain ⟨y, hy, e⟩ := o5 x hx
    rw [e]; exact hv y hy
  obtain ⟨g, g1, g2⟩ := p_isCount out (by omega) ov
  refine ⟨out, o2, o3, o4, o5, ?_⟩
  rw [g1, Option.bind_some]
  by_cases hg : g = true
  · exact .inl ⟨g2.1 hg, by simp [hg]⟩
  · exact .inr ⟨fun h => hg (g2.2 h), by simp [hg]⟩
theorem gv_ins {l : List ViewCount} {x : ViewCount} {k i : Nat} (hk : k ≤ l.length) : gv (l.take k ++ x :: l.drop k) i = if i < k then gv l i else if i = k then x else gv l (i - 1) := by
  unfold gv
  simp only [List.getD_eq_getElem?_getD]
  by_cases h1 : i < k
  · rw [if_pos h1, List.getElem?_append_left (by simp; omega), List.getElem?_take_of_lt h1]
  · rw [if_neg h1, List.getElem?_append_right (by simp; omega)]
    have e : (l.take k).length = k := by simp; omega
    rw [e]
    by_cases h2 : i = k
    · subst h2; simp
    · rw [if_neg h2]
      have : i - k = (i - 1 - k) + 1 := by omega
      rw [this, List.getElem?_cons_succ, List.getElem?_drop]
      have : k + (i - 1 - k) = i - 1 := by omega
      rw [this]
theorem canon_ins {l : List ViewCount} {f : List Int → Int} {x : ViewCount} {k : Nat} (h : Canon l f) (hk : k ≤ l.length) (h1 : ∀ i, i < k → ltV (gv l i) x) (h2 : ∀ i, k ≤ i → i < l.length → ltV x (gv l i)) (hp : 1 ≤ x.Times) :
    Canon (l.take k ++ x :: l.drop k) (fun v => f v + if x.View = v then x.Times else 0) := by
  refine ⟨fun i j hij hj => ?_, fun y hy => ?_, fun v => ?_⟩
  · have hj : j < l.length + 1 := by simp at hj; omega
    rw [gv_ins hk, gv_ins hk]
    by_cases c1 : j < k
    · rw [if_pos c1, if_pos (by omega)]; exact h.s i j hij (by omega)
    · rw [if_neg c1]
      by_cases c2 : j = k
      · rw [if_pos c2, if_pos (by omega)]; exact h1 i (by omega)
      · rw [if_neg c2]
        by_cases c3 : i < k
        · rw [if_pos c3]; exact h.s i (j - 1) (by omega) (by omega)
        · rw [if_neg c3]
          by_cases c4 : i = k
          · rw [if_pos c4]; exact h2 (j - 1) (by omega) (by omega)
          · rw [if_neg c4]; exact h.s (i - 1) (j - 1) (by omega) (by omega)
  · rcases List.mem_append.1 hy with hy | hy
    · exact h.p y (List.mem_of_mem_take hy)
    · cases List.mem_cons.1 hy with
      | inl e => rw [e]; exact hp
      | inr e => exact h.p y (List.mem_of_mem_drop e)
  · rw [cnt_append]
    simp only [cnt]
    have e : cnt l v = cnt (l.take k) v + cnt (l.drop k) v := by rw [← cnt_append, List.take_append_drop]
    rw [h.c] at e
    omega
theorem mid_t {lo hi n : Nat} (h : lo ≤ hi) (hn : hi ≤ n) (hs : n ≤ 1048576) : IntKind.i64.wrap ((IntKind.i64.wrap ((lo : Int) + (hi : Int))).tdiv 2) = (((lo + hi) / 2 : Nat) : Int) := by
  rw [wr64 (n := (lo : Int) + hi) (by omega) (by omega)]
  have : ((lo : Int) + (hi : Int)).tdiv 2 = (((lo + hi) / 2 : Nat) : Int) := by
    rw [Int.tdiv_eq_ediv_of_nonneg (by omega)]; omega
  rw [this, wr64 (by omega) (by omega)]
theorem p_wAdd (l : List ViewCount) (v : List Int) (t : Int) {f : List Int → Int} (h : Canon l f) (hl : l.length ≤ 1048575) (hlv : ∀ x ∈ l, x.View.length ≤ 1048576) (hv : v.length ≤ 1048576) (ht : 1 ≤ t) (hs : sumT l + t ≤ 1152921504606846976) :
    ∃ out, F_spec_wAdd__mv0 l v t = some out ∧ Canon out (fun w => f w + if v = w then t else 0) ∧ sumT out = sumT l + t ∧ out.length ≤ l.length + 1 ∧ ∀ x ∈ out, x.View = v ∨ ∃ y ∈ l, x.View = y.View := by
  unfold F_spec_wAdd__mv0
  obtain ⟨k, k1, _, k3, k4, k5⟩ := bsearch_post (step := fun s8 =>
    if decide (s8.1 < s8.2) = true then (
    (ix l (IntKind.i64.wrap ((IntKind.i64.wrap (s8.1 + s8.2)).tdiv 2))).bind fun x19 =>
    (F_spec_wLess x19.View v).bind fun z26 =>
    if z26 = true then (
    some (.go (IntKind.i64.wrap ((IntKind.i64.wrap ((IntKind.i64.wrap (s8.1 + s8.2)).tdiv 2)) + 1), s8.2))) else (
    some (.go (s8.1, IntKind.i64.wrap ((IntKind.i64.wrap (s8.1 + s8.2)).tdiv 2))))) else (
    some (.out s8.1))) 0 l.length (Nat.zero_le _) (fun c => ltV (gv l c) ⟨v, 0⟩)
    (by
      intro lo hi x1 x2 x3
      have hd : decide ((lo : Int) < (hi : Int)) = true := by simpa using x2
      simp only [hd, if_true, mid_t (lo := lo) (hi := hi) (n := l.length) (by omega) (by omega) (by omega), gv_ix (l := l) (i := (lo + hi) / 2) (by omega), Option.bind_some, p_wLess]
      by_cases hp : lexC (gv l ((lo + hi) / 2)).View v = -1
      · left
        rw [if_pos (by simpa using hp), nat_wrap (k := (lo + hi) / 2 + 1) (by omega) (by omega)]
        exact ⟨hp, rfl⟩
      · right
        rw [if_neg (by simpa using hp)]
        exact ⟨hp, rfl⟩)
    (by intro lo x1 x2; simp)
    (by
      intro c d x1 x2 x3 hp
      by_cases e : c = d
      · subst e; exact hp
      · exact ltV_trans (h.s c d (by omega) x3) hp)
  have k1' : wloop (σ := Int × Int) (β := Int) (fun s8 =>
    if decide (s8.1 < s8.2) = true then (
    (ix l (IntKind.i64.wrap ((IntKind.i64.wrap (s8.1 + s8.2)).tdiv 2))).bind fun x19 =>
    (F_spec_wLess x19.View v).bind fun z26 =>
    if z26 = true then (
    some (.go (IntKind.i64.wrap ((IntKind.i64.wrap ((IntKind.i64.wrap (s8.1 + s8.2)).tdiv 2)) + 1), s8.2))) else (
    some (.go (s8.1, IntKind.i64.wrap ((IntKind.i64.wrap (s8.1 + s8.2)).tdiv 2))))) else (
    some (.out s8.1))) (0, (l.length : Int)) = some (k : Int) := k1
  rw [k1', Option.bind_some]
  by_cases hf : k < l.length ∧ (gv l k).View = v
  · obtain ⟨hk, he⟩ := hf
    have hd : decide ((k : Int) < (l.length : Int)) = true := by simpa using hk
    have hpos := h.p _ (gv_mem hk)
    have hb := times_le_sum h.p (gv_mem hk)
    refine ⟨l.set k ⟨(gv l k).View, (gv l k).Times + t⟩, ?_, (canon_more h hk (by omega)).congr fun w => by rw [he], sumT_set hk, by simp, fun x hx => ?_⟩
    · simp only [hd, if_true, gv_ix hk, Option.bind_some, p_l1Same _ _ (hlv _ (gv_mem hk))]
      rw [if_pos (by simpa using he), wr64 (by omega) (by omega), Int.toNat_natCast]
    · obtain ⟨i, hi, rfl⟩ := mem_gv hx
      have hi : i < l.length := by simpa using hi
      rw [gv_set hk]
      split
      · exact .inl he
      · exact .inr ⟨_, gv_mem hi, rfl⟩
  · have hcond : ((if decide ((k : Int) < (l.length : Int)) = true then (ix l (k : Int)).bind fun x48 => (F_spec_l1Same x48.View v).bind fun z55 => some z55 else some false) : Option Bool) = some false := by
      by_cases hk : k < l.length
      · have he : (gv l k).View ≠ v := fun e => hf ⟨hk, e⟩
        rw [if_pos (by simpa using hk), gv_ix hk, Option.bind_some, p_l1Same _ _ (hlv _ (gv_mem hk))]
        simp [he]
      · rw [if_neg (by simpa using hk)]
    rw [hcond, Option.bind_some, if_neg (by simp), gd_t (by omega)]
    have len1 : (l ++ [(ViewCount.mk [] 0)]).length = l.length + 1 := by simp
    have w1 : IntKind.i64.wrap (((l ++ [(ViewCount.mk [] 0)]).length : Int) - 1) = (l.length : Int) := by rw [len1, wr64 (by omega) (by omega)]; omega
    rw [w1]
    obtain ⟨r, r1, r2, r3⟩ := wloop_post (σ := (List ViewCount) × Int) (β := (List ViewCount)) (step := fun s111 =>
      if decide ((k : Int) < s111.2) = true then (
      (ix s111.1 (IntKind.i64.wrap (s111.2 - 1))).bind fun x121 =>
      (ix s111.1 s111.2).bind fun x128 =>
      some (.go (s111.1.set s111.2.toNat x121, IntKind.i64.wrap (s111.2 - 1)))) else (
      some (.out s111.1)))
      (fun n s => ∃ (r : List ViewCount) (i : Nat), s = (r, (i : Int)) ∧ n = i ∧ k ≤ i ∧ i ≤ l.length ∧ r.length = l.length + 1 ∧ ∀ x, x ≤ l.length → gv r x = if x ≤ i then gv (l ++ [(ViewCount.mk [] 0)]) x else gv l (x - 1))
      (fun r => r.length = l.length + 1 ∧ ∀ x, x ≤ l.length → gv r x = if x ≤ k then gv (l ++ [(ViewCount.mk [] 0)]) x else gv l (x - 1))
      (by
        rintro n s ⟨r, i, rfl, h1, h2, h3, h4, h5⟩
        simp only
        by_cases hki : k < i
        · have hd : decide ((k : Int) < (i : Int)) = true := by simpa using hki
          have e1 : IntKind.i64.wrap ((i : Int) - 1) = ((i - 1 : Nat) : Int) := nat_wrap (by omega) (by omega)
          refine .inl ⟨(r.set i (gv r (i - 1)), ((i - 1 : Nat) : Int)), i - 1, ?_, by omega, r.set i (gv r (i - 1)), i - 1, rfl, rfl, by omega, by omega, by simp [h4], fun x hx => ?_⟩
          · rw [if_pos hd, e1, gv_ix (l := r) (i := i - 1) (by omega), Option.bind_some, gv_ix (l := r) (i := i) (by omega), Option.bind_some, Int.toNat_natCast]
          · rw [gv_set (by omega)]
            by_cases c1 : x = i
            · rw [if_pos c1, if_neg (by omega), h5 (i - 1) (by omega), if_pos (by omega), gv_append_l (by omega), c1]
            · rw [if_neg c1, h5 x hx]
              by_cases c2 : x ≤ i
              · rw [if_pos c2, if_pos (by omega)]
              · rw [if_neg c2, if_neg (by omega)]
        · have : i = k := by omega
          subst this
          exact .inr ⟨r, by simp, h4, h5⟩)
      l.length (l ++ [(ViewCount.mk [] 0)], (l.length : Int)) ⟨_, l.length, rfl, rfl, k3, Nat.le_refl _, len1, fun x hx => by rw [if_pos hx]⟩
    rw [r1, Option.bind_some]
    have own : F_spec_l1Own v = some v := by unfold F_spec_l1Own; rw [gd_t (by omega)]
    rw [own, Option.bind_some, gv_ix (l := r) (i := k) (by omega), Option.bind_some, Int.toNat_natCast]
    have hout : r.set k ⟨v, t⟩ = l.take k ++ (⟨v, t⟩ : ViewCount) :: l.drop k := by
      refine gv_ext (by simp [r2]; omega) fun i hi => ?_
      have hi : i < l.length + 1 := by simpa [r2] using hi
      rw [gv_set (by omega), gv_ins k3]
      by_cases c1 : i = k
      · rw [if_pos c1, if_neg (by omega), if_pos c1]
      · rw [if_neg c1, r3 i (by omega)]
        by_cases c2 : i < k
        · rw [if_pos (by omega), if_pos c2, gv_append_l (by omega)]
        · rw [if_neg (by omega), if_neg c2, if_neg c1]
    refine ⟨_, rfl, ?_, ?_, ?_, fun x hx => ?_⟩
    · rw [hout]
      refine canon_ins (x := ⟨v, t⟩) h k3 (fun i hi => k4 i (Nat.zero_le _) hi) (fun i h1 h2 => ?_) ht
      have hn := k5 i h1 h2
      rcases ltV_tri (gv l i) ⟨v, 0⟩ with q | q | q
      · exact absurd q hn
      · exfalso
        have hk : k < l.length := by omega
        by_cases e : i = k
        · subst e; exact hf ⟨h2, q⟩
        · have := h.s k i (by omega) h2
          exact k5 k (Nat.le_refl _) hk (ltV_view this q)
      · exact q
    · rw [hout, sumT_append]
      have e : sumT l = sumT (l.take k) + sumT (l.drop k) := by rw [← sumT_append, List.take_append_drop]
      have e2 : sumT ((⟨v, t⟩ : ViewCount) :: l.drop k) = t + sumT (l.drop k) := by simp [sumT]
      omega
    · simp [r2]
    · rw [hout] at hx
      rcases List.mem_append.1 hx with hx | hx
      · exact .inr ⟨x, List.mem_of_mem_take hx, rfl⟩
      · cases List.mem_cons.1 hx with
        | inl e => subst e; exact .inl rfl
        | inr e => exact .inr ⟨x, List.mem_of_mem_drop e, rfl⟩
/-- Numbers from k on. -/
def MI : List Int → Int → Prop
  | [], _ => True
  | x :: l, k => x = k ∧ MI l (k + 1)
theorem MI_get : ∀ {l : List Int} {k : Int} (i : Nat) (h : i < l.length), MI l k → l[i] = k + i := by
  intro l
  induction l with
  | nil => intro k i h; simp at h
  | cons x l ih =>
    intro k i h hm
    cases i with
    | zero => simp [hm.1]
    | succ i =>
      have := ih (k := k + 1) i (by simpa using h) hm.2
      simp only [List.getElem_cons_succ, this]
      push_cast; omega
theorem MI_of : ∀ {l : List Int} {k : Int}, (∀ (i : Nat) (h : i < l.length), l[i] = k + i) → MI l k := by
  intro l
  induction l with
  | nil => intro k _; trivial
  | cons x l ih =>
    intro k h
    refine ⟨by have h1 : x = k + ((0 : Nat) : Int) := h 0 (by simp); rw [h1]; simp, ih fun i hi => ?_⟩
    have := h (i + 1) (by simpa using hi)
    simp only [List.getElem_cons_succ] at this
    rw [this]; push_cast; omega
theorem p_markI (l : List Int) (k : Int) (h0 : 0 ≤ k) (hk : k + l.length ≤ 1152921504606846976) (hl : l.length ≤ 1048576) : ∃ r, F_laws_markIntS__io0 l k = some (k + l.length, r) ∧ r.length = l.length ∧ MI r k := by
  unfold F_laws_markIntS__io0
  obtain ⟨x, e, r, rfl, h1, h2⟩ := cloop_post (σ := (List Int) × Int × Int) (β := ((List Int) × Int)) (step := fun s29 =>
    if decide (s29.2.2 < (s29.1.length : Int)) = true then (
    (ix s29.1 s29.2.2).bind fun x40 =>
    some (.go (s29.1.set s29.2.2.toNat s29.2.1, IntKind.i64.wrap (s29.2.1 + 1), IntKind.i64.wrap (s29.2.2 + 1)))) else (
    some (.out (s29.1, s29.2.1)))) (s0 := (l, k, 0)) l.length
    (fun i s => ∃ r : List Int, s = (r, k + (i : Int), (i : Int)) ∧ r.length = l.length ∧ ∀ (j : Nat) (h : j < r.length), j < i → r[j] = k + j)
    (fun x => ∃ r : List Int, x = (r, k + l.length) ∧ r.length = l.length ∧ MI r k)
    ⟨l, by simp, rfl, fun j h1 h2 => by omega⟩
    (by
      rintro i s hi ⟨r, rfl, h1, h2⟩
      have hd : decide ((i : Int) < (r.length : Int)) = true := by simp only [decide_eq_true_eq]; omega
      refine .inl ⟨(r.set i (k + i), k + ((i + 1 : Nat) : Int), ((i + 1 : Nat) : Int)), ?_, r.set i (k + i), rfl, by simp [h1], fun j hj hji => ?_⟩
      · simp only [hd, if_true, ix_at (l := r) (k := i) (by omega), Option.bind_some, Int.toNat_natCast]
        rw [wr64 (n := (i : Int) + 1) (by omega) (by omega), wr64 (by omega) (by omega)]
        have e1 : k + (i : Int) + 1 = k + ((i + 1 : Nat) : Int) := by push_cast; omega
        have e2 : (i : Int) + 1 = ((i + 1 : Nat) : Int) := by push_cast; rfl
        rw [e1, e2]
      · rw [List.getElem_set]
        split
        · rename_i e; subst e; rfl
        · exact h2 j (by simpa using hj) (by omega))
    (by
      rintro s ⟨r, rfl, h1, h2⟩
      exact ⟨(r, k + l.length), by simp [h1], r, rfl, h1, MI_of fun i hi => h2 i hi (by omega)⟩)
  rw [e, Option.bind_some]
  exact ⟨r, rfl, h1, h2⟩
theorem p_heldI (l : List Int) (k : Int) (h0 : 0 ≤ k) (hk : k + l.length ≤ 1152921504606846976) (hl : l.length ≤ 1048576) (hm : MI l k) : F_laws_heldIntS l k = some (k + l.length) := by
  unfold F_laws_heldIntS
  obtain ⟨x, e, rfl⟩ := cloop_post (σ := Int × Int) (β := Int ⊕ Int) (step := fun s7 =>
    if decide (s7.2 < (l.length : Int)) = true then (
    (ix l s7.2).bind fun x18 =>
    if (x18 != s7.1) = true then (
    some (.out (.inr (-1)))) else (
    some (.go (IntKind.i64.wrap (s7.1 + 1), IntKind.i64.wrap (s7.2 + 1))))) else (
    some (.out (.inl s7.1)))) (s0 := (k, 0)) l.length (fun i s => s = (k + (i : Int), (i : Int))) (fun x => x = .inl (k + l.length)) (by simp)
    (by
      rintro i s hi rfl
      have hd : decide ((i : Int) < (l.length : Int)) = true := by simpa using hi
      refine .inl ⟨(k + ((i + 1 : Nat) : Int), ((i + 1 : Nat) : Int)), ?_, rfl⟩
      simp only [hd, if_true, ix_at hi, Option.bind_some, MI_get i hi hm, bne_self_eq_false, Bool.false_eq_true, if_false]
      rw [wr64 (n := (i : Int) + 1) (by omega) (by omega), wr64 (by omega) (by omega)]
      have e1 : k + (i : Int) + 1 = k + ((i + 1 : Nat) : Int) := by push_cast; omega
      have e2 : (i : Int) + 1 = ((i + 1 : Nat) : Int) := by push_cast; rfl
      rw [e1, e2])
    (by
      rintro s rfl
      exact ⟨_, by simp, rfl⟩)
  rw [e]; rfl
/-- Marked elements, one behind the other. -/
def HV : List ViewCount → Int → Int → Prop
  | [], k, k' => k = k'
  | x :: l, k, k' => MI x.View k ∧ x.Times = k + x.View.length ∧ HV l (k + x.View.length + 1) k'
theorem HV_append : ∀ {a b : List ViewCount} {k m k' : Int}, HV a k m → HV b m k' → HV (a ++ b) k k' := by
  intro a
  induction a with
  | nil => intro b k m k' h1 h2; have h1 : k = m := h1; subst h1; exact h2
  | cons x a ih => intro b k m k' h1 h2; exact ⟨h1.1, h1.2.1, ih h1.2.2 h2⟩
def totV (l : List ViewCount) : Int := (l.map fun x => (x.View.length : Int) + 1).sum
theorem totV_take {l : List ViewCount} {k : Nat} (h : k < l.length) : totV (l.take (k + 1)) = totV (l.take k) + ((l[k].View.length : Int) + 1) := by
  unfold totV
  rw [List.take_succ_eq_append_getElem h, List.map_append, List.sum_append]
  simp
theorem totV_nonneg (l : List ViewCount) : 0 ≤ totV l := by
  induction l with
  | nil => exact Int.le_refl _
  | cons x l ih => simp only [totV, List.map_cons, List.sum_cons] at ih ⊢; omega
theorem totV_take_le (l : List ViewCount) (k : Nat) : totV (l.take k) ≤ totV l := by
  have e : totV l = totV (l.take k) + totV (l.drop k) := by
    unfold totV
    rw [← List.sum_append, ← List.map_append, List.take_append_drop]
  have := totV_nonneg (l.drop k)
  omega
theorem HV_tot : ∀ {l : List ViewCount} {k k' : Int}, HV l k k' → k' = k + totV l := by
  intro l
  induction l with
  | nil => intro k k' h; have h : k = k' := h; simp [totV, h]
  | cons x l ih =>
    intro k k' h
    have := ih h.2.2
    simp only [totV, List.map_cons, List.sum_cons] at this ⊢
    omega
theorem p_markV (l : List ViewCount) (hl : l.length ≤ 1048576) (hv : ∀ x ∈ l, x.View.length ≤ 1048576) (ht : totV l ≤ 1152921504606846970) :
    ∃ r, F_laws_markViewCountS__io0 l 1 = some (1 + totV l, r) ∧ r.length = l.length ∧ HV r 1 (1 + totV l) ∧ ∀ x ∈ r, x.View.length ≤ 1048576 := by
  unfold F_laws_markViewCountS__io0
  obtain ⟨x, e, r, rfl, h1, h2, h3⟩ := cloop_post (σ := (List ViewCount) × Int × Int) (β := ((List ViewCount) × Int)) (step := fun s39 =>
    if decide (s39.2.2 < (s39.1.length : Int)) = true then (
    (ix s39.1 s39.2.2).bind fun x50 =>
    (F_laws_markIntS__io0 x50.View s39.2.1).bind fun z57 =>
    (ix (s39.1.set s39.2.2.toNat (ViewCount.mk z57.2 x50.Times)) s39.2.2).bind fun x60 =>
    some (.go ((s39.1.set s39.2.2.toNat (ViewCount.mk z57.2 x50.Times)).set s39.2.2.toNat (ViewCount.mk x60.View z57.1), IntKind.i64.wrap (z57.1 + 1), IntKind.i64.wrap (s39.2.2 + 1)))) else (
    some (.out (s39.1, s39.2.1)))) (s0 := (l, 1, 0)) l.length
    (fun i s => ∃ r : List ViewCount, s = (r, 1 + totV (l.take i), (i : Int)) ∧ r.length = l.length ∧ r.drop i = l.drop i ∧ HV (r.take i) 1 (1 + totV (l.take i)) ∧ ∀ x ∈ r, x.View.length ≤ 1048576)
    (fun x => ∃ r : List ViewCount, x = (r, 1 + totV l) ∧ r.length = l.length ∧ HV r 1 (1 + totV l) ∧ ∀ x ∈ r, x.View.length ≤ 1048576)
    ⟨l, by simp [totV], rfl, rfl, by simp [HV, totV], hv⟩
    (by
      rintro i s hi ⟨r, rfl, h1, h2, h3, h4⟩
      have hir : i < r.length := by omega
      have hri : r[i] = l[i] := by
        have a := List.getElem_drop (xs := r) (i := i) (j := 0) (h := by simp; omega)
        have b := List.getElem_drop (xs := l) (i := i) (j := 0) (h := by simp; omega)
        simp only [Nat.add_zero] at a b
        rw [← a, ← b]
        simp only [h2]
      have hd : decide ((i : Int) < (r.length : Int)) = true := by simp only [decide_eq_true_eq]; omega
      have hn := totV_nonneg (l.take i)
      have hle := totV_take_le l (i + 1)
      have htk := totV_take hi
      have hvi := hv l[i] (List.getElem_mem hi)
      obtain ⟨m, m1, m2, m3⟩ := p_markI l[i].View (1 + totV (l.take i)) (by omega) (by omega) hvi
      refine .inl ⟨(r.set i ⟨m, 1 + totV (l.take i) + l[i].View.length⟩, 1 + totV (l.take (i + 1)), ((i + 1 : Nat) : Int)), ?_, r.set i ⟨m, 1 + totV (l.take i) + l[i].View.length⟩, rfl, by simp [h1], ?_, ?_, fun x hx => ?_⟩
      · simp only [hd, if_true, ix_at hir, hri, Option.bind_some, m1, Int.toNat_natCast]
        rw [ix_at (by simpa using hir), Option.bind_some]
        simp only [List.getElem_set_self, List.set_set]
        rw [wr64 (n := (i : Int) + 1) (by omega) (by omega), wr64 (by omega) (by omega)]
        have e1 : 1 + totV (l.take i) + (l[i].View.length : Int) + 1 = 1 + totV (l.take (i + 1)) := by omega
        have e2 : (i : Int) + 1 = ((i + 1 : Nat) : Int) := by push_cast; rfl
        rw [e1, e2]
      · rw [List.drop_set_of_lt (by omega)]
        have := congrArg (List.drop 1) h2
        simpa [List.drop_drop] using this
      · rw [List.take_succ_eq_append_getElem (by simpa using hir), List.take_set_of_le (Nat.le_refl i)]
        refine HV_append h3 ⟨by simpa using m3, by simp [m2], ?_⟩
        show _ = _
        simp only [List.getElem_set_self, m2]
        omega
      · rcases List.mem_or_eq_of_mem_set hx with h | h
        · exact h4 x h
        · rw [h]; simp only [m2]; exact hvi)
    (by
      rintro s ⟨r, rfl, h1, h2, h3, h4⟩
      rw [List.take_length] at h3 ⊢
      rw [List.take_of_length_le (by omega)] at h3
      exact ⟨(r, 1 + totV l), by simp [h1], r, rfl, h1, h3, h4⟩)
  rw [e, Option.bind_some]
  exact ⟨r, rfl, h1, h2, h3⟩
theorem p_heldV (l : List ViewCount) (k' : Int) (hl : l.length ≤ 1048576) (hv : ∀ x ∈ l, x.View.length ≤ 1048576) (hk : k' ≤ 1152921504606846971) (hh : HV l 1 k') : F_laws_heldViewCountS l 1 = some k' := by
  unfold F_laws_heldViewCountS
  obtain ⟨x, e, rfl⟩ := cloop_post (σ := Int × Int) (β := Int ⊕ Int) (step := fun s7 =>
    if decide (s7.2 < (l.length : Int)) = true then (
    (ix l s7.2).bind fun x18 =>
    (F_laws_heldIntS x18.View s7.1).bind fun z25 =>
    if decide (z25 < 0) = true then (
    some (.out (.inr (-1)))) else (
    if (x18.Times != z25) = true then (
    some (.out (.inr (-1)))) else (
    some (.go (IntKind.i64.wrap (z25 + 1), IntKind.i64.wrap (s7.2 + 1)))))) else (
    some (.out (.inl s7.1)))) (s0 := (1, 0)) l.length (fun i s => ∃ k : Int, s = (k, (i : Int)) ∧ 1 ≤ k ∧ HV (l.drop i) k k') (fun x => x = .inl k') ⟨1, rfl, Int.le_refl _, hh⟩
    (by
      rintro i s hi ⟨k, rfl, h0, h1⟩
      have hd : decide ((i : Int) < (l.length : Int)) = true := by simpa using hi
      rw [List.drop_eq_getElem_cons hi] at h1
      obtain ⟨a1, a2, a3⟩ := h1
      have ht := HV_tot a3
      have hn := totV_nonneg (l.drop (i + 1))
      have hvi := hv l[i] (List.getElem_mem hi)
      have hI := p_heldI l[i].View k (by omega) (by omega) hvi a1
      refine .inl ⟨(k + l[i].View.length + 1, ((i + 1 : Nat) : Int)), ?_, _, rfl, by omega, a3⟩
      simp only [hd, if_true, ix_at hi, Option.bind_some, hI]
      rw [if_neg (by simp; omega), if_neg (by simp [a2]), wr64 (n := (i : Int) + 1) (by omega) (by omega), wr64 (by omega) (by omega)]
      have e2 : (i : Int) + 1 = ((i + 1 : Nat) : Int) := by push_cast; rfl
      rw [e2])
    (by
      rintro s ⟨k, rfl, h0, h1⟩
      rw [List.drop_length] at h1
      have h1 : k = k' := h1
      subst h1
      exact ⟨_, by simp, rfl⟩)
  rw [e]; rfl
end Go.Pm
