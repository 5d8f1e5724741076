/-
  Plain laws of the functions that 'FnExactDistanceOf' reaches: what each of them computes.
  No condition.
-/
import Derived.Test.YthdjiekgolgmfaaL2
import Derived.Test.YthdjiekgolgmfaaPmZ
namespace Go.Pm
open Go.Am
set_option linter.unusedVariables false
set_option linter.unusedSimpArgs false

-- arguments: sizes, copies, equality
theorem p_szIntS {l : List Int} {n : Int} (h0 : 0 ≤ n) (h1 : n ≤ 1048576) (hl : l.length ≤ 1048576) : ∃ z, F_laws_szIntS l n = some z ∧ z ≤ 1048576 := by
  unfold F_laws_szIntS
  rw [wr64 (by omega) (by omega)]
  by_cases h : n - (l.length : Int) < 0
  · exact ⟨-1, by simp [h], by omega⟩
  · exact ⟨n - l.length, by simp [h], by omega⟩
theorem p_szViewCount {x : ViewCount} {n : Int} (h0 : 0 ≤ n) (h1 : n ≤ 1048576) (hl : x.View.length ≤ 1048576) : ∃ z, F_laws_szViewCount x n = some z ∧ z ≤ 1048576 := by
  unfold F_laws_szViewCount
  obtain ⟨z, h, h2⟩ := p_szIntS h0 h1 hl
  rw [h, Option.bind_some]
  by_cases hz : z < 0
  · exact ⟨-1, by simp [hz], by omega⟩
  · exact ⟨z, by simp [hz], h2⟩
theorem p_szViewCountS {l : List ViewCount} {n : Int} (h0 : 0 ≤ n) (h1 : n ≤ 1048576) (hl : l.length ≤ 1048576) (hv : ∀ x ∈ l, x.View.length ≤ 1048576) : ∃ z, F_laws_szViewCountS l n = some z ∧ z ≤ 1048576 := by
  unfold F_laws_szViewCountS
  rw [wr64 (by omega) (by omega)]
  by_cases h : n - (l.length : Int) < 0
  · exact ⟨-1, by simp [h], by omega⟩
  · simp only [h, decide_false, Bool.false_eq_true, if_false]
    obtain ⟨b, hb, hp⟩ := cloop_post (β := Int ⊕ Int) (σ := Int × Int) (step := fun s46 =>
      if decide (s46.2 < (l.length : Int)) = true then (
      (ix l s46.2).bind fun x57 =>
      (F_laws_szViewCount x57 s46.1).bind fun z64 =>
      if decide (z64 < 0) = true then (
      some (.out (.inr (-1)))) else (
      some (.go (z64, IntKind.i64.wrap (s46.2 + 1))))) else (
      some (.out (.inl s46.1)))) (s0 := (n - (l.length : Int), 0)) l.length (fun k s => s.2 = (k : Int) ∧ 0 ≤ s.1 ∧ s.1 ≤ 1048576)
      (fun b => Sum.elim (fun z => z ≤ 1048576) (fun z => z ≤ 1048576) b) ⟨rfl, by omega, by show n - (l.length : Int) ≤ _; omega⟩
      (by
        rintro k ⟨a, b⟩ hk ⟨e, h2, h3⟩
        simp only at e h2 h3
        subst e
        obtain ⟨z, hz, hz1⟩ := p_szViewCount (x := l[k]) h2 h3 (hv _ (List.getElem_mem hk))
        have hd : decide ((k : Int) < (l.length : Int)) = true := by simpa using hk
        simp only [hd, if_true, ix_at hk, Option.bind_some, hz]
        by_cases hz0 : z < 0
        · exact .inr ⟨.inr (-1), by simp [hz0], by simp⟩
        · exact .inl ⟨(z, (k : Int) + 1), by simp only [hz0, decide_false, Bool.false_eq_true, if_false]; rw [wr64 (by omega) (by omega)], by simp, by omega, hz1⟩)
      (by
        rintro ⟨a, b⟩ ⟨e, h2, h3⟩
        simp only at e h2 h3
        subst e
        exact ⟨.inl a, by simp, h3⟩)
    rw [hb, Option.bind_some]
    cases b with
    | inl z => exact ⟨z, rfl, hp⟩
    | inr z => exact ⟨z, rfl, hp⟩
theorem set_step {α : Type} {l r : List α} {k : Nat} (hk : k < l.length) (hr : r.length = l.length) (h : r.take k = l.take k) : (r.set k l[k]).take (k + 1) = l.take (k + 1) := by
  rw [List.take_succ_eq_append_getElem (by simpa [hr] using hk), List.take_succ_eq_append_getElem hk]
  simp [List.take_set_of_le, h]
theorem p_toIntS {l : List Int} (hl : l.length ≤ 1048576) : F_laws_toIntS l = some l := by
  unfold F_laws_toIntS
  rw [gd_t (by omega)]
  obtain ⟨b, hb, hp⟩ := cloop_post (β := List Int) (σ := List Int × Int) (step := fun s42 =>
    if decide (s42.2 < (l.length : Int)) = true then (
    (ix l s42.2).bind fun x53 =>
    (ix s42.1 s42.2).bind fun x60 =>
    some (.go (s42.1.set s42.2.toNat x53, IntKind.i64.wrap (s42.2 + 1)))) else (
    some (.out s42.1))) (s0 := (List.replicate l.length 0, 0)) l.length (fun k s => s.2 = (k : Int) ∧ s.1.length = l.length ∧ s.1.take k = l.take k)
    (fun b => b = l) ⟨rfl, by simp, by simp⟩
    (by
      rintro k ⟨a, b⟩ hk ⟨e, h2, h3⟩
      simp only at e h2 h3
      subst e
      have hd : decide ((k : Int) < (l.length : Int)) = true := by simpa using hk
      refine .inl ⟨(a.set k l[k], (k : Int) + 1), ?_, by simp, by simp [h2], set_step hk h2 h3⟩
      simp only [hd, if_true, ix_at hk, Option.bind_some, ix_at (l := a) (k := k) (by omega)]
      rw [wr64 (by omega) (by omega)]
      simp)
    (by
      rintro ⟨a, b⟩ ⟨e, h2, h3⟩
      simp only at e h2 h3
      subst e
      refine ⟨a, by simp, ?_⟩
      rw [List.take_of_length_le (by omega), List.take_of_length_le (Nat.le_refl _)] at h3
      exact h3)
  rw [hb, Option.bind_some, hp]
theorem p_toViewCount {x : ViewCount} (hl : x.View.length ≤ 1048576) : F_laws_toViewCount x = some x := by
  unfold F_laws_toViewCount
  rw [p_toIntS hl]; rfl
theorem p_toViewCountS {l : List ViewCount} (hl : l.length ≤ 1048576) (hv : ∀ x ∈ l, x.View.length ≤ 1048576) : F_laws_toViewCountS l = some l := by
  unfold F_laws_toViewCountS
  rw [gd_t (by omega)]
  obtain ⟨b, hb, hp⟩ := cloop_post (β := List ViewCount) (σ := List ViewCount × Int) (step := fun s45 =>
    if decide (s45.2 < (l.length : Int)) = true then (
    (ix l s45.2).bind fun x56 =>
    (F_laws_toViewCount x56).bind fun z63 =>
    (ix s45.1 s45.2).bind fun x66 =>
    some (.go (s45.1.set s45.2.toNat z63, IntKind.i64.wrap (s45.2 + 1)))) else (
    some (.out s45.1))) (s0 := (List.replicate l.length (ViewCount.mk [] 0), 0)) l.length (fun k s => s.2 = (k : Int) ∧ s.1.length = l.length ∧ s.1.take k = l.take k)
    (fun b => b = l) ⟨rfl, by simp, by simp⟩
    (by
      rintro k ⟨a, b⟩ hk ⟨e, h2, h3⟩
      simp only at e h2 h3
      subst e
      have hd : decide ((k : Int) < (l.length : Int)) = true := by simpa using hk
      refine .inl ⟨(a.set k l[k], (k : Int) + 1), ?_, by simp, by simp [h2], set_step hk h2 h3⟩
      simp only [hd, if_true, ix_at hk, Option.bind_some, p_toViewCount (hv _ (List.getElem_mem hk)), ix_at (l := a) (k := k) (by omega)]
      rw [wr64 (by omega) (by omega)]
      simp)
    (by
      rintro ⟨a, b⟩ ⟨e, h2, h3⟩
      simp only at e h2 h3
      subst e
      refine ⟨a, by simp, ?_⟩
      rw [List.take_of_length_le (by omega), List.take_of_length_le (Nat.le_refl _)] at h3
      exact h3)
  rw [hb, Option.bind_some, hp]
theorem p_eqIntS {l : List Int} (hl : l.length ≤ 1048576) : F_laws_eqIntS l l = some true := by
  unfold F_laws_eqIntS
  simp only [bne_self_eq_false, Bool.false_eq_true, if_false]
  obtain ⟨b, hb, hp⟩ := cloop_post (β := Unit ⊕ Bool) (σ := Int) (step := fun s52 =>
    if decide (s52 < (l.length : Int)) = true then (
    (ix l s52).bind fun x63 =>
    (ix l s52).bind fun x70 =>
    if (x63 != x70) = true then (
    some (.out (.inr false))) else (
    some (.go (IntKind.i64.wrap (s52 + 1))))) else (
    some (.out (.inl ())))) (s0 := 0) l.length (fun k s => s = (k : Int)) (fun b => b = .inl ()) rfl
    (by
      rintro k a hk e
      subst e
      have hd : decide ((k : Int) < (l.length : Int)) = true := by simpa using hk
      refine .inl ⟨(k : Int) + 1, ?_, by simp⟩
      simp only [hd, if_true, ix_at hk, Option.bind_some, bne_self_eq_false, Bool.false_eq_true, if_false]
      rw [wr64 (by omega) (by omega)])
    (by
      rintro a e
      subst e
      exact ⟨_, by simp, rfl⟩)
  rw [hb, Option.bind_some, hp]; rfl
theorem p_eqViewCount {x : ViewCount} (hl : x.View.length ≤ 1048576) : F_laws_eqViewCount x x = some true := by
  unfold F_laws_eqViewCount
  simp [p_eqIntS hl]
theorem p_eqViewCountS {l : List ViewCount} (hl : l.length ≤ 1048576) (hv : ∀ x ∈ l, x.View.length ≤ 1048576) : F_laws_eqViewCountS l l = some true := by
  unfold F_laws_eqViewCountS
  simp only [bne_self_eq_false, Bool.false_eq_true, if_false]
  obtain ⟨b, hb, hp⟩ := cloop_post (β := Unit ⊕ Bool) (σ := Int) (step := fun s55 =>
    if decide (s55 < (l.length : Int)) = true then (
    (ix l s55).bind fun x66 =>
    (ix l s55).bind fun x73 =>
    (F_laws_eqViewCount x66 x73).bind fun z80 =>
    if (!z80) = true then (
    some (.out (.inr false))) else (
    some (.go (IntKind.i64.wrap (s55 + 1))))) else (
    some (.out (.inl ())))) (s0 := 0) l.length (fun k s => s = (k : Int)) (fun b => b = .inl ()) rfl
    (by
      rintro k a hk e
      subst e
      have hd : decide ((k : Int) < (l.length : Int)) = true := by simpa using hk
      refine .inl ⟨(k : Int) + 1, ?_, by simp⟩
      simp only [hd, if_true, ix_at hk, Option.bind_some, p_eqViewCount (hv _ (List.getElem_mem hk)), Bool.not_true, Bool.false_eq_true, if_false]
      rw [wr64 (by omega) (by omega)])
    (by
      rintro a e
      subst e
      exact ⟨_, by simp, rfl⟩)
  rw [hb, Option.bind_some, hp]; rfl
end Go.Pm
