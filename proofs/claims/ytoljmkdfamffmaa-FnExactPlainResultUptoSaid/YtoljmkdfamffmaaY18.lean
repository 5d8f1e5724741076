/-
  FnExactPlainResult: plain laws.
  No condition.
-/
import Derived.Test.YtoljmkdfamffmaaM18b
import Derived.Test.YtoljmkdfamffmaaPmZ
namespace Go.Pm
open Go.Am
set_option linter.unusedVariables false
set_option linter.unusedSimpArgs false
-- arguments: sizes, copies, equality
theorem p_szIntS {l : List Int} {n : Int} (h0 : 0 ≤ n) (h1 : n ≤ 1048576) (hl : l.length ≤ 1048576) : ∃ z, F_laws_szIntS l n = some z ∧ z ≤ 1048576 := by
  unfold F_laws_szIntS
  rw [wr64 (by omega) (by omega)]
  by_cases h : n - (l.length : Int) < 0
  · exact ⟨-1, by simp [h], by omega⟩
  · exact ⟨n - l.length, by simp [h], by omega⟩
theorem set_step {α : Type} {l r : List α} {k : Nat} (hk : k < l.length) (hr : r.length = l.length) (h : r.take k = l.take k) : (r.set k l[k]).take (k + 1) = l.take (k + 1) := by
  rw [List.take_succ_eq_append_getElem (by simpa [hr] using hk), List.take_succ_eq_append_getElem hk]
  simp [List.take_set_of_le, h]
theorem p_toIntS {l : List Int} (hl : l.length ≤ 1048576) : F_laws_toIntS l = some l := by
  unfold F_laws_toIntS
  rw [gd_t (by omega), Option.bind_some]
  obtain ⟨b, hb, hp⟩ := cloop_post (β := List Int) (σ := List Int × Int) (step := fun s42 =>
    if decide (s42.2 < (l.length : Int)) = true then (
    (ix l s42.2).bind fun x53 =>
    (ix s42.1 s42.2).bind fun x60 =>
    some (.go (s42.1.set s42.2.toNat x53, IntKind.i64.wrap (s42.2 + 1)))) else (
    some (.out s42.1))) (s0 := (List.replicate l.length 0, 0)) l.length (fun k s => s.2 = (k : Int) ∧ s.1.length = l.length ∧ s.1.take k = l.take k)
    (fun b => b = l) ⟨rfl, by simp, by simp⟩
    (by
      rintro k ⟨a, b⟩ hk ⟨e, h2, h3⟩
      simp only at e h2 h3
      subst e
      have hd : decide ((k : Int) < (l.length : Int)) = true := by simpa using hk
      refine .inl ⟨(a.set k l[k], (k : Int) + 1), ?_, by simp, by simp [h2], set_step hk h2 h3⟩
      simp only [hd, if_true, ix_at hk, Option.bind_some, ix_at (l := a) (k := k) (by omega)]
      rw [wr64 (by omega) (by omega)]
      simp)
    (by
      rintro ⟨a, b⟩ ⟨e, h2, h3⟩
      simp only at e h2 h3
      subst e
      refine ⟨a, by simp, ?_⟩
      rw [List.take_of_length_le (by omega), List.take_of_length_le (Nat.le_refl _)] at h3
      exact h3)
  rw [hb, Option.bind_some, hp]
theorem p_eqIntS {l : List Int} (hl : l.length ≤ 1048576) : F_laws_eqIntS l l = some true := by
  unfold F_laws_eqIntS
  simp only [bne_self_eq_false, Bool.false_eq_true, if_false]
  obtain ⟨b, hb, hp⟩ := cloop_post (β := Unit ⊕ Bool) (σ := Int) (step := fun s52 =>
    if decide (s52 < (l.length : Int)) = true then (
    (ix l s52).bind fun x63 =>
    (ix l s52).bind fun x70 =>
    if (x63 != x70) = true then (
    some (.out (.inr false))) else (
    some (.go (IntKind.i64.wrap (s52 + 1))))) else (
    some (.out (.inl ())))) (s0 := 0) l.length (fun k s => s = (k : Int)) (fun b => b = .inl ()) rfl
    (by
      rintro k a hk e
      subst e
      have hd : decide ((k : Int) < (l.length : Int)) = true := by simpa using hk
      refine .inl ⟨(k : Int) + 1, ?_, by simp⟩
      simp only [hd, if_true, ix_at hk, Option.bind_some, bne_self_eq_false, Bool.false_eq_true, if_false]
      rw [wr64 (by omega) (by omega)])
    (by
      rintro a e
      subst e
      exact ⟨_, by simp, rfl⟩)
  rw [hb, Option.bind_some, hp]; rfl
def MI : List Int → Int → Prop
  | [], _ => True
  | x :: l, k => x = k ∧ MI l (k + 1)
theorem MI_get : ∀ {l : List Int} {k : Int} (i : Nat) (h : i < l.length), MI l k → l[i] = k + i := by
  intro l
  induction l with
  | nil => intro k i h; simp at h
  | cons x l ih =>
    intro k i h hm
    cases i with
    | zero => simp [hm.1]
    | succ i =>
      have := ih (k := k + 1) i (by simpa using h) hm.2
      simp only [List.getElem_cons_succ, this]
      push_cast; omega
theorem MI_of : ∀ {l : List Int} {k : Int}, (∀ (i : Nat) (h : i < l.length), l[i] = k + i) → MI l k := by
  intro l
  induction l with
  | nil => intro k _; trivial
  | cons x l ih =>
    intro k h
    refine ⟨by have h1 : x = k + ((0 : Nat) : Int) := h 0 (by simp); rw [h1]; simp, ih fun i hi => ?_⟩
    have := h (i + 1) (by simpa using hi)
    simp only [List.getElem_cons_succ] at this
    rw [this]; push_cast; omega
theorem p_markI (l : List Int) (k : Int) (h0 : 0 ≤ k) (hk : k + l.length ≤ 1152921504606846976) (hl : l.length ≤ 1048576) : ∃ r, F_laws_markIntS__io0 l k = some (k + l.length, r) ∧ r.length = l.length ∧ MI r k := by
  unfold F_laws_markIntS__io0
  obtain ⟨x, e, r, rfl, h1, h2⟩ := cloop_post (σ := (List Int) × Int × Int) (β := ((List Int) × Int)) (step := fun s29 =>
    if decide (s29.2.2 < (s29.1.length : Int)) = true then (
    (ix s29.1 s29.2.2).bind fun x40 =>
    some (.go (s29.1.set s29.2.2.toNat s29.2.1, IntKind.i64.wrap (s29.2.1 + 1), IntKind.i64.wrap (s29.2.2 + 1)))) else (
    some (.out (s29.1, s29.2.1)))) (s0 := (l, k, 0)) l.length
    (fun i s => ∃ r : List Int, s = (r, k + (i : Int), (i : Int)) ∧ r.length = l.length ∧ ∀ (j : Nat) (h : j < r.length), j < i → r[j] = k + j)
    (fun x => ∃ r : List Int, x = (r, k + l.length) ∧ r.length = l.length ∧ MI r k)
    ⟨l, by simp, rfl, fun j h1 h2 => by omega⟩
    (by
      rintro i s hi ⟨r, rfl, h1, h2⟩
      have hd : decide ((i : Int) < (r.length : Int)) = true := by simp only [decide_eq_true_eq]; omega
      refine .inl ⟨(r.set i (k + i), k + ((i + 1 : Nat) : Int), ((i + 1 : Nat) : Int)), ?_, r.set i (k + i), rfl, by simp [h1], fun j hj hji => ?_⟩
      · simp only [hd, if_true, ix_at (l := r) (k := i) (by omega), Option.bind_some, Int.toNat_natCast]
        rw [wr64 (n := (i : Int) + 1) (by omega) (by omega), wr64 (by omega) (by omega)]
        have e1 : k + (i : Int) + 1 = k + ((i + 1 : Nat) : Int) := by push_cast; omega
        have e2 : (i : Int) + 1 = ((i + 1 : Nat) : Int) := by push_cast; rfl
        rw [e1, e2]
      · rw [List.getElem_set]
        split
        · rename_i e; subst e; rfl
        · exact h2 j (by simpa using hj) (by omega))
    (by
      rintro s ⟨r, rfl, h1, h2⟩
      exact ⟨(r, k + l.length), by simp [h1], r, rfl, h1, MI_of fun i hi => h2 i hi (by omega)⟩)
  rw [e, Option.bind_some]
  exact ⟨r, rfl, h1, h2⟩
theorem p_heldI (l : List Int) (k : Int) (h0 : 0 ≤ k) (hk : k + l.length ≤ 1152921504606846976) (hl : l.length ≤ 1048576) (hm : MI l k) : F_laws_heldIntS l k = some (k + l.length) := by
  unfold F_laws_heldIntS
  obtain ⟨x, e, rfl⟩ := cloop_post (σ := Int × Int) (β := Int ⊕ Int) (step := fun s7 =>
    if decide (s7.2 < (l.length : Int)) = true then (
    (ix l s7.2).bind fun x18 =>
    if (x18 != s7.1) = true then (
    some (.out (.inr (-1)))) else (
    some (.go (IntKind.i64.wrap (s7.1 + 1), IntKind.i64.wrap (s7.2 + 1))))) else (
    some (.out (.inl s7.1)))) (s0 := (k, 0)) l.length (fun i s => s = (k + (i : Int), (i : Int))) (fun x => x = .inl (k + l.length)) (by simp)
    (by
      rintro i s hi rfl
      have hd : decide ((i : Int) < (l.length : Int)) = true := by simpa using hi
      refine .inl ⟨(k + ((i + 1 : Nat) : Int), ((i + 1 : Nat) : Int)), ?_, rfl⟩
      simp only [hd, if_true, ix_at hi, Option.bind_some, MI_get i hi hm, bne_self_eq_false, Bool.false_eq_true, if_false]
      rw [wr64 (n := (i : Int) + 1) (by omega) (by omega), wr64 (by omega) (by omega)]
      have e1 : k + (i : Int) + 1 = k + ((i + 1 : Nat) : Int) := by push_cast; omega
      have e2 : (i : Int) + 1 = ((i + 1 : Nat) : Int) := by push_cast; rfl
      rw [e1, e2])
    (by
      rintro s rfl
      exact ⟨_, by simp, rfl⟩)
  rw [e]; rfl
theorem p_eqIntSS {l : List (List Int)} (hl : l.length ≤ 1048576) (hv : ∀ x ∈ l, x.length ≤ 1048576) : F_laws_eqIntSS l l = some true := by
  unfold F_laws_eqIntSS
  simp only [bne_self_eq_false, Bool.false_eq_true, if_false]
  obtain ⟨b, hb, hp⟩ := cloop_post (β := Unit ⊕ Bool) (σ := Int) (step := fun s14 =>
    if decide (s14 < (l.length : Int)) = true then (
    (ix l s14).bind fun x25 =>
    (ix l s14).bind fun x32 =>
    (F_laws_eqIntS x25 x32).bind fun z39 =>
    if (!z39) = true then (
    some (.out (.inr false))) else (
    some (.go (IntKind.i64.wrap (s14 + 1))))) else (
    some (.out (.inl ())))) (s0 := 0) l.length (fun k s => s = (k : Int)) (fun b => b = .inl ()) rfl
    (by
      rintro k a hk e
      subst e
      have hd : decide ((k : Int) < (l.length : Int)) = true := by simpa using hk
      refine .inl ⟨(k : Int) + 1, ?_, by simp⟩
      simp only [hd, if_true, ix_at hk, Option.bind_some, p_eqIntS (hv _ (List.getElem_mem hk)), Bool.not_true, Bool.false_eq_true, if_false]
      rw [wr64 (by omega) (by omega)])
    (by
      rintro a e
      subst e
      exact ⟨_, by simp, rfl⟩)
  rw [hb, Option.bind_some, hp]; rfl
theorem n_within (a b c : Int) : F_impl_within a b c = some (decide (b ≤ a) && decide (a ≤ c)) := by
  unfold F_impl_within
  by_cases h : b ≤ a <;> simp [h]
theorem n_l1In (a b c : Int) : F_spec_l1In a b c = some (decide (b ≤ a) && decide (a ≤ c)) := by
  unfold F_spec_l1In
  by_cases h : b ≤ a <;> simp [h]
theorem n_isModulus (a : Int) : F_impl_isModulus a = some (decide (2 ≤ a) && decide (a ≤ 2000000000)) := by
  unfold F_impl_isModulus
  rw [n_within]; rfl
theorem tmod_cast (a b : Nat) : (a : Int).tmod (b : Int) = ((a % b : Nat) : Int) := by rw [Int.tmod_eq_emod_of_nonneg (by omega)]; exact (Int.natCast_emod _ _).symm
theorem tdiv_cast (a b : Nat) : (a : Int).tdiv (b : Int) = ((a / b : Nat) : Int) := by rw [Int.tdiv_eq_ediv_of_nonneg (by omega)]; exact (Int.natCast_ediv _ _).symm
theorem mul_cast (a b : Nat) : (a : Int) * (b : Int) = ((a * b : Nat) : Int) := (Int.natCast_mul _ _).symm
theorem and_one {e : Nat} (he : e ≤ 9223372036854775807) : IntKind.i64.wrap (BitVec.ofInt IntKind.i64.bits (e : Int) &&& BitVec.ofInt IntKind.i64.bits 1).toNat = ((e % 2 : Nat) : Int) := by
  have h1 : (BitVec.ofInt IntKind.i64.bits (e : Int) &&& BitVec.ofInt IntKind.i64.bits 1).toNat = e % 2 := by
    rw [BitVec.toNat_and]
    have a1 : (BitVec.ofInt IntKind.i64.bits (e : Int)).toNat = e := by
      rw [BitVec.toNat_ofInt]
      have : IntKind.i64.bits = 64 := rfl
      rw [this]
      omega
    have a2 : (BitVec.ofInt IntKind.i64.bits 1).toNat = 1 := by decide
    rw [a1, a2, Nat.and_one_is_mod]
  rw [h1, wr64 (by omega) (by omega)]
-- powers
theorem n_power {a e m : Nat} (ha : a ≤ 2000000000) (hm : 1 ≤ m) (hm2 : m ≤ 2000000000) (he : e ≤ 9223372036854775807) : F_impl_power (a : Int) (e : Int) (m : Int) = some ((a ^ e % m : Nat) : Int) := by
  unfold F_impl_power
  refine eq_of_rn (rn_gd (by omega) (rn_then (φ := (· = ((a ^ e % m : Nat) : Int))) (rn_wloop (φ := (· = ((a ^ e % m : Nat) : Int))) (fun s => ∃ x y o : Nat, s = ((x : Int), (y : Int), (o : Int)) ∧ x ≤ 2000000000 ∧ y ≤ e ∧ o < m ∧ o * x ^ y % m = a ^ e % m) (fun s => s.2.1.toNat)
    ⟨a, e, 1 % m, by rw [show (1 : Int) = ((1 : Nat) : Int) from rfl, tmod_cast], ha, Nat.le_refl _, Nat.mod_lt _ (by omega), by rw [Nat.mod_mul_mod, Nat.one_mul]⟩ ?_) fun x hx => rn_some hx))
  rintro s ⟨x, y, o, rfl, hx, hy, ho, hi⟩
  refine rn_if (fun h0 => ?_) fun h0 => ?_
  · have h0 : 0 < y := by simpa using h0
    have hox : o * x ≤ 4000000000000000000 := Nat.le_trans (Nat.mul_le_mul (show o ≤ 2000000000 by omega) hx) (by decide)
    have hxx : x * x ≤ 4000000000000000000 := Nat.le_trans (Nat.mul_le_mul hx hx) (by decide)
    refine rn_then (ψ := fun o' => ∃ k : Nat, o' = (k : Int) ∧ k < m ∧ k * (x * x) ^ (y / 2) % m = a ^ e % m) ?_ ?_
    · simp only [and_one (show y ≤ 9223372036854775807 by omega)]
      refine rn_if (fun h1 => rn_gd (by omega) (rn_some ⟨o * x % m, ?_, Nat.mod_lt _ (by omega), ?_⟩)) fun h1 => rn_some ⟨o, rfl, ho, ?_⟩
      · rw [mul_cast, wr64 (by omega) (by omega), tmod_cast]
      · have h1 : y % 2 = 1 := by
          have : ((y % 2 : Nat) : Int) = 1 := by simpa using h1
          omega
        rw [Nat.mod_mul_mod, ← hi, ← Nat.pow_two, ← Nat.pow_mul, Nat.mul_assoc, ← Nat.pow_succ']
        congr 3; omega
      · have h1 : y % 2 = 0 := by
          have : ¬ ((y % 2 : Nat) : Int) = 1 := by simpa using h1
          omega
        rw [← hi, ← Nat.pow_two, ← Nat.pow_mul]
        congr 3; omega
    · rintro o' ⟨k, rfl, hk, hk2⟩
      refine rn_gd (by omega) (rn_some ⟨⟨x * x % m, y / 2, k, ?_, by have := Nat.mod_lt (x * x) (show 0 < m by omega); omega, by omega, hk, ?_⟩, ?_⟩)
      · rw [mul_cast, wr64 (by omega) (by omega), tmod_cast]
        have e3 : (y : Int).fdiv 2 = ((y / 2 : Nat) : Int) := by rw [Int.fdiv_eq_ediv_of_nonneg _ (by omega)]; rfl
        show (_, (y : Int).fdiv 2, _) = _
        rw [e3]
      · rw [Nat.mul_mod, ← Nat.pow_mod, ← Nat.mul_mod]
        exact hk2
      · show ((y : Int).fdiv 2).toNat < (y : Int).toNat
        rw [Int.fdiv_eq_ediv_of_nonneg _ (by omega)]
        omega
  · have h0 : y = 0 := by
      have : ¬ (0 < y) := by simpa using h0
      omega
    subst h0
    refine rn_some ?_
    show (o : Int) = _
    rw [Nat.pow_zero, Nat.mul_one, Nat.mod_eq_of_lt ho] at hi
    rw [hi]
theorem n_nPower {a e m : Nat} (ha : a ≤ 2000000000) (hm : 1 ≤ m) (hm2 : m ≤ 2000000000) (he : e ≤ 9223372036854775807) : F_spec_nPower (a : Int) (e : Int) (m : Int) = some ((a ^ e % m : Nat) : Int) := by
  unfold F_spec_nPower
  refine eq_of_rn (rn_gd (by omega) (rn_then (φ := (· = ((a ^ e % m : Nat) : Int))) (rn_wloop (φ := (· = ((a ^ e % m : Nat) : Int))) (fun s => ∃ x y o : Nat, s = ((x : Int), (y : Int), (o : Int)) ∧ x ≤ 2000000000 ∧ y ≤ e ∧ o < m ∧ o * x ^ y % m = a ^ e % m) (fun s => s.2.1.toNat)
    ⟨a, e, 1 % m, by rw [show (1 : Int) = ((1 : Nat) : Int) from rfl, tmod_cast], ha, Nat.le_refl _, Nat.mod_lt _ (by omega), by rw [Nat.mod_mul_mod, Nat.one_mul]⟩ ?_) fun x hx => rn_some hx))
  rintro s ⟨x, y, o, rfl, hx, hy, ho, hi⟩
  refine rn_if (fun h0 => ?_) fun h0 => ?_
  · have h0 : 0 < y := by simpa using h0
    have hox : o * x ≤ 4000000000000000000 := Nat.le_trans (Nat.mul_le_mul (show o ≤ 2000000000 by omega) hx) (by decide)
    have hxx : x * x ≤ 4000000000000000000 := Nat.le_trans (Nat.mul_le_mul hx hx) (by decide)
    have e2 : (y : Int).tmod 2 = ((y % 2 : Nat) : Int) := tmod_cast y 2
    refine rn_then (ψ := fun o' => ∃ k : Nat, o' = (k : Int) ∧ k < m ∧ k * (x * x) ^ (y / 2) % m = a ^ e % m) ?_ ?_
    · simp only [e2]
      refine rn_if (fun h1 => rn_gd (by omega) (rn_some ⟨o * x % m, ?_, Nat.mod_lt _ (by omega), ?_⟩)) fun h1 => rn_some ⟨o, rfl, ho, ?_⟩
      · rw [mul_cast, wr64 (by omega) (by omega), tmod_cast]
      · have h1 : y % 2 = 1 := by
          have : ((y % 2 : Nat) : Int) = 1 := by simpa using h1
          omega
        rw [Nat.mod_mul_mod, ← hi, ← Nat.pow_two, ← Nat.pow_mul, Nat.mul_assoc, ← Nat.pow_succ']
        congr 3; omega
      · have h1 : y % 2 = 0 := by
          have : ¬ ((y % 2 : Nat) : Int) = 1 := by simpa using h1
          omega
        rw [← hi, ← Nat.pow_two, ← Nat.pow_mul]
        congr 3; omega
    · rintro o' ⟨k, rfl, hk, hk2⟩
      have e3 : (y : Int).tdiv 2 = ((y / 2 : Nat) : Int) := tdiv_cast y 2
      refine rn_gd (by omega) (rn_some ⟨⟨x * x % m, y / 2, k, ?_, by have := Nat.mod_lt (x * x) (show 0 < m by omega); omega, by omega, hk, ?_⟩, ?_⟩)
      · simp only [e3]
        rw [mul_cast, wr64 (n := ((x * x : Nat) : Int)) (by omega) (by omega), tmod_cast, wr64 (n := ((y / 2 : Nat) : Int)) (by omega) (by omega)]
      · rw [Nat.mul_mod, ← Nat.pow_mod, ← Nat.mul_mod]
        exact hk2
      · show (IntKind.i64.wrap ((y : Int).tdiv 2)).toNat < (y : Int).toNat
        rw [e3, wr64 (by omega) (by omega)]
        omega
  · have h0 : y = 0 := by
      have : ¬ (0 < y) := by simpa using h0
      omega
    subst h0
    refine rn_some ?_
    show (o : Int) = _
    rw [Nat.pow_zero, Nat.mul_one, Nat.mod_eq_of_lt ho] at hi
    rw [hi]
-- primes
def Pr (n : Nat) : Prop := 2 ≤ n ∧ ∀ d, 2 ≤ d → d * d ≤ n → n % d ≠ 0
open Classical in
noncomputable def prB (n : Int) : Bool := decide (Pr n.toNat)
theorem prB_t {n : Nat} : prB (n : Int) = true ↔ Pr n := by simp [prB]
theorem n_nPrime (n : Int) (h : n ≤ 2000000000) : F_spec_nPrime n = some (prB n) := by
  unfold F_spec_nPrime
  refine eq_of_rn (rn_if (fun h0 => rn_some ?_) fun h0 => ?_)
  · have h0 : n < 2 := by simpa using h0
    symm
    unfold prB
    rw [decide_eq_false_iff_not]
    intro hp
    have := hp.1
    omega
  · have h0 : ¬ n < 2 := by simpa using h0
    obtain ⟨n, rfl⟩ := Int.eq_ofNat_of_zero_le (show 0 ≤ n by omega)
    refine rn_then (ψ := fun b => (b = .inl () ∧ Pr n) ∨ (b = .inr false ∧ ¬ Pr n)) (rn_wloop (fun s => ∃ d : Nat, s = (d : Int) ∧ 2 ≤ d ∧ d ≤ 44723 ∧ ∀ k, 2 ≤ k → k < d → k * k ≤ n → n % k ≠ 0) (fun s => 50000 - s.toNat) ⟨2, rfl, by omega, by omega, fun k h1 h2 => by omega⟩ ?_) ?_
    · rintro s ⟨d, rfl, hd, hd2, hi⟩
      have hdd : d * d ≤ 2000146729 := Nat.le_trans (Nat.mul_le_mul hd2 hd2) (by decide)
      rw [mul_cast, wr64 (by omega) (by omega)]
      refine rn_if (fun h1 => rn_gd (by omega) (rn_if (fun h2 => rn_some (.inr ⟨rfl, ?_⟩)) fun h2 => rn_some ?_)) fun h1 => rn_some (.inl ⟨rfl, by omega, fun k hk hkn => ?_⟩)
      · have h1 : d * d ≤ n := by have := of_decide_eq_true h1; omega
        rw [tmod_cast] at h2
        have h2 : n % d = 0 := by have : ((n % d : Nat) : Int) = 0 := by simpa using h2
                                  omega
        exact fun hp => hp.2 d hd h1 h2
      · have h1 : d * d ≤ n := by have := of_decide_eq_true h1; omega
        rw [tmod_cast] at h2
        have h2 : n % d ≠ 0 := by have : ¬ ((n % d : Nat) : Int) = 0 := by simpa using h2
                                  omega
        have hd3 : d ≤ 44722 := by
          rcases Nat.lt_or_ge d 44723 with h | h
          · omega
          · have : 44723 * 44723 ≤ d * d := Nat.mul_le_mul h h
            omega
        rw [wr64 (by omega) (by omega)]
        refine ⟨⟨d + 1, rfl, by omega, by omega, fun k h3 h4 h5 => ?_⟩, by omega⟩
        rcases Nat.lt_or_ge k d with h | h
        · exact hi k h3 h h5
        · have : k = d := by omega
          subst this
          exact h2
      · have h1 : n < d * d := by have := of_decide_eq_false h1; omega
        rcases Nat.lt_or_ge k d with h | h
        · exact hi k hk h hkn
        · have := Nat.mul_le_mul h h
          omega
    · rintro b (⟨rfl, hp⟩ | ⟨rfl, hp⟩)
      · exact rn_some (prB_t.2 hp).symm
      · refine rn_some ?_
        symm
        unfold prB
        rw [decide_eq_false_iff_not]
        exact hp
theorem n_isPrime (n : Int) : F_impl_isPrime n = some (decide (n ≤ 2000000000) && prB n) := by
  unfold F_impl_isPrime
  by_cases h : 2 ≤ n ∧ n ≤ 2000000000
  · obtain ⟨n, rfl⟩ := Int.eq_ofNat_of_zero_le (show 0 ≤ n by omega)
    have e2 : ((n : Int)).tmod 2 = ((n % 2 : Nat) : Int) := tmod_cast n 2
    have em : (decide (2 ≤ (n : Int)) && decide ((n : Int) ≤ 2000000000)) = true := by simp only [Bool.and_eq_true, decide_eq_true_eq]; exact h
    rw [show (decide ((n : Int) ≤ 2000000000) && prB (n : Int)) = prB (n : Int) by simp [h.2]]
    refine eq_of_rn (rn_then (ψ := fun b => b = decide (n % 2 = 0 ∧ n ≠ 2)) (rn_call (n_isModulus _) ?_) ?_)
    · rw [em]
      refine rn_f rfl ?_
      rw [e2]
      refine rn_if (fun h1 => rn_some ?_) fun h1 => rn_some ?_
      · have h1 : n % 2 = 0 := by have : ((n % 2 : Nat) : Int) = 0 := by simpa using h1
                                  omega
        have : ((n : Int) != 2) = decide (n ≠ 2) := by
          by_cases hn : n = 2
          · subst hn; rfl
          · have hn' : ¬ (n : Int) = 2 := by omega
            simp [hn, hn']
        rw [this]; simp [h1]
      · have h1 : n % 2 ≠ 0 := by have : ¬ ((n % 2 : Nat) : Int) = 0 := by simpa using h1
                                  omega
        simp [h1]
    · rintro b rfl
      refine rn_if (fun h1 => rn_some ?_) fun h1 => ?_
      · have h1 := of_decide_eq_true h1
        symm
        unfold prB
        rw [decide_eq_false_iff_not]
        intro hp
        have hn : 4 ≤ n := by omega
        exact hp.2 2 (by omega) hn h1.1
      · have h1 := of_decide_eq_false h1
        refine rn_then (ψ := fun b => (b = .inl () ∧ Pr n) ∨ (b = .inr false ∧ ¬ Pr n)) (rn_wloop (fun s => ∃ d : Nat, s = (d : Int) ∧ 3 ≤ d ∧ d % 2 = 1 ∧ d ≤ 44725 ∧ ∀ k, 2 ≤ k → k < d → k * k ≤ n → n % k ≠ 0) (fun s => 50000 - s.toNat) ⟨3, rfl, by omega, by omega, by omega, fun k h2 h3 h4 => ?_⟩ ?_) ?_
        · have : k = 2 := by omega
          subst this
          intro h5
          exact h1 ⟨h5, by omega⟩
        · rintro s ⟨d, rfl, hd, hodd, hd2, hi⟩
          have hdd : d * d ≤ 2000325625 := Nat.le_trans (Nat.mul_le_mul hd2 hd2) (by decide)
          rw [mul_cast, wr64 (by omega) (by omega)]
          refine rn_if (fun h1 => rn_gd (by omega) (rn_if (fun h2 => rn_some (.inr ⟨rfl, ?_⟩)) fun h2 => rn_some ?_)) fun h1 => rn_some (.inl ⟨rfl, by omega, fun k hk hkn => ?_⟩)
          · have h1 : d * d ≤ n := by have := of_decide_eq_true h1; omega
            rw [tmod_cast] at h2
            have h2 : n % d = 0 := by have : ((n % d : Nat) : Int) = 0 := by simpa using h2
                                      omega
            exact fun hp => hp.2 d (by omega) h1 h2
          · have h3 : d * d ≤ n := by have := of_decide_eq_true h1; omega
            rw [tmod_cast] at h2
            have h2 : n % d ≠ 0 := by have : ¬ ((n % d : Nat) : Int) = 0 := by simpa using h2
                                      omega
            have hd3 : d ≤ 44722 := by
              rcases Nat.lt_or_ge d 44723 with h | h
              · omega
              · have : 44723 * 44723 ≤ d * d := Nat.mul_le_mul h h
                omega
            rw [wr64 (by omega) (by omega)]
            refine ⟨⟨d + 2, rfl, by omega, by omega, by omega, fun k h4 h5 h6 h7 => ?_⟩, by omega⟩
            rcases Nat.lt_or_ge k d with h | h
            · exact hi k h4 h h6 h7
            · rcases (show k = d ∨ k = d + 1 by omega) with e | e
              · subst e; exact h2 h7
              · -- an even divisor
                have h8 : n % 2 = 0 := by
                  have a1 : k ∣ n := Nat.dvd_of_mod_eq_zero h7
                  have a2 : 2 ∣ k := Nat.dvd_of_mod_eq_zero (by omega)
                  exact Nat.mod_eq_zero_of_dvd (Nat.dvd_trans a2 a1)
                have h9 : 2 * 2 ≤ n := by
                  have := Nat.mul_le_mul h4 h4
                  omega
                exact hi 2 (by omega) (by omega) h9 h8
          · have h1 : n < d * d := by have := of_decide_eq_false h1; omega
            rcases Nat.lt_or_ge k d with h | h
            · exact hi k hk h hkn
            · have := Nat.mul_le_mul h h
              omega
        · rintro b (⟨rfl, hp⟩ | ⟨rfl, hp⟩)
          · exact rn_some (prB_t.2 hp).symm
          · refine rn_some ?_
            symm
            unfold prB
            rw [decide_eq_false_iff_not]
            exact hp
  · have em : (decide (2 ≤ n) && decide (n ≤ 2000000000)) = false := by
      rw [Bool.and_eq_false_iff, decide_eq_false_iff_not, decide_eq_false_iff_not]; omega
    rw [n_isModulus, em]
    simp only [Option.bind_some, Bool.not_false, if_true]
    congr 1
    symm
    rw [Bool.and_eq_false_iff, decide_eq_false_iff_not]
    by_cases hn : n ≤ 2000000000
    · right
      unfold prB
      rw [decide_eq_false_iff_not]
      intro hp
      have := hp.1
      omega
    · exact .inl hn
structure OkG (gr : Group) : Prop where
  p : 3 ≤ gr.P ∧ gr.P ≤ 2000000000
  q : 2 ≤ gr.Q ∧ gr.Q ≤ gr.P - 1
  d : (gr.P.toNat - 1) % gr.Q.toNat = 0
  g : 2 ≤ gr.G ∧ gr.G ≤ gr.P - 1
  pp : Pr gr.P.toNat
  pq : Pr gr.Q.toNat
  o : gr.G.toNat ^ gr.Q.toNat % gr.P.toNat = 1
open Classical in
noncomputable def okG (gr : Group) : Bool := decide (OkG gr)
theorem okG_t {gr : Group} : okG gr = true ↔ OkG gr := by simp [okG]
theorem okG_f {gr : Group} (h : ¬ OkG gr) : okG gr = false := by simp [okG, h]
theorem okG_of {gr : Group} {b : Bool} (h1 : b = true → OkG gr) (h2 : OkG gr → b = true) : b = okG gr := by
  cases hb : b with
  | true => exact (okG_t.2 (h1 hb)).symm
  | false => exact (okG_f fun h => by rw [h2 h] at hb; cases hb).symm
theorem cast_eq {a : Int} (h : 0 ≤ a) : a = ((a.toNat : Nat) : Int) := by omega
theorem n_powI {a e m : Int} (ha : 0 ≤ a) (ha2 : a ≤ 2000000000) (hm : 1 ≤ m) (hm2 : m ≤ 2000000000) (he : 0 ≤ e) (he2 : e ≤ 9223372036854775807) : F_impl_power a e m = some ((a.toNat ^ e.toNat % m.toNat : Nat) : Int) ∧ F_spec_nPower a e m = some ((a.toNat ^ e.toNat % m.toNat : Nat) : Int) := by
  have h1 := n_power (a := a.toNat) (e := e.toNat) (m := m.toNat) (by omega) (by omega) (by omega) (by omega)
  have h2 := n_nPower (a := a.toNat) (e := e.toNat) (m := m.toNat) (by omega) (by omega) (by omega) (by omega)
  rw [← cast_eq ha, ← cast_eq he, ← cast_eq (show 0 ≤ m by omega)] at h1 h2
  exact ⟨h1, h2⟩
theorem and_iff_t {a b : Bool} : (a && b) = true ↔ a = true ∧ b = true := by simp
theorem n_validG (gr : Group) : F_impl_IsValidGroup gr = some (okG gr) := by
  unfold F_impl_IsValidGroup
  refine eq_of_rn (rn_then (ψ := fun b => b = okG gr) ?_ fun b hb => rn_some hb)
  refine rn_call (n_within _ _ _) (rn_if (fun h => ?_) fun h => ?_)
  · have hp : 3 ≤ gr.P ∧ gr.P ≤ 2000000000 := by simpa using h
    rw [wr64 (n := gr.P - 1) (by omega) (by omega)]
    refine rn_call (n_within _ _ _) (rn_if (fun h => ?_) fun h => ?_)
    · have hq : 2 ≤ gr.Q ∧ gr.Q ≤ gr.P - 1 := by simpa using h
      have ed : (gr.P - 1).tmod gr.Q = (((gr.P.toNat - 1) % gr.Q.toNat : Nat) : Int) := by
        rw [cast_eq (show 0 ≤ gr.P - 1 by omega), cast_eq (show 0 ≤ gr.Q by omega), tmod_cast]
        simp only [Int.toNat_natCast]
        congr 2; omega
      refine rn_gd (by omega) ?_
      rw [ed]
      refine rn_if (fun h => ?_) fun h => ?_
      · have hd : (gr.P.toNat - 1) % gr.Q.toNat = 0 := by
          have : (((gr.P.toNat - 1) % gr.Q.toNat : Nat) : Int) = 0 := by simpa using h
          omega
        refine rn_call (n_within _ _ _) (rn_if (fun h => ?_) fun h => ?_)
        · have hg : 2 ≤ gr.G ∧ gr.G ≤ gr.P - 1 := by simpa using h
          refine rn_call (n_isPrime _) (rn_if (fun h => ?_) fun h => ?_)
          · have hpp : Pr gr.P.toNat := by
              rw [and_iff_t, cast_eq (show 0 ≤ gr.P by omega), prB_t] at h
              exact h.2
            refine rn_call (n_isPrime _) (rn_if (fun h => ?_) fun h => ?_)
            · have hpq : Pr gr.Q.toNat := by
                rw [and_iff_t, cast_eq (show 0 ≤ gr.Q by omega), prB_t] at h
                exact h.2
              refine rn_call (n_powI (a := gr.G) (e := gr.Q) (m := gr.P) (by omega) (by omega) (by omega) (by omega) (by omega) (by omega)).1 (rn_some (okG_of (fun h => ⟨hp, hq, hd, hg, hpp, hpq, ?_⟩) fun h => ?_))
              · have : ((gr.G.toNat ^ gr.Q.toNat % gr.P.toNat : Nat) : Int) = 1 := by simpa using h
                omega
              · rw [h.o]; rfl
            · refine rn_some (okG_f fun hk => ?_).symm
              have : (decide (gr.Q ≤ 2000000000) && prB gr.Q) = true := by
                rw [and_iff_t, cast_eq (show 0 ≤ gr.Q by omega), prB_t]
                exact ⟨by simp; omega, hk.pq⟩
              rw [this] at h; cases h
          · refine rn_some (okG_f fun hk => ?_).symm
            have : (decide (gr.P ≤ 2000000000) && prB gr.P) = true := by
              rw [and_iff_t, cast_eq (show 0 ≤ gr.P by omega), prB_t]
              exact ⟨by simp; omega, hk.pp⟩
            rw [this] at h; cases h
        · refine rn_some (okG_f fun hk => ?_).symm
          have := hk.g
          simp at h; omega
      · refine rn_some (okG_f fun hk => ?_).symm
        rw [hk.d] at h; cases h
    · refine rn_some (okG_f fun hk => ?_).symm
      have := hk.q
      simp at h; omega
  · refine rn_some (okG_f fun hk => ?_).symm
    have := hk.p
    simp at h; omega
theorem n_l2Good (gr : Group) : F_spec_l2Good gr = some (okG gr) := by
  unfold F_spec_l2Good
  refine eq_of_rn (rn_then (ψ := fun b => b = okG gr) ?_ fun b hb => rn_some hb)
  refine rn_call (n_l1In _ _ _) (rn_if (fun h => ?_) fun h => ?_)
  · have hp : 3 ≤ gr.P ∧ gr.P ≤ 2000000000 := by simpa using h
    rw [wr64 (n := gr.P - 1) (by omega) (by omega)]
    refine rn_call (n_l1In _ _ _) (rn_if (fun h => ?_) fun h => ?_)
    · have hq : 2 ≤ gr.Q ∧ gr.Q ≤ gr.P - 1 := by simpa using h
      have ed : (gr.P - 1).tmod gr.Q = (((gr.P.toNat - 1) % gr.Q.toNat : Nat) : Int) := by
        rw [cast_eq (show 0 ≤ gr.P - 1 by omega), cast_eq (show 0 ≤ gr.Q by omega), tmod_cast]
        simp only [Int.toNat_natCast]
        congr 2; omega
      refine rn_gd (by omega) ?_
      rw [ed]
      refine rn_if (fun h => ?_) fun h => ?_
      · have hd : (gr.P.toNat - 1) % gr.Q.toNat = 0 := by
          have : (((gr.P.toNat - 1) % gr.Q.toNat : Nat) : Int) = 0 := by simpa using h
          omega
        refine rn_call (n_l1In _ _ _) (rn_if (fun h => ?_) fun h => ?_)
        · have hg : 2 ≤ gr.G ∧ gr.G ≤ gr.P - 1 := by simpa using h
          refine rn_call (n_powI (a := gr.G) (e := gr.Q) (m := gr.P) (by omega) (by omega) (by omega) (by omega) (by omega) (by omega)).2 (rn_if (fun h => ?_) fun h => ?_)
          · have ho : gr.G.toNat ^ gr.Q.toNat % gr.P.toNat = 1 := by
              have : ((gr.G.toNat ^ gr.Q.toNat % gr.P.toNat : Nat) : Int) = 1 := by simpa using h
              omega
            refine rn_call (n_nPrime _ (by omega)) (rn_if (fun h => ?_) fun h => ?_)
            · have hpq : Pr gr.Q.toNat := by
                rw [cast_eq (show 0 ≤ gr.Q by omega), prB_t] at h
                exact h
              refine rn_call (n_nPrime _ (by omega)) (rn_some (okG_of (fun h => ⟨hp, hq, hd, hg, ?_, hpq, ho⟩) fun h => ?_))
              · rw [cast_eq (show 0 ≤ gr.P by omega), prB_t] at h
                exact h
              · rw [cast_eq (show 0 ≤ gr.P by omega), prB_t]
                exact h.pp
            · refine rn_some (okG_f fun hk => ?_).symm
              have : prB gr.Q = true := by
                rw [cast_eq (show 0 ≤ gr.Q by omega), prB_t]
                exact hk.pq
              rw [this] at h; cases h
          · refine rn_some (okG_f fun hk => ?_).symm
            rw [hk.o] at h; cases h
        · refine rn_some (okG_f fun hk => ?_).symm
          have := hk.g
          simp at h; omega
      · refine rn_some (okG_f fun hk => ?_).symm
        rw [hk.d] at h; cases h
    · refine rn_some (okG_f fun hk => ?_).symm
      have := hk.q
      simp at h; omega
  · refine rn_some (okG_f fun hk => ?_).symm
    have := hk.p
    simp at h; omega
theorem n_l1All (l : List Int) (a b : Int) : F_spec_l1All l a b = some (l.all fun x => decide (a ≤ x) && decide (x ≤ b)) := by
  unfold F_spec_l1All
  refine eq_of_rn (rn_then (ψ := fun c => (c = .inl () ∧ (l.all fun x => decide (a ≤ x) && decide (x ≤ b)) = true) ∨ (c = .inr false ∧ (l.all fun x => decide (a ≤ x) && decide (x ≤ b)) = false)) (rn_rloop (fun i s => ((l.take i).all fun x => decide (a ≤ x) && decide (x ≤ b)) = true) rfl ?_ ?_) ?_)
  · rintro i s hi hI
    refine rn_ix hi (rn_call (n_l1In _ _ _) (rn_if (fun h => rn_some (.inr ⟨rfl, ?_⟩)) fun h => rn_some ?_))
    · rw [List.all_eq_false]
      exact ⟨l[i], List.getElem_mem hi, by rw [Bool.not_eq_true'] at h; rw [h]; simp⟩
    · show ((l.take (i + 1)).all fun x => decide (a ≤ x) && decide (x ≤ b)) = true
      rw [List.take_succ_eq_append_getElem hi, List.all_append, hI]
      simpa using h
  · rintro s hI
    rw [List.take_length] at hI
    exact .inl ⟨rfl, hI⟩
  · rintro c (⟨rfl, h⟩ | ⟨rfl, h⟩)
    · exact rn_some h.symm
    · exact rn_some h.symm
theorem ite_n {α : Type} (b : Bool) (u v : α) : (if b = true then some u else some v) = some (if (!b) = true then v else u) := by cases b <;> rfl
theorem ite_m {α : Type} (b : Bool) (u v : α) : (if (!b) = true then some u else some v) = some (if b = true then v else u) := by cases b <;> rfl
theorem n_first {β : Type} {body : Int → Unit → Option (Stp Unit (Unit ⊕ β))} (m : Nat) (p : Nat → Bool) (val : Nat → β) (h : ∀ k, k < m → body (k : Int) () = some (if p k = true then .go () else .out (.inr (val k)))) :
    (rloop body (fun _ => .inl ()) m 0 () = some (.inl ()) ∧ ∀ k, k < m → p k = true) ∨ ∃ k, k < m ∧ p k = false ∧ (∀ j, j < k → p j = true) ∧ rloop body (fun _ => .inl ()) m 0 () = some (.inr (val k)) := by
  have key : Rn (rloop body (fun _ => Sum.inl ()) m 0 ()) (fun b => (b = .inl () ∧ ∀ k, k < m → p k = true) ∨ ∃ k, k < m ∧ p k = false ∧ (∀ j, j < k → p j = true) ∧ b = .inr (val k)) := by
    refine rn_rloop (fun k _ => ∀ j, j < k → p j = true) (fun j hj => by omega) ?_ fun s hs => .inl ⟨rfl, hs⟩
    intro k s hk hI
    refine ⟨_, h k hk, ?_⟩
    cases hp : p k with
    | true =>
      intro j hj
      rcases Nat.lt_or_ge j k with h | h
      · exact hI j h
      · have : j = k := by omega
        rw [this]; exact hp
    | false => exact .inr ⟨k, hk, hp, hI, rfl⟩
  obtain ⟨b, e, h1 | ⟨k, h1, h2, h3, h4⟩⟩ := key
  · exact .inl ⟨by rw [e, h1.1], h1.2⟩
  · exact .inr ⟨k, h1, h2, h3, by rw [e, h4]⟩
theorem n_all {α : Type} (l : List α) (p : α → Bool) (c : Bool) {body : Int → Unit → Option (Stp Unit (Unit ⊕ Bool))} (h : ∀ k (hk : k < l.length), body (k : Int) () = some (if p l[k] = true then .go () else .out (.inr c))) :
    (rloop body (fun _ => .inl ()) l.length 0 ()).bind (Sum.elim (fun _ => some (!c)) some) = some (if l.all p = true then !c else c) := by
  rcases n_first (body := body) l.length (fun k => (l[k]?).any p) (fun _ => c) (fun k hk => by rw [h k hk, List.getElem?_eq_getElem hk]; rfl) with ⟨e, h1⟩ | ⟨k, h1, h2, h3, e⟩
  · rw [e]
    have : l.all p = true := by
      rw [List.all_eq_true]
      intro x hx
      obtain ⟨k, hk, rfl⟩ := List.mem_iff_getElem.1 hx
      have := h1 k hk
      rw [List.getElem?_eq_getElem hk] at this
      exact this
    rw [this]; rfl
  · rw [e]
    have : l.all p = false := by
      rw [List.all_eq_false]
      refine ⟨l[k], List.getElem_mem h1, ?_⟩
      rw [List.getElem?_eq_getElem h1] at h2
      simpa using h2
    rw [this]; rfl
theorem n_l1Has (l : List Int) (x : Int) : F_spec_l1Has l x = some (l.contains x) := by
  unfold F_spec_l1Has
  have := n_all l (fun y => !(y == x)) true (body := fun i8 s7 => (ix l i8).bind fun x17 => if (x17 == x) = true then some (.out (.inr true)) else some (.go ())) fun k hk => by
    rw [ix_at hk, Option.bind_some]
    exact ite_n _ _ _
  rw [show (!true) = false from rfl] at this
  refine this.trans ?_
  congr 1
  cases hc : l.contains x with
  | true =>
    have hm : x ∈ l := by simpa using hc
    have : (l.all fun y => !(y == x)) = false := by
      rw [List.all_eq_false]
      exact ⟨x, hm, by simp⟩
    rw [this]; rfl
  | false =>
    have hm : ¬ x ∈ l := by simpa using hc
    have : (l.all fun y => !(y == x)) = true := by
      rw [List.all_eq_true]
      intro y hy
      have : y ≠ x := fun e => hm (e ▸ hy)
      simp [this]
    rw [this]; rfl
theorem n_index (l : List Int) (x : Int) : (F_slices_Index_int_int l x = some (-1) ∧ ¬ x ∈ l) ∨ ∃ k, ∃ h : k < l.length, F_slices_Index_int_int l x = some (k : Int) ∧ l[k] = x ∧ ∀ j (hj : j < k), l[j]'(by omega) ≠ x := by
  unfold F_slices_Index_int_int
  rcases n_first l.length (fun k => (l[k]?).any fun y => !(x == y)) (fun k => (k : Int)) (body := fun i8 s7 => (ix l i8).bind fun x17 => if (x == x17) = true then some (.out (.inr i8)) else some (.go ())) (fun k hk => by
    rw [ix_at hk, Option.bind_some, List.getElem?_eq_getElem hk]
    exact ite_n _ _ _) with ⟨e, h1⟩ | ⟨k, h1, h2, h3, e⟩
  · refine .inl ⟨by rw [e]; rfl, fun hx => ?_⟩
    obtain ⟨k, hk, rfl⟩ := List.mem_iff_getElem.1 hx
    have := h1 k hk
    rw [List.getElem?_eq_getElem hk] at this
    simp at this
  · refine .inr ⟨k, h1, by rw [e]; rfl, ?_, fun j hj => ?_⟩
    · rw [List.getElem?_eq_getElem h1] at h2
      simp at h2
      exact h2.symm
    · have := h3 j hj
      rw [List.getElem?_eq_getElem (by omega)] at this
      simp at this
      exact fun e => this e.symm
theorem n_contains (l : List Int) (x : Int) : F_slices_Contains_int_int l x = some (l.contains x) := by
  unfold F_slices_Contains_int_int
  rcases n_index l x with ⟨e, h⟩ | ⟨k, hk, e, h, _⟩
  · rw [e]
    have : l.contains x = false := by simpa using h
    rw [this]; rfl
  · rw [e]
    have : l.contains x = true := by
      have := List.getElem_mem hk
      rw [h] at this
      simpa using this
    rw [this]
    simp
open Classical in
noncomputable def difB (l : List Int) : Bool := decide l.Nodup
theorem n_diff (l : List Int) (hl : l.length ≤ 1000000000000) : F_impl_areDifferent l = some (difB l) := by
  unfold F_impl_areDifferent
  rcases n_first l.length (fun k => (l[k]?).any fun y => !(l.take k).contains y) (fun _ => false) (body := fun i8 s7 =>
    (ix l i8).bind fun x17 =>
    gd (0 ≤ i8) <|
    gd (0 ≤ i8.toNat ∧ i8.toNat ≤ l.length) <|
    (F_slices_Contains_int_int ((l.take i8.toNat).drop 0) x17).bind fun z26 =>
    if z26 = true then (
    some (.out (.inr false))) else (
    some (.go ()))) (fun k hk => by
      rw [ix_at hk, Option.bind_some, gd_t (by omega), gd_t (by simp; omega), n_contains, List.getElem?_eq_getElem hk, Option.bind_some, Int.toNat_natCast, List.drop_zero]
      exact ite_n _ _ _) with ⟨e, h1⟩ | ⟨k, h1, h2, h3, e⟩
  · rw [e]
    have : difB l = true := by
      unfold difB
      rw [decide_eq_true_eq, List.nodup_iff_pairwise_ne, List.pairwise_iff_getElem]
      intro i j hi hj hij e
      have := h1 j hj
      rw [List.getElem?_eq_getElem hj] at this
      have hm : l[j] ∈ l.take j := by
        rw [← e]
        exact List.mem_iff_getElem.2 ⟨i, by simp; omega, by simp⟩
      have hc : (l.take j).contains l[j] = true := by simpa using hm
      simp only [Option.any_some, hc] at this
      cases this
    rw [this]; rfl
  · rw [e]
    have : difB l = false := by
      unfold difB
      rw [decide_eq_false_iff_not, List.nodup_iff_pairwise_ne, List.pairwise_iff_getElem]
      intro hd
      rw [List.getElem?_eq_getElem h1] at h2
      have hc : (l.take k).contains l[k] = true := by simpa using h2
      have hm : l[k] ∈ l.take k := by simpa using hc
      obtain ⟨i, hi, e⟩ := List.mem_iff_getElem.1 hm
      simp at hi e
      exact hd i k (by omega) h1 (by omega) e
    rw [this]; rfl
theorem areAll_gen {l : List Int} {p : Int → Bool} {f : Int → Option Bool} (hf : ∀ x ∈ l, f x = some (!p x)) :
    ((((rloop (σ := Unit) (β := Unit ⊕ Int) (fun i8 s7 => (ix l i8).bind fun x17 => (f x17).bind fun z20 => if z20 = true then (some (.out (.inr i8))) else (some (.go ()))) (fun s7 => .inl ()) (l.length) 0 () : Option (Unit ⊕ Int)).bind (Sum.elim (fun (x5 : Unit) => some (-1)) some)).bind fun z1 => some (decide (0 ≤ z1))).bind fun z1 => some (!z1)) = some (l.all p) := by
  rcases n_first l.length (fun k => (l[k]?).any p) (fun k => (k : Int)) (body := fun i8 s7 => (ix l i8).bind fun x17 => (f x17).bind fun z20 => if z20 = true then (some (.out (.inr i8))) else (some (.go ()))) (fun k hk => by
    rw [ix_at hk, Option.bind_some, hf _ (List.getElem_mem hk), Option.bind_some, List.getElem?_eq_getElem hk]
    exact ite_m _ _ _) with ⟨e, h1⟩ | ⟨k, h1, h2, h3, e⟩
  · rw [e]
    have : l.all p = true := by
      rw [List.all_eq_true]
      intro x hx
      obtain ⟨k, hk, rfl⟩ := List.mem_iff_getElem.1 hx
      have := h1 k hk
      rw [List.getElem?_eq_getElem hk] at this
      exact this
    rw [this]; rfl
  · rw [e]
    have : l.all p = false := by
      rw [List.all_eq_false]
      refine ⟨l[k], List.getElem_mem h1, ?_⟩
      rw [List.getElem?_eq_getElem h1] at h2
      simpa using h2
    rw [this]
    simp
def dg (q : Nat) : Nat → Nat → List Int
  | 0, _ => []
  | k + 1, n => ((n % q : Nat) : Int) :: dg q k (n / q)
theorem Pr_gcd {n d : Nat} (h : Pr n) (hd : d % n ≠ 0) : Nat.gcd n d = 1 := by
  obtain ⟨k, hk⟩ := Nat.gcd_dvd_left n d
  have hn := h.1
  have h0 : 0 < Nat.gcd n d := Nat.gcd_pos_of_pos_left d (by omega)
  have hdv := Nat.gcd_dvd_right n d
  generalize Nat.gcd n d = g at hk h0 hdv
  apply Classical.byContradiction
  intro hg
  have hg2 : 2 ≤ g := by omega
  have hk2 : 2 ≤ k := by
    rcases Nat.lt_or_ge k 2 with h | h
    · have : k = 0 ∨ k = 1 := by omega
      rcases this with rfl | rfl
      · omega
      · rw [Nat.mul_one] at hk
        rw [← hk] at hdv
        exact absurd (Nat.mod_eq_zero_of_dvd hdv) hd
    · exact h
  rcases Nat.le_total g k with h' | h'
  · exact h.2 g hg2 (by rw [hk]; exact Nat.mul_le_mul_left g h') (by rw [hk]; exact Nat.mul_mod_right g k)
  · exact h.2 k hk2 (by rw [hk]; exact Nat.mul_le_mul_right k h') (by rw [hk]; exact Nat.mul_mod_left g k)
theorem Pr_mul {n : Nat} (h : Pr n) {a b : Int} (hab : (a * b) % (n : Int) = 0) : a % (n : Int) = 0 ∨ b % (n : Int) = 0 := by
  have h1 : n ∣ a.natAbs * b.natAbs := by
    rw [← Int.natAbs_mul]
    exact Int.ofNat_dvd_left.1 (Int.dvd_of_emod_eq_zero hab)
  by_cases ha : a.natAbs % n = 0
  · exact .inl (Int.emod_eq_zero_of_dvd (Int.ofNat_dvd_left.2 (Nat.dvd_of_mod_eq_zero ha)))
  · exact .inr (Int.emod_eq_zero_of_dvd (Int.ofNat_dvd_left.2 (Nat.Coprime.dvd_of_dvd_mul_left (Pr_gcd h ha) h1)))
def byL (s : ByteArray) : List Int := s.data.toList.map fun b => (b.toNat : Int)
theorem byL_len (s : ByteArray) : (byL s).length = s.size := by
  show (s.data.toList.map _).length = s.data.size
  rw [List.length_map, Array.length_toList]
theorem byL_bd (s : ByteArray) : ∀ x ∈ byL s, 0 ≤ x ∧ x ≤ 255 := by
  intro x hx
  obtain ⟨b, _, rfl⟩ := List.mem_map.1 hx
  have := b.toNat_lt
  omega
theorem ixs_at {s : ByteArray} {k : Nat} (h : k < s.size) : ixs s (k : Int) = some ((byL s)[k]'(by rw [byL_len]; exact h)) := by
  have h2 : k < s.data.size := h
  simp [ixs, byL, h]
  rfl
theorem n_with (s : ByteArray) (l : List Int) (hs : s.size ≤ 1000000) (hl : l.length ≤ 1000000000000) : F_spec_l3With s l = some ((s.size : Int) :: byL s ++ l) := by
  unfold F_spec_l3With
  refine eq_of_rn (rn_then (ψ := fun x => x = (s.size : Int) :: byL s) (rn_cloop s.size (fun n p => n ≤ s.size ∧ p = ((s.size : Int) :: (byL s).take n, (n : Int))) ⟨by omega, by simp⟩ ?_ ?_) ?_)
  · rintro n p hn ⟨_, rfl⟩
    have hn2 : n < (byL s).length := by rw [byL_len]; exact hn
    have hb := byL_bd s _ (List.getElem_mem hn2)
    refine rn_if (fun _ => ?_) fun h => absurd h (by simp; omega)
    refine rn_call (ixs_at hn) (rn_gd ?_ (rn_some ⟨by omega, ?_⟩))
    · simp only [List.length_cons, List.length_take, byL_len]; omega
    · show ((s.size : Int) :: (byL s).take n ++ [_], _) = _
      rw [wr64 (by omega) (by omega), wr64 (by omega) (by omega), List.cons_append, List.take_append_getElem hn2]
      rfl
  · rintro p ⟨_, rfl⟩
    refine rn_if (fun h => absurd h (by simp)) fun _ => rn_some ?_
    show (s.size : Int) :: (byL s).take s.size = _
    rw [List.take_of_length_le (by rw [byL_len]; omega)]
  · rintro _ rfl
    refine rn_gd ?_ (rn_some rfl)
    simp only [List.length_cons, byL_len]; omega
theorem n_labelled (s : ByteArray) (l : List Int) (hs : s.size ≤ 1000000) (hl : l.length ≤ 1000000000000) : F_impl_labelled s l = some ((s.size : Int) :: byL s ++ l) := n_with s l hs hl
def digB (x : Int) : Bool := decide (0 ≤ x) && decide (x ≤ 4611686018427387903)
theorem digB_t {x : Int} : digB x = true ↔ 0 ≤ x ∧ x ≤ 4611686018427387903 := by simp [digB]
theorem n_isDigest (x : Int) : F_impl_isDigest x = some (digB x) := by
  unfold F_impl_isDigest
  rw [n_within]; rfl
theorem n_l3Digest (x : Int) : F_spec_l3Digest x = some (digB x) := by
  unfold F_spec_l3Digest
  rw [n_l1In]; rfl
theorem byL_dig (s : ByteArray) : (byL s).all digB = true := by
  rw [List.all_eq_true]
  intro x hx
  have := byL_bd s x hx
  exact digB_t.2 ⟨by omega, by omega⟩
def hs1 (c s k : Int) : Int := (c * s + k + 1) % 2147483647
def absH (p : Int × Int) (x : Int) : Int × Int := (hs1 48271 (hs1 48271 p.1 (x % 2147483648)) (x / 2147483648), hs1 69621 (hs1 69621 p.2 (x % 2147483648)) (x / 2147483648))
def hashN (l : List Int) : Int := let p := (((l.length : Int) :: l).foldl absH (1, 2)); p.1 * 2147483648 + p.2
theorem hs1_bd (c s k : Int) : 0 ≤ hs1 c s k ∧ hs1 c s k ≤ 2147483646 := by unfold hs1; omega
theorem hs1_eq {c s k : Int} (hc : c = 48271 ∨ c = 69621) (hs : 0 ≤ s ∧ s ≤ 2147483646) (hk : 0 ≤ k ∧ k ≤ 2147483648) : (IntKind.i64.wrap ((IntKind.i64.wrap ((IntKind.i64.wrap (c * s)) + k)) + 1)).tmod 2147483647 = hs1 c s k := by
  rcases hc with rfl | rfl
  · rw [wr64 (n := 48271 * s) (by omega) (by omega), wr64 (n := 48271 * s + k) (by omega) (by omega), wr64 (by omega) (by omega), Int.tmod_eq_emod_of_nonneg (by omega)]; rfl
  · rw [wr64 (n := 69621 * s) (by omega) (by omega), wr64 (n := 69621 * s + k) (by omega) (by omega), wr64 (by omega) (by omega), Int.tmod_eq_emod_of_nonneg (by omega)]; rfl
def okP (p : Int × Int) : Prop := (0 ≤ p.1 ∧ p.1 ≤ 2147483646) ∧ (0 ≤ p.2 ∧ p.2 ≤ 2147483646)
theorem absH_ok (p : Int × Int) (x : Int) : okP (absH p x) := ⟨hs1_bd _ _ _, hs1_bd _ _ _⟩
theorem fold_ok : ∀ (l : List Int) (p : Int × Int), okP p → okP (l.foldl absH p)
  | [], _, h => h
  | x :: l, p, _ => fold_ok l _ (absH_ok p x)
theorem hashN_dig (l : List Int) : digB (hashN l) = true := by
  obtain ⟨h1, h2⟩ := fold_ok ((l.length : Int) :: l) (1, 2) ⟨by decide, by decide⟩
  refine digB_t.2 ?_
  unfold hashN
  dsimp only
  omega
theorem n_absorb {p : Int × Int} {x : Int} (hp : okP p) (hx : digB x = true) : F_spec_l3State_absorb__io0 p.1 p.2 x = some (absH p x) := by
  obtain ⟨h1, h2⟩ := hp
  have hx := digB_t.1 hx
  have e1 : x.tmod 2147483648 = x % 2147483648 := Int.tmod_eq_emod_of_nonneg hx.1
  have e2 : IntKind.i64.wrap (x.tdiv 2147483648) = x / 2147483648 := by
    rw [Int.tdiv_eq_ediv_of_nonneg hx.1, wr64 (by omega) (by omega)]
  have b1 : 0 ≤ x % 2147483648 ∧ x % 2147483648 ≤ 2147483648 := by omega
  have b2 : 0 ≤ x / 2147483648 ∧ x / 2147483648 ≤ 2147483648 := by omega
  have h0 : ix [x % 2147483648, x / 2147483648] 0 = some (x % 2147483648) := rfl
  have h1' : ix [x % 2147483648, x / 2147483648] 1 = some (x / 2147483648) := rfl
  unfold F_spec_l3State_absorb__io0
  rw [e1, e2, Option.bind_some, wloop_eq]
  simp only [List.length_cons, List.length_nil, show decide ((0 : Int) < ((0 + 1 + 1 : Nat) : Int)) = true from rfl, if_true, h0, Option.bind_some, hs1_eq (.inl rfl) h1 b1, hs1_eq (.inr rfl) h2 b1]
  rw [wloop_eq]
  simp only [show IntKind.i64.wrap (0 + 1) = 1 from rfl, show decide ((1 : Int) < ((0 + 1 + 1 : Nat) : Int)) = true from rfl, if_true, h1', Option.bind_some, hs1_eq (.inl rfl) (hs1_bd _ _ _) b2, hs1_eq (.inr rfl) (hs1_bd _ _ _) b2]
  rw [wloop_eq]
  simp only [show IntKind.i64.wrap (1 + 1) = 2 from rfl, show decide ((2 : Int) < ((0 + 1 + 1 : Nat) : Int)) = false from rfl, Bool.false_eq_true, if_false, Option.bind_some]
  rfl
theorem all_dig {l : List Int} (h : l.all digB = true) {k : Nat} (hk : k < l.length) : digB l[k] = true := List.all_eq_true.1 h _ (List.getElem_mem hk)
theorem n_hInts {l : List Int} (hl : l.length ≤ 1000000000000) (hd : l.all digB = true) : F_spec_hInts l = some (hashN l) := by
  unfold F_spec_hInts
  have e0 := n_absorb (p := (1, 2)) (x := (l.length : Int)) ⟨by decide, by decide⟩ (digB_t.2 ⟨by omega, by omega⟩)
  refine eq_of_rn (rn_call e0 (rn_then (ψ := fun p => p = ((l.length : Int) :: l).foldl absH (1, 2)) (rn_rloop (fun n p => p = ((l.length : Int) :: l.take n).foldl absH (1, 2)) rfl ?_ ?_) ?_))
  · rintro n p hn rfl
    refine rn_ix hn (rn_call (n_absorb (fold_ok _ _ ⟨by decide, by decide⟩) (all_dig hd hn)) (rn_some ?_))
    show absH _ _ = _
    rw [← List.take_append_getElem hn, ← List.cons_append, List.foldl_append]
    rfl
  · rintro p rfl
    show (((l.length : Int) :: l.take l.length).foldl absH (1, 2)) = _
    rw [List.take_length]
  · rintro p rfl
    obtain ⟨h1, h2⟩ := fold_ok ((l.length : Int) :: l) (1, 2) ⟨by decide, by decide⟩
    refine rn_some ?_
    rw [wr64 (n := _ * 2147483648) (by omega) (by omega), wr64 (by omega) (by omega)]
    rfl
theorem and_mask {x : Int} (hx : digB x = true) : IntKind.i64.wrap (BitVec.ofInt IntKind.i64.bits x &&& BitVec.ofInt IntKind.i64.bits 2147483647).toNat = x % 2147483648 := by
  have hx := digB_t.1 hx
  obtain ⟨n, rfl⟩ := Int.eq_ofNat_of_zero_le hx.1
  have h1 : (BitVec.ofInt IntKind.i64.bits ((n : Nat) : Int) &&& BitVec.ofInt IntKind.i64.bits 2147483647).toNat = n % 2147483648 := by
    rw [BitVec.toNat_and]
    have a1 : (BitVec.ofInt IntKind.i64.bits (n : Int)).toNat = n := by
      rw [BitVec.toNat_ofInt]
      have : IntKind.i64.bits = 64 := rfl
      rw [this]
      omega
    have a2 : (BitVec.ofInt IntKind.i64.bits 2147483647).toNat = 2 ^ 31 - 1 := by decide
    rw [a1, a2, Nat.and_two_pow_sub_one_eq_mod]
  rw [h1, wr64 (by omega) (by omega)]
  omega
theorem n_hash {l : List Int} (hl : l.length ≤ 1000000000000) (hd : l.all digB = true) : F_impl_hash l = some (hashN l) := by
  unfold F_impl_hash
  have hd2 : ((l.length : Int) :: l).all digB = true := by
    rw [List.all_cons, hd, Bool.and_true]
    exact digB_t.2 ⟨by omega, by omega⟩
  refine eq_of_rn (rn_gd (by simp only [List.length_cons, List.length_nil]; omega) (rn_call rfl (rn_then (ψ := fun p => p = ((l.length : Int) :: l).foldl absH (1, 2)) (rn_rloop (fun n p => p = (((l.length : Int) :: l).take n).foldl absH (1, 2)) rfl ?_ ?_) ?_)))
  · rintro n p hn rfl
    have ok := fold_ok ((((l.length : Int) :: l)).take n) (1, 2) ⟨by decide, by decide⟩
    have dg := all_dig hd2 hn
    have b := digB_t.1 dg
    have ef : (((l.length : Int) :: l)[n]).fdiv 2147483648 = ((l.length : Int) :: l)[n] / 2147483648 := Int.fdiv_eq_ediv_of_nonneg _ (by omega)
    have hn' : n < ((l.length : Int) :: l).length := hn
    refine rn_ix hn (rn_some ?_)
    show (_, _) = _
    simp only [List.singleton_append]
    rw [and_mask dg, ef, hs1_eq (.inl rfl) ok.1 (by omega), hs1_eq (.inr rfl) ok.2 (by omega), hs1_eq (.inl rfl) (hs1_bd _ _ _) (by omega), hs1_eq (.inr rfl) (hs1_bd _ _ _) (by omega),
      ← List.take_append_getElem hn', List.foldl_append]
    rfl
  · rintro p rfl
    show ((((l.length : Int) :: l).take ([(l.length : Int)] ++ l).length).foldl absH (1, 2)) = _
    rw [List.singleton_append, List.take_length]
  · rintro p rfl
    obtain ⟨h1, h2⟩ := fold_ok ((l.length : Int) :: l) (1, 2) ⟨by decide, by decide⟩
    refine rn_some ?_
    rw [wr64 (n := _ * 2147483648) (by omega) (by omega), wr64 (by omega) (by omega)]
    rfl
def hshL (s : ByteArray) (l : List Int) : Int := hashN ((s.size : Int) :: byL s ++ l)
theorem hshL_dig (s : ByteArray) (l : List Int) : digB (hshL s l) = true := hashN_dig _
def labB (s : ByteArray) (l : List Int) : Bool := decide (s.size ≤ 40) && decide (1 + s.size + l.length ≤ 400) && l.all digB
theorem lab_all {s : ByteArray} {l : List Int} (hs : s.size ≤ 1000000) : ((s.size : Int) :: byL s ++ l).all digB = l.all digB := by
  rw [List.cons_append, List.all_cons, List.all_append, byL_dig, digB_t.2 ⟨by omega, by omega⟩, Bool.true_and, Bool.true_and]
theorem n_hLabelled {s : ByteArray} {l : List Int} (hs : s.size ≤ 1000000) (hl : l.length ≤ 100000000000) (hd : l.all digB = true) : F_spec_hLabelled s l = some (hshL s l) := by
  unfold F_spec_hLabelled
  rw [n_with s l hs (by omega), Option.bind_some, n_hInts (by simp [byL_len]; omega) (by rw [lab_all hs]; exact hd)]
  rfl
theorem n_areDigests (l : List Int) : F_impl_areDigests l = some (decide (l.length ≤ 400) && l.all digB) := by
  unfold F_impl_areDigests
  have h1 : F_impl_areAll__impl_isDigest l = some (l.all digB) := areAll_gen (f := F_impl_areAll_1__impl_isDigest) fun x _ => by
    unfold F_impl_areAll_1__impl_isDigest
    rw [n_isDigest]; rfl
  rw [h1]
  by_cases h : l.length ≤ 400
  · rw [if_pos (by simp; omega)]; simp [h]
  · rw [if_neg (by simp; omega)]; simp [h]
theorem n_HashInts (l : List Int) : F_impl_HashInts l = some (if (decide (l.length ≤ 400) && l.all digB) = true then (hashN l, true) else (0, false)) := by
  unfold F_impl_HashInts
  rw [n_areDigests, Option.bind_some]
  cases h : (decide (l.length ≤ 400) && l.all digB) with
  | true =>
    simp only [Bool.and_eq_true, decide_eq_true_eq] at h
    rw [n_hash (by omega) h.2]; rfl
  | false => rfl
theorem n_HashLabelled (s : ByteArray) (l : List Int) : F_impl_HashLabelled s l = some (if labB s l = true then (hshL s l, true) else (0, false)) := by
  unfold F_impl_HashLabelled
  by_cases h1 : s.size ≤ 40
  · by_cases h2 : l.length ≤ 400
    · rw [if_neg (by simp; omega), Option.bind_some, if_neg (by simp; omega), n_labelled s l (by omega) (by omega), Option.bind_some, n_HashInts, lab_all (by omega)]
      have e : ((s.size : Int) :: byL s ++ l).length = 1 + s.size + l.length := by simp [byL_len]; omega
      rw [e]
      have e2 : labB s l = (decide (1 + s.size + l.length ≤ 400) && l.all digB) := by simp [labB, h1]
      rw [e2]
      cases decide (1 + s.size + l.length ≤ 400) <;> cases l.all digB <;> rfl
    · rw [if_neg (by simp; omega), Option.bind_some, if_pos (by simp; omega)]
      have : labB s l = false := by
        have : ¬ 1 + s.size + l.length ≤ 400 := by omega
        simp [labB, this]
      rw [this]; rfl
  · rw [if_pos (by simp; omega), Option.bind_some, if_pos rfl]
    have : labB s l = false := by simp [labB, h1]
    rw [this]; rfl
-- derived elements
theorem Pr_pow {p : Nat} (hp : Pr p) {b : Nat} (h1 : 1 ≤ b) (h2 : b < p) : ∀ e : Nat, b ^ e % p ≠ 0
  | 0 => by
    have := hp.1
    rw [Nat.pow_zero, Nat.mod_eq_of_lt (by omega)]; omega
  | e + 1 => fun h => by
    have hb : ((b ^ e : Nat) : Int) % (p : Int) = 0 ∨ (b : Int) % (p : Int) = 0 := Pr_mul hp (by
      rw [← Int.natCast_mul, ← Nat.pow_succ, ← Int.natCast_emod, h]; rfl)
    rcases hb with h3 | h3
    · exact Pr_pow hp h1 h2 e (by rw [← Int.natCast_emod] at h3; omega)
    · rw [← Int.natCast_emod, Nat.mod_eq_of_lt h2] at h3; omega
def drvX (gr : Group) (s : ByteArray) (k c : Int) : Int := 1 + hshL s [gr.P, gr.Q, gr.G, k, c] % (gr.P - 1)
def drvC (gr : Group) (s : ByteArray) (k c : Int) : Int := (((drvX gr s k c).toNat ^ ((gr.P - 1) / gr.Q).toNat % gr.P.toNat : Nat) : Int)
theorem drvX_bd {gr : Group} (k : OkG gr) (s : ByteArray) (i c : Int) : 1 ≤ drvX gr s i c ∧ drvX gr s i c ≤ gr.P - 1 := by
  have hp := k.p
  have h1 := Int.emod_nonneg (hshL s [gr.P, gr.Q, gr.G, i, c]) (show gr.P - 1 ≠ 0 by omega)
  have h2 := Int.emod_lt_of_pos (hshL s [gr.P, gr.Q, gr.G, i, c]) (show 0 < gr.P - 1 by omega)
  unfold drvX
  omega
theorem drvC_bd {gr : Group} (k : OkG gr) (s : ByteArray) (i c : Int) : 1 ≤ drvC gr s i c ∧ drvC gr s i c ≤ gr.P - 1 := by
  have hp := k.p
  have hx := drvX_bd k s i c
  have h1 := Pr_pow k.pp (b := (drvX gr s i c).toNat) (by omega) (by omega) ((gr.P - 1) / gr.Q).toNat
  have h2 := Nat.mod_lt ((drvX gr s i c).toNat ^ ((gr.P - 1) / gr.Q).toNat) (show 0 < gr.P.toNat by omega)
  unfold drvC
  omega
theorem drv_pow {gr : Group} (k : OkG gr) (s : ByteArray) (i c : Int) : 
    F_impl_power (IntKind.i64.wrap (1 + ((hshL s [gr.P, gr.Q, gr.G, i, c]).tmod (IntKind.i64.wrap (gr.P - 1))))) (IntKind.i64.wrap ((IntKind.i64.wrap (gr.P - 1)).tdiv gr.Q)) gr.P = some (drvC gr s i c) ∧
    F_spec_nPower (IntKind.i64.wrap (1 + ((hshL s [gr.P, gr.Q, gr.G, i, c]).tmod (IntKind.i64.wrap (gr.P - 1))))) (IntKind.i64.wrap ((IntKind.i64.wrap (gr.P - 1)).tdiv gr.Q)) gr.P = some (drvC gr s i c) := by
  have hp := k.p
  have hq := k.q
  have hd := digB_t.1 (hshL_dig s [gr.P, gr.Q, gr.G, i, c])
  have hx := drvX_bd k s i c
  have e1 : IntKind.i64.wrap (gr.P - 1) = gr.P - 1 := wr64 (by omega) (by omega)
  have e2 : IntKind.i64.wrap (1 + ((hshL s [gr.P, gr.Q, gr.G, i, c]).tmod (gr.P - 1))) = drvX gr s i c := by
    rw [Int.tmod_eq_emod_of_nonneg hd.1]
    unfold drvX at hx ⊢
    exact wr64 (by omega) (by omega)
  have h3 : (gr.P - 1) / gr.Q ≤ gr.P - 1 := Int.ediv_le_self _ (by omega)
  have h4 : 0 ≤ (gr.P - 1) / gr.Q := Int.ediv_nonneg (by omega) (by omega)
  have e3 : IntKind.i64.wrap ((gr.P - 1).tdiv gr.Q) = (gr.P - 1) / gr.Q := by
    rw [Int.tdiv_eq_ediv_of_nonneg (by omega), wr64 (by omega) (by omega)]
  rw [e1, e2, e3]
  exact n_powI (by omega) (by omega) (by omega) (by omega) h4 (by omega)
theorem drv_dig {gr : Group} (k : OkG gr) {i c : Int} (hi : digB i = true) (hc : 0 ≤ c ∧ c ≤ 1000) : [gr.P, gr.Q, gr.G, i, c].all digB = true := by
  have hp := k.p
  have hq := k.q
  have hg := k.g
  simp only [List.all_cons, List.all_nil, Bool.and_true, Bool.and_eq_true]
  exact ⟨digB_t.2 (by omega), digB_t.2 (by omega), digB_t.2 (by omega), hi, digB_t.2 (by omega)⟩
def DrvR (gr : Group) (s : ByteArray) (i y : Int) : Prop := (∃ c : Nat, c < 1000 ∧ y = drvC gr s i c ∧ drvC gr s i c ≠ 1 ∧ ∀ j : Nat, j < c → drvC gr s i j = 1) ∨ (y = 0 ∧ ∀ j : Nat, j < 1000 → drvC gr s i j = 1)
theorem DrvR_uniq {gr : Group} (k : OkG gr) {s : ByteArray} {i x y : Int} (h1 : DrvR gr s i x) (h2 : DrvR gr s i y) : x = y := by
  rcases h1 with ⟨c, hc, rfl, h3, h4⟩ | ⟨rfl, h4⟩ <;> rcases h2 with ⟨d, hd, rfl, h5, h6⟩ | ⟨rfl, h6⟩
  · rcases Nat.lt_trichotomy c d with h | h | h
    · exact absurd (h6 c h) h3
    · rw [h]
    · exact absurd (h4 d h) h5
  · exact absurd (h6 c hc) h3
  · exact absurd (h4 d hd) h5
  · rfl
theorem DrvR_bd {gr : Group} (k : OkG gr) {s : ByteArray} {i x : Int} (h1 : DrvR gr s i x) : 0 ≤ x ∧ x ≤ gr.P - 1 := by
  have hp := k.p
  rcases h1 with ⟨c, hc, rfl, h3, h4⟩ | ⟨rfl, h4⟩
  · have := drvC_bd k s i c; omega
  · omega
theorem n_hDerived {gr : Group} (k : OkG gr) {s : ByteArray} (hs : s.size ≤ 40) {i : Int} (hi : digB i = true) : Rn (F_spec_hDerived gr s i) (DrvR gr s i) := by
  have hp := k.p
  have hq := k.q
  unfold F_spec_hDerived
  refine rn_then (ψ := fun x => (x = .inl () ∧ ∀ j : Nat, j < 1000 → drvC gr s i j = 1) ∨ ∃ c : Nat, c < 1000 ∧ x = .inr (drvC gr s i c) ∧ drvC gr s i c ≠ 1 ∧ ∀ j : Nat, j < c → drvC gr s i j = 1)
    (rn_cloop 1000 (fun n p => p = (n : Int) ∧ n ≤ 1000 ∧ ∀ j : Nat, j < n → drvC gr s i j = 1) ⟨rfl, by omega, fun j hj => by omega⟩ ?_ ?_) ?_
  · rintro n p hn ⟨rfl, _, hI⟩
    refine rn_if (fun _ => ?_) fun h => absurd h (by simp; omega)
    refine rn_call (n_hLabelled (by omega) (by simp) (drv_dig k hi (by omega))) (rn_gd (by rw [wr64 (by omega) (by omega)]; omega) (rn_gd (by omega) (rn_call (drv_pow k s i n).2 (rn_if (fun h => rn_some (.inr ⟨n, hn, rfl, by simpa using h, hI⟩)) fun h => rn_some ⟨by rw [wr64 (by omega) (by omega)]; rfl, hn, fun j hj => ?_⟩))))
    rcases Nat.lt_or_ge j n with h1 | h1
    · exact hI j h1
    · have : j = n := by omega
      subst this
      simpa using h
  · rintro p ⟨rfl, _, hI⟩
    refine rn_if (fun h => absurd h (by simp)) fun _ => rn_some (.inl ⟨rfl, hI⟩)
  · rintro x (⟨rfl, h⟩ | ⟨c, hc, rfl, h⟩)
    · exact rn_some (.inr ⟨rfl, h⟩)
    · exact rn_some (.inl ⟨c, hc, rfl, h⟩)
theorem n_derive {gr : Group} (k : OkG gr) {s : ByteArray} (hs : s.size ≤ 40) {i : Int} (hi : digB i = true) : Rn (F_impl_Group_derive gr s i) (fun x => DrvR gr s i x.1 ∧ x.2 = decide (0 < x.1)) := by
  have hp := k.p
  have hq := k.q
  unfold F_impl_Group_derive
  refine rn_then (ψ := fun x => (x = .inl () ∧ ∀ j : Nat, j < 1000 → drvC gr s i j = 1) ∨ ∃ c : Nat, c < 1000 ∧ x = .inr (drvC gr s i c, true) ∧ drvC gr s i c ≠ 1 ∧ ∀ j : Nat, j < c → drvC gr s i j = 1)
    (rn_cloop 1000 (fun n p => p = (n : Int) ∧ n ≤ 1000 ∧ ∀ j : Nat, j < n → drvC gr s i j = 1) ⟨rfl, by omega, fun j hj => by omega⟩ ?_ ?_) ?_
  · rintro n p hn ⟨rfl, _, hI⟩
    refine rn_if (fun _ => ?_) fun h => absurd h (by simp; omega)
    have hl : labB s [gr.P, gr.Q, gr.G, i, (n : Int)] = true := by
      have := drv_dig k (i := i) (c := n) hi (by omega)
      simp only [labB, this, Bool.and_true, List.length_cons, List.length_nil, Bool.and_eq_true, decide_eq_true_eq]
      omega
    have eh : F_impl_HashLabelled s [gr.P, gr.Q, gr.G, i, (n : Int)] = some (hshL s [gr.P, gr.Q, gr.G, i, (n : Int)], true) := by rw [n_HashLabelled, if_pos hl]
    refine rn_call eh (rn_f rfl (rn_gd (by rw [wr64 (by omega) (by omega)]; omega) (rn_gd (by omega) (rn_call (drv_pow k s i n).1 (rn_if (fun h => rn_some (.inr ⟨n, hn, rfl, by simpa using h, hI⟩)) fun h => rn_some ⟨by rw [wr64 (by omega) (by omega)]; rfl, hn, fun j hj => ?_⟩)))))
    rcases Nat.lt_or_ge j n with h1 | h1
    · exact hI j h1
    · have : j = n := by omega
      subst this
      simpa using h
  · rintro p ⟨rfl, _, hI⟩
    refine rn_if (fun h => absurd h (by simp)) fun _ => rn_some (.inl ⟨rfl, hI⟩)
  · rintro x (⟨rfl, h⟩ | ⟨c, hc, rfl, h⟩)
    · exact rn_some ⟨.inr ⟨rfl, h⟩, rfl⟩
    · have := drvC_bd k s i c
      exact rn_some ⟨.inl ⟨c, hc, rfl, h⟩, by symm; simp; omega⟩
theorem n_drv {gr : Group} (k : OkG gr) {s : ByteArray} (hs : s.size ≤ 40) {i : Int} (hi : digB i = true) : ∃ y, F_spec_hDerived gr s i = some y ∧ F_impl_Group_derive gr s i = some (y, decide (0 < y)) ∧ DrvR gr s i y := by
  obtain ⟨y, h1, h2⟩ := n_hDerived k hs hi
  obtain ⟨⟨z, t⟩, h3, h4, h5⟩ := n_derive k hs hi
  refine ⟨y, h1, ?_, h2⟩
  simp only at h4 h5
  have : z = y := DrvR_uniq k h4 h2
  subst this
  rw [h3, h5]
theorem snoc_at {α : Type} {R : Nat → α → Prop} {l : List α} {n : Nat} {z : α} (hl : l.length = n) (h : ∀ j (h : j < l.length), R j l[j]) (hz : R n z) : ∀ j (h : j < (l ++ [z]).length), R j (l ++ [z])[j] := by
  intro j hj
  rw [List.getElem_append]
  split
  · exact h j _
  · have hj : j < n + 1 := by simpa [hl] using hj
    have e : j = n := by omega
    subst e
    simpa [hl] using hz
def Drvs (gr : Group) (n : Nat) (l : List Int) : Prop := l.length = n ∧ ∀ j (h : j < l.length), DrvR gr ⟨#[104, 115]⟩ j l[j]
theorem n_bases {gr : Group} (k : OkG gr) {n : Nat} (hn : n ≤ 24) : ∃ b t, F_spec_BasesOf gr (n : Int) = some (b, t) ∧ F_impl_Group_basesOf gr (n : Int) = some (b, t) ∧
    (t = true → DrvR gr ⟨#[104]⟩ 0 b.H ∧ 0 < b.H ∧ Drvs gr n b.Hs ∧ ∀ x ∈ b.Hs, 0 < x) := by
  have hp := k.p
  obtain ⟨y, hy1, hy2, hy3⟩ := n_drv k (s := ⟨#[104]⟩) (by decide) (i := 0) rfl
  have hok : okG gr = true := okG_t.2 k
  have D : ∀ m : Nat, m < 24 → ∃ z, F_spec_hDerived gr ⟨#[104, 115]⟩ m = some z ∧ F_impl_Group_derive gr ⟨#[104, 115]⟩ m = some (z, decide (0 < z)) ∧ DrvR gr ⟨#[104, 115]⟩ m z := fun m hm => n_drv k (by decide) (digB_t.2 ⟨by omega, by omega⟩)
  have S : Rn (F_spec_DeriveElements gr ⟨#[104, 115]⟩ (n : Int)) (fun x => (x.2 = true ∧ Drvs gr n x.1 ∧ ∀ z ∈ x.1, 0 < z) ∨ (x = ([], false) ∧ ∃ m : Nat, m < n ∧ DrvR gr ⟨#[104, 115]⟩ m 0)) := by
    unfold F_spec_DeriveElements
    refine rn_then (ψ := fun b => b = false) ?_ ?_
    · refine rn_call (n_l2Good gr) (rn_f (by rw [hok]; rfl) (rn_f rfl (rn_call (n_l1In _ _ _) (rn_some ?_))))
      simp; omega
    · rintro _ rfl
      refine rn_f rfl (rn_then (ψ := fun x => (∃ l, x = .inl l ∧ Drvs gr n l ∧ ∀ z ∈ l, 0 < z) ∨ (x = .inr ([], false) ∧ ∃ m : Nat, m < n ∧ DrvR gr ⟨#[104, 115]⟩ m 0)) (rn_cloop n (fun m p => p.2 = (m : Int) ∧ m ≤ n ∧ Drvs gr m p.1 ∧ ∀ z ∈ p.1, 0 < z) ⟨rfl, by omega, ⟨rfl, fun j hj => by simp at hj⟩, fun z hz => by simp at hz⟩ ?_ ?_) ?_)
      · rintro m ⟨l, c⟩ hm ⟨h1, _, hD, hpos⟩
        simp only at h1 hD hpos
        subst h1
        obtain ⟨z, z1, z2, z3⟩ := D m (by omega)
        have zb := DrvR_bd k z3
        refine rn_if (fun _ => ?_) fun h => absurd h (by simp; omega)
        refine rn_call z1 (rn_if (fun h => rn_some (.inr ⟨rfl, m, hm, ?_⟩)) fun h => rn_gd ?_ (rn_some ⟨?_, hm, ⟨by simp [hD.1], snoc_at hD.1 hD.2 z3⟩, fun w hw => ?_⟩))
        · have : z = 0 := by simpa using h
          rw [← this]; exact z3
        · have := hD.1; simp only; omega
        · show IntKind.i64.wrap _ = _
          rw [wr64 (by omega) (by omega)]; rfl
        · rcases List.mem_append.1 hw with h1 | h1
          · exact hpos w h1
          · have : w = z := by simpa using h1
            subst this
            have : ¬ w = 0 := by simpa using h
            omega
      · rintro ⟨l, _⟩ ⟨rfl, _, hD⟩
        exact rn_if (fun h => absurd h (by simp)) fun _ => rn_some (.inl ⟨l, rfl, hD⟩)
      · rintro x (⟨l, rfl, h⟩ | ⟨rfl, h⟩)
        · exact rn_some (.inl ⟨rfl, h⟩)
        · exact rn_some (.inr ⟨rfl, h⟩)
  have I : Rn (wloop (σ := Int × (List Int) × Bool × Int) (β := Int × (List Int) × Bool) (fun s16 =>
  if decide (s16.2.2.2 < (n : Int)) = true then (
  (F_impl_Group_derive gr (⟨#[104, 115]⟩ : ByteArray) s16.2.2.2).bind fun z22 =>
  ((if s16.2.2.1 = true then (
  some z22.2) else (
  some false) : Option (Bool)).bind fun x25 =>
  gd ((s16.2.1.length + 1) * 8 ≤ 140737488355328 ∧ s16.2.1.length + 1 ≤ 4611686018427387904) <|
  some (.go (s16.1, s16.2.1 ++ [z22.1], x25, IntKind.i64.wrap (s16.2.2.2 + 1))))) else (
  some (.out (s16.1, s16.2.1, s16.2.2.1)))) (y, [], true, 0)) (fun x => x.1 = y ∧ Drvs gr n x.2.1 ∧ x.2.2 = x.2.1.all (fun z => decide (0 < z))) := by
    refine rn_cloop n (fun m p => p.1 = y ∧ p.2.2.2 = (m : Int) ∧ m ≤ n ∧ Drvs gr m p.2.1 ∧ p.2.2.1 = p.2.1.all (fun z => decide (0 < z))) ⟨rfl, rfl, by omega, ⟨rfl, fun j hj => by simp at hj⟩, rfl⟩ ?_ ?_
    · rintro m ⟨w, l, t, c⟩ hm ⟨h1, h2, _, hD, h3⟩
      simp only at h1 h2 hD h3
      subst h1 h2 h3
      obtain ⟨z, z1, z2, z3⟩ := D m (by omega)
      refine rn_if (fun _ => ?_) fun h => absurd h (by simp; omega)
      refine rn_call z2 (rn_then (ψ := fun b => b = (l.all (fun z => decide (0 < z)) && decide (0 < z))) (rn_if (fun h => rn_some ?_) fun h => rn_some ?_) ?_)
      · simp only at h; rw [h]; rfl
      · simp only at h; rw [h]; rfl
      · rintro _ rfl
        refine rn_gd (by have := hD.1; dsimp only; omega) (rn_some ⟨rfl, ?_, hm, ⟨by simp [hD.1], snoc_at hD.1 hD.2 z3⟩, ?_⟩)
        · show IntKind.i64.wrap ((m : Int) + 1) = _
          rw [wr64 (by omega) (by omega)]; rfl
        · show _ = (l ++ [z]).all _
          simp
    · rintro ⟨w, l, t, c⟩ ⟨h1, h2, _, hD, h3⟩
      simp only at h1 h2 hD h3
      subst h1 h2 h3
      exact rn_if (fun h => absurd h (by simp)) fun _ => rn_some ⟨rfl, hD, rfl⟩
  obtain ⟨⟨b, l, t⟩, i1, i2, i3, i4⟩ := I
  simp only at i2 i3 i4
  subst i2
  obtain ⟨⟨l2, t2⟩, s1, s2⟩ := S
  have E : t2 = t ∧ (t = true → l2 = l ∧ ∀ z ∈ l, 0 < z) := by
    rcases s2 with ⟨h1, h2, h3⟩ | ⟨h1, m, hm, h3⟩
    · simp only at h1 h2 h3
      have e : l2 = l := List.ext_getElem (h2.1.trans i3.1.symm) fun j a c => DrvR_uniq k (h2.2 j a) (i3.2 j c)
      subst e
      have : l2.all (fun z => decide (0 < z)) = true := by simpa using h3
      rw [this] at i4
      exact ⟨by rw [h1, i4], fun _ => ⟨rfl, h3⟩⟩
    · cases h1
      have hml : m < l.length := by rw [i3.1]; exact hm
      have : l[m] = 0 := DrvR_uniq k (i3.2 m hml) h3
      have hf : l.all (fun z => decide (0 < z)) = false := by
        rw [List.all_eq_false]
        exact ⟨l[m], List.getElem_mem hml, by simp [this]⟩
      rw [hf] at i4
      exact ⟨i4.symm, fun h => by rw [i4] at h; cases h⟩
  have S0 : F_spec_BasesOf gr (n : Int) = some (if (decide (0 < b) && t2) = true then (⟨b, l2⟩, true) else (⟨0, []⟩, false)) := by
    have hD : F_spec_DeriveElement gr ⟨#[104]⟩ 0 = some (b, decide (0 < b)) := by
      unfold F_spec_DeriveElement
      rw [n_l2Good, hok]
      simp only [Option.bind_some, Bool.not_true, Bool.false_eq_true, if_false]
      rw [if_neg (show ¬ (decide (40 < (((⟨#[104]⟩ : ByteArray).size : Nat) : Int)) = true) by decide), n_l3Digest, Option.bind_some, Option.bind_some, if_neg (by decide), hy1, Option.bind_some]
    unfold F_spec_BasesOf
    rw [n_l2Good, hok]
    simp only [Option.bind_some, Bool.not_true, Bool.false_eq_true, if_false]
    rw [n_l1In, Option.bind_some, Option.bind_some, if_neg (by simp; omega), hD, Option.bind_some, s1, Option.bind_some]
    cases decide (0 < b) <;> cases t2 <;> rfl
  have I0 : F_impl_Group_basesOf gr (n : Int) = some (if (decide (0 < b) && t) = true then (⟨b, l⟩, true) else (⟨0, []⟩, false)) := by
    unfold F_impl_Group_basesOf
    rw [hy2, Option.bind_some, i1, Option.bind_some]
    cases decide (0 < b) <;> cases t <;> rfl
  obtain ⟨rfl, E2⟩ := E
  cases hb : (decide (0 < b) && t2) with
  | false =>
    rw [hb] at S0 I0
    exact ⟨_, _, S0, I0, fun h => by cases h⟩
  | true =>
    rw [hb] at S0 I0
    simp only [Bool.and_eq_true, decide_eq_true_eq] at hb
    obtain ⟨rfl, hpos⟩ := E2 hb.2
    exact ⟨_, _, S0, I0, fun _ => ⟨hy3, hb.1, i3, hpos⟩⟩
-- loops
theorem ceq {n : Int} {k : Nat} (h : n = (k : Int)) (hk : k ≤ 4194304) : IntKind.i64.wrap n = (k : Int) := by rw [wr64 (by omega) (by omega), h]
theorem inc {k : Nat} (hk : k < 4194304) : IntKind.i64.wrap ((k : Int) + 1) = ((k + 1 : Nat) : Int) := ceq (by omega) (by omega)
theorem wl_up {σ β : Type} {step : σ × Int → Option (Stp (σ × Int) β)} {f : Nat → σ → σ} {out : σ → β} (n : Nat) {s0 : σ} (I : Nat → σ → Prop) (h0 : I 0 s0)
    (hs : ∀ k s, k < n → I k s → step (s, (k : Int)) = some (.go (f k s, ((k + 1 : Nat) : Int))) ∧ I (k + 1) (f k s)) (he : ∀ s, I n s → step (s, (n : Int)) = some (.out (out s))) : ∃ s, wloop step (s0, 0) = some (out s) ∧ I n s := by
  obtain ⟨b, h1, s, h2, h3⟩ := rn_cloop (step := step) (s0 := (s0, 0)) (φ := fun b => ∃ s, b = out s ∧ I n s) n (fun k p => p.2 = (k : Int) ∧ I k p.1) ⟨rfl, h0⟩
    (by
      rintro k ⟨s, c⟩ hk ⟨rfl, hI⟩
      obtain ⟨h1, h2⟩ := hs k s hk hI
      exact ⟨_, h1, rfl, h2⟩)
    (by
      rintro ⟨s, c⟩ ⟨rfl, hI⟩
      exact ⟨_, he s hI, s, rfl, hI⟩)
  exact ⟨s, by rw [h1, h2], h3⟩
theorem wl_copy {α : Type} {l : List α} {d : α} {step : List α × Int → Option (Stp (List α × Int) (List α))} (hs : ∀ k (h : k < l.length) (r : List α), r.length = l.length → step (r, (k : Int)) = some (.go (r.set k l[k], ((k + 1 : Nat) : Int))))
    (he : ∀ r, step (r, (l.length : Int)) = some (.out r)) : wloop step (List.replicate l.length d, 0) = some l := by
  obtain ⟨s, h1, h2, h3⟩ := wl_up (step := step) (out := fun r => r) (f := fun k r => if h : k < l.length then r.set k l[k] else r) l.length (s0 := List.replicate l.length d) (fun k r => r.length = l.length ∧ r.take k = l.take k) ⟨by simp, by simp⟩
    (by
      rintro k r hk ⟨h1, h2⟩
      refine ⟨by rw [hs k hk r h1, dif_pos hk], by rw [dif_pos hk]; simpa using h1, ?_⟩
      rw [dif_pos hk]
      apply List.ext_getElem (by simp; omega)
      intro i hi hi2
      simp only [List.length_take] at hi2
      rw [List.getElem_take, List.getElem_take, List.getElem_set]
      split
      · rename_i e; subst e; rfl
      · have : i < k := by omega
        have e := congrArg (fun z => z[i]?) h2
        simp only [List.getElem?_take, this, if_true] at e
        rw [List.getElem?_eq_getElem (by omega), List.getElem?_eq_getElem (by omega)] at e
        exact Option.some.inj e) (fun s _ => he s)
  rw [h1]
  have e1 : s.take l.length = s := List.take_of_length_le (by omega)
  rw [← e1, h3, List.take_length]
theorem wl_all {β : Type} {step : Int → Option (Stp Int (Unit ⊕ β))} (n : Nat) (hs : ∀ k : Nat, k < n → step (k : Int) = some (.go ((k + 1 : Nat) : Int))) (he : step (n : Int) = some (.out (.inl ()))) : wloop step 0 = some (.inl ()) := by
  refine eq_of_rn (rn_cloop n (fun k s => s = (k : Int)) rfl ?_ ?_)
  · rintro k s hk rfl; exact ⟨_, hs k hk, rfl⟩
  · rintro s rfl; exact ⟨_, he, rfl⟩
-- contests
structure OkC (ct : Contest) : Prop where
  lo : 0 ≤ ct.Least ∧ ct.Least ≤ ct.Most
  k : ((ct.Kind = 1 ∨ ct.Kind = 3) ∧ (1 ≤ ct.Options ∧ ct.Options ≤ 8) ∧ ct.Most ≤ ct.Options ∧ ct.Points = 0) ∨ (ct.Kind = 2 ∧ (1 ≤ ct.Options ∧ ct.Options ≤ 8) ∧ (1 ≤ ct.Points ∧ ct.Points ≤ 5) ∧ ct.Most ≤ ct.Options * ct.Points) ∨ (ct.Kind = 4 ∧ ct.Options = 0 ∧ ct.Most ≤ 5 ∧ ct.Points = 0)
open Classical in
noncomputable def okC (ct : Contest) : Bool := decide (OkC ct)
theorem okC_t {ct : Contest} : okC ct = true ↔ OkC ct := by simp [okC]
theorem mulb {a b : Int} (h : 1 ≤ a ∧ a ≤ 8) (h2 : 1 ≤ b ∧ b ≤ 5) : 1 ≤ a * b ∧ a * b ≤ 40 := by
  have h3 : a * b ≤ 8 * 5 := Int.mul_le_mul h.2 h2.2 (by omega) (by omega)
  have h4 : 1 * 1 ≤ a * b := Int.mul_le_mul h.1 h2.1 (by omega) (by omega)
  omega
theorem n_IsValidContest (ct : Contest) : F_impl_IsValidContest ct = some (okC ct) := by
  have e : ∀ b : Bool, (b = true ↔ OkC ct) → b = okC ct := fun b h => by
    rw [Bool.eq_iff_iff, h, okC_t]
  have f : ¬ OkC ct → okC ct = false := fun h => by simp [okC, h]
  unfold F_impl_IsValidContest
  simp only [n_within, Option.bind_some]
  by_cases l1 : ct.Least < 0
  · simp [l1]; exact f fun h => by have := h.lo; omega
  by_cases l2 : ct.Most < ct.Least
  · simp [l1, l2]; exact f fun h => by have := h.lo; omega
  simp only [l1, l2, decide_false, Bool.false_eq_true, if_false, Option.bind_some]
  by_cases k13 : ct.Kind = 1 ∨ ct.Kind = 3
  · have : (if (ct.Kind == 1) = true then some (ct.Kind == 1) else some (ct.Kind == 3)) = some true := by
      rcases k13 with h | h <;> simp [h]
    rw [this, Option.bind_some, if_pos rfl]
    by_cases o : 1 ≤ ct.Options ∧ ct.Options ≤ 8
    · by_cases m : ct.Most ≤ ct.Options
      · simp [o, m]
        refine e _ ⟨fun h => ⟨by omega, .inl ⟨k13, o, m, by simpa using h⟩⟩, fun h => ?_⟩
        rcases h.k with h | h | h
        · simp [h.2.2.2]
        · omega
        · omega
      · simp [o, m]
        exact f fun h => by rcases h.k with h | h | h <;> omega
    · have : (decide (1 ≤ ct.Options) && decide (ct.Options ≤ 8)) = false := by simp; omega
      rw [this]; simp
      exact f fun h => by rcases h.k with h | h | h <;> omega
  · have : (if (ct.Kind == 1) = true then some (ct.Kind == 1) else some (ct.Kind == 3)) = some false := by
      simp only [not_or] at k13; simp [k13]
    rw [this, Option.bind_some, if_neg (by simp)]
    by_cases k2 : ct.Kind = 2
    · simp only [k2]
      by_cases o : 1 ≤ ct.Options ∧ ct.Options ≤ 8
      · by_cases p : 1 ≤ ct.Points ∧ ct.Points ≤ 5
        · have b := mulb o p
          simp only [o, p]
          simp [wr64 (n := ct.Options * ct.Points) (by omega) (by omega)]
          refine e _ ⟨fun h => ⟨by omega, .inr (.inl ⟨k2, o, p, by simpa using h⟩)⟩, fun h => ?_⟩
          rcases h.k with h | h | h
          · omega
          · simpa using h.2.2.2
          · omega
        · have : (decide (1 ≤ ct.Points) && decide (ct.Points ≤ 5)) = false := by simp; omega
          rw [this]; simp [o]
          exact f fun h => by rcases h.k with h | h | h <;> omega
      · have : (decide (1 ≤ ct.Options) && decide (ct.Options ≤ 8)) = false := by simp; omega
        rw [this]; simp
        exact f fun h => by rcases h.k with h | h | h <;> omega
    · have k2' : (ct.Kind == 2) = false := by simpa using k2
      simp only [k2', Bool.false_eq_true, if_false]
      by_cases k4 : ct.Kind = 4
      · have k4' : (ct.Kind == 4) = true := by simpa using k4
        simp only [k4', if_true]
        by_cases o : ct.Options = 0
        · by_cases m : ct.Most ≤ 5
          · simp [o, m]
            refine e _ ⟨fun h => ⟨by omega, .inr (.inr ⟨k4, o, m, by simpa using h⟩)⟩, fun h => ?_⟩
            rcases h.k with h | h | h
            · omega
            · omega
            · simp [h.2.2.2]
          · simp [o, m]
            exact f fun h => by rcases h.k with h | h | h <;> omega
        · simp [o]
          exact f fun h => by rcases h.k with h | h | h <;> omega
      · have k4' : (ct.Kind == 4) = false := by simpa using k4
        simp only [k4', Bool.false_eq_true, if_false]
        rw [f fun h => by rcases h.k with h | h | h <;> omega]
theorem n_vContest (ct : Contest) : F_spec_vContest ct = some (okC ct) := by
  rw [← n_IsValidContest]
  unfold F_spec_vContest F_impl_IsValidContest
  simp only [n_within, n_l1In, Option.bind_some]
  cases h : ct.Kind == 4 <;> simp
-- lists that are asked of all elements
theorem n_allN {γ : Type} {m : Nat} (p : Nat → Bool) (c d : γ) {body : Int → Unit → Option (Stp Unit (Unit ⊕ γ))} (h : ∀ k, k < m → body (k : Int) () = some (if p k = true then .go () else .out (.inr c))) :
    (rloop body (fun _ => .inl ()) m 0 ()).bind (Sum.elim (fun _ => some d) some) = some (if (List.range m).all p = true then d else c) := by
  rcases n_first (body := body) m p (fun _ => c) h with ⟨e, h1⟩ | ⟨k, h1, h2, h3, e⟩
  · have : (List.range m).all p = true := by
      rw [List.all_eq_true]; intro x hx; exact h1 x (List.mem_range.1 hx)
    rw [e, this]; rfl
  · have : (List.range m).all p = false := by
      rw [List.all_eq_false]; exact ⟨k, List.mem_range.2 h1, by simp [h2]⟩
    rw [e, this]; rfl
theorem cf_gen {α : Type} {l : List α} {p : α → Bool} {f : α → Option Bool} (hf : ∀ x ∈ l, f x = some (p x)) :
    ((((rloop (σ := Unit) (β := Unit ⊕ Int) (fun i8 s7 => (ix l i8).bind fun x17 => (f x17).bind fun z20 => if z20 = true then (some (.out (.inr i8))) else (some (.go ()))) (fun s7 => .inl ()) (l.length) 0 () : Option (Unit ⊕ Int)).bind (Sum.elim (fun (x5 : Unit) => some (-1)) some)).bind fun z1 => some (decide (0 ≤ z1)))) = some (l.any p) := by
  rcases n_first l.length (fun k => !(l[k]?).any p) (fun k => (k : Int)) (body := fun i8 s7 => (ix l i8).bind fun x17 => (f x17).bind fun z20 => if z20 = true then (some (.out (.inr i8))) else (some (.go ()))) (fun k hk => by
    rw [ix_at hk, Option.bind_some, hf _ (List.getElem_mem hk), Option.bind_some, List.getElem?_eq_getElem hk]
    cases h : p l[k] <;> simp [h]) with ⟨e, h1⟩ | ⟨k, h1, h2, h3, e⟩
  · rw [e]
    have : l.any p = false := by
      rw [List.any_eq_false]
      intro x hx
      obtain ⟨k, hk, rfl⟩ := List.mem_iff_getElem.1 hx
      have := h1 k hk
      rw [List.getElem?_eq_getElem hk] at this
      simpa using this
    rw [this]; rfl
  · rw [e]
    have : l.any p = true := by
      rw [List.any_eq_true]
      refine ⟨l[k], List.getElem_mem h1, ?_⟩
      rw [List.getElem?_eq_getElem h1] at h2
      simpa using h2
    rw [this]
    simp
def inB (a b x : Int) : Bool := decide (a ≤ x) && decide (x ≤ b)
theorem inB_t {a b x : Int} : inB a b x = true ↔ a ≤ x ∧ x ≤ b := by simp [inB]
theorem n_allV1 (l : List Int) (k o a b p : Int) : F_impl_areAll__impl_Contest_isVote_1 l k o a b p = some (l.all (inB 0 p)) := areAll_gen (f := fun x => F_impl_areAll_1__impl_Contest_isVote_1 x k o a b p) fun x _ => by
  unfold F_impl_areAll_1__impl_Contest_isVote_1 F_impl_Contest_isVote_1_
  rw [n_within]; rfl
theorem n_allV2 (l : List Int) (a b : Int) : F_impl_areAll__impl_Contest_isVote_2 l a b = some (l.all (inB a b)) := areAll_gen (f := fun x => F_impl_areAll_1__impl_Contest_isVote_2 x a b) fun x _ => by
  unfold F_impl_areAll_1__impl_Contest_isVote_2 F_impl_Contest_isVote_2_
  rw [n_within]; rfl
-- sorted lists
theorem pw_adj {R : Int → Int → Prop} (tr : ∀ a b c, R a b → R b c → R a c) {l : List Int} (h : ∀ i (h : i + 1 < l.length), R l[i] l[i + 1]) : l.Pairwise R := by
  rw [List.pairwise_iff_getElem]
  intro i j hi hj hij
  obtain ⟨d, rfl⟩ : ∃ d, j = i + 1 + d := ⟨j - (i + 1), by omega⟩
  induction d with
  | zero => exact h i hj
  | succ d ih => exact tr _ _ _ (ih (by omega) (by omega)) (h (i + 1 + d) hj)
open Classical in
noncomputable def srtB (l : List Int) : Bool := decide (l.Pairwise (· ≤ ·))
theorem n_IsSorted {l : List Int} (hl : l.length ≤ 1048576) : F_slices_IsSorted_int_int l = some (srtB l) := by
  unfold F_slices_IsSorted_int_int
  have cl : ∀ a b : Int, F_cmp_Less_int a b = some (decide (a < b)) := fun a b => by
    unfold F_cmp_Less_int F_cmp_isNaN_int
    simp
  refine eq_of_rn (rn_then (ψ := fun x => (x = .inl () ∧ srtB l = true) ∨ (x = .inr false ∧ srtB l = false)) (rn_wloop (fun s => s < l.length ∧ (-1 ≤ s) ∧ ∀ i (h : i + 1 < l.length), s ≤ i → l[i] ≤ l[i + 1]) (fun s => s.toNat) ?_ ?_) ?_)
  · rw [wr64 (by omega) (by omega)]; exact ⟨by omega, by omega, fun i h1 h2 => by omega⟩
  · rintro s ⟨h1, h0, h2⟩
    refine rn_if (fun h => ?_) fun h => rn_some (.inl ⟨rfl, ?_⟩)
    · have h : 0 < s := by simpa using h
      obtain ⟨k, rfl⟩ : ∃ k : Nat, s = ((k + 1 : Nat) : Int) := ⟨(s - 1).toNat, by omega⟩
      have e : IntKind.i64.wrap (((k + 1 : Nat) : Int) - 1) = (k : Int) := ceq (by omega) (by omega)
      refine rn_ix (by omega) ?_
      rw [e]
      refine rn_ix (by omega) (rn_call (cl _ _) (rn_if (fun h => rn_some (.inr ⟨rfl, ?_⟩)) fun h => rn_some ⟨⟨by omega, by omega, fun i hi h3 => ?_⟩, by omega⟩))
      · unfold srtB
        rw [decide_eq_false_iff_not, List.pairwise_iff_getElem]
        intro hp
        have := hp k (k + 1) (by omega) (by omega) (by omega)
        simp at h; omega
      · rcases Nat.lt_or_ge k i with h4 | h4
        · exact h2 i hi (by omega)
        · have : i = k := by omega
          subst this
          simpa using h
    · have h : ¬ 0 < s := by simpa using h
      unfold srtB
      rw [decide_eq_true_eq]
      exact pw_adj (R := (· ≤ ·)) (fun a b c h1 h2 => Int.le_trans h1 h2) fun i hi => h2 i hi (by omega)
  · rintro x (⟨rfl, h⟩ | ⟨rfl, h⟩) <;> exact rn_some h.symm
open Classical in
theorem rise_iff (l : List Int) : l.Pairwise (· < ·) ↔ (srtB l && difB l) = true := by
  unfold srtB difB
  simp only [Bool.and_eq_true, decide_eq_true_eq, List.nodup_iff_pairwise_ne]
  rw [← List.pairwise_and_iff]
  constructor <;> intro h <;> exact h.imp fun h => by omega
theorem n_rise {l : List Int} (hl : l.length ≤ 1048576) (a b : Int) : F_spec_l1Rising l a b = some (l.all (inB a b) && (srtB l && difB l)) := by
  unfold F_spec_l1Rising
  rw [n_allN (fun k => (l[k]?).any (inB a b) && (decide (k = 0) || decide (l.getD (k - 1) 0 < l.getD k 0))) false true]
  · congr 1
    rw [Bool.eq_iff_iff, Bool.and_eq_true (l.all (inB a b)), ← rise_iff]
    simp only [Bool.if_false_right, Bool.and_true, Bool.if_true_left, Bool.or_false, Bool.decide_eq_true, decide_eq_true_eq, List.all_eq_true, List.mem_range, Bool.and_eq_true, Bool.or_eq_true]
    constructor
    · refine fun h => ⟨fun x hx => ?_, pw_adj (R := (· < ·)) (fun a b c h1 h2 => Int.lt_trans h1 h2) fun i hi => ?_⟩
      · obtain ⟨k, hk, rfl⟩ := List.mem_iff_getElem.1 hx
        have := (h k hk).1
        rwa [List.getElem?_eq_getElem hk] at this
      · have := (h (i + 1) hi).2
        have h1 : i < l.length := by omega
        simp [hi, h1] at this
        exact this
    · refine fun h k hk => ⟨?_, ?_⟩
      · rw [List.getElem?_eq_getElem hk]; exact h.1 _ (List.getElem_mem hk)
      · rcases Nat.eq_zero_or_pos k with h0 | h0
        · exact .inl h0
        · right
          have h1 : k - 1 < l.length := by omega
          simp [hk, h1]
          exact List.pairwise_iff_getElem.1 h.2 _ _ _ _ (by omega)
  · intro k hk
    rw [ix_at hk, Option.bind_some, n_l1In, Option.bind_some, List.getElem?_eq_getElem hk, Option.any_some]
    show ((if (!inB a b l[k]) = true then _ else _ : Option Bool).bind _) = _
    cases h : inB a b l[k] with
    | false => simp
    | true =>
      rcases Nat.eq_zero_or_pos k with h0 | h0
      · subst h0; simp
      · have e : IntKind.i64.wrap ((k : Int) - 1) = ((k - 1 : Nat) : Int) := ceq (by omega) (by omega)
        have h1 : k - 1 < l.length := by omega
        have h2 : ¬ k = 0 := by omega
        rw [e, ix_at h1]
        by_cases h3 : l[k] ≤ l[k - 1]
        · have : ¬ l[k - 1] < l[k] := by omega
          simp [h0, hk, h1, h2, h3, this]
        · have : l[k - 1] < l[k] := by omega
          simp [h0, hk, h1, h2, h3, this]
-- votes
theorem ite_and (a b : Bool) : (if a = true then some b else some false) = some (a && b) := by cases a <;> rfl
theorem ite_or (a b : Bool) : (if a = true then some true else some b) = some (a || b) := by cases a <;> rfl
theorem n_allB (l : List Int) (a b : Int) : F_spec_l1All l a b = some (l.all (inB a b)) := n_l1All l a b
theorem n_inB (x a b : Int) : F_spec_l1In x a b = some (inB a b x) := n_l1In x a b
theorem n_winB (x a b : Int) : F_impl_within x a b = some (inB a b x) := n_within x a b
theorem n_vDiff {l : List Int} (hl : l.length ≤ 1000000000000) : F_spec_vDifferent l = some (difB l) := by
  rw [← n_diff l hl]
  unfold F_spec_vDifferent F_impl_areDifferent
  simp only [n_l1Has, n_contains]
theorem sumB_bd : ∀ {l : List Int} {c : Int}, l.all (inB 0 c) = true → 0 ≤ l.sum ∧ l.sum ≤ l.length * c
  | [], _, _ => by simp
  | x :: l, c, h => by
    rw [List.all_cons, Bool.and_eq_true] at h
    have h1 := inB_t.1 h.1
    have h2 := sumB_bd h.2
    rw [List.sum_cons, List.length_cons]
    push_cast
    rw [Int.add_mul]
    omega
theorem all_take {α : Type} {l : List α} {p : α → Bool} (h : l.all p = true) (k : Nat) : (l.take k).all p = true := by
  rw [List.all_eq_true] at h ⊢
  exact fun x hx => h x (List.mem_of_mem_take hx)
theorem sum_take {l : List Int} {k : Nat} (h : k < l.length) : (l.take (k + 1)).sum = (l.take k).sum + l[k] := by
  rw [List.take_succ_eq_append_getElem h, List.sum_append]; simp
theorem sum_loop {β : Type} {v : List Int} (hv : v.all (inB 0 5) = true) (hl : v.length ≤ 1000) (stop : Int → β) : rloop (fun i s => (ix v i).bind fun x => some (.go (IntKind.i64.wrap (s + x)))) stop v.length 0 0 = some (stop v.sum) := by
  refine eq_of_rn (rn_rloop (fun k s => s = (v.take k).sum) (by simp) ?_ ?_)
  · rintro k s hk rfl
    refine rn_ix hk (rn_some ?_)
    have h := sumB_bd (all_take hv (k + 1))
    have h2 : (v.take (k + 1)).length ≤ 1000 := by simp; omega
    show IntKind.i64.wrap _ = (v.take (k + 1)).sum
    rw [← sum_take hk, wr64 (by omega) (by omega)]
  · rintro s rfl
    simp
noncomputable def voteB (ct : Contest) (v : List Int) : Bool :=
  if ct.Kind = 1 then v.all (inB 0 (ct.Options - 1)) && (srtB v && difB v) && inB ct.Least ct.Most v.length
  else if ct.Kind = 2 then decide ((v.length : Int) = ct.Options) && (v.all (inB 0 ct.Points) && inB ct.Least ct.Most v.sum)
  else if ct.Kind = 3 then v.all (inB 0 (ct.Options - 1)) && (difB v && inB ct.Least ct.Most v.length)
  else v.all (inB 1 26) && inB ct.Least ct.Most v.length
theorem all_mono {l : List Int} {a b a' b' : Int} (ha : a' ≤ a) (hb : b ≤ b') (h : l.all (inB a b) = true) : l.all (inB a' b') = true := by
  rw [List.all_eq_true] at h ⊢
  intro x hx
  have := inB_t.1 (h x hx)
  exact inB_t.2 (by omega)
theorem n_vVote {ct : Contest} (k : OkC ct) {v : List Int} (hl : v.length ≤ 1048576) : F_spec_vVote ct v = some (voteB ct v) := by
  have w1 : IntKind.i64.wrap (ct.Options - 1) = ct.Options - 1 := by rcases k.k with h | h | h <;> exact wr64 (by omega) (by omega)
  unfold F_spec_vVote voteB
  simp only [n_rise hl, n_inB, n_allB, n_vDiff (l := v) (by omega), w1, Option.bind_some, ite_and]
  by_cases k1 : ct.Kind = 1
  · simp [k1]
  by_cases k2 : ct.Kind = 2
  · simp only [k2]
    by_cases hn : (v.length : Int) = ct.Options
    · cases ha : v.all (inB 0 ct.Points) with
      | false => simp [hn]
      | true =>
        have hp : ct.Points ≤ 5 ∧ ct.Options ≤ 8 := by rcases k.k with h | h | h <;> omega
        have e : F_spec_vPlain v = some v.sum := by
          unfold F_spec_vPlain
          rw [sum_loop (all_mono (by omega) hp.1 ha) (by omega) (fun s => s)]; rfl
        simp [hn, e]
    · simp [hn]
  by_cases k3 : ct.Kind = 3
  · simp [k3]
  · simp [k1, k2, k3]
theorem n_isVote {ct : Contest} (k : OkC ct) {v : List Int} (hl : v.length ≤ 1048576) : F_impl_Contest_isVote ct v = some (voteB ct v) := by
  have w1 : IntKind.i64.wrap (ct.Options - 1) = ct.Options - 1 := by rcases k.k with h | h | h <;> exact wr64 (by omega) (by omega)
  unfold F_impl_Contest_isVote voteB
  simp only [n_IsSorted hl, n_winB, n_allV1, n_allV2, n_diff v (by omega), w1, Option.bind_some, ite_and, ite_or]
  by_cases k2 : ct.Kind = 2
  · have k1 : ¬ ct.Kind = 1 := by omega
    have k3 : ¬ ct.Kind = 3 := by omega
    simp only [k2]
    by_cases hn : (v.length : Int) = ct.Options
    · cases ha : v.all (inB 0 ct.Points) with
      | false => simp [hn]
      | true =>
        have hp : ct.Points ≤ 5 ∧ ct.Options ≤ 8 := by rcases k.k with h | h | h <;> omega
        have e := sum_loop (all_mono (by omega) hp.1 ha) (by omega) (fun s => (Sum.inl (s, 0, ct.Points) : (Int × Int × Int) ⊕ Bool))
        simp only [hn, bne_self_eq_false, Bool.not_true, Bool.or_false, Bool.false_eq_true, if_false, beq_self_eq_true, if_true, e, Option.bind_some, Sum.elim_inl, ha]
        cases inB ct.Least ct.Most v.sum <;> simp
    · have : ((v.length : Int) != ct.Options) = true := by simpa using hn
      simp [this, hn]
  by_cases k1 : ct.Kind = 1
  · simp [k1, -List.all_eq_true, -List.all_eq_false]
    cases inB ct.Least ct.Most v.length <;> cases v.all (inB 0 (ct.Options - 1)) <;> simp
  by_cases k3 : ct.Kind = 3
  · simp [k3, -List.all_eq_true, -List.all_eq_false]
    cases inB ct.Least ct.Most v.length <;> cases v.all (inB 0 (ct.Options - 1)) <;> simp
  · have k4 : ct.Kind = 4 := by rcases k.k with h | h | h <;> omega
    simp [k4, -List.all_eq_true, -List.all_eq_false]
    cases inB ct.Least ct.Most v.length <;> cases v.all (inB 1 26) <;> simp
-- numbers of digits
def num (b : Int) : List Int → Int
  | [] => 0
  | d :: l => num b l * b + d
theorem num_bd {b : Int} (hb : 0 ≤ b ∧ b ≤ 40) : ∀ {l : List Int}, l.all (inB 0 40) = true → 0 ≤ num b l ∧ num b l ≤ 64 ^ (l.length + 1)
  | [], _ => by simp [num]
  | d :: l, h => by
    rw [List.all_cons, Bool.and_eq_true] at h
    have h1 := inB_t.1 h.1
    have h2 := num_bd hb h.2
    have h3 : num b l * b ≤ 64 ^ (l.length + 1) * 40 := Int.mul_le_mul h2.2 hb.2 hb.1 (by omega)
    have h4 := Int.mul_nonneg h2.1 hb.1
    have h5 : (1 : Int) ≤ 64 ^ (l.length + 1) := Int.pow_pos (by omega)
    simp only [num, List.length_cons]
    rw [Int.pow_succ (64 : Int) (l.length + 1)]
    omega
theorem num_bd8 {b : Int} (hb : 0 ≤ b ∧ b ≤ 40) {l : List Int} (hl : l.length ≤ 8) (h : l.all (inB 0 40) = true) : 0 ≤ num b l ∧ num b l ≤ 18014398509481984 := by
  have := num_bd hb h
  have h2 : (64 : Nat) ^ (l.length + 1) ≤ 64 ^ 9 := Nat.pow_le_pow_right (by omega) (by omega)
  have h3 : ((64 ^ (l.length + 1) : Nat) : Int) = (64 : Int) ^ (l.length + 1) := Int.natCast_pow 64 _
  omega
theorem num_loop {l : List Int} {b m : Int} (hb : 0 ≤ b ∧ b ≤ 40) (hl : l.length ≤ 8) (h : (l.map (· + m)).all (inB 0 40) = true) {step : Int × Int → Option (Stp (Int × Int) Int)}
    (hs : ∀ (k : Nat) (h : k < l.length) (a : Int), 0 ≤ a → a ≤ 18014398509481984 → step (a, (k : Int)) = some (.go (a * b + (l[k] + m), (k : Int) - 1))) (he : ∀ a, step (a, -1) = some (.out a)) :
    wloop step (0, (l.length : Int) - 1) = some (num b (l.map (· + m))) := by
  refine eq_of_rn (rn_cloop l.length (fun j p => p = (num b ((l.drop (l.length - j)).map (· + m)), ((l.length - j : Nat) : Int) - 1) ∧ j ≤ l.length) ⟨by simp [num], by omega⟩ ?_ ?_)
  · rintro j p hj ⟨rfl, _⟩
    obtain ⟨k, hk, e1, e2⟩ : ∃ k : Nat, k < l.length ∧ l.length - j = k + 1 ∧ l.length - (j + 1) = k := ⟨l.length - j - 1, by omega, by omega, by omega⟩
    rw [e1]
    have hd : ((l.drop (k + 1)).map (· + m)).all (inB 0 40) = true := by
      rw [List.all_eq_true] at h ⊢
      intro x hx
      obtain ⟨y, hy, rfl⟩ := List.mem_map.1 hx
      exact h _ (List.mem_map.2 ⟨y, List.mem_of_mem_drop hy, rfl⟩)
    have bd := num_bd8 hb (by simp; omega) hd
    refine ⟨.go (num b ((l.drop (k + 1)).map (· + m)) * b + (l[k] + m), (k : Int) - 1), by rw [show ((k + 1 : Nat) : Int) - 1 = (k : Int) by omega]; exact hs k hk _ bd.1 bd.2, ?_, hj⟩
    rw [e2, List.drop_eq_getElem_cons hk]
    rfl
  · rintro p ⟨rfl, _⟩
    refine ⟨.out (num b (l.map (· + m))), ?_, rfl⟩
    rw [Nat.sub_self, List.drop_zero]
    exact he _
theorem at_all {l : List Int} {m a b : Int} (h : (l.map (· + m)).all (inB a b) = true) {k : Nat} (hk : k < l.length) : a ≤ l[k] + m ∧ l[k] + m ≤ b := by
  rw [List.all_eq_true] at h
  exact inB_t.1 (h _ (List.mem_map.2 ⟨l[k], List.getElem_mem hk, rfl⟩))
theorem n_vNumber {l : List Int} {b m : Int} (hb : 0 ≤ b ∧ b ≤ 40) (hm : 0 ≤ m ∧ m ≤ 1) (hl : l.length ≤ 8) (h : (l.map (· + m)).all (inB 0 40) = true) : F_spec_vNumber l b m = some (num b (l.map (· + m))) := by
  unfold F_spec_vNumber
  rw [wr64 (n := (l.length : Int) - 1) (by omega) (by omega), num_loop hb hl h, Option.bind_some]
  · intro k hk a h0 h1
    have h2 : a * b ≤ 18014398509481984 * 40 := Int.mul_le_mul h1 hb.2 hb.1 (by omega)
    have h3 := Int.mul_nonneg h0 hb.1
    have h4 := at_all h hk
    rw [if_pos (by simp), ix_at hk, Option.bind_some, wr64 (n := a * b) (by omega) (by omega), wr64 (n := a * b + l[k]) (by omega) (by omega), wr64 (n := a * b + l[k] + m) (by omega) (by omega), wr64 (n := (k : Int) - 1) (by omega) (by omega), Int.add_assoc]
  · intro a; rfl
theorem n_codeOf {l : List Int} {b : Int} (hb : 0 ≤ b ∧ b ≤ 40) (hl : l.length ≤ 8) (h : l.all (inB 0 40) = true) : F_impl_codeOf l b = some (num b l) := by
  have e : l.map (· + 0) = l := by simp
  unfold F_impl_codeOf
  rw [wr64 (n := (l.length : Int) - 1) (by omega) (by omega), num_loop (m := 0) hb hl (by rw [e]; exact h), Option.bind_some, e]
  · intro k hk a h0 h1
    have h2 : a * b ≤ 18014398509481984 * 40 := Int.mul_le_mul h1 hb.2 hb.1 (by omega)
    have h3 := Int.mul_nonneg h0 hb.1
    have h4 := at_all (m := 0) (by rw [e]; exact h) hk
    rw [if_pos (by simp), ix_at hk, Option.bind_some, wr64 (n := a * b) (by omega) (by omega), wr64 (n := a * b + l[k]) (by omega) (by omega), wr64 (n := (k : Int) - 1) (by omega) (by omega), Int.add_zero]
  · intro a; rfl
-- marks
def marks (n : Nat) (v : List Int) : List Int := (List.range n).map fun (i : Nat) => if v.contains (i : Int) = true then 1 else 0
theorem marks_len (n : Nat) (v : List Int) : (marks n v).length = n := by simp [marks]
theorem n_vMarks {ct : Contest} (ho : 0 ≤ ct.Options ∧ ct.Options ≤ 8) {v : List Int} (h : v.all (inB 0 (ct.Options - 1)) = true) : F_spec_vMarks ct v = some (marks ct.Options.toNat v) := by
  unfold F_spec_vMarks
  refine eq_of_rn (rn_gd (by omega) (rn_call rfl (rn_then (ψ := fun b => b = _) (rn_rloop (fun k s => s = marks ct.Options.toNat (v.take k)) ?_ ?_ ?_) fun b hb => rn_some hb)))
  · simp [marks, List.map_const']
  · rintro k s hk rfl
    have hv := inB_t.1 (List.all_eq_true.1 h _ (List.getElem_mem hk))
    obtain ⟨x, hx⟩ : ∃ x : Nat, v[k] = (x : Int) := ⟨v[k].toNat, by omega⟩
    refine rn_ix hk ?_
    rw [hx]
    refine rn_ix (by rw [marks_len]; omega) (rn_some ?_)
    show (marks _ (v.take k)).set x 1 = marks _ (v.take (k + 1))
    rw [List.take_succ_eq_append_getElem hk]
    apply List.ext_getElem (by simp [marks_len])
    intro i hi hi2
    rw [List.getElem_set]
    simp only [marks, List.getElem_map, List.getElem_range, List.contains_eq_mem, List.mem_append, List.mem_singleton, decide_eq_true_eq]
    by_cases e : x = i
    · subst e; simp [hx]
    · have : ¬ (i : Int) = v[k] := by omega
      simp [e, this]
  · rintro s rfl
    rw [List.take_length]
theorem choices_eq (ct : Contest) (v : List Int) : F_impl_Contest_choices ct v = F_spec_vMarks ct v := rfl
-- the greatest code
def rng (a : Int) (n : Nat) : List Int := (List.range n).map fun (i : Nat) => a + (i : Int)
theorem rng_len (a : Int) (n : Nat) : (rng a n).length = n := by simp [rng]
theorem rng_mem {a x : Int} {n : Nat} : x ∈ rng a n ↔ a ≤ x ∧ x < a + n := by
  simp only [rng, List.mem_map, List.mem_range]
  constructor
  · rintro ⟨i, hi, rfl⟩; omega
  · exact fun h => ⟨(x - a).toNat, by omega, by omega⟩
theorem rng_all {a b c : Int} {n : Nat} (h1 : b ≤ a) (h2 : a + n - 1 ≤ c) : (rng a n).all (inB b c) = true := by
  rw [List.all_eq_true]
  intro x hx
  have := rng_mem.1 hx
  exact inB_t.2 (by omega)
theorem wl_app {β : Type} {step : List Int × Int → Option (Stp (List Int × Int) β)} {f : Nat → Int} {out : List Int → β} {a : Int} (n : Nat) (hs : ∀ (k : Nat) (s : List Int), k < n → s.length = k → step (s, a + (k : Int)) = some (.go (s ++ [f k], a + (k : Int) + 1))) (he : ∀ s, step (s, a + (n : Int)) = some (.out (out s))) :
    wloop step ([], a) = some (out ((List.range n).map f)) := by
  refine eq_of_rn (rn_cloop n (fun k p => p = ((List.range k).map f, a + (k : Int))) (by simp) ?_ ?_)
  · rintro k p hk rfl
    refine ⟨_, hs k _ hk (by simp), ?_⟩
    show (_, _) = _
    rw [List.range_succ, List.map_append]
    have e : a + (k : Int) + 1 = a + ((k + 1 : Nat) : Int) := by omega
    rw [e]; rfl
  · rintro p rfl
    exact ⟨_, he _, rfl⟩
theorem wl_rep {step : List Int × Int × Int → Option (Stp (List Int × Int × Int) (List Int))} {n : Nat} {m : Int} (hn : n ≤ 8) (p : Int) (hp : 0 ≤ p ∧ p ≤ 5) (hm : 0 ≤ m)
    (hs : ∀ (k : Nat) (s : List Int) (r : Int), k < n → s.length = n → 0 ≤ r → r ≤ m → step (s, r, (k : Int)) = some (.go (s.set k (if p < r then p else r), r - (if p < r then p else r), (k : Int) - 1))) (he : ∀ s r, step (s, r, -1) = some (.out s)) :
    ∃ l, wloop step (List.replicate n 0, m, (n : Int) - 1) = some l ∧ l.length = n ∧ l.all (inB 0 5) = true := by
  refine rn_cloop n (fun j x => x.1.length = n ∧ x.1.all (inB 0 5) = true ∧ (0 ≤ x.2.1 ∧ x.2.1 ≤ m) ∧ x.2.2 = ((n - j : Nat) : Int) - 1 ∧ j ≤ n) ⟨by simp, ?_, ⟨hm, Int.le_refl _⟩, by simp, by omega⟩ ?_ ?_
  · rw [List.all_eq_true]
    intro x hx
    have : x = 0 := (List.mem_replicate.1 hx).2
    subst this; rfl
  · rintro j ⟨s, r, c⟩ hj ⟨h1, h2, h3, h4, _⟩
    simp only at h1 h2 h3 h4
    obtain ⟨k, hk, e1, e2⟩ : ∃ k : Nat, k < n ∧ n - j = k + 1 ∧ n - (j + 1) = k := ⟨n - j - 1, by omega, by omega, by omega⟩
    have : c = (k : Int) := by omega
    subst this
    have b : 0 ≤ (if p < r then p else r) ∧ (if p < r then p else r) ≤ 5 ∧ (if p < r then p else r) ≤ r := by split <;> omega
    refine ⟨.go (s.set k (if p < r then p else r), r - (if p < r then p else r), (k : Int) - 1), hs k s r hk h1 h3.1 h3.2, by simpa using h1, ?_, ⟨by dsimp only; omega, by dsimp only; omega⟩, by dsimp only; omega, hj⟩
    rw [List.all_eq_true] at h2 ⊢
    intro x hx
    rcases List.mem_or_eq_of_mem_set hx with h | rfl
    · exact h2 x h
    · exact inB_t.2 ⟨b.1, b.2.1⟩
  · rintro ⟨s, r, c⟩ ⟨h1, h2, h3, h4, _⟩
    simp only at h1 h2 h3 h4
    have : c = -1 := by omega
    subst this
    exact ⟨_, he s r, h1, h2⟩
theorem n_greatest {ct : Contest} (k : OkC ct) : ∃ n, F_spec_bGreatest ct = some n ∧ F_impl_Contest_greatest ct = some n := by
  have lo := k.lo
  unfold F_spec_bGreatest F_impl_Contest_greatest
  rcases k.k with ⟨k13, ho, hm, hp⟩ | ⟨k2, ho, hp, hm⟩ | ⟨k4, ho, hm, hp⟩
  · obtain ⟨o, eo⟩ : ∃ o : Nat, ct.Options = (o : Int) := ⟨ct.Options.toNat, by omega⟩
    obtain ⟨m, em⟩ : ∃ m : Nat, ct.Most = (m : Int) := ⟨ct.Most.toNat, by omega⟩
    have w : IntKind.i64.wrap (ct.Options - ct.Most) = ct.Options - ct.Most := wr64 (by omega) (by omega)
    have e1 : ∀ {β : Type} (out : List Int → β), wloop (fun s5 : List Int × Int => if decide (s5.2 < ct.Options) = true then (gd ((s5.1.length + 1) * 8 ≤ 140737488355328 ∧ s5.1.length + 1 ≤ 4611686018427387904) <| some (.go (s5.1 ++ [s5.2], IntKind.i64.wrap (s5.2 + 1)))) else (some (.out (out s5.1)))) ([], ct.Options - ct.Most) = some (out (rng (ct.Options - ct.Most) m)) := fun {β} out => by
      refine wl_app m ?_ ?_
      · intro c s hc hs
        rw [if_pos (by simp; omega), gd_t (by rw [hs]; omega), wr64 (by dsimp only; omega) (by dsimp only; omega)]
      · intro s
        rw [if_neg (by simp; omega)]
    have hall : (rng (ct.Options - ct.Most) m).all (inB 0 (ct.Options - 1)) = true := rng_all (by omega) (by omega)
    rcases k13 with k1 | k3
    · rw [k1]
      simp only [show ((1 : Int) == 1) = true from rfl, if_true, w]
      have e2 : wloop (σ := List Int × Int) (β := List Int) (fun s5 => if decide (s5.2 < ct.Options) = true then (((if decide (ct.Options - ct.Most ≤ s5.2) = true then (some 1) else (some 0) : Option (Int)).bind fun x13 =>
          gd ((s5.1.length + 1) * 8 ≤ 140737488355328 ∧ s5.1.length + 1 ≤ 4611686018427387904) <| some (.go (s5.1 ++ [x13], IntKind.i64.wrap (s5.2 + 1))))) else (some (.out s5.1))) ([], 0) = some ((List.range o).map fun (i : Nat) => if decide (ct.Options - ct.Most ≤ (i : Int)) = true then 1 else 0) := by
        refine wl_app (out := fun s => s) (a := 0) o ?_ ?_
        · intro c s hc hs
          have hg : ∀ x : Int, gd ((s.length + 1) * 8 ≤ 140737488355328 ∧ s.length + 1 ≤ 4611686018427387904) (some (Stp.go (β := List Int) (s ++ [x], IntKind.i64.wrap (0 + (c : Int) + 1)))) = some (.go (s ++ [x], 0 + (c : Int) + 1)) := fun x => by
            rw [gd_t (by rw [hs]; omega), wr64 (by omega) (by omega)]
          rw [if_pos (by simp; omega)]
          dsimp only
          by_cases h : ct.Options - ct.Most ≤ (c : Int)
          · rw [if_pos (by simpa using h), Option.bind_some, hg, if_pos (by simpa using h)]
          · rw [if_neg (by simpa using h), Option.bind_some, hg, if_neg (by simpa using h)]
        · intro s
          rw [if_neg (by simp; omega)]
      have em2 : marks ct.Options.toNat (rng (ct.Options - ct.Most) m) = (List.range o).map fun (i : Nat) => if decide (ct.Options - ct.Most ≤ (i : Int)) = true then 1 else 0 := by
        have : ct.Options.toNat = o := by omega
        rw [this]
        unfold marks
        refine List.map_congr_left fun i hi => ?_
        have hi := List.mem_range.1 hi
        congr 1
        rw [List.contains_eq_mem, decide_eq_true_eq, decide_eq_true_eq, rng_mem]
        exact propext ⟨fun h => h.1, fun h => ⟨h, by omega⟩⟩
      have ha : ((List.range o).map fun (i : Nat) => if decide (ct.Options - ct.Most ≤ (i : Int)) = true then (1 : Int) else 0).all (inB 0 40) = true := by
        rw [List.all_map, List.all_eq_true]
        intro i _
        show inB 0 40 (if _ then _ else _) = true
        split <;> rfl
      have hb : F_impl_Contest_base ct = some 2 := by unfold F_impl_Contest_base; rw [k1]; rfl
      refine ⟨?_, ?_, ?_⟩
      rotate_left 2
      · rw [e2, Option.bind_some, hb, Option.bind_some, n_codeOf (by omega) (by simp; omega) ha]; rfl
      · rw [e1 (fun s => s), Option.bind_some]
        unfold F_spec_vCode
        rw [k1, if_pos (show ((1 : Int) == 1) = true from rfl), n_vMarks (by omega) hall, Option.bind_some, em2, n_vNumber (by omega) (by omega) (by simp; omega) (by simpa using ha)]
        simp
        rfl
    · rw [k3]
      simp only [show ((3 : Int) == 1) = false from rfl, show ((3 : Int) == 2) = false from rfl, show ((3 : Int) == 3) = true from rfl, Bool.false_eq_true, if_false, if_true, w]
      have ee : (rng (ct.Options - ct.Most) m).map (· + 1) = rng (ct.Options - ct.Most + 1) m := by
        simp only [rng, List.map_map]
        refine List.map_congr_left fun i hi => ?_
        show ct.Options - ct.Most + (i : Int) + 1 = ct.Options - ct.Most + 1 + (i : Int); omega
      have e2 : wloop (σ := List Int × Int) (β := List Int) (fun s40 => if decide (s40.2 < ct.Most) = true then (gd ((s40.1.length + 1) * 8 ≤ 140737488355328 ∧ s40.1.length + 1 ≤ 4611686018427387904) <|
          some (.go (s40.1 ++ [IntKind.i64.wrap ((IntKind.i64.wrap (ct.Options - ct.Most + 1)) + s40.2)], IntKind.i64.wrap (s40.2 + 1)))) else (some (.out s40.1))) ([], 0) = some (rng (ct.Options - ct.Most + 1) m) := by
        refine wl_app (out := fun s => s) (a := 0) (f := fun i => ct.Options - ct.Most + 1 + (i : Int)) m ?_ ?_
        · intro c s hc hs
          rw [if_pos (by simp; omega), gd_t (by rw [hs]; omega), wr64 (n := ct.Options - ct.Most + 1) (by omega) (by omega), wr64 (n := 0 + (c : Int) + 1) (by omega) (by omega), wr64 (by dsimp only; omega) (by dsimp only; omega), Int.zero_add]
        · intro s
          rw [if_neg (by simp; omega)]
      have ha : (rng (ct.Options - ct.Most + 1) m).all (inB 0 40) = true := rng_all (by omega) (by omega)
      have hb : F_impl_Contest_base ct = some (ct.Options + 1) := by unfold F_impl_Contest_base; rw [k3, wr64 (n := ct.Options + 1) (by omega) (by omega)]; rfl
      refine ⟨?_, ?_, ?_⟩
      rotate_left 2
      · rw [e2, Option.bind_some, hb, Option.bind_some, n_codeOf (by omega) (by rw [rng_len]; omega) ha]; rfl
      · rw [e1 (fun s => s), Option.bind_some]
        unfold F_spec_vCode
        rw [k3, wr64 (n := ct.Options + 1) (by omega) (by omega)]
        simp only [show ((3 : Int) == 1) = false from rfl, show ((3 : Int) == 2) = false from rfl, show ((3 : Int) == 3) = true from rfl, Bool.false_eq_true, if_false, if_true]
        rw [n_vNumber (by omega) (by omega) (by rw [rng_len]; omega) (by rw [ee]; exact ha), ee]
        rfl
  · obtain ⟨o, eo⟩ : ∃ o : Nat, ct.Options = (o : Int) := ⟨ct.Options.toNat, by omega⟩
    have mb := mulb ho hp
    rw [k2]
    simp only [show ((2 : Int) == 1) = false from rfl, show ((2 : Int) == 2) = true from rfl, Bool.false_eq_true, if_false, if_true]
    rw [gd_t (by omega), gd_t (by omega), Option.bind_some, Option.bind_some, wr64 (n := ct.Options - 1) (by omega) (by omega)]
    have hl : ∀ a b : Int, F_spec_l1Least a b = some (if a < b then a else b) := fun a b => by unfold F_spec_l1Least; by_cases h : a < b <;> simp [h]
    have hmin : ∀ a b : Int, (if b < a then b else a) = (if a < b then a else b) := fun a b => by split <;> split <;> omega
    have eS := wl_rep (step := fun s26 : List Int × Int × Int =>
      if decide (0 ≤ s26.2.2) = true then (
      (F_spec_l1Least s26.2.1 ct.Points).bind fun z32 =>
      (ix s26.1 s26.2.2).bind fun x33 =>
      (ix (s26.1.set s26.2.2.toNat z32) s26.2.2).bind fun x34 =>
      some (.go (s26.1.set s26.2.2.toNat z32, IntKind.i64.wrap (s26.2.1 - x34), IntKind.i64.wrap (s26.2.2 - 1)))) else (
      some (.out s26.1))) (n := o) (m := ct.Most) (by omega) ct.Points (by omega) (by omega) ?_ (fun s r => rfl)
    · obtain ⟨l, h1, h2, h3⟩ := eS
      have e : (fun s26 : List Int × Int × Int =>
        if decide (0 ≤ s26.2.2) = true then (
        (F_spec_l1Least s26.2.1 ct.Points).bind fun z32 =>
        (ix s26.1 s26.2.2).bind fun x33 =>
        (ix (s26.1.set s26.2.2.toNat z32) s26.2.2).bind fun x34 =>
        some (.go (s26.1.set s26.2.2.toNat z32, IntKind.i64.wrap (s26.2.1 - x34), IntKind.i64.wrap (s26.2.2 - 1)))) else (
        some (.out s26.1))) = (fun s29 : List Int × Int × Int =>
        if decide (0 ≤ s29.2.2) = true then (
        (ix s29.1 s29.2.2).bind fun x35 =>
        (ix (s29.1.set s29.2.2.toNat (if ct.Points < s29.2.1 then ct.Points else s29.2.1)) s29.2.2).bind fun x36 =>
        some (Stp.go (s29.1.set s29.2.2.toNat (if ct.Points < s29.2.1 then ct.Points else s29.2.1), IntKind.i64.wrap (s29.2.1 - x36), IntKind.i64.wrap (s29.2.2 - 1)))) else (
        some (.out s29.1))) := by
        funext s
        simp only [hl, hmin, Option.bind_some]
      rw [← e]
      have : ct.Options.toNat = o := by omega
      rw [this, eo, h1, Option.bind_some, Option.bind_some]
      have hb : F_impl_Contest_base ct = some (ct.Points + 1) := by unfold F_impl_Contest_base; rw [k2, wr64 (by omega) (by omega)]; rfl
      have ha := all_mono (a := 0) (a' := 0) (b := 5) (b' := 40) (by omega) (by omega) h3
      refine ⟨?_, ?_, ?_⟩
      rotate_left 2
      · rw [hb, Option.bind_some, n_codeOf (by omega) (by omega) ha]; rfl
      · unfold F_spec_vCode
        rw [k2, wr64 (n := ct.Points + 1) (by omega) (by omega)]
        simp only [show ((2 : Int) == 1) = false from rfl, show ((2 : Int) == 2) = true from rfl, Bool.false_eq_true, if_false, if_true]
        rw [n_vNumber (by omega) (by omega) (by omega) (by simpa using ha)]
        simp
    · intro c s r hc hs h0 h1
      have hc2 : c < (s.set c (if ct.Points < r then ct.Points else r)).length := by simp; omega
      dsimp only
      rw [if_pos (by simp), hl, Option.bind_some, ix_at (by omega), Option.bind_some, ← hmin, Int.toNat_natCast, ix_at hc2, Option.bind_some]
      have b : 0 ≤ (if ct.Points < r then ct.Points else r) ∧ (if ct.Points < r then ct.Points else r) ≤ r := by split <;> omega
      rw [List.getElem_set_self, wr64 (by omega) (by omega), wr64 (by omega) (by omega)]
  · obtain ⟨m, em⟩ : ∃ m : Nat, ct.Most = (m : Int) := ⟨ct.Most.toNat, by omega⟩
    rw [k4]
    simp only [show ((4 : Int) == 1) = false from rfl, show ((4 : Int) == 2) = false from rfl, show ((4 : Int) == 3) = false from rfl, Bool.false_eq_true, if_false, if_true]
    have e1 : wloop (σ := List Int × Int) (β := List Int) (fun s46 => if decide (s46.2 < ct.Most) = true then (gd ((s46.1.length + 1) * 8 ≤ 140737488355328 ∧ s46.1.length + 1 ≤ 4611686018427387904) <|
        some (.go (s46.1 ++ [26], IntKind.i64.wrap (s46.2 + 1)))) else (some (.out s46.1))) ([], 0) = some ((List.range m).map fun _ => 26) := by
      refine wl_app (out := fun s => s) (a := 0) m ?_ ?_
      · intro c s hc hs
        rw [if_pos (by simp; omega), gd_t (by rw [hs]; omega), wr64 (by dsimp only; omega) (by dsimp only; omega)]
      · intro s
        rw [if_neg (by simp; omega)]
    have ha : ((List.range m).map fun _ => (26 : Int)).all (inB 0 40) = true := by
      rw [List.all_map, List.all_eq_true]; intro i _; rfl
    have hb : F_impl_Contest_base ct = some 27 := by unfold F_impl_Contest_base; rw [k4]; rfl
    rw [e1, Option.bind_some, Option.bind_some]
    refine ⟨?_, ?_, ?_⟩
    rotate_left 2
    · rw [hb, Option.bind_some, n_codeOf (by omega) (by simp; omega) ha]; rfl
    · unfold F_spec_vCode
      rw [k4]
      simp only [show ((4 : Int) == 1) = false from rfl, show ((4 : Int) == 2) = false from rfl, show ((4 : Int) == 3) = false from rfl, Bool.false_eq_true, if_false, if_true]
      rw [n_vNumber (by omega) (by omega) (by simp; omega) (by simpa using ha)]
      simp
      rfl
-- sealable contests
theorem n_formI (ct : Contest) : F_impl_Contest_isForm ct = some (ct.Kind == 1 || ct.Kind == 2) := by
  unfold F_impl_Contest_isForm
  rw [ite_or]; rfl
theorem n_bRows (ct : Contest) : F_spec_bRows ct = some (ct.Kind == 1 || ct.Kind == 2) := by
  unfold F_spec_bRows
  rw [ite_or]; rfl
theorem n_sealable (gr : Group) (ct : Contest) : ∃ b, F_spec_bGood gr ct = some b ∧ F_impl_IsSealable gr ct = some b ∧ (b = true → OkG gr ∧ OkC ct) := by
  unfold F_spec_bGood F_impl_IsSealable
  rw [n_l2Good, n_validG]
  simp only [n_vContest, n_IsValidContest, n_bRows, n_formI, Option.bind_some]
  cases hg : okG gr with
  | false => exact ⟨false, rfl, rfl, fun h => by cases h⟩
  | true =>
    cases hc : okC ct with
    | false => exact ⟨false, rfl, rfl, fun h => by cases h⟩
    | true =>
      obtain ⟨n, h1, h2⟩ := n_greatest (okC_t.1 hc)
      simp only [h1, h2, Bool.not_true, Bool.false_eq_true, if_false, Option.bind_some]
      have k := And.intro (okG_t.1 hg) (okC_t.1 hc)
      simp only [ite_or, ite_and, Option.bind_some]
      cases decide (100000 < n) || decide (gr.Q ≤ n) with
      | true => exact ⟨false, rfl, rfl, fun h => by cases h⟩
      | false => exact ⟨_, rfl, rfl, fun _ => k⟩
-- plans
theorem n_plan (p : Plan) : ∃ b, F_spec_nPlan p = some b ∧ F_impl_IsValidPlan p = some b ∧ (b = true → OkG p.Gr ∧ OkC p.Ct ∧ 7 < p.Gr.Q ∧ (1 ≤ p.Threshold ∧ p.Threshold ≤ p.Trustees ∧ p.Trustees ≤ 4) ∧ (0 ≤ p.Mixers ∧ p.Mixers ≤ 3) ∧ (1 ≤ p.Voters ∧ p.Voters ≤ 12) ∧ digB p.Seed = true) := by
  obtain ⟨b, s1, s2, s3⟩ := n_sealable p.Gr p.Ct
  unfold F_spec_nPlan F_impl_IsValidPlan
  simp only [s1, s2, n_inB, n_winB, n_isDigest, n_l3Digest, n_bRows, n_formI, Option.bind_some, ite_or]
  have e : (!b || (!inB 1 p.Trustees p.Threshold || (decide (4 < p.Trustees) || (decide (p.Gr.Q ≤ 7) || (!inB 0 3 p.Mixers || (!inB 1 12 p.Voters || !digB p.Seed)))))) = (!b || (decide (p.Gr.Q ≤ 7) || (!inB 1 4 p.Trustees || (!inB 1 p.Trustees p.Threshold || (!inB 0 3 p.Mixers || (!inB 1 12 p.Voters || !digB p.Seed)))))) := by
    rw [Bool.eq_iff_iff]
    generalize digB p.Seed = d
    simp only [Bool.or_eq_true, Bool.not_eq_true', decide_eq_true_eq, inB, Bool.and_eq_false_iff, decide_eq_false_iff_not]
    cases b <;> cases d <;> simp <;> omega
  rw [← e]
  cases hb : (!b || (!inB 1 p.Trustees p.Threshold || (decide (4 < p.Trustees) || (decide (p.Gr.Q ≤ 7) || (!inB 0 3 p.Mixers || (!inB 1 12 p.Voters || !digB p.Seed)))))) with
  | true => exact ⟨false, rfl, rfl, fun h => by cases h⟩
  | false =>
    simp only [Bool.or_eq_false_iff, Bool.not_eq_false', decide_eq_false_iff_not, inB_t] at hb
    obtain ⟨h1, h2, h3, h4, h5, h6, h7⟩ := hb
    obtain ⟨kg, kc⟩ := s3 h1
    obtain ⟨bs, t, n1, n2, _⟩ := n_bases kg (n := 12) (by omega)
    simp only [Bool.false_eq_true, if_false]
    have et : ∀ a, F_spec_bTop p.Ct = some a → (p.Ct.Kind == 1 || p.Ct.Kind == 2) = true → F_impl_Contest_most p.Ct = some a := by
      intro a ha hk
      unfold F_spec_bTop at ha
      unfold F_impl_Contest_most
      simp only [Bool.or_eq_true, beq_iff_eq] at hk
      rcases hk with h | h <;> simp [h] at ha ⊢ <;> exact ha
    obtain ⟨a, ha⟩ : ∃ a, F_spec_bTop p.Ct = some a := by unfold F_spec_bTop; split <;> exact ⟨_, rfl⟩
    have fin : OkG p.Gr ∧ OkC p.Ct ∧ 7 < p.Gr.Q ∧ (1 ≤ p.Threshold ∧ p.Threshold ≤ p.Trustees ∧ p.Trustees ≤ 4) ∧ (0 ≤ p.Mixers ∧ p.Mixers ≤ 3) ∧ (1 ≤ p.Voters ∧ p.Voters ≤ 12) ∧ digB p.Seed = true := ⟨kg, kc, by omega, by omega, h5, h6, h7⟩
    have n1' : F_spec_BasesOf p.Gr 12 = some (bs, t) := n1
    have n2' : F_impl_Group_basesOf p.Gr 12 = some (bs, t) := n2
    cases hk : (p.Ct.Kind == 1 || p.Ct.Kind == 2) with
    | false =>
      simp only [Bool.false_eq_true, if_false, Option.bind_some, n1', n2']
      exact ⟨t, rfl, rfl, fun _ => fin⟩
    | true =>
      simp only [if_true, ha, et a ha hk, Option.bind_some, n1', n2']
      cases decide (p.Gr.Q ≤ IntKind.i64.wrap (p.Voters * a)) with
      | true => exact ⟨false, rfl, rfl, fun h => by cases h⟩
      | false => exact ⟨t, rfl, rfl, fun _ => fin⟩
theorem sz_loop {step : Int × Int → Option (Stp (Int × Int) (Int ⊕ Int))} {a0 : Int} (n : Nat) (h0 : 0 ≤ a0 ∧ a0 ≤ 1048576) (hs : ∀ (k : Nat) (a : Int), k < n → 0 ≤ a → a ≤ 1048576 → ∃ z, z ≤ 1048576 ∧ step (a, (k : Int)) = if decide (z < 0) = true then some (.out (.inr (-1))) else some (.go (z, ((k + 1 : Nat) : Int))))
    (he : ∀ a, step (a, (n : Int)) = some (.out (.inl a))) : ∃ z, (wloop step (a0, 0)).bind (Sum.elim (fun x => some x) some) = some z ∧ z ≤ 1048576 := by
  obtain ⟨b, h1, h2⟩ := rn_cloop (step := step) (s0 := (a0, 0)) (φ := fun b => Sum.elim (fun z => z ≤ 1048576) (fun z => z ≤ 1048576) b) n (fun k p => p.2 = (k : Int) ∧ 0 ≤ p.1 ∧ p.1 ≤ 1048576) ⟨rfl, h0⟩
    (by
      rintro k ⟨a, c⟩ hk ⟨rfl, h1, h2⟩
      obtain ⟨z, hz, e⟩ := hs k a hk h1 h2
      by_cases h : z < 0
      · exact ⟨.out (.inr (-1)), by rw [e, if_pos (by simpa using h)], by show (-1 : Int) ≤ _; omega⟩
      · exact ⟨.go (z, ((k + 1 : Nat) : Int)), by rw [e, if_neg (by simpa using h)], rfl, by dsimp only; omega, hz⟩)
    (by
      rintro ⟨a, c⟩ ⟨rfl, h1, h2⟩
      exact ⟨_, he a, h2⟩)
  rw [h1, Option.bind_some]
  cases b with
  | inl z => exact ⟨z, rfl, h2⟩
  | inr z => exact ⟨z, rfl, h2⟩
theorem mk_loop {α : Type} {step : List α × Int × Int → Option (Stp (List α × Int × Int) (List α × Int))} {l : List α} {a0 K : Int} (P : α → Prop) (hP : ∀ x ∈ l, P x) (hK : 0 ≤ K) (h0 : 1 ≤ a0)
    (hs : ∀ (k : Nat) (r : List α) (a : Int) (h : k < r.length), r.length = l.length → P r[k] → 1 ≤ a → a ≤ a0 + k * K → ∃ x a', step (r, a, (k : Int)) = some (.go (r.set k x, a', ((k + 1 : Nat) : Int))) ∧ P x ∧ a ≤ a' ∧ a' ≤ a + K)
    (he : ∀ r a, r.length = l.length → step (r, a, (l.length : Int)) = some (.out (r, a))) : ∃ z, wloop step (l, a0, 0) = some z ∧ 1 ≤ z.2 ∧ z.2 ≤ a0 + l.length * K ∧ z.1.length = l.length ∧ ∀ x ∈ z.1, P x := by
  refine rn_cloop l.length (fun k p => p.2.2 = (k : Int) ∧ p.1.length = l.length ∧ (∀ x ∈ p.1, P x) ∧ 1 ≤ p.2.1 ∧ p.2.1 ≤ a0 + k * K) ⟨rfl, rfl, hP, h0, by simp⟩ ?_ ?_
  · rintro k ⟨r, a, c⟩ hk ⟨rfl, h1, h2, h3, h4⟩
    simp only at h1 h2 h3 h4
    obtain ⟨x, a', e, h5, h6, h7⟩ := hs k r a (by omega) h1 (h2 _ (List.getElem_mem (by omega))) h3 h4
    refine ⟨_, e, rfl, by simpa using h1, fun y hy => ?_, by dsimp only; omega, ?_⟩
    · rcases List.mem_or_eq_of_mem_set hy with h | rfl
      · exact h2 y h
      · exact h5
    · show a' ≤ a0 + ((k + 1 : Nat) : Int) * K
      rw [show (((k + 1 : Nat) : Int)) * K = (k : Int) * K + K by rw [Int.natCast_add, Int.add_mul]; omega]
      omega
  · rintro ⟨r, a, c⟩ ⟨rfl, h1, h2, h3, h4⟩
    exact ⟨_, he r a h1, h3, h4, h1, h2⟩
def MM : List (List Int) → Int → Int → Prop
  | [], k, m => k = m
  | x :: l, k, m => MI x k ∧ MM l (k + x.length) m
theorem MM_snoc : ∀ {l : List (List Int)} {x : List Int} {k m : Int}, MM l k m → MI x m → MM (l ++ [x]) k (m + x.length)
  | [], x, k, m, h, hx => by cases h; exact ⟨hx, rfl⟩
  | y :: l, x, k, m, h, hx => ⟨h.1, MM_snoc h.2 hx⟩
def totI (l : List (List Int)) : Int := (l.map fun x => (x.length : Int)).sum
theorem totI_take {l : List (List Int)} {k : Nat} (h : k < l.length) : totI (l.take (k + 1)) = totI (l.take k) + l[k].length := by
  simp only [totI, List.map_take]
  rw [sum_take (by simpa using h)]; simp
theorem totI_nn (l : List (List Int)) : 0 ≤ totI l := by
  induction l with
  | nil => simp [totI]
  | cons x l ih => simp only [totI, List.map_cons, List.sum_cons] at ih ⊢; omega
theorem totI_le (l : List (List Int)) (k : Nat) : totI (l.take k) ≤ totI l := by
  have := totI_nn (l.drop k)
  have e : totI l = totI (l.take k) + totI (l.drop k) := by
    rw [totI, totI, totI, ← List.sum_append, ← List.map_append, List.take_append_drop]
  omega
theorem p_markII (l : List (List Int)) (a : Int) (h0 : 0 ≤ a) (h1 : a ≤ 1000000000000) (hl : l.length ≤ 1048576) (hv : ∀ x ∈ l, x.length ≤ 1048576) (ht : totI l ≤ 1152920000000000000) :
    ∃ r, F_laws_markIntSS__io0 l a = some (a + totI l, r) ∧ r.length = l.length ∧ (∀ x ∈ r, x.length ≤ 1048576) ∧ MM r a (a + totI l) := by
  unfold F_laws_markIntSS__io0
  have key := rn_cloop (σ := List (List Int) × Int × Int) (β := List (List Int) × Int) (step := fun s12 =>
    if decide (s12.2.2 < (s12.1.length : Int)) = true then (
    (ix s12.1 s12.2.2).bind fun x18 =>
    (F_laws_markIntS__io0 x18 s12.2.1).bind fun z19 =>
    some (.go (s12.1.set s12.2.2.toNat z19.2, z19.1, IntKind.i64.wrap (s12.2.2 + 1)))) else (
    some (.out (s12.1, s12.2.1)))) (s0 := (l, a, 0)) (φ := fun z => z.2 = a + totI l ∧ z.1.length = l.length ∧ (∀ x ∈ z.1, x.length ≤ 1048576) ∧ MM z.1 a z.2) l.length
    (fun k p => ∃ r : List (List Int), p = (r ++ l.drop k, a + totI (l.take k), (k : Int)) ∧ r.length = k ∧ k ≤ l.length ∧ (∀ x ∈ r, x.length ≤ 1048576) ∧ MM r a (a + totI (l.take k))) ⟨[], by simp [totI], rfl, by omega, by simp, by simp [MM, totI]⟩
    (by
      rintro k p hk ⟨r, rfl, h2, _, h3, h4⟩
      have hlen : (r ++ l.drop k).length = l.length := by simp; omega
      have t1 := totI_le l (k + 1)
      have t2 := totI_nn (l.take k)
      rw [totI_take hk] at t1
      have lk := hv _ (List.getElem_mem hk)
      obtain ⟨m, m1, m2, m3⟩ := p_markI l[k] (a + totI (l.take k)) (by omega) (by omega) lk
      have hg : (r ++ l.drop k)[k]'(by omega) = l[k] := by
        rw [List.getElem_append_right (by omega)]; simp [h2]
      refine ⟨.go ((r ++ l.drop k).set k m, a + totI (l.take k) + l[k].length, ((k + 1 : Nat) : Int)), ?_, r ++ [m], ?_, by simp [h2], hk, ?_, ?_⟩
      · have hk2 : k < (r ++ l.drop k).length := by omega
        dsimp only
        rw [if_pos (by simp only [hlen, decide_eq_true_eq]; omega), ix_at hk2, Option.bind_some]
        simp only [hg, m1, Option.bind_some, Int.toNat_natCast, inc (k := k) (by omega)]
      · rw [totI_take hk, Int.add_assoc, List.set_append_right _ _ (by omega), h2, Nat.sub_self, List.drop_eq_getElem_cons hk, List.set_cons_zero, List.append_assoc]
        rfl
      · intro x hx
        rcases List.mem_append.1 hx with h | h
        · exact h3 x h
        · rw [List.mem_singleton.1 h, m2]; exact lk
      · rw [totI_take hk, ← Int.add_assoc, ← m2]
        exact MM_snoc h4 m3)
    (by
      rintro p ⟨r, rfl, h2, _, h3, h4⟩
      refine ⟨.out (r, a + totI l), ?_, rfl, h2, h3, ?_⟩
      · simp [h2]
      · rw [List.take_length] at h4; exact h4)
  obtain ⟨⟨r, z⟩, e, h2, h3, h4, h5⟩ := key
  simp only at h2 h3 h4 h5
  subst h2
  rw [e, Option.bind_some]
  exact ⟨r, rfl, h3, h4, h5⟩
theorem MM_le : ∀ {l : List (List Int)} {k m : Int}, MM l k m → k ≤ m
  | [], _, _, h => by cases h; omega
  | x :: l, _, _, h => by have := MM_le h.2; omega
theorem p_heldII (l : List (List Int)) (a m : Int) (h0 : 0 ≤ a) (hm : m ≤ 1152921504606846976) (hl : l.length ≤ 1048576) (hv : ∀ x ∈ l, x.length ≤ 1048576) (h : MM l a m) : F_laws_heldIntSS l a = some m := by
  unfold F_laws_heldIntSS
  refine eq_of_rn (rn_then (ψ := fun b => b = .inl m) (rn_cloop l.length (fun k p => p.2 = (k : Int) ∧ k ≤ l.length ∧ 0 ≤ p.1 ∧ MM (l.drop k) p.1 m) ⟨rfl, by omega, h0, h⟩ ?_ ?_) ?_)
  · rintro k ⟨b, c⟩ hk ⟨rfl, _, h1, h2⟩
    simp only at h1 h2
    rw [List.drop_eq_getElem_cons hk] at h2
    have h4 := MM_le h2.2
    refine rn_if (fun _ => rn_ix hk (rn_call (p_heldI l[k] b h1 (by omega) (hv _ (List.getElem_mem hk)) h2.1) (rn_f (by simp; omega) (rn_some ⟨?_, hk, ?_, h2.2⟩)))) fun h => absurd h (by simp; omega)
    · exact inc (by omega)
    · show 0 ≤ b + _; omega
  · rintro ⟨b, c⟩ ⟨rfl, _, h1, h2⟩
    simp only at h1 h2
    rw [List.drop_length] at h2
    cases h2
    exact rn_if (fun h => absurd h (by simp)) fun _ => rn_some rfl
  · rintro x rfl; exact rn_some rfl
theorem n_allL {α γ : Type} {l : List α} (p : α → Bool) (c d : γ) {body : Int → Unit → Option (Stp Unit (Unit ⊕ γ))} (h : ∀ k (hk : k < l.length), body (k : Int) () = some (if p l[k] = true then .go () else .out (.inr c))) :
    (rloop body (fun _ => .inl ()) l.length 0 ()).bind (Sum.elim (fun _ => some d) some) = some (if l.all p = true then d else c) := by
  rw [n_allN (fun k => (l[k]?).any p) c d fun k hk => by rw [h k hk, List.getElem?_eq_getElem hk]; rfl]
  congr 2
  rw [List.all_eq_true, List.all_eq_true]
  refine propext ⟨fun h x hx => ?_, fun h k hk => ?_⟩
  · obtain ⟨k, hk, rfl⟩ := List.mem_iff_getElem.1 hx
    have := h k (List.mem_range.2 hk)
    rwa [List.getElem?_eq_getElem hk] at this
  · have hk := List.mem_range.1 hk
    rw [List.getElem?_eq_getElem hk]
    exact h _ (List.getElem_mem hk)
-- castings
noncomputable def castB (p : Plan) (x : Casting) : Bool := inB 0 (p.Voters - 1) x.Voter && voteB p.Ct x.Vote
def lensC (l : List Casting) : Prop := ∀ x ∈ l, x.Vote.length ≤ 1048576
theorem n_nCastings {p : Plan} (k : OkC p.Ct) (hv : 1 ≤ p.Voters ∧ p.Voters ≤ 12) {l : List Casting} (hl : lensC l) : F_spec_nCastings p l = some (l.all (castB p) && decide ((l.length : Int) ≤ 16)) := by
  unfold F_spec_nCastings
  rw [n_allL (castB p) false (decide ((l.length : Int) ≤ 16))]
  · cases l.all (castB p) <;> rfl
  · intro i hi
    rw [ix_at hi, Option.bind_some, n_inB, Option.bind_some, n_vVote k (hl _ (List.getElem_mem hi)), Option.bind_some, ite_or, Option.bind_some, wr64 (by omega) (by omega)]
    unfold castB
    cases inB 0 (p.Voters - 1) l[i].Voter <;> cases voteB p.Ct l[i].Vote <;> rfl
theorem n_areCastings {p : Plan} (k : OkC p.Ct) (hv : 1 ≤ p.Voters ∧ p.Voters ≤ 12) {l : List Casting} (hl : lensC l) : F_impl_Plan_areCastings p l = some (l.all (castB p) && decide ((l.length : Int) ≤ 16)) := by
  unfold F_impl_Plan_areCastings F_slices_ContainsFunc_impl_Casting_impl_Casting__impl_Plan_areCastings_1 F_slices_IndexFunc_impl_Casting_impl_Casting__impl_Plan_areCastings_1
  rw [cf_gen (p := fun x => !castB p x) (f := fun x => F_impl_Plan_areCastings_1_ x p.Gr.P p.Gr.Q p.Gr.G p.Ct.Kind p.Ct.Options p.Ct.Least p.Ct.Most p.Ct.Points p.Threshold p.Trustees p.Mixers p.Voters p.Seed)]
  · rw [Option.bind_some]
    have e : (l.any fun x => !castB p x) = !l.all (castB p) := by rw [List.not_all_eq_any_not]
    rw [e]
    cases l.all (castB p) <;> cases decide ((l.length : Int) ≤ 16) <;> rfl
  · intro x hx
    unfold F_impl_Plan_areCastings_1_
    rw [n_winB, Option.bind_some, n_isVote k (hl x hx), Option.bind_some, ite_or, Option.bind_some, wr64 (by omega) (by omega)]
    unfold castB
    cases inB 0 (p.Voters - 1) x.Voter <;> cases voteB p.Ct x.Vote <;> rfl
-- exponents of votes
theorem n_l1Own {l : List Int} (h : l.length ≤ 1048576) : F_spec_l1Own l = some l := gd_t (by omega)
theorem n_clone {l : List Int} (h : l.length ≤ 1048576) : F_slices_Clone_int_int l = some l := gd_t (by omega)
def expsF (ct : Contest) (v : List Int) : List Int := if ct.Kind = 1 then marks ct.Options.toNat v else v
theorem n_exps {ct : Contest} (k : OkC ct) (hf : (ct.Kind == 1 || ct.Kind == 2) = true) {v : List Int} (hv : voteB ct v = true) :
    F_spec_vExps ct v = some (expsF ct v) ∧ F_impl_Contest_exponents ct v = some (expsF ct v) ∧ ((expsF ct v).length : Int) = ct.Options := by
  unfold F_spec_vExps F_impl_Contest_exponents F_impl_Contest_digits expsF
  simp only [choices_eq, ite_or, Option.bind_some, hf, if_true]
  simp only [Bool.or_eq_true, beq_iff_eq] at hf
  unfold voteB at hv
  rcases hf with h | h
  · simp only [h, if_true, Bool.and_eq_true] at hv
    have ho : 1 ≤ ct.Options ∧ ct.Options ≤ 8 := by rcases k.k with h | h | h <;> omega
    simp only [h, beq_self_eq_true, if_true, n_vMarks (ct := ct) (by omega) hv.1.1, Option.bind_some]
    exact ⟨trivial, trivial, by rw [marks_len]; omega⟩
  · have h1 : ¬ (2 : Int) = 1 := by omega
    simp only [h, h1, if_false, if_true, Bool.and_eq_true, decide_eq_true_eq] at hv
    have ho : ct.Options ≤ 8 := by rcases k.k with h | h | h <;> omega
    simp only [h, h1, if_false, show ((2 : Int) == 1) = false from rfl, show ((2 : Int) == 3) = false from rfl, beq_self_eq_true, Bool.false_eq_true, if_true, n_l1Own (l := v) (by omega), n_clone (l := v) (by omega), Option.bind_some]
    exact ⟨trivial, trivial, hv.1⟩
-- loops that never fail
def itr {σ : Type} (f : Nat → σ → σ) : Nat → σ → σ
  | 0, s => s
  | n + 1, s => f n (itr f n s)
theorem itr_inv {σ : Type} {f : Nat → σ → σ} {I : Nat → σ → Prop} {s0 : σ} (h0 : I 0 s0) {m : Nat} (h : ∀ k s, k < m → I k s → I (k + 1) (f k s)) : ∀ k, k ≤ m → I k (itr f k s0)
  | 0, _ => h0
  | k + 1, hk => h k _ (by omega) (itr_inv h0 h k (by omega))
theorem rl_itr {σ β : Type} {body : Int → σ → Option (Stp σ β)} {stop : σ → β} {m : Nat} {s0 : σ} (f : Nat → σ → σ) (I : Nat → σ → Prop) (h0 : I 0 s0) (hi : ∀ k s, k < m → I k s → I (k + 1) (f k s)) (hs : ∀ k s, k < m → I k s → body (k : Int) s = some (.go (f k s))) :
    rloop body stop m 0 s0 = some (stop (itr f m s0)) := by
  refine eq_of_rn (rn_rloop (fun k s => s = itr f k s0 ∧ k ≤ m) ⟨rfl, by omega⟩ ?_ ?_)
  · rintro k s hk ⟨rfl, _⟩
    exact ⟨_, hs k _ hk (itr_inv h0 hi k (by omega)), rfl, hk⟩
  · rintro s ⟨rfl, _⟩; rfl
theorem wl_itr {σ β : Type} {step : σ × Int → Option (Stp (σ × Int) β)} {out : σ → β} {m : Nat} {s0 : σ} (f : Nat → σ → σ) (I : Nat → σ → Prop) (h0 : I 0 s0) (hi : ∀ k s, k < m → I k s → I (k + 1) (f k s)) (hs : ∀ k s, k < m → I k s → step (s, (k : Int)) = some (.go (f k s, ((k + 1 : Nat) : Int)))) (he : ∀ s, step (s, (m : Int)) = some (.out (out s))) :
    wloop step (s0, 0) = some (out (itr f m s0)) := by
  refine eq_of_rn (rn_cloop m (fun k p => p = (itr f k s0, (k : Int)) ∧ k ≤ m) ⟨rfl, by omega⟩ ?_ ?_)
  · rintro k p hk ⟨rfl, _⟩
    exact ⟨_, hs k _ hk (itr_inv h0 hi k (by omega)), rfl, hk⟩
  · rintro p ⟨rfl, _⟩
    exact ⟨_, he _, rfl⟩
-- tallies
def addF (e : List Int) (k : Nat) (s : List Int) : List Int := s.set k (IntKind.i64.wrap (s.getD k 0 + e.getD k 0))
def addL (e s : List Int) : List Int := itr (addF e) e.length s
theorem addL_len (e s : List Int) : (addL e s).length = s.length := itr_inv (I := fun _ (t : List Int) => t.length = s.length) rfl (fun k t _ h => by simpa [addF] using h) e.length (Nat.le_refl _)
theorem add_loop {β : Type} {e s : List Int} (h : e.length ≤ s.length) (stop : List Int → β) : rloop (σ := List Int) (fun i63 s62 =>
    (ix e i63).bind fun x69 =>
    (ix s62 i63).bind fun x70 =>
    some (.go (s62.set i63.toNat (IntKind.i64.wrap (x70 + x69))))) stop e.length 0 s = some (stop (addL e s)) := by
  refine rl_itr (addF e) (fun _ t => t.length = s.length) rfl (fun k t _ h => by simpa [addF] using h) ?_
  intro k t hk ht
  have h2 : k < t.length := by omega
  simp only [ix_at hk, ix_at h2, Option.bind_some, Int.toNat_natCast, addF]
  simp [hk, h2]
def tally (ct : Contest) (l : List (List Int)) : List Int := itr (fun k s => addL (expsF ct (l.getD k [])) s) l.length (List.replicate ct.Options.toNat 0)
theorem tally_len (ct : Contest) (l : List (List Int)) : (tally ct l).length = ct.Options.toNat :=
  itr_inv (I := fun _ (t : List Int) => t.length = ct.Options.toNat) (by simp) (fun k t _ h => by rw [addL_len]; exact h) l.length (Nat.le_refl _)
theorem n_tally {ct : Contest} (k : OkC ct) (hf : (ct.Kind == 1 || ct.Kind == 2) = true) {l : List (List Int)} (hl : l.length ≤ 24) (hv : l.all (voteB ct) = true) (hw : ∀ x ∈ l, x.length ≤ 1048576) :
    F_spec_tTally ct l = some (tally ct l) ∧ F_impl_TallyVotes ct l = some (tally ct l, true) := by
  have ho : 0 ≤ ct.Options ∧ ct.Options ≤ 8 := by rcases k.k with h | h | h <;> omega
  constructor
  · unfold F_spec_tTally
    rw [gd_t (by omega), Option.bind_some, rl_itr (fun k s => addL (expsF ct (l.getD k [])) s) (fun _ (t : List Int) => t.length = ct.Options.toNat) (by simp) (fun k t _ h => by rw [addL_len]; exact h), Option.bind_some]
    · rfl
    · intro i t hi ht
      obtain ⟨h1, _, h2⟩ := n_exps k hf (List.all_eq_true.1 hv _ (List.getElem_mem hi))
      rw [ix_at hi, Option.bind_some, h1, Option.bind_some, add_loop (by omega) (fun s => s), Option.bind_some]
      simp [hi]
  · unfold F_impl_TallyVotes
    rw [n_IsValidContest, n_formI, okC_t.2 k, hf]
    simp only [Option.bind_some, Bool.not_true, Bool.false_eq_true, if_false]
    rw [if_neg (by simp; omega), gd_t (by omega), rl_itr (fun k s => addL (expsF ct (l.getD k [])) s) (fun _ (t : List Int) => t.length = ct.Options.toNat) (by simp) (fun k t _ h => by rw [addL_len]; exact h), Option.bind_some]
    · rfl
    · intro i t hi ht
      have hb := List.all_eq_true.1 hv _ (List.getElem_mem hi)
      obtain ⟨_, h1, h2⟩ := n_exps k hf hb
      rw [ix_at hi, Option.bind_some, n_isVote k (hw _ (List.getElem_mem hi)), hb, Option.bind_some]
      simp only [Bool.not_true, Bool.false_eq_true, if_false]
      rw [h1, Option.bind_some, add_loop (by omega), Option.bind_some]
      simp [hi]
-- the last castings
def lastI (l : List Casting) (v : Int) : Nat → Int
  | 0 => -1
  | k + 1 => if ((l[k]?).any fun x => x.Voter == v) = true then (k : Int) else lastI l v k
theorem lastI_bd (l : List Casting) (v : Int) : ∀ k : Nat, -1 ≤ lastI l v k ∧ lastI l v k < k
  | 0 => by simp [lastI]
  | k + 1 => by
    have := lastI_bd l v k
    unfold lastI
    split <;> omega
def lastV (l : List Casting) (n : Nat) (s : List (List Int)) : List (List Int) := if 0 ≤ lastI l n l.length then s ++ [(l.getD (lastI l n l.length).toNat ⟨0, []⟩).Vote] else s
theorem lastV_mem {l : List Casting} {n : Nat} {s : List (List Int)} {P : List Int → Prop} (hs : ∀ x ∈ s, P x) (hl : ∀ x ∈ l, P x.Vote) : (∀ x ∈ lastV l n s, P x) ∧ (lastV l n s).length ≤ s.length + 1 := by
  have bd := lastI_bd l n l.length
  unfold lastV
  split
  · have h : (lastI l n l.length).toNat < l.length := by omega
    refine ⟨fun x hx => ?_, by simp⟩
    rcases List.mem_append.1 hx with h1 | h1
    · exact hs x h1
    · rw [List.mem_singleton.1 h1]
      simp only [List.getD_eq_getElem?_getD, List.getElem?_eq_getElem h, Option.getD_some]
      exact hl _ (List.getElem_mem h)
  · exact ⟨hs, by omega⟩
def votesOf (p : Plan) (l : List Casting) : List (List Int) := itr (lastV l) p.Voters.toNat []
theorem votesOf_ok (p : Plan) {l : List Casting} {P : List Int → Prop} (hl : ∀ x ∈ l, P x.Vote) : (∀ x ∈ votesOf p l, P x) ∧ (votesOf p l).length ≤ p.Voters.toNat :=
  itr_inv (I := fun k (s : List (List Int)) => (∀ x ∈ s, P x) ∧ s.length ≤ k) ⟨by simp, by simp⟩ (fun k s _ h => by
    have := lastV_mem (n := k) h.1 hl
    exact ⟨this.1, by omega⟩) _ (Nat.le_refl _)
theorem last_loop (l : List Casting) (v : Nat) (hl : l.length ≤ 1048576) : rloop (σ := Int) (β := Int) (fun i55 s54 =>
    (((ix l i55).bind fun x64 =>
    if (x64.Voter == (v : Int)) = true then (
    some i55) else (
    some s54) : Option (Int)).bind fun x63 =>
    some (.go x63))) (fun s54 => s54) (l.length) 0 (-1) = some (lastI l v l.length) := by
  refine eq_of_rn (rn_rloop (fun k s => s = lastI l v k) rfl ?_ fun s hs => hs)
  rintro k s hk rfl
  rw [ix_at hk, Option.bind_some]
  have e : ((l[k]?).any fun x => x.Voter == (v : Int)) = (l[k].Voter == (v : Int)) := by rw [List.getElem?_eq_getElem hk]; rfl
  cases h : l[k].Voter == (v : Int) <;> exact rn_some (by show _ = lastI l v (k + 1); simp only [lastI, e, h]; rfl)
theorem down_loop (l : List Casting) (v : Nat) (hl : l.length ≤ 1048576) (hw : lensC l) (s : List (List Int)) (hs : s.length ≤ 1000) : wloop (σ := (List (List Int)) × Int) (β := List (List Int)) (fun s38 =>
    if decide (0 ≤ s38.2) = true then (
    (ix l s38.2).bind fun x44 =>
    if (x44.Voter == (v : Int)) = true then (
    (F_slices_Clone_int_int x44.Vote).bind fun z46 =>
    gd ((s38.1.length + 1) * 24 ≤ 140737488355328 ∧ s38.1.length + 1 ≤ 4611686018427387904) <|
    some (.out (s38.1 ++ [z46]))) else (
    some (.go (s38.1, IntKind.i64.wrap (s38.2 - 1))))) else (
    some (.out s38.1))) (s, IntKind.i64.wrap ((l.length : Int) - 1)) = some (lastV l v s) := by
  refine eq_of_rn (rn_cloop l.length (fun j p => p = (s, ((l.length - j : Nat) : Int) - 1) ∧ j ≤ l.length ∧ lastI l v l.length = lastI l v (l.length - j)) ⟨by rw [wr64 (by omega) (by omega)]; rfl, by omega, rfl⟩ ?_ ?_)
  · rintro j p hj ⟨rfl, _, h⟩
    obtain ⟨k, hk, e1, e2⟩ : ∃ k : Nat, k < l.length ∧ l.length - j = k + 1 ∧ l.length - (j + 1) = k := ⟨l.length - j - 1, by omega, by omega, by omega⟩
    rw [e1] at h ⊢
    have e3 : ((k + 1 : Nat) : Int) - 1 = (k : Int) := by omega
    have e : ((l[k]?).any fun x => x.Voter == (v : Int)) = (l[k].Voter == (v : Int)) := by rw [List.getElem?_eq_getElem hk]; rfl
    simp only [lastI, e] at h
    rw [e3]
    refine rn_if (fun _ => rn_ix hk (rn_if (fun hv => ?_) fun hv => rn_some ⟨?_, hj, ?_⟩)) fun h => absurd h (by simp)
    · refine rn_call (n_clone (hw _ (List.getElem_mem hk))) (rn_gd (by dsimp only; omega) (rn_some ?_))
      rw [if_pos hv] at h
      show _ = lastV l v s
      unfold lastV
      rw [h, if_pos (by omega), Int.toNat_natCast]
      simp [hk]
    · rw [e2]
      show (s, IntKind.i64.wrap ((k : Int) - 1)) = _
      rw [wr64 (by omega) (by omega)]
    · rw [e2, h, if_neg (by rw [hv]; simp)]
  · rintro p ⟨rfl, _, h⟩
    rw [Nat.sub_self] at h ⊢
    refine rn_if (fun h => absurd h (by simp)) fun _ => rn_some ?_
    show s = lastV l v s
    unfold lastV
    rw [h, if_neg (by simp [lastI])]
theorem n_result (p : Plan) {l : List Casting} (hl : l.length ≤ 1048576) (hw : lensC l) : ∃ v t b, F_spec_PlainResult p l = some (v, t, b) ∧ F_impl_PlainResult p l = some (v, t, b) ∧ v.length ≤ 12 ∧ (∀ x ∈ v, x.length ≤ 1048576) ∧ t.length ≤ 8 := by
  obtain ⟨b, h1, h2, h3⟩ := n_plan p
  unfold F_spec_PlainResult F_impl_PlainResult
  rw [h1, h2, Option.bind_some, Option.bind_some]
  cases b with
  | false => exact ⟨[], [], false, rfl, rfl, by simp, by simp, by simp⟩
  | true =>
    obtain ⟨kg, kc, _, _, _, hv, _⟩ := h3 rfl
    rw [n_nCastings kc hv hw, n_areCastings kc hv hw]
    cases hc : (l.all (castB p) && decide ((l.length : Int) ≤ 16)) with
    | false => exact ⟨[], [], false, rfl, rfl, by simp, by simp, by simp⟩
    | true =>
      simp only [Bool.not_true, Bool.false_eq_true, if_false, Option.bind_some]
      simp only [Bool.and_eq_true, decide_eq_true_eq] at hc
      obtain ⟨n, hn⟩ : ∃ n : Nat, p.Voters = (n : Int) := ⟨p.Voters.toNat, by omega⟩
      have hn2 : p.Voters.toNat = n := by omega
      have hva : ∀ x ∈ l, voteB p.Ct x.Vote = true ∧ x.Vote.length ≤ 1048576 := fun x hx => by
        have := List.all_eq_true.1 hc.1 x hx
        simp only [castB, Bool.and_eq_true] at this
        exact ⟨this.2, hw x hx⟩
      obtain ⟨v1, v2⟩ := votesOf_ok (P := fun v => voteB p.Ct v = true ∧ v.length ≤ 1048576) p hva
      have inv : ∀ k s, k < n → (s.length ≤ k) → (lastV l k s).length ≤ k + 1 := fun k s _ h => by
        have := (lastV_mem (l := l) (n := k) (s := s) (P := fun _ => True) (fun _ _ => trivial) fun _ _ => trivial).2
        omega
      have S : wloop (σ := (List (List Int)) × Int) (β := List (List Int)) (fun s42 =>
          if decide (s42.2 < p.Voters) = true then (
          ((((rloop (σ := Int) (β := Int) (fun i55 s54 =>
          (((ix l i55).bind fun x64 =>
          if (x64.Voter == s42.2) = true then (
          some i55) else (
          some s54) : Option (Int)).bind fun x63 =>
          some (.go x63))) (fun s54 => s54) (l.length) 0 (-1) : Option (Int)).bind fun x53 =>
          if decide (0 ≤ x53) = true then (
          (ix l x53).bind fun x71 =>
          (F_spec_l1Own x71.Vote).bind fun z72 =>
          gd ((s42.1.length + 1) * 24 ≤ 140737488355328 ∧ s42.1.length + 1 ≤ 4611686018427387904) <|
          some (s42.1 ++ [z72])) else (
          some s42.1)) : Option ((List (List Int)))).bind fun x50 =>
          some (.go (x50, IntKind.i64.wrap (s42.2 + 1))))) else (
          some (.out s42.1))) ([], 0) = some (votesOf p l) := by
        have e : votesOf p l = itr (lastV l) n [] := by unfold votesOf; rw [hn2]
        rw [e]
        refine wl_itr (out := fun s => s) (lastV l) (fun k s => s.length ≤ k) (by simp) inv ?_ (fun s => by rw [if_neg (by simp; omega)])
        intro k s hk hs
        have bd := lastI_bd l k l.length
        rw [if_pos (by simp; omega), last_loop l k hl, Option.bind_some, inc (by omega)]
        by_cases h : 0 ≤ lastI l k l.length
        · obtain ⟨i, hi⟩ : ∃ i : Nat, lastI l k l.length = (i : Int) := ⟨(lastI l k l.length).toNat, by omega⟩
          have hil : i < l.length := by omega
          rw [if_pos (by simpa using h)]
          unfold lastV
          rw [if_pos h, hi, ix_at hil, Option.bind_some, n_l1Own (hw _ (List.getElem_mem hil)), Option.bind_some, gd_t (by dsimp only; omega)]
          simp [hil]
        · rw [if_neg (by simpa using h)]
          unfold lastV
          rw [if_neg h]; rfl
      have I : wloop (σ := (List (List Int)) × Int) (β := List (List Int)) (fun s29 =>
          if decide (s29.2 < p.Voters) = true then (
          ((wloop (σ := (List (List Int)) × Int) (fun s38 =>
          if decide (0 ≤ s38.2) = true then (
          (ix l s38.2).bind fun x44 =>
          if (x44.Voter == s29.2) = true then (
          (F_slices_Clone_int_int x44.Vote).bind fun z46 =>
          gd ((s38.1.length + 1) * 24 ≤ 140737488355328 ∧ s38.1.length + 1 ≤ 4611686018427387904) <|
          some (.out (s38.1 ++ [z46]))) else (
          some (.go (s38.1, IntKind.i64.wrap (s38.2 - 1))))) else (
          some (.out s38.1))) (s29.1, IntKind.i64.wrap ((l.length : Int) - 1)) : Option ((List (List Int)))).bind fun x37 =>
          some (.go (x37, IntKind.i64.wrap (s29.2 + 1))))) else (
          some (.out s29.1))) ([], 0) = some (votesOf p l) := by
        have e : votesOf p l = itr (lastV l) n [] := by unfold votesOf; rw [hn2]
        rw [e]
        refine wl_itr (out := fun s => s) (lastV l) (fun k s => s.length ≤ k) (by simp) inv ?_ (fun s => by rw [if_neg (by simp; omega)])
        intro k s hk hs
        rw [if_pos (by simp; omega), down_loop l k hl hw s (by omega), Option.bind_some, inc (by omega)]
      rw [S, I, n_bRows, n_formI]
      simp only [Option.bind_some]
      have vw : ∀ x ∈ votesOf p l, x.length ≤ 1048576 := fun x hx => (v1 x hx).2
      cases hf : (p.Ct.Kind == 1 || p.Ct.Kind == 2) with
      | false => exact ⟨_, _, _, rfl, rfl, by omega, vw, by simp⟩
      | true =>
        obtain ⟨t1, t2⟩ := n_tally kc hf (l := votesOf p l) (by omega) (List.all_eq_true.2 fun x hx => (v1 x hx).1) vw
        simp only [Bool.not_true, Bool.false_eq_true, if_false, if_true, t1, t2, Option.bind_some]
        refine ⟨_, _, _, rfl, rfl, by omega, vw, ?_⟩
        rw [tally_len]
        rcases kc.k with h | h | h <;> omega
-- the law
theorem p_szCastingS {l : List Casting} (hl : l.length ≤ 1048576) (hw : lensC l) : ∃ z, F_laws_szCastingS l 1048576 = some z := by
  unfold F_laws_szCastingS
  rw [wr64 (by omega) (by omega)]
  by_cases h : 1048576 - (l.length : Int) < 0
  · exact ⟨-1, by simp [h]⟩
  · rw [if_neg (by simpa using h)]
    refine (sz_loop l.length (by omega) ?_ ?_).imp fun z h => h.1
    · intro k a hk h0 h1
      obtain ⟨z, hz, hz1⟩ := p_szIntS (l := l[k].Vote) h0 h1 (hw _ (List.getElem_mem hk))
      refine ⟨if z < 0 then -1 else z, by split <;> omega, ?_⟩
      rw [if_pos (by simpa using hk), ix_at hk, Option.bind_some]
      unfold F_laws_szCasting
      rw [hz, Option.bind_some, inc (by omega)]
      by_cases hz0 : z < 0 <;> simp [hz0]
    · intro a; simp
theorem p_toCastingS {l : List Casting} (hl : l.length ≤ 1048576) (hw : lensC l) : F_laws_toCastingS l = some l := by
  unfold F_laws_toCastingS
  rw [gd_t (by omega), Option.bind_some, wl_copy, Option.bind_some]
  · intro k hk r hr
    have h2 : k < r.length := by omega
    rw [if_pos (by simpa using hk), ix_at hk, Option.bind_some]
    unfold F_laws_toCasting
    rw [p_toIntS (hw _ (List.getElem_mem hk)), Option.bind_some, Option.bind_some, ix_at h2, Option.bind_some, inc (by omega)]
    rfl
  · intro r; simp
theorem p_eqCastingS {l : List Casting} (hl : l.length ≤ 1048576) (hw : lensC l) : F_laws_eqCastingS l l = some true := by
  unfold F_laws_eqCastingS
  rw [if_neg (by simp), wl_all l.length]
  · rfl
  · intro k hk
    rw [if_pos (by simpa using hk), ix_at hk, Option.bind_some, Option.bind_some]
    unfold F_laws_eqCasting
    rw [if_neg (by simp), p_eqIntS (hw _ (List.getElem_mem hk)), inc (by omega)]
    rfl
  · simp
theorem p_markCastingS {l : List Casting} (hl : l.length ≤ 1048576) (hw : lensC l) : ∃ z, F_laws_markCastingS__io0 l 1 = some z ∧ 0 ≤ z.1 := by
  unfold F_laws_markCastingS__io0
  have key := mk_loop (l := l) (a0 := 1) (K := 1048577) (step := fun s12 =>
    if decide (s12.2.2 < (s12.1.length : Int)) = true then (
    (ix s12.1 s12.2.2).bind fun x18 =>
    (F_laws_markIntS__io0 x18.Vote (IntKind.i64.wrap (s12.2.1 + 1))).bind fun z19 =>
    some (.go ((s12.1.set s12.2.2.toNat (Casting.mk s12.2.1 x18.Vote)).set s12.2.2.toNat (Casting.mk s12.2.1 z19.2), z19.1, IntKind.i64.wrap (s12.2.2 + 1)))) else (
    some (.out (s12.1, s12.2.1)))) (fun x => x.Vote.length ≤ 1048576) hw (by omega) (by omega) ?_ ?_
  · obtain ⟨z, h1, h2, _⟩ := key
    rw [h1, Option.bind_some]
    exact ⟨_, rfl, by show 0 ≤ z.2; omega⟩
  · intro k r a hk hr hP h1 h2
    have hk2 : (k : Int) * 1048577 ≤ 1048576 * 1048577 := Int.mul_le_mul (by omega) (Int.le_refl _) (by omega) (by omega)
    obtain ⟨m, m1, m2, m3⟩ := p_markI r[k].Vote (a + 1) (by omega) (by omega) hP
    refine ⟨⟨a, m⟩, a + 1 + r[k].Vote.length, ?_, by simpa [m2] using hP, by omega, by omega⟩
    dsimp only
    rw [if_pos (by simpa using hk), ix_at hk, Option.bind_some, wr64 (n := a + 1) (by omega) (by omega), m1, Option.bind_some, inc (by omega)]
    simp
  · intro r a hr; simp [hr]
theorem law18 (p : Plan) (l : List Casting) (hl : l.length ≤ 1048576) (hw : lensC l) : F_laws_FnExactPlainResult p l = some true := by
  obtain ⟨z, hz⟩ := p_szCastingS hl hw
  obtain ⟨v, t, b, s1, s2, b1, b2, b3⟩ := n_result p hl hw
  obtain ⟨m, m1, m2⟩ := p_markCastingS hl hw
  have ht : totI v ≤ 1152920000000000000 := by
    have : ∀ (w : List (List Int)), (∀ x ∈ w, x.length ≤ 1048576) → totI w ≤ w.length * 1048576 := by
      intro w
      induction w with
      | nil => intro _; simp [totI]
      | cons x w ih =>
        intro h
        have h1 := ih fun y hy => h y (List.mem_cons_of_mem _ hy)
        have h2 := h x (List.mem_cons_self ..)
        simp only [totI, List.map_cons, List.sum_cons, List.length_cons] at h1 ⊢
        push_cast
        rw [Int.add_mul]; omega
    have := this v b2
    have h2 : (v.length : Int) * 1048576 ≤ 12 * 1048576 := Int.mul_le_mul (by omega) (Int.le_refl _) (by omega) (by omega)
    omega
  obtain ⟨r, r1, r2, r3, r4⟩ := p_markII v 1 (by omega) (by omega) (by omega) b2 ht
  have t0 := totI_nn v
  obtain ⟨q, q1, q2, q3⟩ := p_markI t (1 + totI v) (by omega) (by omega) (by omega)
  have h1 := p_heldII r 1 _ (by omega) (by omega) (by omega) r3 r4
  have h2 := p_heldI q (1 + totI v) (by omega) (by omega) (by omega) q3
  have tp : F_laws_toPlan p = some p := rfl
  have e1 : F_laws_eqIntSS v v = some true := p_eqIntSS (by omega) b2
  have e2 : F_laws_eqIntS t t = some true := p_eqIntS (by omega)
  unfold F_laws_FnExactPlainResult
  simp only [hz, tp, p_toCastingS hl hw, s1, s2, m1, p_eqCastingS hl hw, e1, e2, r1, q1, h1, h2, Option.bind_some]
  rw [q2] at *
  by_cases hz0 : z < 0
  · simp [hz0]
  · have a1 : ¬ m.1 < 0 := by omega
    have a2 : ¬ 1 + totI v < 0 := by omega
    have a3 : ¬ 1 + totI v + (t.length : Int) < 0 := by omega
    simp [hz0, a1, a2, a3, h2]
end Go.Pm
