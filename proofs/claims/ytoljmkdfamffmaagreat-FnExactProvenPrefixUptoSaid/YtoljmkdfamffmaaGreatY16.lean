/-
  FnExactProvenPrefix: plain laws.
  No condition.
-/
import Derived.Test.YtoljmkdfamffmaaGreatM16b
import Derived.Test.YtoljmkdfamffmaaGreatPmZ
namespace Go.Pm
open Go.Am
set_option linter.unusedVariables false
set_option linter.unusedSimpArgs false
-- arguments: sizes, copies, equality
theorem p_szIntS {l : List Int} {n : Int} (h0 : 0 ≤ n) (h1 : n ≤ 1048576) (hl : l.length ≤ 1048576) : ∃ z, F_laws_szIntS l n = some z ∧ z ≤ 1048576 := by
  unfold F_laws_szIntS
  rw [wr64 (by omega) (by omega)]
  by_cases h : n - (l.length : Int) < 0
  · exact ⟨-1, by simp [h], by omega⟩
  · exact ⟨n - l.length, by simp [h], by omega⟩
theorem set_step {α : Type} {l r : List α} {k : Nat} (hk : k < l.length) (hr : r.length = l.length) (h : r.take k = l.take k) : (r.set k l[k]).take (k + 1) = l.take (k + 1) := by
  rw [List.take_succ_eq_append_getElem (by simpa [hr] using hk), List.take_succ_eq_append_getElem hk]
  simp [List.take_set_of_le, h]
theorem p_toIntS {l : List Int} (hl : l.length ≤ 1048576) : F_laws_toIntS l = some l := by
  unfold F_laws_toIntS
  rw [gd_t (by omega), Option.bind_some]
  obtain ⟨b, hb, hp⟩ := cloop_post (β := List Int) (σ := List Int × Int) (step := fun s42 =>
    if decide (s42.2 < (l.length : Int)) = true then (
    (ix l s42.2).bind fun x53 =>
    (ix s42.1 s42.2).bind fun x60 =>
    some (.go (s42.1.set s42.2.toNat x53, IntKind.i64.wrap (s42.2 + 1)))) else (
    some (.out s42.1))) (s0 := (List.replicate l.length 0, 0)) l.length (fun k s => s.2 = (k : Int) ∧ s.1.length = l.length ∧ s.1.take k = l.take k)
    (fun b => b = l) ⟨rfl, by simp, by simp⟩
    (by
      rintro k ⟨a, b⟩ hk ⟨e, h2, h3⟩
      simp only at e h2 h3
      subst e
      have hd : decide ((k : Int) < (l.length : Int)) = true := by simpa using hk
      refine .inl ⟨(a.set k l[k], (k : Int) + 1), ?_, by simp, by simp [h2], set_step hk h2 h3⟩
      simp only [hd, if_true, ix_at hk, Option.bind_some, ix_at (l := a) (k := k) (by omega)]
      rw [wr64 (by omega) (by omega)]
      simp)
    (by
      rintro ⟨a, b⟩ ⟨e, h2, h3⟩
      simp only at e h2 h3
      subst e
      refine ⟨a, by simp, ?_⟩
      rw [List.take_of_length_le (by omega), List.take_of_length_le (Nat.le_refl _)] at h3
      exact h3)
  rw [hb, Option.bind_some, hp]
theorem p_eqIntS {l : List Int} (hl : l.length ≤ 1048576) : F_laws_eqIntS l l = some true := by
  unfold F_laws_eqIntS
  simp only [bne_self_eq_false, Bool.false_eq_true, if_false]
  obtain ⟨b, hb, hp⟩ := cloop_post (β := Unit ⊕ Bool) (σ := Int) (step := fun s52 =>
    if decide (s52 < (l.length : Int)) = true then (
    (ix l s52).bind fun x63 =>
    (ix l s52).bind fun x70 =>
    if (x63 != x70) = true then (
    some (.out (.inr false))) else (
    some (.go (IntKind.i64.wrap (s52 + 1))))) else (
    some (.out (.inl ())))) (s0 := 0) l.length (fun k s => s = (k : Int)) (fun b => b = .inl ()) rfl
    (by
      rintro k a hk e
      subst e
      have hd : decide ((k : Int) < (l.length : Int)) = true := by simpa using hk
      refine .inl ⟨(k : Int) + 1, ?_, by simp⟩
      simp only [hd, if_true, ix_at hk, Option.bind_some, bne_self_eq_false, Bool.false_eq_true, if_false]
      rw [wr64 (by omega) (by omega)])
    (by
      rintro a e
      subst e
      exact ⟨_, by simp, rfl⟩)
  rw [hb, Option.bind_some, hp]; rfl
def MI : List Int → Int → Prop
  | [], _ => True
  | x :: l, k => x = k ∧ MI l (k + 1)
theorem MI_get : ∀ {l : List Int} {k : Int} (i : Nat) (h : i < l.length), MI l k → l[i] = k + i := by
  intro l
  induction l with
  | nil => intro k i h; simp at h
  | cons x l ih =>
    intro k i h hm
    cases i with
    | zero => simp [hm.1]
    | succ i =>
      have := ih (k := k + 1) i (by simpa using h) hm.2
      simp only [List.getElem_cons_succ, this]
      push_cast; omega
theorem MI_of : ∀ {l : List Int} {k : Int}, (∀ (i : Nat) (h : i < l.length), l[i] = k + i) → MI l k := by
  intro l
  induction l with
  | nil => intro k _; trivial
  | cons x l ih =>
    intro k h
    refine ⟨by have h1 : x = k + ((0 : Nat) : Int) := h 0 (by simp); rw [h1]; simp, ih fun i hi => ?_⟩
    have := h (i + 1) (by simpa using hi)
    simp only [List.getElem_cons_succ] at this
    rw [this]; push_cast; omega
theorem p_markI (l : List Int) (k : Int) (h0 : 0 ≤ k) (hk : k + l.length ≤ 1152921504606846976) (hl : l.length ≤ 1048576) : ∃ r, F_laws_markIntS__io0 l k = some (k + l.length, r) ∧ r.length = l.length ∧ MI r k := by
  unfold F_laws_markIntS__io0
  obtain ⟨x, e, r, rfl, h1, h2⟩ := cloop_post (σ := (List Int) × Int × Int) (β := ((List Int) × Int)) (step := fun s29 =>
    if decide (s29.2.2 < (s29.1.length : Int)) = true then (
    (ix s29.1 s29.2.2).bind fun x40 =>
    some (.go (s29.1.set s29.2.2.toNat s29.2.1, IntKind.i64.wrap (s29.2.1 + 1), IntKind.i64.wrap (s29.2.2 + 1)))) else (
    some (.out (s29.1, s29.2.1)))) (s0 := (l, k, 0)) l.length
    (fun i s => ∃ r : List Int, s = (r, k + (i : Int), (i : Int)) ∧ r.length = l.length ∧ ∀ (j : Nat) (h : j < r.length), j < i → r[j] = k + j)
    (fun x => ∃ r : List Int, x = (r, k + l.length) ∧ r.length = l.length ∧ MI r k)
    ⟨l, by simp, rfl, fun j h1 h2 => by omega⟩
    (by
      rintro i s hi ⟨r, rfl, h1, h2⟩
      have hd : decide ((i : Int) < (r.length : Int)) = true := by simp only [decide_eq_true_eq]; omega
      refine .inl ⟨(r.set i (k + i), k + ((i + 1 : Nat) : Int), ((i + 1 : Nat) : Int)), ?_, r.set i (k + i), rfl, by simp [h1], fun j hj hji => ?_⟩
      · simp only [hd, if_true, ix_at (l := r) (k := i) (by omega), Option.bind_some, Int.toNat_natCast]
        rw [wr64 (n := (i : Int) + 1) (by omega) (by omega), wr64 (by omega) (by omega)]
        have e1 : k + (i : Int) + 1 = k + ((i + 1 : Nat) : Int) := by push_cast; omega
        have e2 : (i : Int) + 1 = ((i + 1 : Nat) : Int) := by push_cast; rfl
        rw [e1, e2]
      · rw [List.getElem_set]
        split
        · rename_i e; subst e; rfl
        · exact h2 j (by simpa using hj) (by omega))
    (by
      rintro s ⟨r, rfl, h1, h2⟩
      exact ⟨(r, k + l.length), by simp [h1], r, rfl, h1, MI_of fun i hi => h2 i hi (by omega)⟩)
  rw [e, Option.bind_some]
  exact ⟨r, rfl, h1, h2⟩
theorem p_heldI (l : List Int) (k : Int) (h0 : 0 ≤ k) (hk : k + l.length ≤ 1152921504606846976) (hl : l.length ≤ 1048576) (hm : MI l k) : F_laws_heldIntS l k = some (k + l.length) := by
  unfold F_laws_heldIntS
  obtain ⟨x, e, rfl⟩ := cloop_post (σ := Int × Int) (β := Int ⊕ Int) (step := fun s7 =>
    if decide (s7.2 < (l.length : Int)) = true then (
    (ix l s7.2).bind fun x18 =>
    if (x18 != s7.1) = true then (
    some (.out (.inr (-1)))) else (
    some (.go (IntKind.i64.wrap (s7.1 + 1), IntKind.i64.wrap (s7.2 + 1))))) else (
    some (.out (.inl s7.1)))) (s0 := (k, 0)) l.length (fun i s => s = (k + (i : Int), (i : Int))) (fun x => x = .inl (k + l.length)) (by simp)
    (by
      rintro i s hi rfl
      have hd : decide ((i : Int) < (l.length : Int)) = true := by simpa using hi
      refine .inl ⟨(k + ((i + 1 : Nat) : Int), ((i + 1 : Nat) : Int)), ?_, rfl⟩
      simp only [hd, if_true, ix_at hi, Option.bind_some, MI_get i hi hm, bne_self_eq_false, Bool.false_eq_true, if_false]
      rw [wr64 (n := (i : Int) + 1) (by omega) (by omega), wr64 (by omega) (by omega)]
      have e1 : k + (i : Int) + 1 = k + ((i + 1 : Nat) : Int) := by push_cast; omega
      have e2 : (i : Int) + 1 = ((i + 1 : Nat) : Int) := by push_cast; rfl
      rw [e1, e2])
    (by
      rintro s rfl
      exact ⟨_, by simp, rfl⟩)
  rw [e]; rfl
theorem n_within (a b c : Int) : F_impl_within a b c = some (decide (b ≤ a) && decide (a ≤ c)) := by
  unfold F_impl_within
  by_cases h : b ≤ a <;> simp [h]
theorem n_l1In (a b c : Int) : F_spec_l1In a b c = some (decide (b ≤ a) && decide (a ≤ c)) := by
  unfold F_spec_l1In
  by_cases h : b ≤ a <;> simp [h]
theorem n_isModulus (a : Int) : F_impl_isModulus a = some (decide (2 ≤ a) && decide (a ≤ 2000000000)) := by
  unfold F_impl_isModulus
  rw [n_within]; rfl
theorem tmod_cast (a b : Nat) : (a : Int).tmod (b : Int) = ((a % b : Nat) : Int) := by rw [Int.tmod_eq_emod_of_nonneg (by omega)]; exact (Int.natCast_emod _ _).symm
theorem tdiv_cast (a b : Nat) : (a : Int).tdiv (b : Int) = ((a / b : Nat) : Int) := by rw [Int.tdiv_eq_ediv_of_nonneg (by omega)]; exact (Int.natCast_ediv _ _).symm
theorem mul_cast (a b : Nat) : (a : Int) * (b : Int) = ((a * b : Nat) : Int) := (Int.natCast_mul _ _).symm
theorem and_one {e : Nat} (he : e ≤ 9223372036854775807) : IntKind.i64.wrap (BitVec.ofInt IntKind.i64.bits (e : Int) &&& BitVec.ofInt IntKind.i64.bits 1).toNat = ((e % 2 : Nat) : Int) := by
  have h1 : (BitVec.ofInt IntKind.i64.bits (e : Int) &&& BitVec.ofInt IntKind.i64.bits 1).toNat = e % 2 := by
    rw [BitVec.toNat_and]
    have a1 : (BitVec.ofInt IntKind.i64.bits (e : Int)).toNat = e := by
      rw [BitVec.toNat_ofInt]
      have : IntKind.i64.bits = 64 := rfl
      rw [this]
      omega
    have a2 : (BitVec.ofInt IntKind.i64.bits 1).toNat = 1 := by decide
    rw [a1, a2, Nat.and_one_is_mod]
  rw [h1, wr64 (by omega) (by omega)]
-- powers
theorem n_power {a e m : Nat} (ha : a ≤ 2000000000) (hm : 1 ≤ m) (hm2 : m ≤ 2000000000) (he : e ≤ 9223372036854775807) : F_impl_power (a : Int) (e : Int) (m : Int) = some ((a ^ e % m : Nat) : Int) := by
  unfold F_impl_power
  refine eq_of_rn (rn_gd (by omega) (rn_then (φ := (· = ((a ^ e % m : Nat) : Int))) (rn_wloop (φ := (· = ((a ^ e % m : Nat) : Int))) (fun s => ∃ x y o : Nat, s = ((x : Int), (y : Int), (o : Int)) ∧ x ≤ 2000000000 ∧ y ≤ e ∧ o < m ∧ o * x ^ y % m = a ^ e % m) (fun s => s.2.1.toNat)
    ⟨a, e, 1 % m, by rw [show (1 : Int) = ((1 : Nat) : Int) from rfl, tmod_cast], ha, Nat.le_refl _, Nat.mod_lt _ (by omega), by rw [Nat.mod_mul_mod, Nat.one_mul]⟩ ?_) fun x hx => rn_some hx))
  rintro s ⟨x, y, o, rfl, hx, hy, ho, hi⟩
  refine rn_if (fun h0 => ?_) fun h0 => ?_
  · have h0 : 0 < y := by simpa using h0
    have hox : o * x ≤ 4000000000000000000 := Nat.le_trans (Nat.mul_le_mul (show o ≤ 2000000000 by omega) hx) (by decide)
    have hxx : x * x ≤ 4000000000000000000 := Nat.le_trans (Nat.mul_le_mul hx hx) (by decide)
    refine rn_then (ψ := fun o' => ∃ k : Nat, o' = (k : Int) ∧ k < m ∧ k * (x * x) ^ (y / 2) % m = a ^ e % m) ?_ ?_
    · simp only [and_one (show y ≤ 9223372036854775807 by omega)]
      refine rn_if (fun h1 => rn_gd (by omega) (rn_some ⟨o * x % m, ?_, Nat.mod_lt _ (by omega), ?_⟩)) fun h1 => rn_some ⟨o, rfl, ho, ?_⟩
      · rw [mul_cast, wr64 (by omega) (by omega), tmod_cast]
      · have h1 : y % 2 = 1 := by
          have : ((y % 2 : Nat) : Int) = 1 := by simpa using h1
          omega
        rw [Nat.mod_mul_mod, ← hi, ← Nat.pow_two, ← Nat.pow_mul, Nat.mul_assoc, ← Nat.pow_succ']
        congr 3; omega
      · have h1 : y % 2 = 0 := by
          have : ¬ ((y % 2 : Nat) : Int) = 1 := by simpa using h1
          omega
        rw [← hi, ← Nat.pow_two, ← Nat.pow_mul]
        congr 3; omega
    · rintro o' ⟨k, rfl, hk, hk2⟩
      refine rn_gd (by omega) (rn_some ⟨⟨x * x % m, y / 2, k, ?_, by have := Nat.mod_lt (x * x) (show 0 < m by omega); omega, by omega, hk, ?_⟩, ?_⟩)
      · rw [mul_cast, wr64 (by omega) (by omega), tmod_cast]
        have e3 : (y : Int).fdiv 2 = ((y / 2 : Nat) : Int) := by rw [Int.fdiv_eq_ediv_of_nonneg _ (by omega)]; rfl
        show (_, (y : Int).fdiv 2, _) = _
        rw [e3]
      · rw [Nat.mul_mod, ← Nat.pow_mod, ← Nat.mul_mod]
        exact hk2
      · show ((y : Int).fdiv 2).toNat < (y : Int).toNat
        rw [Int.fdiv_eq_ediv_of_nonneg _ (by omega)]
        omega
  · have h0 : y = 0 := by
      have : ¬ (0 < y) := by simpa using h0
      omega
    subst h0
    refine rn_some ?_
    show (o : Int) = _
    rw [Nat.pow_zero, Nat.mul_one, Nat.mod_eq_of_lt ho] at hi
    rw [hi]
theorem n_nPower {a e m : Nat} (ha : a ≤ 2000000000) (hm : 1 ≤ m) (hm2 : m ≤ 2000000000) (he : e ≤ 9223372036854775807) : F_spec_nPower (a : Int) (e : Int) (m : Int) = some ((a ^ e % m : Nat) : Int) := by
  unfold F_spec_nPower
  refine eq_of_rn (rn_gd (by omega) (rn_then (φ := (· = ((a ^ e % m : Nat) : Int))) (rn_wloop (φ := (· = ((a ^ e % m : Nat) : Int))) (fun s => ∃ x y o : Nat, s = ((x : Int), (y : Int), (o : Int)) ∧ x ≤ 2000000000 ∧ y ≤ e ∧ o < m ∧ o * x ^ y % m = a ^ e % m) (fun s => s.2.1.toNat)
    ⟨a, e, 1 % m, by rw [show (1 : Int) = ((1 : Nat) : Int) from rfl, tmod_cast], ha, Nat.le_refl _, Nat.mod_lt _ (by omega), by rw [Nat.mod_mul_mod, Nat.one_mul]⟩ ?_) fun x hx => rn_some hx))
  rintro s ⟨x, y, o, rfl, hx, hy, ho, hi⟩
  refine rn_if (fun h0 => ?_) fun h0 => ?_
  · have h0 : 0 < y := by simpa using h0
    have hox : o * x ≤ 4000000000000000000 := Nat.le_trans (Nat.mul_le_mul (show o ≤ 2000000000 by omega) hx) (by decide)
    have hxx : x * x ≤ 4000000000000000000 := Nat.le_trans (Nat.mul_le_mul hx hx) (by decide)
    have e2 : (y : Int).tmod 2 = ((y % 2 : Nat) : Int) := tmod_cast y 2
    refine rn_then (ψ := fun o' => ∃ k : Nat, o' = (k : Int) ∧ k < m ∧ k * (x * x) ^ (y / 2) % m = a ^ e % m) ?_ ?_
    · simp only [e2]
      refine rn_if (fun h1 => rn_gd (by omega) (rn_some ⟨o * x % m, ?_, Nat.mod_lt _ (by omega), ?_⟩)) fun h1 => rn_some ⟨o, rfl, ho, ?_⟩
      · rw [mul_cast, wr64 (by omega) (by omega), tmod_cast]
      · have h1 : y % 2 = 1 := by
          have : ((y % 2 : Nat) : Int) = 1 := by simpa using h1
          omega
        rw [Nat.mod_mul_mod, ← hi, ← Nat.pow_two, ← Nat.pow_mul, Nat.mul_assoc, ← Nat.pow_succ']
        congr 3; omega
      · have h1 : y % 2 = 0 := by
          have : ¬ ((y % 2 : Nat) : Int) = 1 := by simpa using h1
          omega
        rw [← hi, ← Nat.pow_two, ← Nat.pow_mul]
        congr 3; omega
    · rintro o' ⟨k, rfl, hk, hk2⟩
      have e3 : (y : Int).tdiv 2 = ((y / 2 : Nat) : Int) := tdiv_cast y 2
      refine rn_gd (by omega) (rn_some ⟨⟨x * x % m, y / 2, k, ?_, by have := Nat.mod_lt (x * x) (show 0 < m by omega); omega, by omega, hk, ?_⟩, ?_⟩)
      · simp only [e3]
        rw [mul_cast, wr64 (n := ((x * x : Nat) : Int)) (by omega) (by omega), tmod_cast, wr64 (n := ((y / 2 : Nat) : Int)) (by omega) (by omega)]
      · rw [Nat.mul_mod, ← Nat.pow_mod, ← Nat.mul_mod]
        exact hk2
      · show (IntKind.i64.wrap ((y : Int).tdiv 2)).toNat < (y : Int).toNat
        rw [e3, wr64 (by omega) (by omega)]
        omega
  · have h0 : y = 0 := by
      have : ¬ (0 < y) := by simpa using h0
      omega
    subst h0
    refine rn_some ?_
    show (o : Int) = _
    rw [Nat.pow_zero, Nat.mul_one, Nat.mod_eq_of_lt ho] at hi
    rw [hi]
-- residues
theorem n_mod {a q : Int} (h0 : 0 < q) (h1 : q ≤ 2000000000) : F_impl_mod a q = some (a % q) := by
  unfold F_impl_mod
  rw [gd_t (by omega), gd_t (by omega)]
  have b1 : a.tmod q < q := Int.tmod_lt_of_pos a h0
  have b2 : -q < a.tmod q := by
    have := Int.lt_tmod_of_pos a h0
    omega
  rw [wr64 (by omega) (by omega), Int.tmod_eq_emod_of_nonneg (by omega)]
  congr 1
  rw [Int.add_emod_right]
  rw [Int.tmod_def, Int.sub_emod, Int.mul_emod_right, Int.sub_zero, Int.emod_emod]
theorem n_nMod {a q : Int} (h0 : 0 < q) (h1 : q ≤ 2000000000) : F_spec_nMod a q = some (a % q) := by
  unfold F_spec_nMod
  rw [gd_t (by omega), gd_t (by omega)]
  have b1 : a.tmod q < q := Int.tmod_lt_of_pos a h0
  have b2 : -q < a.tmod q := by
    have := Int.lt_tmod_of_pos a h0
    omega
  rw [wr64 (by omega) (by omega), Int.tmod_eq_emod_of_nonneg (by omega)]
  congr 1
  rw [Int.add_emod_right]
  rw [Int.tmod_def, Int.sub_emod, Int.mul_emod_right, Int.sub_zero, Int.emod_emod]
-- primes
def Pr (n : Nat) : Prop := 2 ≤ n ∧ ∀ d, 2 ≤ d → d * d ≤ n → n % d ≠ 0
open Classical in
noncomputable def prB (n : Int) : Bool := decide (Pr n.toNat)
theorem prB_t {n : Nat} : prB (n : Int) = true ↔ Pr n := by simp [prB]
theorem n_nPrime (n : Int) (h : n ≤ 2000000000) : F_spec_nPrime n = some (prB n) := by
  unfold F_spec_nPrime
  refine eq_of_rn (rn_if (fun h0 => rn_some ?_) fun h0 => ?_)
  · have h0 : n < 2 := by simpa using h0
    symm
    unfold prB
    rw [decide_eq_false_iff_not]
    intro hp
    have := hp.1
    omega
  · have h0 : ¬ n < 2 := by simpa using h0
    obtain ⟨n, rfl⟩ := Int.eq_ofNat_of_zero_le (show 0 ≤ n by omega)
    refine rn_then (ψ := fun b => (b = .inl () ∧ Pr n) ∨ (b = .inr false ∧ ¬ Pr n)) (rn_wloop (fun s => ∃ d : Nat, s = (d : Int) ∧ 2 ≤ d ∧ d ≤ 44723 ∧ ∀ k, 2 ≤ k → k < d → k * k ≤ n → n % k ≠ 0) (fun s => 50000 - s.toNat) ⟨2, rfl, by omega, by omega, fun k h1 h2 => by omega⟩ ?_) ?_
    · rintro s ⟨d, rfl, hd, hd2, hi⟩
      have hdd : d * d ≤ 2000146729 := Nat.le_trans (Nat.mul_le_mul hd2 hd2) (by decide)
      rw [mul_cast, wr64 (by omega) (by omega)]
      refine rn_if (fun h1 => rn_gd (by omega) (rn_if (fun h2 => rn_some (.inr ⟨rfl, ?_⟩)) fun h2 => rn_some ?_)) fun h1 => rn_some (.inl ⟨rfl, by omega, fun k hk hkn => ?_⟩)
      · have h1 : d * d ≤ n := by have := of_decide_eq_true h1; omega
        rw [tmod_cast] at h2
        have h2 : n % d = 0 := by have : ((n % d : Nat) : Int) = 0 := by simpa using h2
                                  omega
        exact fun hp => hp.2 d hd h1 h2
      · have h1 : d * d ≤ n := by have := of_decide_eq_true h1; omega
        rw [tmod_cast] at h2
        have h2 : n % d ≠ 0 := by have : ¬ ((n % d : Nat) : Int) = 0 := by simpa using h2
                                  omega
        have hd3 : d ≤ 44722 := by
          rcases Nat.lt_or_ge d 44723 with h | h
          · omega
          · have : 44723 * 44723 ≤ d * d := Nat.mul_le_mul h h
            omega
        rw [wr64 (by omega) (by omega)]
        refine ⟨⟨d + 1, rfl, by omega, by omega, fun k h3 h4 h5 => ?_⟩, by omega⟩
        rcases Nat.lt_or_ge k d with h | h
        · exact hi k h3 h h5
        · have : k = d := by omega
          subst this
          exact h2
      · have h1 : n < d * d := by have := of_decide_eq_false h1; omega
        rcases Nat.lt_or_ge k d with h | h
        · exact hi k hk h hkn
        · have := Nat.mul_le_mul h h
          omega
    · rintro b (⟨rfl, hp⟩ | ⟨rfl, hp⟩)
      · exact rn_some (prB_t.2 hp).symm
      · refine rn_some ?_
        symm
        unfold prB
        rw [decide_eq_false_iff_not]
        exact hp
theorem n_isPrime (n : Int) : F_impl_isPrime n = some (decide (n ≤ 2000000000) && prB n) := by
  unfold F_impl_isPrime
  by_cases h : 2 ≤ n ∧ n ≤ 2000000000
  · obtain ⟨n, rfl⟩ := Int.eq_ofNat_of_zero_le (show 0 ≤ n by omega)
    have e2 : ((n : Int)).tmod 2 = ((n % 2 : Nat) : Int) := tmod_cast n 2
    have em : (decide (2 ≤ (n : Int)) && decide ((n : Int) ≤ 2000000000)) = true := by simp only [Bool.and_eq_true, decide_eq_true_eq]; exact h
    rw [show (decide ((n : Int) ≤ 2000000000) && prB (n : Int)) = prB (n : Int) by simp [h.2]]
    refine eq_of_rn (rn_then (ψ := fun b => b = decide (n % 2 = 0 ∧ n ≠ 2)) (rn_call (n_isModulus _) ?_) ?_)
    · rw [em]
      refine rn_f rfl ?_
      rw [e2]
      refine rn_if (fun h1 => rn_some ?_) fun h1 => rn_some ?_
      · have h1 : n % 2 = 0 := by have : ((n % 2 : Nat) : Int) = 0 := by simpa using h1
                                  omega
        have : ((n : Int) != 2) = decide (n ≠ 2) := by
          by_cases hn : n = 2
          · subst hn; rfl
          · have hn' : ¬ (n : Int) = 2 := by omega
            simp [hn, hn']
        rw [this]; simp [h1]
      · have h1 : n % 2 ≠ 0 := by have : ¬ ((n % 2 : Nat) : Int) = 0 := by simpa using h1
                                  omega
        simp [h1]
    · rintro b rfl
      refine rn_if (fun h1 => rn_some ?_) fun h1 => ?_
      · have h1 := of_decide_eq_true h1
        symm
        unfold prB
        rw [decide_eq_false_iff_not]
        intro hp
        have hn : 4 ≤ n := by omega
        exact hp.2 2 (by omega) hn h1.1
      · have h1 := of_decide_eq_false h1
        refine rn_then (ψ := fun b => (b = .inl () ∧ Pr n) ∨ (b = .inr false ∧ ¬ Pr n)) (rn_wloop (fun s => ∃ d : Nat, s = (d : Int) ∧ 3 ≤ d ∧ d % 2 = 1 ∧ d ≤ 44725 ∧ ∀ k, 2 ≤ k → k < d → k * k ≤ n → n % k ≠ 0) (fun s => 50000 - s.toNat) ⟨3, rfl, by omega, by omega, by omega, fun k h2 h3 h4 => ?_⟩ ?_) ?_
        · have : k = 2 := by omega
          subst this
          intro h5
          exact h1 ⟨h5, by omega⟩
        · rintro s ⟨d, rfl, hd, hodd, hd2, hi⟩
          have hdd : d * d ≤ 2000325625 := Nat.le_trans (Nat.mul_le_mul hd2 hd2) (by decide)
          rw [mul_cast, wr64 (by omega) (by omega)]
          refine rn_if (fun h1 => rn_gd (by omega) (rn_if (fun h2 => rn_some (.inr ⟨rfl, ?_⟩)) fun h2 => rn_some ?_)) fun h1 => rn_some (.inl ⟨rfl, by omega, fun k hk hkn => ?_⟩)
          · have h1 : d * d ≤ n := by have := of_decide_eq_true h1; omega
            rw [tmod_cast] at h2
            have h2 : n % d = 0 := by have : ((n % d : Nat) : Int) = 0 := by simpa using h2
                                      omega
            exact fun hp => hp.2 d (by omega) h1 h2
          · have h3 : d * d ≤ n := by have := of_decide_eq_true h1; omega
            rw [tmod_cast] at h2
            have h2 : n % d ≠ 0 := by have : ¬ ((n % d : Nat) : Int) = 0 := by simpa using h2
                                      omega
            have hd3 : d ≤ 44722 := by
              rcases Nat.lt_or_ge d 44723 with h | h
              · omega
              · have : 44723 * 44723 ≤ d * d := Nat.mul_le_mul h h
                omega
            rw [wr64 (by omega) (by omega)]
            refine ⟨⟨d + 2, rfl, by omega, by omega, by omega, fun k h4 h5 h6 h7 => ?_⟩, by omega⟩
            rcases Nat.lt_or_ge k d with h | h
            · exact hi k h4 h h6 h7
            · rcases (show k = d ∨ k = d + 1 by omega) with e | e
              · subst e; exact h2 h7
              · -- an even divisor
                have h8 : n % 2 = 0 := by
                  have a1 : k ∣ n := Nat.dvd_of_mod_eq_zero h7
                  have a2 : 2 ∣ k := Nat.dvd_of_mod_eq_zero (by omega)
                  exact Nat.mod_eq_zero_of_dvd (Nat.dvd_trans a2 a1)
                have h9 : 2 * 2 ≤ n := by
                  have := Nat.mul_le_mul h4 h4
                  omega
                exact hi 2 (by omega) (by omega) h9 h8
          · have h1 : n < d * d := by have := of_decide_eq_false h1; omega
            rcases Nat.lt_or_ge k d with h | h
            · exact hi k hk h hkn
            · have := Nat.mul_le_mul h h
              omega
        · rintro b (⟨rfl, hp⟩ | ⟨rfl, hp⟩)
          · exact rn_some (prB_t.2 hp).symm
          · refine rn_some ?_
            symm
            unfold prB
            rw [decide_eq_false_iff_not]
            exact hp
  · have em : (decide (2 ≤ n) && decide (n ≤ 2000000000)) = false := by
      rw [Bool.and_eq_false_iff, decide_eq_false_iff_not, decide_eq_false_iff_not]; omega
    rw [n_isModulus, em]
    simp only [Option.bind_some, Bool.not_false, if_true]
    congr 1
    symm
    rw [Bool.and_eq_false_iff, decide_eq_false_iff_not]
    by_cases hn : n ≤ 2000000000
    · right
      unfold prB
      rw [decide_eq_false_iff_not]
      intro hp
      have := hp.1
      omega
    · exact .inl hn
structure OkG (gr : Group) : Prop where
  p : 3 ≤ gr.P ∧ gr.P ≤ 2000000000
  q : 2 ≤ gr.Q ∧ gr.Q ≤ gr.P - 1
  d : (gr.P.toNat - 1) % gr.Q.toNat = 0
  g : 2 ≤ gr.G ∧ gr.G ≤ gr.P - 1
  pp : Pr gr.P.toNat
  pq : Pr gr.Q.toNat
  o : gr.G.toNat ^ gr.Q.toNat % gr.P.toNat = 1
open Classical in
noncomputable def okG (gr : Group) : Bool := decide (OkG gr)
theorem okG_t {gr : Group} : okG gr = true ↔ OkG gr := by simp [okG]
theorem okG_f {gr : Group} (h : ¬ OkG gr) : okG gr = false := by simp [okG, h]
theorem okG_of {gr : Group} {b : Bool} (h1 : b = true → OkG gr) (h2 : OkG gr → b = true) : b = okG gr := by
  cases hb : b with
  | true => exact (okG_t.2 (h1 hb)).symm
  | false => exact (okG_f fun h => by rw [h2 h] at hb; cases hb).symm
theorem cast_eq {a : Int} (h : 0 ≤ a) : a = ((a.toNat : Nat) : Int) := by omega
theorem n_powI {a e m : Int} (ha : 0 ≤ a) (ha2 : a ≤ 2000000000) (hm : 1 ≤ m) (hm2 : m ≤ 2000000000) (he : 0 ≤ e) (he2 : e ≤ 9223372036854775807) : F_impl_power a e m = some ((a.toNat ^ e.toNat % m.toNat : Nat) : Int) ∧ F_spec_nPower a e m = some ((a.toNat ^ e.toNat % m.toNat : Nat) : Int) := by
  have h1 := n_power (a := a.toNat) (e := e.toNat) (m := m.toNat) (by omega) (by omega) (by omega) (by omega)
  have h2 := n_nPower (a := a.toNat) (e := e.toNat) (m := m.toNat) (by omega) (by omega) (by omega) (by omega)
  rw [← cast_eq ha, ← cast_eq he, ← cast_eq (show 0 ≤ m by omega)] at h1 h2
  exact ⟨h1, h2⟩
theorem and_iff_t {a b : Bool} : (a && b) = true ↔ a = true ∧ b = true := by simp
theorem n_validG (gr : Group) : F_impl_IsValidGroup gr = some (okG gr) := by
  unfold F_impl_IsValidGroup
  refine eq_of_rn (rn_then (ψ := fun b => b = okG gr) ?_ fun b hb => rn_some hb)
  refine rn_call (n_within _ _ _) (rn_if (fun h => ?_) fun h => ?_)
  · have hp : 3 ≤ gr.P ∧ gr.P ≤ 2000000000 := by simpa using h
    rw [wr64 (n := gr.P - 1) (by omega) (by omega)]
    refine rn_call (n_within _ _ _) (rn_if (fun h => ?_) fun h => ?_)
    · have hq : 2 ≤ gr.Q ∧ gr.Q ≤ gr.P - 1 := by simpa using h
      have ed : (gr.P - 1).tmod gr.Q = (((gr.P.toNat - 1) % gr.Q.toNat : Nat) : Int) := by
        rw [cast_eq (show 0 ≤ gr.P - 1 by omega), cast_eq (show 0 ≤ gr.Q by omega), tmod_cast]
        simp only [Int.toNat_natCast]
        congr 2; omega
      refine rn_gd (by omega) ?_
      rw [ed]
      refine rn_if (fun h => ?_) fun h => ?_
      · have hd : (gr.P.toNat - 1) % gr.Q.toNat = 0 := by
          have : (((gr.P.toNat - 1) % gr.Q.toNat : Nat) : Int) = 0 := by simpa using h
          omega
        refine rn_call (n_within _ _ _) (rn_if (fun h => ?_) fun h => ?_)
        · have hg : 2 ≤ gr.G ∧ gr.G ≤ gr.P - 1 := by simpa using h
          refine rn_call (n_isPrime _) (rn_if (fun h => ?_) fun h => ?_)
          · have hpp : Pr gr.P.toNat := by
              rw [and_iff_t, cast_eq (show 0 ≤ gr.P by omega), prB_t] at h
              exact h.2
            refine rn_call (n_isPrime _) (rn_if (fun h => ?_) fun h => ?_)
            · have hpq : Pr gr.Q.toNat := by
                rw [and_iff_t, cast_eq (show 0 ≤ gr.Q by omega), prB_t] at h
                exact h.2
              refine rn_call (n_powI (a := gr.G) (e := gr.Q) (m := gr.P) (by omega) (by omega) (by omega) (by omega) (by omega) (by omega)).1 (rn_some (okG_of (fun h => ⟨hp, hq, hd, hg, hpp, hpq, ?_⟩) fun h => ?_))
              · have : ((gr.G.toNat ^ gr.Q.toNat % gr.P.toNat : Nat) : Int) = 1 := by simpa using h
                omega
              · rw [h.o]; rfl
            · refine rn_some (okG_f fun hk => ?_).symm
              have : (decide (gr.Q ≤ 2000000000) && prB gr.Q) = true := by
                rw [and_iff_t, cast_eq (show 0 ≤ gr.Q by omega), prB_t]
                exact ⟨by simp; omega, hk.pq⟩
              rw [this] at h; cases h
          · refine rn_some (okG_f fun hk => ?_).symm
            have : (decide (gr.P ≤ 2000000000) && prB gr.P) = true := by
              rw [and_iff_t, cast_eq (show 0 ≤ gr.P by omega), prB_t]
              exact ⟨by simp; omega, hk.pp⟩
            rw [this] at h; cases h
        · refine rn_some (okG_f fun hk => ?_).symm
          have := hk.g
          simp at h; omega
      · refine rn_some (okG_f fun hk => ?_).symm
        rw [hk.d] at h; cases h
    · refine rn_some (okG_f fun hk => ?_).symm
      have := hk.q
      simp at h; omega
  · refine rn_some (okG_f fun hk => ?_).symm
    have := hk.p
    simp at h; omega
theorem n_l2Good (gr : Group) : F_spec_l2Good gr = some (okG gr) := by
  unfold F_spec_l2Good
  refine eq_of_rn (rn_then (ψ := fun b => b = okG gr) ?_ fun b hb => rn_some hb)
  refine rn_call (n_l1In _ _ _) (rn_if (fun h => ?_) fun h => ?_)
  · have hp : 3 ≤ gr.P ∧ gr.P ≤ 2000000000 := by simpa using h
    rw [wr64 (n := gr.P - 1) (by omega) (by omega)]
    refine rn_call (n_l1In _ _ _) (rn_if (fun h => ?_) fun h => ?_)
    · have hq : 2 ≤ gr.Q ∧ gr.Q ≤ gr.P - 1 := by simpa using h
      have ed : (gr.P - 1).tmod gr.Q = (((gr.P.toNat - 1) % gr.Q.toNat : Nat) : Int) := by
        rw [cast_eq (show 0 ≤ gr.P - 1 by omega), cast_eq (show 0 ≤ gr.Q by omega), tmod_cast]
        simp only [Int.toNat_natCast]
        congr 2; omega
      refine rn_gd (by omega) ?_
      rw [ed]
      refine rn_if (fun h => ?_) fun h => ?_
      · have hd : (gr.P.toNat - 1) % gr.Q.toNat = 0 := by
          have : (((gr.P.toNat - 1) % gr.Q.toNat : Nat) : Int) = 0 := by simpa using h
          omega
        refine rn_call (n_l1In _ _ _) (rn_if (fun h => ?_) fun h => ?_)
        · have hg : 2 ≤ gr.G ∧ gr.G ≤ gr.P - 1 := by simpa using h
          refine rn_call (n_powI (a := gr.G) (e := gr.Q) (m := gr.P) (by omega) (by omega) (by omega) (by omega) (by omega) (by omega)).2 (rn_if (fun h => ?_) fun h => ?_)
          · have ho : gr.G.toNat ^ gr.Q.toNat % gr.P.toNat = 1 := by
              have : ((gr.G.toNat ^ gr.Q.toNat % gr.P.toNat : Nat) : Int) = 1 := by simpa using h
              omega
            refine rn_call (n_nPrime _ (by omega)) (rn_if (fun h => ?_) fun h => ?_)
            · have hpq : Pr gr.Q.toNat := by
                rw [cast_eq (show 0 ≤ gr.Q by omega), prB_t] at h
                exact h
              refine rn_call (n_nPrime _ (by omega)) (rn_some (okG_of (fun h => ⟨hp, hq, hd, hg, ?_, hpq, ho⟩) fun h => ?_))
              · rw [cast_eq (show 0 ≤ gr.P by omega), prB_t] at h
                exact h
              · rw [cast_eq (show 0 ≤ gr.P by omega), prB_t]
                exact h.pp
            · refine rn_some (okG_f fun hk => ?_).symm
              have : prB gr.Q = true := by
                rw [cast_eq (show 0 ≤ gr.Q by omega), prB_t]
                exact hk.pq
              rw [this] at h; cases h
          · refine rn_some (okG_f fun hk => ?_).symm
            rw [hk.o] at h; cases h
        · refine rn_some (okG_f fun hk => ?_).symm
          have := hk.g
          simp at h; omega
      · refine rn_some (okG_f fun hk => ?_).symm
        rw [hk.d] at h; cases h
    · refine rn_some (okG_f fun hk => ?_).symm
      have := hk.q
      simp at h; omega
  · refine rn_some (okG_f fun hk => ?_).symm
    have := hk.p
    simp at h; omega
-- elements
def hasB (gr : Group) (x : Int) : Bool := decide (1 ≤ x) && decide (x ≤ gr.P - 1) && decide (x.toNat ^ gr.Q.toNat % gr.P.toNat = 1)
def expB (gr : Group) (x : Int) : Bool := decide (0 ≤ x) && decide (x ≤ gr.Q - 1)
theorem n_has {gr : Group} (k : OkG gr) (x : Int) : F_impl_Group_has gr x = some (hasB gr x) := by
  have hp := k.p
  have hq := k.q
  unfold F_impl_Group_has hasB
  rw [wr64 (n := gr.P - 1) (by omega) (by omega), n_within]
  refine eq_of_rn (rn_then (ψ := fun b => b = _) ?_ fun b hb => rn_some hb)
  refine rn_call rfl (rn_if (fun h => ?_) fun h => ?_)
  · have hx : 1 ≤ x ∧ x ≤ gr.P - 1 := by simpa using h
    refine rn_call (n_powI (a := x) (e := gr.Q) (m := gr.P) (by omega) (by omega) (by omega) (by omega) (by omega) (by omega)).1 (rn_some ?_)
    rw [h, Bool.true_and]
    by_cases h1 : x.toNat ^ gr.Q.toNat % gr.P.toNat = 1
    · simp [h1]
    · have : ¬ ((x.toNat ^ gr.Q.toNat % gr.P.toNat : Nat) : Int) = 1 := by omega
      rw [beq_false_of_ne this, decide_eq_false h1]
  · rw [h]; exact rn_some rfl
theorem n_gIs {gr : Group} (k : OkG gr) (l : List Int) : F_spec_gIs gr l = some (l.all (hasB gr)) := by
  have hp := k.p
  have hq := k.q
  unfold F_spec_gIs
  rw [wr64 (n := gr.P - 1) (by omega) (by omega)]
  refine eq_of_rn (rn_then (ψ := fun b => (b = .inl () ∧ l.all (hasB gr) = true) ∨ (b = .inr false ∧ l.all (hasB gr) = false)) (rn_rloop (fun i s => (l.take i).all (hasB gr) = true) rfl ?_ ?_) ?_)
  · rintro i s hi hI
    refine rn_ix hi (rn_then (ψ := fun b => b = !hasB gr l[i]) ?_ ?_)
    · refine rn_call (n_l1In _ _ _) (rn_if (fun h => rn_some ?_) fun h => ?_)
      · have h : (decide (1 ≤ l[i]) && decide (l[i] ≤ gr.P - 1)) = false := by rwa [Bool.not_eq_true'] at h
        simp [hasB, h]
      · have h : (decide (1 ≤ l[i]) && decide (l[i] ≤ gr.P - 1)) = true := by simpa using h
        have hx : 1 ≤ l[i] ∧ l[i] ≤ gr.P - 1 := by simpa using h
        refine rn_call (n_powI (a := l[i]) (e := gr.Q) (m := gr.P) (by omega) (by omega) (by omega) (by omega) (by omega) (by omega)).2 (rn_some ?_)
        simp only [hasB, h, Bool.true_and]
        by_cases h1 : l[i].toNat ^ gr.Q.toNat % gr.P.toNat = 1
        · simp [h1]
        · have : ¬ ((l[i].toNat ^ gr.Q.toNat % gr.P.toNat : Nat) : Int) = 1 := by omega
          simp only [bne, beq_false_of_ne this, decide_eq_false h1]
    · rintro b rfl
      refine rn_if (fun h => rn_some (.inr ⟨rfl, ?_⟩)) fun h => rn_some ?_
      · have h : hasB gr l[i] = false := by simpa using h
        rw [List.all_eq_false]
        exact ⟨l[i], List.getElem_mem hi, by simp [h]⟩
      · have h : hasB gr l[i] = true := by simpa using h
        show (l.take (i + 1)).all (hasB gr) = true
        rw [List.take_succ_eq_append_getElem hi, List.all_append, hI]
        simp [h]
  · rintro s hI
    rw [List.take_length] at hI
    exact .inl ⟨rfl, hI⟩
  · rintro b (⟨rfl, h⟩ | ⟨rfl, h⟩)
    · exact rn_some h.symm
    · exact rn_some h.symm
theorem n_l1All (l : List Int) (a b : Int) : F_spec_l1All l a b = some (l.all fun x => decide (a ≤ x) && decide (x ≤ b)) := by
  unfold F_spec_l1All
  refine eq_of_rn (rn_then (ψ := fun c => (c = .inl () ∧ (l.all fun x => decide (a ≤ x) && decide (x ≤ b)) = true) ∨ (c = .inr false ∧ (l.all fun x => decide (a ≤ x) && decide (x ≤ b)) = false)) (rn_rloop (fun i s => ((l.take i).all fun x => decide (a ≤ x) && decide (x ≤ b)) = true) rfl ?_ ?_) ?_)
  · rintro i s hi hI
    refine rn_ix hi (rn_call (n_l1In _ _ _) (rn_if (fun h => rn_some (.inr ⟨rfl, ?_⟩)) fun h => rn_some ?_))
    · rw [List.all_eq_false]
      exact ⟨l[i], List.getElem_mem hi, by rw [Bool.not_eq_true'] at h; rw [h]; simp⟩
    · show ((l.take (i + 1)).all fun x => decide (a ≤ x) && decide (x ≤ b)) = true
      rw [List.take_succ_eq_append_getElem hi, List.all_append, hI]
      simpa using h
  · rintro s hI
    rw [List.take_length] at hI
    exact .inl ⟨rfl, hI⟩
  · rintro c (⟨rfl, h⟩ | ⟨rfl, h⟩)
    · exact rn_some h.symm
    · exact rn_some h.symm
theorem n_gExps {gr : Group} (h : 0 ≤ gr.Q) (h2 : gr.Q ≤ 2000000000) (l : List Int) : F_spec_gExps gr l = some (l.all (expB gr)) := by
  unfold F_spec_gExps
  rw [wr64 (by omega) (by omega), n_l1All]; rfl
theorem n_isExp {gr : Group} (h : 0 ≤ gr.Q) (h2 : gr.Q ≤ 2000000000) (x : Int) : F_impl_Group_isExp gr x = some (expB gr x) := by
  unfold F_impl_Group_isExp
  rw [wr64 (by omega) (by omega), n_within]; rfl
-- powers and products
def powG (gr : Group) (x e : Int) : Int := ((x.toNat ^ (e % gr.Q).toNat % gr.P.toNat : Nat) : Int)
theorem powG_bd {gr : Group} (k : OkG gr) (x e : Int) : 0 ≤ powG gr x e ∧ powG gr x e ≤ gr.P - 1 := by
  have hp := k.p
  unfold powG
  have := Nat.mod_lt (x.toNat ^ (e % gr.Q).toNat) (y := gr.P.toNat) (by omega)
  omega
theorem n_pow {gr : Group} (k : OkG gr) {x : Int} (h0 : 0 ≤ x) (h1 : x ≤ 2000000000) (e : Int) : F_impl_Group_pow gr x e = some (powG gr x e) ∧ F_spec_gExp gr x e = some (powG gr x e) := by
  have hp := k.p
  have hq := k.q
  have b1 : 0 ≤ e % gr.Q := Int.emod_nonneg _ (by omega)
  have b2 : e % gr.Q < gr.Q := Int.emod_lt_of_pos _ (by omega)
  have hw := n_powI (a := x) (e := e % gr.Q) (m := gr.P) (by omega) (by omega) (by omega) (by omega) b1 (by omega)
  unfold F_impl_Group_pow F_spec_gExp
  rw [n_mod (by omega) (by omega), n_nMod (by omega) (by omega), Option.bind_some, Option.bind_some, hw.1, hw.2]
  exact ⟨rfl, rfl⟩
theorem n_gExp {gr : Group} (k : OkG gr) {x : Int} (h0 : 0 ≤ x) (h1 : x ≤ 2000000000) (e : Int) : F_spec_gExp gr x e = some (powG gr x e) := by
  have hp := k.p
  have hq := k.q
  have b1 : 0 ≤ e % gr.Q := Int.emod_nonneg _ (by omega)
  have b2 : e % gr.Q < gr.Q := Int.emod_lt_of_pos _ (by omega)
  have hw := n_powI (a := x) (e := e % gr.Q) (m := gr.P) (by omega) (by omega) (by omega) (by omega) b1 (by omega)
  unfold F_spec_gExp
  rw [n_nMod (by omega) (by omega), Option.bind_some, hw.2]
  rfl
def mulG (gr : Group) (l : List Int) : Int := l.foldl (fun o x => o * x % gr.P) 1
theorem foldG_bd {gr : Group} (h : 1 ≤ gr.P) : ∀ (l : List Int) (o : Int), 0 ≤ o → o ≤ gr.P → (∀ x ∈ l, 0 ≤ x) → 0 ≤ l.foldl (fun o x => o * x % gr.P) o ∧ l.foldl (fun o x => o * x % gr.P) o ≤ gr.P := by
  intro l
  induction l with
  | nil => intro o h0 h1 _; exact ⟨h0, h1⟩
  | cons x l ih =>
    intro o h0 h1 h2
    exact ih _ (Int.emod_nonneg _ (by omega)) (Int.le_of_lt (Int.emod_lt_of_pos (o * x) (show 0 < gr.P by omega))) fun y hy => h2 y (List.mem_cons_of_mem _ hy)
theorem mul_eq (gr : Group) (l : List Int) : F_spec_gMul gr l = F_impl_Group_mul gr l := rfl
theorem n_mul {gr : Group} (k : OkG gr) {l : List Int} (hl : ∀ x ∈ l, 0 ≤ x ∧ x ≤ 2000000000) : F_impl_Group_mul gr l = some (mulG gr l) := by
  have hp := k.p
  unfold F_impl_Group_mul
  refine eq_of_rn (rn_then (ψ := fun b => b = mulG gr l) (rn_rloop (fun i s => s = (l.take i).foldl (fun o x => o * x % gr.P) 1) rfl ?_ ?_) fun b hb => rn_some hb)
  · rintro i s hi rfl
    have hb := foldG_bd (gr := gr) (by omega) (l.take i) 1 (by omega) (by omega) fun x hx => (hl x (List.mem_of_mem_take hx)).1
    have hx := hl l[i] (List.getElem_mem hi)
    refine rn_ix hi (rn_gd (by omega) (rn_some ?_))
    show _ = (l.take (i + 1)).foldl _ _
    rw [List.take_succ_eq_append_getElem hi, List.foldl_append]
    generalize (l.take i).foldl (fun o x => o * x % gr.P) 1 = o at hb ⊢
    have b1 : 0 ≤ o * l[i] := Int.mul_nonneg hb.1 hx.1
    have b2 : o * l[i] ≤ 2000000000 * 2000000000 := Int.mul_le_mul (by omega) hx.2 hx.1 (by omega)
    show (IntKind.i64.wrap (o * l[i])).tmod gr.P = o * l[i] % gr.P
    rw [wr64 (by omega) (by omega), Int.tmod_eq_emod_of_nonneg b1]
  · rintro s rfl
    rw [List.take_length]; rfl
theorem n_gMul {gr : Group} (k : OkG gr) {l : List Int} (hl : ∀ x ∈ l, 0 ≤ x ∧ x ≤ 2000000000) : F_spec_gMul gr l = some (mulG gr l) := by rw [mul_eq]; exact n_mul k hl
-- ciphertexts
theorem n_hasAll {gr : Group} (k : OkG gr) (l : List Int) : F_impl_Group_hasAll gr l = some (l.all (hasB gr)) := by
  unfold F_impl_Group_hasAll F_impl_areAll__impl_Group_has F_slices_ContainsFunc_int_int__impl_areAll_1_impl_Group_has F_slices_IndexFunc_int_int__impl_areAll_1_impl_Group_has
  refine eq_of_rn (rn_then (ψ := fun b => b = l.all (hasB gr)) (rn_then (ψ := fun b => b = !l.all (hasB gr)) (rn_then (ψ := fun j => (j = -1 ∧ l.all (hasB gr) = true) ∨ (0 ≤ j ∧ l.all (hasB gr) = false)) (rn_then (ψ := fun b => (b = .inl () ∧ l.all (hasB gr) = true) ∨ (∃ j, b = .inr j ∧ 0 ≤ j ∧ l.all (hasB gr) = false)) (rn_rloop (fun i s => (l.take i).all (hasB gr) = true) rfl ?_ ?_) ?_) ?_) ?_) ?_)
  · rintro i s hi hI
    have hc : F_impl_areAll_1__impl_Group_has l[i] gr = some (!hasB gr l[i]) := by
      unfold F_impl_areAll_1__impl_Group_has
      rw [n_has k]; rfl
    refine rn_ix hi (rn_call hc (rn_if (fun h => rn_some (.inr ⟨i, rfl, by omega, ?_⟩)) fun h => rn_some ?_))
    · rw [List.all_eq_false]
      exact ⟨l[i], List.getElem_mem hi, by rw [Bool.not_eq_true'] at h; rw [h]; simp⟩
    · show (l.take (i + 1)).all (hasB gr) = true
      rw [List.take_succ_eq_append_getElem hi, List.all_append, hI]
      simpa using h
  · rintro s hI
    rw [List.take_length] at hI
    exact .inl ⟨rfl, hI⟩
  · rintro b (⟨rfl, h⟩ | ⟨j, rfl, h0, h⟩)
    · exact rn_some (.inl ⟨rfl, h⟩)
    · exact rn_some (.inr ⟨h0, h⟩)
  · rintro j (⟨rfl, h⟩ | ⟨h0, h⟩)
    · exact rn_some (by rw [h]; rfl)
    · exact rn_some (by rw [h]; simpa using h0)
  · rintro b rfl
    exact rn_some (by simp)
  · rintro b rfl
    exact rn_some rfl
theorem has_bd {gr : Group} {x : Int} (h : hasB gr x = true) : 1 ≤ x ∧ x ≤ gr.P - 1 := by
  simp only [hasB, Bool.and_eq_true, decide_eq_true_eq] at h
  exact h.1
theorem ite_n {α : Type} (b : Bool) (u v : α) : (if b = true then some u else some v) = some (if (!b) = true then v else u) := by cases b <;> rfl
theorem ite_m {α : Type} (b : Bool) (u v : α) : (if (!b) = true then some u else some v) = some (if b = true then v else u) := by cases b <;> rfl
theorem n_first {β : Type} {body : Int → Unit → Option (Stp Unit (Unit ⊕ β))} (m : Nat) (p : Nat → Bool) (val : Nat → β) (h : ∀ k, k < m → body (k : Int) () = some (if p k = true then .go () else .out (.inr (val k)))) :
    (rloop body (fun _ => .inl ()) m 0 () = some (.inl ()) ∧ ∀ k, k < m → p k = true) ∨ ∃ k, k < m ∧ p k = false ∧ (∀ j, j < k → p j = true) ∧ rloop body (fun _ => .inl ()) m 0 () = some (.inr (val k)) := by
  have key : Rn (rloop body (fun _ => Sum.inl ()) m 0 ()) (fun b => (b = .inl () ∧ ∀ k, k < m → p k = true) ∨ ∃ k, k < m ∧ p k = false ∧ (∀ j, j < k → p j = true) ∧ b = .inr (val k)) := by
    refine rn_rloop (fun k _ => ∀ j, j < k → p j = true) (fun j hj => by omega) ?_ fun s hs => .inl ⟨rfl, hs⟩
    intro k s hk hI
    refine ⟨_, h k hk, ?_⟩
    cases hp : p k with
    | true =>
      intro j hj
      rcases Nat.lt_or_ge j k with h | h
      · exact hI j h
      · have : j = k := by omega
        rw [this]; exact hp
    | false => exact .inr ⟨k, hk, hp, hI, rfl⟩
  obtain ⟨b, e, h1 | ⟨k, h1, h2, h3, h4⟩⟩ := key
  · exact .inl ⟨by rw [e, h1.1], h1.2⟩
  · exact .inr ⟨k, h1, h2, h3, by rw [e, h4]⟩
theorem areAll_gen {l : List Int} {p : Int → Bool} {f : Int → Option Bool} (hf : ∀ x ∈ l, f x = some (!p x)) :
    ((((rloop (σ := Unit) (β := Unit ⊕ Int) (fun i8 s7 => (ix l i8).bind fun x17 => (f x17).bind fun z20 => if z20 = true then (some (.out (.inr i8))) else (some (.go ()))) (fun s7 => .inl ()) (l.length) 0 () : Option (Unit ⊕ Int)).bind (Sum.elim (fun (x5 : Unit) => some (-1)) some)).bind fun z1 => some (decide (0 ≤ z1))).bind fun z1 => some (!z1)) = some (l.all p) := by
  rcases n_first l.length (fun k => (l[k]?).any p) (fun k => (k : Int)) (body := fun i8 s7 => (ix l i8).bind fun x17 => (f x17).bind fun z20 => if z20 = true then (some (.out (.inr i8))) else (some (.go ()))) (fun k hk => by
    rw [ix_at hk, Option.bind_some, hf _ (List.getElem_mem hk), Option.bind_some, List.getElem?_eq_getElem hk]
    exact ite_m _ _ _) with ⟨e, h1⟩ | ⟨k, h1, h2, h3, e⟩
  · rw [e]
    have : l.all p = true := by
      rw [List.all_eq_true]
      intro x hx
      obtain ⟨k, hk, rfl⟩ := List.mem_iff_getElem.1 hx
      have := h1 k hk
      rw [List.getElem?_eq_getElem hk] at this
      exact this
    rw [this]; rfl
  · rw [e]
    have : l.all p = false := by
      rw [List.all_eq_false]
      refine ⟨l[k], List.getElem_mem h1, ?_⟩
      rw [List.getElem?_eq_getElem h1] at h2
      simpa using h2
    rw [this]
    simp
def dg (q : Nat) : Nat → Nat → List Int
  | 0, _ => []
  | k + 1, n => ((n % q : Nat) : Int) :: dg q k (n / q)
theorem exp_bd {gr : Group} {x : Int} (h : expB gr x = true) : 0 ≤ x ∧ x ≤ gr.Q - 1 := by
  simpa only [expB, Bool.and_eq_true, decide_eq_true_eq] using h
theorem n_areExps {gr : Group} (h : 0 ≤ gr.Q) (h2 : gr.Q ≤ 2000000000) (l : List Int) : F_impl_Group_areExps gr l = some (l.all (expB gr)) := by
  have h1 : F_impl_areAll__impl_Group_isExp l gr = some (l.all (expB gr)) := areAll_gen (f := fun x => F_impl_areAll_1__impl_Group_isExp x gr) fun x _ => by
    unfold F_impl_areAll_1__impl_Group_isExp
    rw [n_isExp h h2]; rfl
  unfold F_impl_Group_areExps
  rw [h1]; rfl
def byL (s : ByteArray) : List Int := s.data.toList.map fun b => (b.toNat : Int)
theorem byL_len (s : ByteArray) : (byL s).length = s.size := by
  show (s.data.toList.map _).length = s.data.size
  rw [List.length_map, Array.length_toList]
theorem byL_bd (s : ByteArray) : ∀ x ∈ byL s, 0 ≤ x ∧ x ≤ 255 := by
  intro x hx
  obtain ⟨b, _, rfl⟩ := List.mem_map.1 hx
  have := b.toNat_lt
  omega
theorem ixs_at {s : ByteArray} {k : Nat} (h : k < s.size) : ixs s (k : Int) = some ((byL s)[k]'(by rw [byL_len]; exact h)) := by
  have h2 : k < s.data.size := h
  simp [ixs, byL, h]
  rfl
theorem n_with (s : ByteArray) (l : List Int) (hs : s.size ≤ 1000000) (hl : l.length ≤ 1000000000000) : F_spec_l3With s l = some ((s.size : Int) :: byL s ++ l) := by
  unfold F_spec_l3With
  refine eq_of_rn (rn_then (ψ := fun x => x = (s.size : Int) :: byL s) (rn_cloop s.size (fun n p => n ≤ s.size ∧ p = ((s.size : Int) :: (byL s).take n, (n : Int))) ⟨by omega, by simp⟩ ?_ ?_) ?_)
  · rintro n p hn ⟨_, rfl⟩
    have hn2 : n < (byL s).length := by rw [byL_len]; exact hn
    have hb := byL_bd s _ (List.getElem_mem hn2)
    refine rn_if (fun _ => ?_) fun h => absurd h (by simp; omega)
    refine rn_call (ixs_at hn) (rn_gd ?_ (rn_some ⟨by omega, ?_⟩))
    · simp only [List.length_cons, List.length_take, byL_len]; omega
    · show ((s.size : Int) :: (byL s).take n ++ [_], _) = _
      rw [wr64 (by omega) (by omega), wr64 (by omega) (by omega), List.cons_append, List.take_append_getElem hn2]
      rfl
  · rintro p ⟨_, rfl⟩
    refine rn_if (fun h => absurd h (by simp)) fun _ => rn_some ?_
    show (s.size : Int) :: (byL s).take s.size = _
    rw [List.take_of_length_le (by rw [byL_len]; omega)]
  · rintro _ rfl
    refine rn_gd ?_ (rn_some rfl)
    simp only [List.length_cons, byL_len]; omega
theorem n_labelled (s : ByteArray) (l : List Int) (hs : s.size ≤ 1000000) (hl : l.length ≤ 1000000000000) : F_impl_labelled s l = some ((s.size : Int) :: byL s ++ l) := n_with s l hs hl
def digB (x : Int) : Bool := decide (0 ≤ x) && decide (x ≤ 4611686018427387903)
theorem digB_t {x : Int} : digB x = true ↔ 0 ≤ x ∧ x ≤ 4611686018427387903 := by simp [digB]
theorem n_isDigest (x : Int) : F_impl_isDigest x = some (digB x) := by
  unfold F_impl_isDigest
  rw [n_within]; rfl
theorem n_l3Digest (x : Int) : F_spec_l3Digest x = some (digB x) := by
  unfold F_spec_l3Digest
  rw [n_l1In]; rfl
theorem byL_dig (s : ByteArray) : (byL s).all digB = true := by
  rw [List.all_eq_true]
  intro x hx
  have := byL_bd s x hx
  exact digB_t.2 ⟨by omega, by omega⟩
def hs1 (c s k : Int) : Int := (c * s + k + 1) % 2147483647
def absH (p : Int × Int) (x : Int) : Int × Int := (hs1 48271 (hs1 48271 p.1 (x % 2147483648)) (x / 2147483648), hs1 69621 (hs1 69621 p.2 (x % 2147483648)) (x / 2147483648))
def hashN (l : List Int) : Int := let p := (((l.length : Int) :: l).foldl absH (1, 2)); p.1 * 2147483648 + p.2
theorem hs1_bd (c s k : Int) : 0 ≤ hs1 c s k ∧ hs1 c s k ≤ 2147483646 := by unfold hs1; omega
theorem hs1_eq {c s k : Int} (hc : c = 48271 ∨ c = 69621) (hs : 0 ≤ s ∧ s ≤ 2147483646) (hk : 0 ≤ k ∧ k ≤ 2147483648) : (IntKind.i64.wrap ((IntKind.i64.wrap ((IntKind.i64.wrap (c * s)) + k)) + 1)).tmod 2147483647 = hs1 c s k := by
  rcases hc with rfl | rfl
  · rw [wr64 (n := 48271 * s) (by omega) (by omega), wr64 (n := 48271 * s + k) (by omega) (by omega), wr64 (by omega) (by omega), Int.tmod_eq_emod_of_nonneg (by omega)]; rfl
  · rw [wr64 (n := 69621 * s) (by omega) (by omega), wr64 (n := 69621 * s + k) (by omega) (by omega), wr64 (by omega) (by omega), Int.tmod_eq_emod_of_nonneg (by omega)]; rfl
def okP (p : Int × Int) : Prop := (0 ≤ p.1 ∧ p.1 ≤ 2147483646) ∧ (0 ≤ p.2 ∧ p.2 ≤ 2147483646)
theorem absH_ok (p : Int × Int) (x : Int) : okP (absH p x) := ⟨hs1_bd _ _ _, hs1_bd _ _ _⟩
theorem fold_ok : ∀ (l : List Int) (p : Int × Int), okP p → okP (l.foldl absH p)
  | [], _, h => h
  | x :: l, p, _ => fold_ok l _ (absH_ok p x)
theorem hashN_dig (l : List Int) : digB (hashN l) = true := by
  obtain ⟨h1, h2⟩ := fold_ok ((l.length : Int) :: l) (1, 2) ⟨by decide, by decide⟩
  refine digB_t.2 ?_
  unfold hashN
  dsimp only
  omega
theorem n_absorb {p : Int × Int} {x : Int} (hp : okP p) (hx : digB x = true) : F_spec_l3State_absorb__io0 p.1 p.2 x = some (absH p x) := by
  obtain ⟨h1, h2⟩ := hp
  have hx := digB_t.1 hx
  have e1 : x.tmod 2147483648 = x % 2147483648 := Int.tmod_eq_emod_of_nonneg hx.1
  have e2 : IntKind.i64.wrap (x.tdiv 2147483648) = x / 2147483648 := by
    rw [Int.tdiv_eq_ediv_of_nonneg hx.1, wr64 (by omega) (by omega)]
  have b1 : 0 ≤ x % 2147483648 ∧ x % 2147483648 ≤ 2147483648 := by omega
  have b2 : 0 ≤ x / 2147483648 ∧ x / 2147483648 ≤ 2147483648 := by omega
  have h0 : ix [x % 2147483648, x / 2147483648] 0 = some (x % 2147483648) := rfl
  have h1' : ix [x % 2147483648, x / 2147483648] 1 = some (x / 2147483648) := rfl
  unfold F_spec_l3State_absorb__io0
  rw [e1, e2, Option.bind_some, wloop_eq]
  simp only [List.length_cons, List.length_nil, show decide ((0 : Int) < ((0 + 1 + 1 : Nat) : Int)) = true from rfl, if_true, h0, Option.bind_some, hs1_eq (.inl rfl) h1 b1, hs1_eq (.inr rfl) h2 b1]
  rw [wloop_eq]
  simp only [show IntKind.i64.wrap (0 + 1) = 1 from rfl, show decide ((1 : Int) < ((0 + 1 + 1 : Nat) : Int)) = true from rfl, if_true, h1', Option.bind_some, hs1_eq (.inl rfl) (hs1_bd _ _ _) b2, hs1_eq (.inr rfl) (hs1_bd _ _ _) b2]
  rw [wloop_eq]
  simp only [show IntKind.i64.wrap (1 + 1) = 2 from rfl, show decide ((2 : Int) < ((0 + 1 + 1 : Nat) : Int)) = false from rfl, Bool.false_eq_true, if_false, Option.bind_some]
  rfl
theorem all_dig {l : List Int} (h : l.all digB = true) {k : Nat} (hk : k < l.length) : digB l[k] = true := List.all_eq_true.1 h _ (List.getElem_mem hk)
theorem n_hInts {l : List Int} (hl : l.length ≤ 1000000000000) (hd : l.all digB = true) : F_spec_hInts l = some (hashN l) := by
  unfold F_spec_hInts
  have e0 := n_absorb (p := (1, 2)) (x := (l.length : Int)) ⟨by decide, by decide⟩ (digB_t.2 ⟨by omega, by omega⟩)
  refine eq_of_rn (rn_call e0 (rn_then (ψ := fun p => p = ((l.length : Int) :: l).foldl absH (1, 2)) (rn_rloop (fun n p => p = ((l.length : Int) :: l.take n).foldl absH (1, 2)) rfl ?_ ?_) ?_))
  · rintro n p hn rfl
    refine rn_ix hn (rn_call (n_absorb (fold_ok _ _ ⟨by decide, by decide⟩) (all_dig hd hn)) (rn_some ?_))
    show absH _ _ = _
    rw [← List.take_append_getElem hn, ← List.cons_append, List.foldl_append]
    rfl
  · rintro p rfl
    show (((l.length : Int) :: l.take l.length).foldl absH (1, 2)) = _
    rw [List.take_length]
  · rintro p rfl
    obtain ⟨h1, h2⟩ := fold_ok ((l.length : Int) :: l) (1, 2) ⟨by decide, by decide⟩
    refine rn_some ?_
    rw [wr64 (n := _ * 2147483648) (by omega) (by omega), wr64 (by omega) (by omega)]
    rfl
theorem and_mask {x : Int} (hx : digB x = true) : IntKind.i64.wrap (BitVec.ofInt IntKind.i64.bits x &&& BitVec.ofInt IntKind.i64.bits 2147483647).toNat = x % 2147483648 := by
  have hx := digB_t.1 hx
  obtain ⟨n, rfl⟩ := Int.eq_ofNat_of_zero_le hx.1
  have h1 : (BitVec.ofInt IntKind.i64.bits ((n : Nat) : Int) &&& BitVec.ofInt IntKind.i64.bits 2147483647).toNat = n % 2147483648 := by
    rw [BitVec.toNat_and]
    have a1 : (BitVec.ofInt IntKind.i64.bits (n : Int)).toNat = n := by
      rw [BitVec.toNat_ofInt]
      have : IntKind.i64.bits = 64 := rfl
      rw [this]
      omega
    have a2 : (BitVec.ofInt IntKind.i64.bits 2147483647).toNat = 2 ^ 31 - 1 := by decide
    rw [a1, a2, Nat.and_two_pow_sub_one_eq_mod]
  rw [h1, wr64 (by omega) (by omega)]
  omega
theorem n_hash {l : List Int} (hl : l.length ≤ 1000000000000) (hd : l.all digB = true) : F_impl_hash l = some (hashN l) := by
  unfold F_impl_hash
  have hd2 : ((l.length : Int) :: l).all digB = true := by
    rw [List.all_cons, hd, Bool.and_true]
    exact digB_t.2 ⟨by omega, by omega⟩
  refine eq_of_rn (rn_gd (by simp only [List.length_cons, List.length_nil]; omega) (rn_call rfl (rn_then (ψ := fun p => p = ((l.length : Int) :: l).foldl absH (1, 2)) (rn_rloop (fun n p => p = (((l.length : Int) :: l).take n).foldl absH (1, 2)) rfl ?_ ?_) ?_)))
  · rintro n p hn rfl
    have ok := fold_ok ((((l.length : Int) :: l)).take n) (1, 2) ⟨by decide, by decide⟩
    have dg := all_dig hd2 hn
    have b := digB_t.1 dg
    have ef : (((l.length : Int) :: l)[n]).fdiv 2147483648 = ((l.length : Int) :: l)[n] / 2147483648 := Int.fdiv_eq_ediv_of_nonneg _ (by omega)
    have hn' : n < ((l.length : Int) :: l).length := hn
    refine rn_ix hn (rn_some ?_)
    show (_, _) = _
    simp only [List.singleton_append]
    rw [and_mask dg, ef, hs1_eq (.inl rfl) ok.1 (by omega), hs1_eq (.inr rfl) ok.2 (by omega), hs1_eq (.inl rfl) (hs1_bd _ _ _) (by omega), hs1_eq (.inr rfl) (hs1_bd _ _ _) (by omega),
      ← List.take_append_getElem hn', List.foldl_append]
    rfl
  · rintro p rfl
    show ((((l.length : Int) :: l).take ([(l.length : Int)] ++ l).length).foldl absH (1, 2)) = _
    rw [List.singleton_append, List.take_length]
  · rintro p rfl
    obtain ⟨h1, h2⟩ := fold_ok ((l.length : Int) :: l) (1, 2) ⟨by decide, by decide⟩
    refine rn_some ?_
    rw [wr64 (n := _ * 2147483648) (by omega) (by omega), wr64 (by omega) (by omega)]
    rfl
def hshL (s : ByteArray) (l : List Int) : Int := hashN ((s.size : Int) :: byL s ++ l)
theorem hshL_dig (s : ByteArray) (l : List Int) : digB (hshL s l) = true := hashN_dig _
def labB (s : ByteArray) (l : List Int) : Bool := decide (s.size ≤ 40) && decide (1 + s.size + l.length ≤ 400) && l.all digB
theorem lab_all {s : ByteArray} {l : List Int} (hs : s.size ≤ 1000000) : ((s.size : Int) :: byL s ++ l).all digB = l.all digB := by
  rw [List.cons_append, List.all_cons, List.all_append, byL_dig, digB_t.2 ⟨by omega, by omega⟩, Bool.true_and, Bool.true_and]
theorem n_hLabelled {s : ByteArray} {l : List Int} (hs : s.size ≤ 1000000) (hl : l.length ≤ 100000000000) (hd : l.all digB = true) : F_spec_hLabelled s l = some (hshL s l) := by
  unfold F_spec_hLabelled
  rw [n_with s l hs (by omega), Option.bind_some, n_hInts (by simp [byL_len]; omega) (by rw [lab_all hs]; exact hd)]
  rfl
theorem n_areDigests (l : List Int) : F_impl_areDigests l = some (decide (l.length ≤ 400) && l.all digB) := by
  unfold F_impl_areDigests
  have h1 : F_impl_areAll__impl_isDigest l = some (l.all digB) := areAll_gen (f := F_impl_areAll_1__impl_isDigest) fun x _ => by
    unfold F_impl_areAll_1__impl_isDigest
    rw [n_isDigest]; rfl
  rw [h1]
  by_cases h : l.length ≤ 400
  · rw [if_pos (by simp; omega)]; simp [h]
  · rw [if_neg (by simp; omega)]; simp [h]
theorem n_HashInts (l : List Int) : F_impl_HashInts l = some (if (decide (l.length ≤ 400) && l.all digB) = true then (hashN l, true) else (0, false)) := by
  unfold F_impl_HashInts
  rw [n_areDigests, Option.bind_some]
  cases h : (decide (l.length ≤ 400) && l.all digB) with
  | true =>
    simp only [Bool.and_eq_true, decide_eq_true_eq] at h
    rw [n_hash (by omega) h.2]; rfl
  | false => rfl
theorem n_HashLabelled (s : ByteArray) (l : List Int) : F_impl_HashLabelled s l = some (if labB s l = true then (hshL s l, true) else (0, false)) := by
  unfold F_impl_HashLabelled
  by_cases h1 : s.size ≤ 40
  · by_cases h2 : l.length ≤ 400
    · rw [if_neg (by simp; omega), Option.bind_some, if_neg (by simp; omega), n_labelled s l (by omega) (by omega), Option.bind_some, n_HashInts, lab_all (by omega)]
      have e : ((s.size : Int) :: byL s ++ l).length = 1 + s.size + l.length := by simp [byL_len]; omega
      rw [e]
      have e2 : labB s l = (decide (1 + s.size + l.length ≤ 400) && l.all digB) := by simp [labB, h1]
      rw [e2]
      cases decide (1 + s.size + l.length ≤ 400) <;> cases l.all digB <;> rfl
    · rw [if_neg (by simp; omega), Option.bind_some, if_pos (by simp; omega)]
      have : labB s l = false := by
        have : ¬ 1 + s.size + l.length ≤ 400 := by omega
        simp [labB, this]
      rw [this]; rfl
  · rw [if_pos (by simp; omega), Option.bind_some, if_pos rfl]
    have : labB s l = false := by simp [labB, h1]
    rw [this]; rfl
-- loops
theorem ceq {n : Int} {k : Nat} (h : n = (k : Int)) (hk : k ≤ 4194304) : IntKind.i64.wrap n = (k : Int) := by rw [wr64 (by omega) (by omega), h]
theorem inc {k : Nat} (hk : k < 4194304) : IntKind.i64.wrap ((k : Int) + 1) = ((k + 1 : Nat) : Int) := ceq (by omega) (by omega)
theorem wl_up {σ β : Type} {step : σ × Int → Option (Stp (σ × Int) β)} {f : Nat → σ → σ} {out : σ → β} (n : Nat) {s0 : σ} (I : Nat → σ → Prop) (h0 : I 0 s0)
    (hs : ∀ k s, k < n → I k s → step (s, (k : Int)) = some (.go (f k s, ((k + 1 : Nat) : Int))) ∧ I (k + 1) (f k s)) (he : ∀ s, I n s → step (s, (n : Int)) = some (.out (out s))) : ∃ s, wloop step (s0, 0) = some (out s) ∧ I n s := by
  obtain ⟨b, h1, s, h2, h3⟩ := rn_cloop (step := step) (s0 := (s0, 0)) (φ := fun b => ∃ s, b = out s ∧ I n s) n (fun k p => p.2 = (k : Int) ∧ I k p.1) ⟨rfl, h0⟩
    (by
      rintro k ⟨s, c⟩ hk ⟨rfl, hI⟩
      obtain ⟨h1, h2⟩ := hs k s hk hI
      exact ⟨_, h1, rfl, h2⟩)
    (by
      rintro ⟨s, c⟩ ⟨rfl, hI⟩
      exact ⟨_, he s hI, s, rfl, hI⟩)
  exact ⟨s, by rw [h1, h2], h3⟩
theorem rl_map {α β γ : Type} {l : List α} {f : α → β} {body : Int → List β → Option (Stp (List β) γ)} {stop : List β → γ} (a0 : List β) (hs : ∀ k (h : k < l.length) (s : List β), s.length = a0.length + k → body (k : Int) s = some (.go (s ++ [f l[k]]))) :
    rloop body stop l.length 0 a0 = some (stop (a0 ++ l.map f)) := by
  refine eq_of_rn (rn_rloop (fun k s => s = a0 ++ (l.take k).map f ∧ k ≤ l.length) ⟨by simp, by omega⟩ ?_ ?_)
  · rintro k s hk ⟨rfl, _⟩
    refine ⟨_, hs k hk _ (by simp; omega), ?_, hk⟩
    rw [List.take_succ_eq_append_getElem hk, List.map_append, List.append_assoc]; rfl
  · rintro s ⟨rfl, _⟩
    simp
theorem wl_copy {α : Type} {l : List α} {d : α} {step : List α × Int → Option (Stp (List α × Int) (List α))} (hs : ∀ k (h : k < l.length) (r : List α), r.length = l.length → step (r, (k : Int)) = some (.go (r.set k l[k], ((k + 1 : Nat) : Int))))
    (he : ∀ r, step (r, (l.length : Int)) = some (.out r)) : wloop step (List.replicate l.length d, 0) = some l := by
  obtain ⟨s, h1, h2, h3⟩ := wl_up (step := step) (out := fun r => r) (f := fun k r => if h : k < l.length then r.set k l[k] else r) l.length (s0 := List.replicate l.length d) (fun k r => r.length = l.length ∧ r.take k = l.take k) ⟨by simp, by simp⟩
    (by
      rintro k r hk ⟨h1, h2⟩
      refine ⟨by rw [hs k hk r h1, dif_pos hk], by rw [dif_pos hk]; simpa using h1, ?_⟩
      rw [dif_pos hk]
      apply List.ext_getElem (by simp; omega)
      intro i hi hi2
      simp only [List.length_take] at hi2
      rw [List.getElem_take, List.getElem_take, List.getElem_set]
      split
      · rename_i e; subst e; rfl
      · have : i < k := by omega
        have e := congrArg (fun z => z[i]?) h2
        simp only [List.getElem?_take, this, if_true] at e
        rw [List.getElem?_eq_getElem (by omega), List.getElem?_eq_getElem (by omega)] at e
        exact Option.some.inj e) (fun s _ => he s)
  rw [h1]
  have e1 : s.take l.length = s := List.take_of_length_le (by omega)
  rw [← e1, h3, List.take_length]
theorem wl_all {β : Type} {step : Int → Option (Stp Int (Unit ⊕ β))} (n : Nat) (hs : ∀ k : Nat, k < n → step (k : Int) = some (.go ((k + 1 : Nat) : Int))) (he : step (n : Int) = some (.out (.inl ()))) : wloop step 0 = some (.inl ()) := by
  refine eq_of_rn (rn_cloop n (fun k s => s = (k : Int)) rfl ?_ ?_)
  · rintro k s hk rfl; exact ⟨_, hs k hk, rfl⟩
  · rintro s rfl; exact ⟨_, he, rfl⟩
-- lists that are asked of all elements
theorem n_allN {γ : Type} {m : Nat} (p : Nat → Bool) (c d : γ) {body : Int → Unit → Option (Stp Unit (Unit ⊕ γ))} (h : ∀ k, k < m → body (k : Int) () = some (if p k = true then .go () else .out (.inr c))) :
    (rloop body (fun _ => .inl ()) m 0 ()).bind (Sum.elim (fun _ => some d) some) = some (if (List.range m).all p = true then d else c) := by
  rcases n_first (body := body) m p (fun _ => c) h with ⟨e, h1⟩ | ⟨k, h1, h2, h3, e⟩
  · have : (List.range m).all p = true := by
      rw [List.all_eq_true]; intro x hx; exact h1 x (List.mem_range.1 hx)
    rw [e, this]; rfl
  · have : (List.range m).all p = false := by
      rw [List.all_eq_false]; exact ⟨k, List.mem_range.2 h1, by simp [h2]⟩
    rw [e, this]; rfl
def inB (a b x : Int) : Bool := decide (a ≤ x) && decide (x ≤ b)
theorem inB_t {a b x : Int} : inB a b x = true ↔ a ≤ x ∧ x ≤ b := by simp [inB]
-- votes
theorem ite_and (a b : Bool) : (if a = true then some b else some false) = some (a && b) := by cases a <;> rfl
theorem ite_or (a b : Bool) : (if a = true then some true else some b) = some (a || b) := by cases a <;> rfl
theorem n_inB (x a b : Int) : F_spec_l1In x a b = some (inB a b x) := n_l1In x a b
theorem n_winB (x a b : Int) : F_impl_within x a b = some (inB a b x) := n_within x a b
theorem all_take {α : Type} {l : List α} {p : α → Bool} (h : l.all p = true) (k : Nat) : (l.take k).all p = true := by
  rw [List.all_eq_true] at h ⊢
  exact fun x hx => h x (List.mem_of_mem_take hx)
-- marks
def marks (n : Nat) (v : List Int) : List Int := (List.range n).map fun (i : Nat) => if v.contains (i : Int) = true then 1 else 0
theorem sz_loop {step : Int × Int → Option (Stp (Int × Int) (Int ⊕ Int))} {a0 : Int} (n : Nat) (h0 : 0 ≤ a0 ∧ a0 ≤ 1048576) (hs : ∀ (k : Nat) (a : Int), k < n → 0 ≤ a → a ≤ 1048576 → ∃ z, z ≤ 1048576 ∧ step (a, (k : Int)) = if decide (z < 0) = true then some (.out (.inr (-1))) else some (.go (z, ((k + 1 : Nat) : Int))))
    (he : ∀ a, step (a, (n : Int)) = some (.out (.inl a))) : ∃ z, (wloop step (a0, 0)).bind (Sum.elim (fun x => some x) some) = some z ∧ z ≤ 1048576 := by
  obtain ⟨b, h1, h2⟩ := rn_cloop (step := step) (s0 := (a0, 0)) (φ := fun b => Sum.elim (fun z => z ≤ 1048576) (fun z => z ≤ 1048576) b) n (fun k p => p.2 = (k : Int) ∧ 0 ≤ p.1 ∧ p.1 ≤ 1048576) ⟨rfl, h0⟩
    (by
      rintro k ⟨a, c⟩ hk ⟨rfl, h1, h2⟩
      obtain ⟨z, hz, e⟩ := hs k a hk h1 h2
      by_cases h : z < 0
      · exact ⟨.out (.inr (-1)), by rw [e, if_pos (by simpa using h)], by show (-1 : Int) ≤ _; omega⟩
      · exact ⟨.go (z, ((k + 1 : Nat) : Int)), by rw [e, if_neg (by simpa using h)], rfl, by dsimp only; omega, hz⟩)
    (by
      rintro ⟨a, c⟩ ⟨rfl, h1, h2⟩
      exact ⟨_, he a, h2⟩)
  rw [h1, Option.bind_some]
  cases b with
  | inl z => exact ⟨z, rfl, h2⟩
  | inr z => exact ⟨z, rfl, h2⟩
theorem mk_loop {α : Type} {step : List α × Int × Int → Option (Stp (List α × Int × Int) (List α × Int))} {l : List α} {a0 K : Int} (P : α → Prop) (hP : ∀ x ∈ l, P x) (hK : 0 ≤ K) (h0 : 1 ≤ a0)
    (hs : ∀ (k : Nat) (r : List α) (a : Int) (h : k < r.length), r.length = l.length → P r[k] → 1 ≤ a → a ≤ a0 + k * K → ∃ x a', step (r, a, (k : Int)) = some (.go (r.set k x, a', ((k + 1 : Nat) : Int))) ∧ P x ∧ a ≤ a' ∧ a' ≤ a + K)
    (he : ∀ r a, r.length = l.length → step (r, a, (l.length : Int)) = some (.out (r, a))) : ∃ z, wloop step (l, a0, 0) = some z ∧ 1 ≤ z.2 ∧ z.2 ≤ a0 + l.length * K ∧ z.1.length = l.length ∧ ∀ x ∈ z.1, P x := by
  refine rn_cloop l.length (fun k p => p.2.2 = (k : Int) ∧ p.1.length = l.length ∧ (∀ x ∈ p.1, P x) ∧ 1 ≤ p.2.1 ∧ p.2.1 ≤ a0 + k * K) ⟨rfl, rfl, hP, h0, by simp⟩ ?_ ?_
  · rintro k ⟨r, a, c⟩ hk ⟨rfl, h1, h2, h3, h4⟩
    simp only at h1 h2 h3 h4
    obtain ⟨x, a', e, h5, h6, h7⟩ := hs k r a (by omega) h1 (h2 _ (List.getElem_mem (by omega))) h3 h4
    refine ⟨_, e, rfl, by simpa using h1, fun y hy => ?_, by dsimp only; omega, ?_⟩
    · rcases List.mem_or_eq_of_mem_set hy with h | rfl
      · exact h2 y h
      · exact h5
    · show a' ≤ a0 + ((k + 1 : Nat) : Int) * K
      rw [show (((k + 1 : Nat) : Int)) * K = (k : Int) * K + K by rw [Int.natCast_add, Int.add_mul]; omega]
      omega
  · rintro ⟨r, a, c⟩ ⟨rfl, h1, h2, h3, h4⟩
    exact ⟨_, he r a h1, h3, h4, h1, h2⟩
theorem flatI_take {α : Type} {L : List (List α)} {i : Nat} (h : i < L.length) : (L.take (i + 1)).flatten = (L.take i).flatten ++ L[i] := by
  rw [List.take_succ_eq_append_getElem h, List.flatten_append]; simp
theorem flatI_le {α : Type} (L : List (List α)) (i : Nat) : (L.take i).flatten.length ≤ L.flatten.length := by
  have e : L.flatten = (L.take i).flatten ++ (L.drop i).flatten := by rw [← List.flatten_append, List.take_append_drop]
  rw [e, List.length_append]; omega
theorem n_concatI (L : List (List Int)) (h : L.flatten.length ≤ 1000000000000) : F_slices_Concat_int_int L = some L.flatten := by
  unfold F_slices_Concat_int_int
  refine eq_of_rn (rn_then (ψ := fun n => n = (L.flatten.length : Int)) (rn_rloop (fun i s => s = ((L.take i).flatten.length : Int)) rfl ?_ ?_) ?_)
  · rintro i s hi rfl
    have e := congrArg List.length (flatI_take hi)
    rw [List.length_append] at e
    have hl := flatI_le L (i + 1)
    refine rn_ix hi ?_
    rw [wr64 (by omega) (by omega)]
    refine rn_f (by simp only [decide_eq_false_iff_not]; omega) (rn_some ?_)
    show _ = _
    omega
  · rintro s rfl
    rw [List.take_length]
  · rintro n rfl
    refine rn_gd (by omega) (rn_then (ψ := fun r => r = L.flatten) (rn_rloop (fun i s => s = (L.take i).flatten) rfl ?_ ?_) fun r hr => rn_some hr)
    · rintro i s hi rfl
      have e := congrArg List.length (flatI_take hi)
      rw [List.length_append] at e
      have hl := flatI_le L (i + 1)
      refine rn_ix hi (rn_gd (by omega) (rn_some ?_))
      show _ = _
      rw [flatI_take hi]
    · rintro s rfl
      rw [List.take_length]
-- challenges
def chG (gr : Group) (s : ByteArray) (l : List Int) : Int := hshL s ([gr.P, gr.Q, gr.G] ++ l) % gr.Q
theorem chG_bd {gr : Group} (k : OkG gr) (s : ByteArray) (l : List Int) : 0 ≤ chG gr s l ∧ chG gr s l < gr.Q := by
  have := k.q
  exact ⟨Int.emod_nonneg _ (by omega), Int.emod_lt_of_pos _ (by omega)⟩
theorem grp_dig {gr : Group} (k : OkG gr) {l : List Int} : ([gr.P, gr.Q, gr.G] ++ l).all digB = l.all digB := by
  have hp := k.p
  have hq := k.q
  have hg := k.g
  rw [List.all_append]
  have : [gr.P, gr.Q, gr.G].all digB = true := by
    simp only [List.all_cons, List.all_nil, Bool.and_true, Bool.and_eq_true]
    exact ⟨digB_t.2 (by omega), digB_t.2 (by omega), digB_t.2 (by omega)⟩
  rw [this, Bool.true_and]
theorem n_hChallenge {gr : Group} (k : OkG gr) {s : ByteArray} {l : List Int} (hs : s.size ≤ 1000000) (hl : l.length ≤ 10000000000) (hd : l.all digB = true) : F_spec_hChallenge gr s l = some (chG gr s l) := by
  have hq := k.q
  have hb := digB_t.1 (hshL_dig s ([gr.P, gr.Q, gr.G] ++ l))
  unfold F_spec_hChallenge
  rw [gd_t (by simp only [List.length_cons, List.length_nil]; omega), n_hLabelled hs (by simp only [List.length_append, List.length_cons, List.length_nil]; omega) (by rw [grp_dig k]; exact hd), Option.bind_some, gd_t (by omega), Int.tmod_eq_emod_of_nonneg hb.1]
  rfl
theorem n_chlI {gr : Group} (k : OkG gr) (s : ByteArray) {l : List Int} (hl : l.length ≤ 10000000000) : F_impl_Group_challenge gr s l = some (if labB s ([gr.P, gr.Q, gr.G] ++ l) = true then (chG gr s l, true) else (0, false)) := by
  have hq := k.q
  have hb := digB_t.1 (hshL_dig s ([gr.P, gr.Q, gr.G] ++ l))
  unfold F_impl_Group_challenge
  rw [gd_t (by simp only [List.length_cons, List.length_nil]; omega), n_HashLabelled, Option.bind_some]
  cases labB s ([gr.P, gr.Q, gr.G] ++ l) with
  | false => rfl
  | true =>
    simp only [if_true, Bool.not_true, Bool.false_eq_true, if_false]
    rw [gd_t (by omega), Int.tmod_eq_emod_of_nonneg hb.1]
    rfl
theorem lab_t {gr : Group} (k : OkG gr) {s : ByteArray} {l : List Int} (hs : s.size ≤ 40) (hl : 4 + s.size + l.length ≤ 400) (hd : l.all digB = true) : labB s ([gr.P, gr.Q, gr.G] ++ l) = true := by
  unfold labB
  rw [grp_dig k, hd, Bool.and_true, Bool.and_eq_true, decide_eq_true_eq, decide_eq_true_eq]
  simp only [List.length_append, List.length_cons, List.length_nil]
  omega
theorem has_dig {gr : Group} (k : OkG gr) {l : List Int} (h : l.all (hasB gr) = true) : l.all digB = true := by
  have hp := k.p
  rw [List.all_eq_true] at h ⊢
  intro x hx
  have := has_bd (h x hx)
  exact digB_t.2 (by omega)
theorem exp_dig {gr : Group} (k : OkG gr) {l : List Int} (h : l.all (expB gr) = true) : l.all digB = true := by
  have hp := k.p
  have hq := k.q
  rw [List.all_eq_true] at h ⊢
  intro x hx
  have := exp_bd (h x hx)
  exact digB_t.2 (by omega)
-- products of powers
def prdG (gr : Group) : List Int → List Int → Int → Int
  | x :: l, e :: m, o => prdG gr l m (o * powG gr x e % gr.P)
  | _, _, o => o
theorem prdG_snoc (gr : Group) : ∀ (l m : List Int) (x e o : Int), l.length = m.length → prdG gr (l ++ [x]) (m ++ [e]) o = prdG gr l m o * powG gr x e % gr.P
  | [], [], x, e, o, _ => rfl
  | y :: l, f :: m, x, e, o, h => prdG_snoc gr l m x e _ (by simpa using h)
theorem prdG_cut (gr : Group) : ∀ (l m : List Int) (o : Int), prdG gr l (m.take l.length) o = prdG gr l m o
  | [], m, o => by cases m <;> rfl
  | y :: l, [], o => rfl
  | y :: l, f :: m, o => prdG_cut gr l m _
theorem prdG_bd {gr : Group} (h : 0 < gr.P) : ∀ (l m : List Int) (o : Int), 0 ≤ o ∧ o < gr.P → 0 ≤ prdG gr l m o ∧ prdG gr l m o < gr.P
  | x :: l, e :: m, o, _ => prdG_bd h l m _ ⟨Int.emod_nonneg _ (by omega), Int.emod_lt_of_pos _ h⟩
  | [], _, o, ho => ho
  | _ :: _, [], o, ho => ho
theorem mul_two {gr : Group} (k : OkG gr) {x y : Int} (hx : 0 ≤ x ∧ x < gr.P) (hy : 0 ≤ y) : mulG gr [x, y] = x * y % gr.P := by
  have hp := k.p
  simp only [mulG, List.foldl_cons, List.foldl_nil, Int.one_mul]
  rw [Int.emod_eq_of_lt hx.1 hx.2]
theorem n_gProd {gr : Group} (k : OkG gr) {l m : List Int} (hl : ∀ x ∈ l, 0 ≤ x ∧ x ≤ 2000000000) (hm : l.length ≤ m.length) : F_spec_gProd gr l m = some (prdG gr l m 1) := by
  have hp := k.p
  unfold F_spec_gProd
  refine eq_of_rn (rn_then (ψ := fun b => b = prdG gr l m 1) (rn_rloop (fun i s => s = prdG gr (l.take i) (m.take i) 1) rfl ?_ ?_) fun b hb => rn_some hb)
  · rintro i s hi rfl
    have bd := prdG_bd (gr := gr) (by omega) (l.take i) (m.take i) 1 (by omega)
    have hx := hl l[i] (List.getElem_mem hi)
    have pb := powG_bd k l[i] (m[i]'(by omega))
    refine rn_ix hi (rn_ix (show i < m.length by omega) (rn_call (n_gExp k hx.1 hx.2 _) (rn_gd (by omega) (rn_some ?_))))
    show _ = prdG gr (l.take (i + 1)) (m.take (i + 1)) 1
    rw [List.take_succ_eq_append_getElem hi, List.take_succ_eq_append_getElem (show i < m.length by omega), prdG_snoc _ _ _ _ _ _ (by simp; omega)]
    have b1 := Int.mul_nonneg bd.1 pb.1
    have b2 : prdG gr (l.take i) (m.take i) 1 * powG gr l[i] (m[i]'(by omega)) ≤ 2000000000 * 2000000000 := Int.mul_le_mul (by omega) (by omega) pb.1 (by omega)
    rw [wr64 (by omega) (by omega), Int.tmod_eq_emod_of_nonneg b1]
  · rintro s rfl
    rw [List.take_length, prdG_cut]
theorem n_powersI {gr : Group} (k : OkG gr) {l m : List Int} (hl : ∀ x ∈ l, 0 ≤ x ∧ x ≤ 2000000000) (hm : l.length ≤ m.length) : F_impl_Group_powers gr l m = some (prdG gr l m 1) := by
  have hp := k.p
  unfold F_impl_Group_powers
  refine eq_of_rn (rn_then (ψ := fun b => b = prdG gr l m 1) (rn_rloop (fun i s => s = prdG gr (l.take i) (m.take i) 1) rfl ?_ ?_) fun b hb => rn_some hb)
  · rintro i s hi rfl
    have bd := prdG_bd (gr := gr) (by omega) (l.take i) (m.take i) 1 (by omega)
    have hx := hl l[i] (List.getElem_mem hi)
    have pb := powG_bd k l[i] (m[i]'(by omega))
    refine rn_ix hi (rn_ix (show i < m.length by omega) (rn_call (n_pow k hx.1 hx.2 _).1 (rn_call (n_mul k ?_) (rn_some ?_))))
    · intro y hy
      simp only [List.mem_cons, List.not_mem_nil, or_false] at hy
      rcases hy with rfl | rfl <;> omega
    · show _ = prdG gr (l.take (i + 1)) (m.take (i + 1)) 1
      rw [List.take_succ_eq_append_getElem hi, List.take_succ_eq_append_getElem (show i < m.length by omega), prdG_snoc _ _ _ _ _ _ (by simp; omega), mul_two k bd pb.1]
  · rintro s rfl
    rw [List.take_length, prdG_cut]
-- linear statements
structure LinS (gr : Group) (bs : List (List Int)) : Prop where
  n : 1 ≤ bs.length ∧ bs.length ≤ 8
  m : 1 ≤ (bs.headD []).length ∧ (bs.headD []).length ≤ 8
  r : ∀ r ∈ bs, r.length = (bs.headD []).length ∧ r.all (hasB gr) = true
theorem flatI_len : ∀ {bs : List (List Int)} {c : Nat}, (∀ r ∈ bs, r.length ≤ c) → bs.flatten.length ≤ bs.length * c
  | [], _, _ => by simp
  | r :: bs, c, h => by
    have h1 := h r (List.mem_cons_self ..)
    have h2 := flatI_len fun x hx => h x (List.mem_cons_of_mem r hx)
    rw [List.flatten_cons, List.length_append, List.length_cons, Nat.add_mul]
    omega
theorem LinS.flat {gr : Group} {bs : List (List Int)} (h : LinS gr bs) : bs.flatten.length ≤ 64 := by
  have := flatI_len (bs := bs) (c := 8) fun r hr => by rw [(h.r r hr).1]; exact h.m.2
  have := h.n
  omega
theorem LinS.dig {gr : Group} (k : OkG gr) {bs : List (List Int)} (h : LinS gr bs) : bs.flatten.all digB = true := by
  rw [List.all_eq_true]
  intro x hx
  obtain ⟨r, hr, hx⟩ := List.mem_flatten.1 hx
  exact List.all_eq_true.1 (has_dig k (h.r r hr).2) x hx
theorem LinS.hd {gr : Group} {bs : List (List Int)} (h : LinS gr bs) : ix bs 0 = some (bs.headD []) := by
  cases bs with
  | nil => have := h.n; simp at this
  | cons r l => rfl
theorem has_rng {gr : Group} (k : OkG gr) {l : List Int} (h : l.all (hasB gr) = true) : ∀ x ∈ l, 0 ≤ x ∧ x ≤ 2000000000 := fun x hx => by
  have hp := k.p
  have := has_bd (List.all_eq_true.1 h x hx)
  omega
theorem n_stmt {bs : List (List Int)} {im cs : List Int} (h1 : bs.flatten.length ≤ 1000000) (h2 : im.length ≤ 1048576) (h3 : cs.length ≤ 1048576) : F_spec_sStatement bs im cs = some (bs.flatten ++ im ++ cs) := by
  unfold F_spec_sStatement
  refine eq_of_rn (rn_then (ψ := fun r => r = bs.flatten) (rn_rloop (fun i s => s = (bs.take i).flatten) rfl ?_ ?_) ?_)
  · rintro i s hi rfl
    have e := congrArg List.length (flatI_take hi)
    rw [List.length_append] at e
    have hl := flatI_le bs (i + 1)
    refine rn_ix hi (rn_gd (by omega) (rn_some ?_))
    show _ = _
    rw [flatI_take hi]
  · rintro s rfl
    rw [List.take_length]
  · rintro r rfl
    exact rn_gd (by omega) (rn_gd (by rw [List.length_append]; omega) (rn_some rfl))
theorem n_images {gr : Group} (k : OkG gr) {bs : List (List Int)} {es : List Int} (hb : LinS gr bs) (he : es.length = (bs.headD []).length) : F_impl_Group_images gr bs es = some (bs.map fun r => prdG gr r es 1) := by
  unfold F_impl_Group_images
  have hn := hb.n
  rw [rl_map (f := fun r => prdG gr r es 1) []]
  · rfl
  · intro i hi s hs
    have hr := hb.r _ (List.getElem_mem hi)
    rw [ix_at hi, Option.bind_some, n_powersI k (has_rng k hr.2) (by omega), Option.bind_some, gd_t (by simp at hs; omega)]
def verB (gr : Group) (s : ByteArray) (bs : List (List Int)) (im : List Int) (p : Proof) : Bool :=
  !(((p.Commits.length : Int) != (bs.length : Int)) || (((p.Challenges.length : Int) != 1) || (((p.Responses.length : Int) != ((bs.headD []).length : Int)) || (!p.Commits.all (hasB gr) || !p.Responses.all (expB gr))))) &&
  (!(p.Challenges.headD 0 != chG gr s (bs.flatten ++ im ++ p.Commits)) &&
  (List.range bs.length).all fun i => !(prdG gr (bs.getD i []) p.Responses 1 != mulG gr [p.Commits.getD i 0, powG gr (im.getD i 0) (p.Challenges.headD 0)]))
theorem n_sVerify {gr : Group} (k : OkG gr) {s : ByteArray} (hs : s.size ≤ 40) {bs : List (List Int)} {im : List Int} {p : Proof} (hb : LinS gr bs) (hi : im.length = bs.length) (hd : im.all (hasB gr) = true) (hc : p.Commits.length ≤ 1048576) :
    F_spec_sVerify gr s bs im p = some (verB gr s bs im p) := by
  have hp := k.p
  have hq := k.q
  unfold F_spec_sVerify verB
  simp only [hb.hd, n_gIs k, n_gExps (gr := gr) (by omega) (by omega), Option.bind_some, ite_or]
  cases hg : (((p.Commits.length : Int) != (bs.length : Int)) || (((p.Challenges.length : Int) != 1) || (((p.Responses.length : Int) != ((bs.headD []).length : Int)) || (!p.Commits.all (hasB gr) || !p.Responses.all (expB gr))))) with
  | true => rfl
  | false =>
    simp only [Bool.or_eq_false_iff, bne_eq_false_iff_eq, Bool.not_eq_false'] at hg
    obtain ⟨g1, g2, g3, g4, g5⟩ := hg
    have hf := hb.flat
    have hn := hb.n
    obtain ⟨c, hce⟩ : ∃ c, p.Challenges = [c] := by
      match h : p.Challenges, g2 with
      | [c], _ => exact ⟨c, rfl⟩
    have hdig : (bs.flatten ++ im ++ p.Commits).all digB = true := by
      rw [List.all_append, List.all_append, hb.dig k, has_dig k hd, has_dig k g4]; rfl
    simp only [Bool.false_eq_true, if_false, hce, show ix [c] 0 = some c from rfl, Option.bind_some, n_stmt (bs := bs) (im := im) (cs := p.Commits) (by omega) (by omega) hc]
    rw [n_hChallenge k (by omega) (by simp only [List.length_append]; omega) hdig, Option.bind_some]
    show _ = some (!false && (!(c != _) && _))
    by_cases hcc : c = chG gr s (bs.flatten ++ im ++ p.Commits)
    · have e1 : (c != chG gr s (bs.flatten ++ im ++ p.Commits)) = false := by simpa using hcc
      rw [e1]
      simp only [Bool.false_eq_true, if_false, Bool.not_false, Bool.true_and]
      rw [n_allN (fun i => !(prdG gr (bs.getD i []) p.Responses 1 != mulG gr [p.Commits.getD i 0, powG gr (im.getD i 0) c])) false true]
      · simp only [Bool.if_true_left, Bool.if_false_right, Bool.and_true, Bool.decide_eq_true, Bool.or_false]
        rfl
      · intro i hi
        have hr := hb.r _ (List.getElem_mem hi)
        have h1 : i < p.Commits.length := by omega
        have h2 : i < im.length := by omega
        have ic := has_rng k g4 _ (List.getElem_mem h1)
        have ii := has_rng k hd _ (List.getElem_mem h2)
        have pb := powG_bd k im[i] c
        rw [ix_at hi, Option.bind_some, ix_at h1, Option.bind_some, ix_at h2, Option.bind_some, n_gProd k (has_rng k hr.2) (by omega), Option.bind_some, n_gExp k ii.1 ii.2, Option.bind_some, n_gMul k ?_, Option.bind_some]
        · simp only [List.getD_eq_getElem?_getD, List.getElem?_eq_getElem hi, List.getElem?_eq_getElem h1, List.getElem?_eq_getElem h2, Option.getD_some]
          exact ite_n _ _ _
        · intro y hy
          simp only [List.mem_cons, List.not_mem_nil, or_false] at hy
          rcases hy with rfl | rfl <;> omega
    · have e1 : (c != chG gr s (bs.flatten ++ im ++ p.Commits)) = true := by simpa using hcc
      rw [e1]; rfl
theorem n_verifyI {gr : Group} (k : OkG gr) {s : ByteArray} (hs : s.size ≤ 40) {bs : List (List Int)} {im : List Int} {p : Proof} (hb : LinS gr bs) (hi : im.length = bs.length) (hd : im.all (hasB gr) = true) (hc : p.Commits.length ≤ 1048576) :
    F_impl_Group_verifyLinear gr s bs im p = some (verB gr s bs im p) := by
  have hp := k.p
  have hq := k.q
  unfold F_impl_Group_verifyLinear verB
  simp only [hb.hd, n_hasAll k, n_areExps (gr := gr) (by omega) (by omega), Option.bind_some, ite_or]
  cases hg : (((p.Commits.length : Int) != (bs.length : Int)) || (((p.Challenges.length : Int) != 1) || (((p.Responses.length : Int) != ((bs.headD []).length : Int)) || (!p.Commits.all (hasB gr) || !p.Responses.all (expB gr))))) with
  | true => rfl
  | false =>
    simp only [Bool.or_eq_false_iff, bne_eq_false_iff_eq, Bool.not_eq_false'] at hg
    obtain ⟨g1, g2, g3, g4, g5⟩ := hg
    have hf := hb.flat
    have hn := hb.n
    obtain ⟨c, hce⟩ : ∃ c, p.Challenges = [c] := by
      match h : p.Challenges, g2 with
      | [c], _ => exact ⟨c, rfl⟩
    have hdig : (bs.flatten ++ im ++ p.Commits).all digB = true := by
      rw [List.all_append, List.all_append, hb.dig k, has_dig k hd, has_dig k g4]; rfl
    have hfl : [bs.flatten, im, p.Commits].flatten = bs.flatten ++ im ++ p.Commits := by simp
    have hl : (bs.flatten ++ im ++ p.Commits).length ≤ 80 := by simp only [List.length_append]; omega
    simp only [Bool.false_eq_true, if_false, hce, show ix [c] 0 = some c from rfl, Option.bind_some, n_concatI bs (by omega), n_concatI [bs.flatten, im, p.Commits] (by rw [hfl]; omega), hfl]
    rw [n_chlI k s (by omega), if_pos (lab_t k hs (by omega) hdig), Option.bind_some]
    simp only [Bool.not_true, Bool.false_eq_true, if_false, Option.bind_some]
    show _ = some (!false && (!(c != _) && _))
    by_cases hcc : c = chG gr s (bs.flatten ++ im ++ p.Commits)
    · have e1 : (c != chG gr s (bs.flatten ++ im ++ p.Commits)) = false := by simpa using hcc
      rw [e1, ← hcc]
      simp only [Bool.false_eq_true, if_false, Bool.not_false, Bool.true_and]
      rw [n_images k hb (by omega), Option.bind_some, n_allN (fun i => !(prdG gr (bs.getD i []) p.Responses 1 != mulG gr [p.Commits.getD i 0, powG gr (im.getD i 0) c])) false true]
      · simp only [Bool.if_true_left, Bool.if_false_right, Bool.and_true, Bool.decide_eq_true, Bool.or_false, List.length_map]
        rfl
      · intro i hi
        have hi' : i < bs.length := by simpa using hi
        have h1 : i < p.Commits.length := by omega
        have h2 : i < im.length := by omega
        have ic := has_rng k g4 _ (List.getElem_mem h1)
        have ii := has_rng k hd _ (List.getElem_mem h2)
        have pb := powG_bd k im[i] c
        rw [ix_at hi, Option.bind_some, ix_at h1, Option.bind_some, ix_at h2, Option.bind_some, (n_pow k ii.1 ii.2 _).1, Option.bind_some, n_mul k ?_, Option.bind_some]
        · simp only [List.getElem_map, List.getD_eq_getElem?_getD, List.getElem?_eq_getElem hi', List.getElem?_eq_getElem h1, List.getElem?_eq_getElem h2, Option.getD_some]
          exact ite_n _ _ _
        · intro y hy
          simp only [List.mem_cons, List.not_mem_nil, or_false] at hy
          rcases hy with rfl | rfl <;> omega
    · have e1 : (c != chG gr s (bs.flatten ++ im ++ p.Commits)) = true := by simpa using hcc
      rw [e1]; rfl
theorem gen_has {gr : Group} (k : OkG gr) : hasB gr gr.G = true := by
  have hg := k.g
  simp only [hasB, Bool.and_eq_true, decide_eq_true_eq]
  exact ⟨by omega, k.o⟩
theorem rows_one {gr : Group} {x : Int} (h : hasB gr x = true) : LinS gr [[x]] := ⟨by simp, by simp, fun r hr => by
  rw [List.mem_singleton.1 hr]
  simp [h]⟩
def sgnB (gr : Group) (s : ByteArray) (key : Int) (p : Proof) : Bool := verB gr s [[gr.G]] [key] p
theorem n_signed {gr : Group} (k : OkG gr) {s : ByteArray} (hs : s.size ≤ 40) {key : Int} (hk : hasB gr key = true) {p : Proof} (hc : p.Commits.length ≤ 1048576) : F_spec_oSigned gr s key p = some (sgnB gr s key p) ∧ F_impl_Group_isSigned gr s key p = some (sgnB gr s key p) := by
  have hr := rows_one (gen_has k)
  have hd : [key].all (hasB gr) = true := by simp [hk]
  unfold F_spec_oSigned F_impl_Group_isSigned
  rw [n_sVerify k hs hr rfl hd hc, n_verifyI k hs hr rfl hd hc]
  exact ⟨rfl, rfl⟩
theorem sgn_form {gr : Group} (k : OkG gr) {s : ByteArray} {key : Int} {p : Proof} (h : sgnB gr s key p = true) : ∃ a b c, p = ⟨[a], [b], [c]⟩ ∧ digB a = true ∧ digB b = true ∧ digB c = true := by
  unfold sgnB verB at h
  simp only [Bool.and_eq_true, Bool.not_eq_true', Bool.or_eq_false_iff, bne_eq_false_iff_eq, Bool.not_eq_false'] at h
  obtain ⟨⟨g1, g2, g3, g4, g5⟩, g6, _⟩ := h
  have hq := k.q
  have hp := k.p
  obtain ⟨cs, ch, rs⟩ := p
  match cs, ch, rs, g1, g2, g3 with
  | [a], [b], [c], _, _, _ =>
    have h1 := has_dig k g4
    have h2 := exp_dig k g5
    have h3 := chG_bd k s ([[gr.G]].flatten ++ [key] ++ [a])
    refine ⟨a, b, c, rfl, by simpa using h1, ?_, by simpa using h2⟩
    have : b = chG gr s ([[gr.G]].flatten ++ [key] ++ [a]) := g6
    exact digB_t.2 (by omega)
def hxS : ByteArray := ⟨#[48, 49, 50, 51, 52, 53, 54, 55, 56, 57, 97, 98, 99, 100, 101, 102]⟩
def hxC (n : Int) : Int := (ixs hxS n).getD 0
theorem hx_at {n : Int} (h : 0 ≤ n ∧ n < 16) : ixs hxS n = some (hxC n) := by
  obtain ⟨k, rfl⟩ := Int.eq_ofNat_of_zero_le h.1
  have : ∀ k : Fin 16, ixs hxS (k.val : Int) = some (hxC (k.val : Int)) := by decide
  exact this ⟨k, by omega⟩
def hxD (d : Int) (k : Nat) : Int := d / 16 ^ k % 16
theorem hxD_bd (d : Int) (k : Nat) : 0 ≤ hxD d k ∧ hxD d k < 16 := by unfold hxD; omega
def hxL (d : Int) : List Int := (List.range 16).map fun i => hxC (hxD d (15 - i))
theorem bytes_size (l : List Int) : (bytesOf l).size = l.length := by
  show ((l.map fun n => UInt8.ofNat n.toNat).toArray).size = _
  simp
def hxT (d : Int) : ByteArray := bytesOf (hxL d)
theorem hxT_size (d : Int) : (hxT d).size = 16 := by unfold hxT; rw [bytes_size]; simp [hxL]
theorem n_textS {d : Int} (h : digB d = true) : F_spec_DigestText d = some (hxT d, true) := by
  have hd := digB_t.1 h
  unfold F_spec_DigestText
  rw [n_l3Digest, h, Option.bind_some]
  simp only [Bool.not_true, Bool.false_eq_true, if_false]
  rw [gd_t (by omega), Option.bind_some]
  have key := rn_cloop (σ := Int × List Int × Int) (β := List Int) (step := fun s17 =>
    if decide (0 ≤ s17.2.2) = true then (
    (ixs (⟨#[48, 49, 50, 51, 52, 53, 54, 55, 56, 57, 97, 98, 99, 100, 101, 102]⟩ : ByteArray) (s17.1.tmod 16)).bind fun x23 =>
    (ix s17.2.1 s17.2.2).bind fun x24 =>
    some (.go (IntKind.i64.wrap (s17.1.tdiv 16), s17.2.1.set s17.2.2.toNat x23, IntKind.i64.wrap (s17.2.2 - 1)))) else (
    some (.out s17.2.1))) (s0 := (d, List.replicate 16 0, 15)) (φ := fun l => l = hxL d) 16
    (fun j p => p.1 = d / 16 ^ j ∧ p.2.1.length = 16 ∧ p.2.2 = 15 - (j : Int) ∧ ∀ i (h : i < p.2.1.length), 15 < i + j → p.2.1[i] = hxC (hxD d (15 - i))) ⟨by simp, by simp, rfl, fun i h1 h2 => by simp at h1; omega⟩ ?_ ?_
  · obtain ⟨l, e, rfl⟩ := key
    rw [e]; rfl
  · rintro j ⟨a, l, c⟩ hj ⟨rfl, h2, rfl, h4⟩
    simp only at h2 h4
    have hp : (0 : Int) < 16 ^ j := Int.pow_pos (by omega)
    have h0 : 0 ≤ d / 16 ^ j := Int.ediv_nonneg hd.1 (by omega)
    have h1 : d / 16 ^ j ≤ d := Int.ediv_le_self _ hd.1
    obtain ⟨i, hi, e1⟩ : ∃ i : Nat, i < 16 ∧ 15 - (j : Int) = (i : Int) := ⟨15 - j, by omega, by omega⟩
    have hil : i < l.length := by omega
    have e2 : (d / 16 ^ j).tmod 16 = hxD d j := Int.tmod_eq_emod_of_nonneg h0
    have e3 : IntKind.i64.wrap ((d / 16 ^ j).tdiv 16) = d / 16 ^ (j + 1) := by
      rw [Int.tdiv_eq_ediv_of_nonneg h0, wr64 (by omega) (by omega), Int.ediv_ediv_of_nonneg (by omega), Int.pow_succ]
    dsimp only
    rw [e1]
    refine rn_t (by simp) (rn_call (by rw [e2]; exact hx_at (hxD_bd d j)) (rn_call (ix_at hil) (rn_some ⟨e3, by simpa using h2, ?_, fun t ht h5 => ?_⟩)))
    · show IntKind.i64.wrap ((i : Int) - 1) = _
      rw [wr64 (by omega) (by omega)]; omega
    · simp only [Int.toNat_natCast, List.getElem_set]
      split
      · rename_i e; subst e
        have : 15 - i = j := by omega
        rw [this]
      · exact h4 t (by simpa using ht) (by omega)
  · rintro ⟨a, l, c⟩ ⟨rfl, h2, rfl, h4⟩
    simp only at h2 h4
    refine ⟨.out l, rfl, ?_⟩
    refine List.ext_getElem (by simp [hxL, h2]) fun i h5 h6 => ?_
    rw [h4 i h5 (by omega)]
    simp [hxL]
theorem and15 {x : Int} (hx : 0 ≤ x ∧ x ≤ 9223372036854775807) : IntKind.i64.wrap (BitVec.ofInt IntKind.i64.bits x &&& BitVec.ofInt IntKind.i64.bits 15).toNat = x % 16 := by
  obtain ⟨n, rfl⟩ := Int.eq_ofNat_of_zero_le hx.1
  have h1 : (BitVec.ofInt IntKind.i64.bits ((n : Nat) : Int) &&& BitVec.ofInt IntKind.i64.bits 15).toNat = n % 16 := by
    rw [BitVec.toNat_and]
    have a1 : (BitVec.ofInt IntKind.i64.bits (n : Int)).toNat = n := by
      rw [BitVec.toNat_ofInt]
      have : IntKind.i64.bits = 64 := rfl
      rw [this]
      omega
    have a2 : (BitVec.ofInt IntKind.i64.bits 15).toNat = 2 ^ 4 - 1 := by decide
    rw [a1, a2, Nat.and_two_pow_sub_one_eq_mod]
  rw [h1, wr64 (by omega) (by omega)]
  omega
theorem n_textI {d : Int} (h : digB d = true) : F_impl_DigestText d = some (hxT d, true) := by
  have hd := digB_t.1 h
  unfold F_impl_DigestText
  rw [n_isDigest, h, Option.bind_some]
  simp only [Bool.not_true, Bool.false_eq_true, if_false]
  refine eq_of_rn (rn_then (ψ := fun l => l = hxL d) (rn_cloop 16 (fun j p => p = ((List.range j).map fun i => hxC (hxD d (15 - i)), 15 - (j : Int))) rfl ?_ ?_) ?_)
  · rintro j p hj rfl
    obtain ⟨i, hi, e1⟩ : ∃ i : Nat, i < 16 ∧ 15 - (j : Int) = (i : Int) := ⟨15 - j, by omega, by omega⟩
    have ei : 15 - j = i := by omega
    have e4 : (IntKind.u64.wrap (IntKind.i64.wrap (4 * (i : Int)))) = ((4 * i : Nat) : Int) := by
      rw [wr64 (by omega) (by omega), wrU (by omega) (by omega)]; omega
    have hm : min (4 * i) IntKind.i64.bits = 4 * i := Nat.min_eq_left (by show 4 * i ≤ 64; omega)
    have e16 : (2 : Int) ^ (4 * i) = 16 ^ i := by rw [Int.pow_mul]; rfl
    have hp : (0 : Int) < 16 ^ i := Int.pow_pos (by omega)
    have h0 : 0 ≤ d / 16 ^ i := Int.ediv_nonneg hd.1 (by omega)
    have h1 : d / 16 ^ i ≤ d := Int.ediv_le_self _ hd.1
    have ed : d.fdiv (16 ^ i) = d / 16 ^ i := Int.fdiv_eq_ediv_of_nonneg _ (by omega)
    rw [e1]
    refine rn_t (by simp) ?_
    dsimp only
    rw [e4, Int.toNat_natCast, hm, e16, ed, and15 (by omega)]
    refine rn_gd (by omega) (rn_call (hx_at (hxD_bd d i)) (rn_gd (by simp; omega) (rn_some ?_)))
    show (_, _) = _
    rw [List.range_succ, List.map_append, wr64 (by omega) (by omega)]
    have e5 : (i : Int) - 1 = 15 - ((j + 1 : Nat) : Int) := by omega
    rw [e5, ← ei]; rfl
  · rintro p rfl
    exact rn_f rfl (rn_some rfl)
  · rintro l rfl; exact rn_some rfl
theorem n_oText {d : Int} (h : digB d = true) : F_spec_oText d = some (hxT d) := by
  unfold F_spec_oText
  rw [n_textS h]; rfl
theorem n_signLabel {s : ByteArray} {d : Int} (hs : s.size ≤ 1000) (h : digB d = true) : F_impl_signLabel s d = some (s ++ hxT d) := by
  unfold F_impl_signLabel
  rw [n_textI h, Option.bind_some, gd_t (by rw [hxT_size]; omega)]
-- records
def cnt1 (l : List Int) : List Int := (l.length : Int) :: l
def encP (p : Proof) : List Int := cnt1 p.Commits ++ cnt1 p.Challenges ++ cnt1 p.Responses
theorem n_l4Put {a l : List Int} (ha : a.length ≤ 10000000) (hl : l.length ≤ 10000000) : F_spec_l4Put__mv0 a l = some (a ++ cnt1 l) := by
  unfold F_spec_l4Put__mv0
  rw [gd_t (by omega), gd_t (by simp; omega)]
  simp [cnt1]
theorem n_cProof {p : Proof} (h1 : p.Commits.length ≤ 1048576) (h2 : p.Challenges.length ≤ 1048576) (h3 : p.Responses.length ≤ 1048576) : F_spec_cProof p = some (encP p) := by
  unfold F_spec_cProof
  rw [n_l4Put (by simp) (by omega), Option.bind_some, n_l4Put (by simp [cnt1]; omega) (by omega), Option.bind_some, n_l4Put (by simp [cnt1]; omega) (by omega), Option.bind_some]
  simp [encP]
theorem n_cntI {l : List Int} (h : l.length ≤ 10000000) : F_impl_counted l = some (cnt1 l) := by
  unfold F_impl_counted
  rw [gd_t (by simp; omega)]; rfl
def recB (l : List Int) : Bool := decide ((l.length : Int) ≤ 400) && l.all digB
theorem n_isRecord (l : List Int) : F_impl_isRecord l = some (recB l) := by
  unfold F_impl_isRecord
  have h1 : F_impl_areAll__impl_isDigest l = some (l.all digB) := areAll_gen (f := F_impl_areAll_1__impl_isDigest) fun x _ => by
    unfold F_impl_areAll_1__impl_isDigest
    rw [n_isDigest]; rfl
  rw [h1, Option.bind_some, ite_and]; rfl
theorem n_record (l : List Int) : F_impl_record l = some (if recB l = true then (l, true) else ([], false)) := by
  unfold F_impl_record
  rw [n_isRecord]
  cases recB l <;> rfl
theorem n_EncodeProof {p : Proof} (h1 : p.Commits.length ≤ 1048576) (h2 : p.Challenges.length ≤ 1048576) (h3 : p.Responses.length ≤ 1048576) : F_impl_EncodeProof p = some (if recB (encP p) = true then (encP p, true) else ([], false)) := by
  have e : [cnt1 p.Commits, cnt1 p.Challenges, cnt1 p.Responses].flatten = encP p := by simp [encP]
  unfold F_impl_EncodeProof
  rw [n_cntI (by omega), Option.bind_some, n_cntI (by omega), Option.bind_some, n_cntI (by omega), Option.bind_some, n_concatI _ (by rw [e]; simp [encP, cnt1]; omega), Option.bind_some, e, n_record]
  cases recB (encP p) <;> rfl
theorem frec_eq {β : Type} {f : Nat → Option β} {n : Nat} {b : β} (h : f n = some b) (mono : ∀ n b, f n = some b → f (n + 1) = some b) : frec f = some b := by
  obtain ⟨b', m, h1, h2⟩ := frec_is h
  have up : ∀ k n b, f n = some b → f (n + k) = some b := by
    intro k
    induction k with
    | zero => intro n b h; exact h
    | succ k ih => intro n b h; exact mono _ _ (ih n b h)
  have a := up m n b h
  have c := up n m b' h2
  rw [Nat.add_comm m n, a] at c
  cases c; exact h1
def Ole {α : Type} (a b : Option α) : Prop := ∀ r, a = some r → b = some r
theorem ole_refl {α : Type} (a : Option α) : Ole a a := fun _ h => h
theorem ole_bind {α β : Type} {a b : Option α} {f g : α → Option β} (h : Ole a b) (hf : ∀ x, Ole (f x) (g x)) : Ole (a.bind f) (b.bind g) := fun r hr => by
  rw [Option.bind_eq_some_iff] at hr ⊢
  obtain ⟨x, h1, h2⟩ := hr
  exact ⟨x, h _ h1, hf x _ h2⟩
theorem ole_gd {α : Type} {p : Prop} [Decidable p] {a b : Option α} (h : Ole a b) : Ole (gd p a) (gd p b) := fun r hr => by
  unfold gd at hr ⊢
  split at hr
  · rename_i hp; rw [if_pos hp]; exact h r hr
  · cases hr
theorem ole_if {α : Type} {c : Prop} [Decidable c] {a b a' b' : Option α} (h : Ole a b) (h' : Ole a' b') : Ole (if c then a else a') (if c then b else b') := by
  split <;> assumption
theorem rootS_mono : ∀ (n : Nat) (l : List Int), Ole (F_spec_kRoot_r n l) (F_spec_kRoot_r (n + 1) l)
  | 0, _ => fun r h => by cases h
  | n + 1, l => by
    have ih := rootS_mono n
    rw [F_spec_kRoot_r, F_spec_kRoot_r]
    repeat' first | exact ole_refl _ | exact ih _ | apply ole_gd | apply ole_if | (refine ole_bind ?_ fun _ => ?_)
theorem rootI_mono : ∀ (n : Nat) (l : List Int), Ole (F_impl_rootOf_r n l) (F_impl_rootOf_r (n + 1) l)
  | 0, _ => fun r h => by cases h
  | n + 1, l => by
    have ih := rootI_mono n
    rw [F_impl_rootOf_r, F_impl_rootOf_r]
    repeat' first | exact ole_refl _ | exact ih _ | apply ole_gd | apply ole_if | (refine ole_bind ?_ fun _ => ?_)
theorem pathS_mono : ∀ (n : Nat) (m : Int) (l : List Int) (b : Bool), Ole (F_spec_kConsistency_r n m l b) (F_spec_kConsistency_r (n + 1) m l b)
  | 0, _, _, _ => fun r h => by cases h
  | n + 1, m, l, b => by
    have ih := pathS_mono n
    rw [F_spec_kConsistency_r, F_spec_kConsistency_r]
    repeat' first | exact ole_refl _ | exact ih _ _ _ | apply ole_gd | apply ole_if | (refine ole_bind ?_ fun _ => ?_)
theorem pathI_mono : ∀ (n : Nat) (m : Int) (l : List Int) (b : Bool), Ole (F_impl_prefixPath_r n m l b) (F_impl_prefixPath_r (n + 1) m l b)
  | 0, _, _, _ => fun r h => by cases h
  | n + 1, m, l, b => by
    have ih := pathI_mono n
    rw [F_impl_prefixPath_r, F_impl_prefixPath_r]
    repeat' first | exact ole_refl _ | exact ih _ _ _ | apply ole_gd | apply ole_if | (refine ole_bind ?_ fun _ => ?_)
-- halves
def Spl (n s : Int) : Prop := (∃ j : Nat, s = 2 ^ j) ∧ s < n ∧ n ≤ 2 * s
theorem pow2_mono {i j : Nat} (h : i < j) : 2 * (2 : Int) ^ i ≤ 2 ^ j := by
  obtain ⟨d, rfl⟩ : ∃ d, j = i + 1 + d := ⟨j - (i + 1), by omega⟩
  rw [Int.pow_add, Int.pow_succ]
  have h1 : (0 : Int) < 2 ^ i := Int.pow_pos (by omega)
  have h2 : (0 : Int) < 2 ^ d := Int.pow_pos (by omega)
  have h3 : 2 ^ i * 2 * 1 ≤ (2 : Int) ^ i * 2 * 2 ^ d := Int.mul_le_mul_of_nonneg_left (by omega) (by omega)
  omega
theorem Spl_uniq {n s t : Int} (h : Spl n s) (h' : Spl n t) : s = t := by
  obtain ⟨⟨i, rfl⟩, h1, h2⟩ := h
  obtain ⟨⟨j, rfl⟩, h3, h4⟩ := h'
  rcases Nat.lt_trichotomy i j with h | h | h
  · have := pow2_mono h; omega
  · rw [h]
  · have := pow2_mono h; omega
theorem n_kSplit {n : Int} (h1 : 2 ≤ n) (h2 : n ≤ 1000000) : Rn (F_spec_kSplit n) (Spl n) := by
  unfold F_spec_kSplit
  refine rn_then (ψ := Spl n) (rn_wloop (fun s => (∃ j : Nat, s = 2 ^ j) ∧ 1 ≤ s ∧ s < n) (fun s => (n - s).toNat) ⟨⟨0, rfl⟩, by omega, by omega⟩ ?_) fun a h => rn_some h
  rintro s ⟨⟨j, hj⟩, h3, h4⟩
  rw [wr64 (n := 2 * s) (by omega) (by omega), wr64 (n := s * 2) (by omega) (by omega)]
  refine rn_if (fun h => rn_some ⟨⟨⟨j + 1, by rw [Int.pow_succ, hj]⟩, by omega, ?_⟩, ?_⟩) fun h => rn_some ⟨⟨j, hj⟩, h4, ?_⟩
  · have : 2 * s < n := by simpa using h
    omega
  · have : 2 * s < n := by simpa using h
    omega
  · have : ¬ 2 * s < n := by simpa using h
    omega
theorem n_half {n : Int} (h1 : 2 ≤ n) (h2 : n ≤ 64) : Rn (F_impl_half n) (Spl n) := by
  obtain ⟨k, hk⟩ : ∃ k : Nat, n = (k : Int) := ⟨n.toNat, by omega⟩
  subst hk
  have key : ∀ k : Fin 63, ∃ j : Fin 6, F_impl_half ((k.val + 2 : Nat) : Int) = some (2 ^ j.val) ∧ (2 : Int) ^ j.val < ((k.val + 2 : Nat) : Int) ∧ ((k.val + 2 : Nat) : Int) ≤ 2 * 2 ^ j.val := by decide +kernel
  obtain ⟨j, e, h3, h4⟩ := key ⟨k - 2, by omega⟩
  have ek : k - 2 + 2 = k := by omega
  simp only [ek] at e h3 h4
  exact ⟨_, e, ⟨j.val, rfl⟩, h3, h4⟩
theorem n_split {n : Nat} (h1 : 2 ≤ n) (h2 : n ≤ 64) : ∃ s : Nat, F_spec_kSplit (n : Int) = some (s : Int) ∧ F_impl_half (n : Int) = some (s : Int) ∧ 1 ≤ s ∧ s < n := by
  obtain ⟨s, e1, p1⟩ := n_kSplit (n := n) (by omega) (by omega)
  obtain ⟨t, e2, p2⟩ := n_half (n := n) (by omega) (by omega)
  have := Spl_uniq p1 p2
  subst this
  obtain ⟨⟨j, rfl⟩, h3, h4⟩ := p1
  have hp : (0 : Int) < 2 ^ j := Int.pow_pos (by omega)
  obtain ⟨s, hs⟩ : ∃ s : Nat, (2 : Int) ^ j = (s : Int) := ⟨((2 : Int) ^ j).toNat, by omega⟩
  rw [hs] at e1 e2 h3 h4 hp
  exact ⟨s, e1, e2, by omega, by omega⟩
-- roots
def nodS : ByteArray := ⟨#[110, 111, 100, 101]⟩
theorem n_node {a b : Int} (ha : digB a = true) (hb : digB b = true) : F_spec_kNode a b = some (hshL nodS [a, b]) ∧ F_impl_nodeOf a b = some (hshL nodS [a, b]) := by
  have hd : [a, b].all digB = true := by simp [ha, hb]
  unfold F_spec_kNode F_impl_nodeOf
  have e1 : F_spec_hLabelled (⟨#[110, 111, 100, 101]⟩ : ByteArray) [a, b] = some (hshL nodS [a, b]) := n_hLabelled (by decide) (by simp) hd
  have e2 : F_impl_HashLabelled (⟨#[110, 111, 100, 101]⟩ : ByteArray) [a, b] = some (hshL nodS [a, b], true) := by
    rw [n_HashLabelled, if_pos]; rfl
    simp only [labB, hd, Bool.and_true]; rfl
  rw [e1, e2]
  exact ⟨rfl, rfl⟩
theorem cut_l (l : List Int) (s : Nat) : (l.take ((s : Nat) : Int).toNat).drop 0 = l.take s := by simp
theorem cut_r (l : List Int) (s : Nat) : (l.take l.length).drop ((s : Nat) : Int).toNat = l.drop s := by simp
theorem dig_take {l : List Int} (h : l.all digB = true) (s : Nat) : (l.take s).all digB = true := all_take h s
theorem dig_drop {l : List Int} (h : l.all digB = true) (s : Nat) : (l.drop s).all digB = true := by
  rw [List.all_eq_true] at h ⊢
  exact fun x hx => h x (List.mem_of_mem_drop hx)
theorem n_root_r : ∀ (n : Nat) (l : List Int), l.length ≤ n → l.length ≤ 64 → l.all digB = true → ∃ r, F_spec_kRoot_r (n + 1) l = some r ∧ F_impl_rootOf_r (n + 1) l = some r ∧ digB r = true
  | n, [], _, _, _ => by
    have e1 : F_spec_hLabelled (⟨#[101, 109, 112, 116, 121]⟩ : ByteArray) [] = some (hshL ⟨#[101, 109, 112, 116, 121]⟩ []) := n_hLabelled (by decide) (by simp) rfl
    have e2 : F_impl_HashLabelled (⟨#[101, 109, 112, 116, 121]⟩ : ByteArray) [] = some (hshL ⟨#[101, 109, 112, 116, 121]⟩ [], true) := by
      rw [n_HashLabelled, if_pos]; rfl
    rw [F_spec_kRoot_r, F_impl_rootOf_r, e1, e2]
    exact ⟨_, rfl, rfl, hshL_dig _ _⟩
  | n, [x], _, _, h => by
    rw [F_spec_kRoot_r, F_impl_rootOf_r]
    exact ⟨x, rfl, rfl, by simpa using h⟩
  | 0, x :: y :: l, h, _, _ => by simp at h
  | n + 1, x :: y :: l, h, h64, hd => by
    generalize hL : x :: y :: l = L at h h64 hd ⊢
    have h2 : 2 ≤ L.length := by rw [← hL]; simp
    obtain ⟨s, e1, e2, s1, s2⟩ := n_split h2 h64
    obtain ⟨a, a1, a2, a3⟩ := n_root_r n (L.take s) (by rw [List.length_take]; omega) (by rw [List.length_take]; omega) (dig_take hd s)
    obtain ⟨b, b1, b2, b3⟩ := n_root_r n (L.drop s) (by rw [List.length_drop]; omega) (by rw [List.length_drop]; omega) (dig_drop hd s)
    obtain ⟨c1, c2⟩ := n_node a3 b3
    rw [F_spec_kRoot_r, F_impl_rootOf_r]
    have z0 : ((L.length : Int) == 0) = false := beq_false_of_ne (by omega)
    have z1 : ((L.length : Int) == 1) = false := beq_false_of_ne (by omega)
    simp only [z0, z1, Bool.false_eq_true, if_false, e1, e2, Option.bind_some, cut_l, cut_r]
    have g1 : (0 : Int) ≤ (s : Int) := by omega
    have g2 : 0 ≤ ((s : Nat) : Int).toNat ∧ ((s : Nat) : Int).toNat ≤ L.length := by simp; omega
    have g3 : ((s : Nat) : Int).toNat ≤ L.length ∧ L.length ≤ L.length := by simp; omega
    simp only [gd_t g1, gd_t g2, gd_t g3, a1, a2, b1, b2, c1, c2, Option.bind_some]
    exact ⟨_, rfl, rfl, hshL_dig _ _⟩
theorem n_root {l : List Int} (h : l.length ≤ 64) (hd : l.all digB = true) : ∃ r, F_spec_kRoot l = some r ∧ F_impl_rootOf l = some r ∧ digB r = true := by
  obtain ⟨r, h1, h2, h3⟩ := n_root_r l.length l (Nat.le_refl _) h hd
  exact ⟨r, frec_eq (f := fun n_ => F_spec_kRoot_r n_ l) h1 fun n b => rootS_mono n l b, frec_eq (f := fun n_ => F_impl_rootOf_r n_ l) h2 fun n b => rootI_mono n l b, h3⟩
-- paths of prefixes
theorem n_path_r : ∀ (n : Nat) (m : Nat) (l : List Int) (w : Bool), l.length ≤ n → 1 ≤ m → m ≤ l.length → l.length ≤ 64 → l.all digB = true →
    ∃ r, F_spec_kConsistency_r (n + 1) (m : Int) l w = some r ∧ F_impl_prefixPath_r (n + 1) (m : Int) l w = some r ∧ r.all digB = true ∧ r.length ≤ l.length
  | n, m, l, w, h, h1, hm, h64, hd => by
    rw [F_spec_kConsistency_r, F_impl_prefixPath_r]
    obtain ⟨q, q1, q2, q3⟩ := n_root h64 hd
    rcases Nat.eq_or_lt_of_le hm with e | e
    · have z : ((m : Int) == (l.length : Int)) = true := by simp; omega
      simp only [z, if_true, q1, q2, Option.bind_some]
      cases w with
      | true => exact ⟨[], rfl, rfl, rfl, by simp⟩
      | false => exact ⟨[q], rfl, rfl, by simp [q3], by simp; omega⟩
    · have z : ((m : Int) == (l.length : Int)) = false := by simp; omega
      obtain ⟨s, e1, e2, s1, s2⟩ := n_split (n := l.length) (by omega) h64
      cases n with
      | zero => omega
      | succ n =>
      have g1 : (0 : Int) ≤ (s : Int) := by omega
      have g2 : 0 ≤ ((s : Nat) : Int).toNat ∧ ((s : Nat) : Int).toNat ≤ l.length := by simp; omega
      have g3 : ((s : Nat) : Int).toNat ≤ l.length ∧ l.length ≤ l.length := by simp; omega
      obtain ⟨u, u1, u2, u3⟩ := n_root (l := l.take s) (by rw [List.length_take]; omega) (dig_take hd s)
      obtain ⟨v, v1, v2, v3⟩ := n_root (l := l.drop s) (by rw [List.length_drop]; omega) (dig_drop hd s)
      simp only [z, Bool.false_eq_true, if_false, e1, e2, Option.bind_some, cut_l, cut_r, gd_t g1, gd_t g2, gd_t g3, u1, u2, v1, v2]
      by_cases hs : m ≤ s
      · obtain ⟨r, r1, r2, r3, r4⟩ := n_path_r n m (l.take s) w (by rw [List.length_take]; omega) h1 (by rw [List.length_take]; omega) (by rw [List.length_take]; omega) (dig_take hd s)
        rw [List.length_take] at r4
        have g4 : (r.length + 1) * 8 ≤ 140737488355328 ∧ r.length + 1 ≤ 4611686018427387904 := by omega
        have z2 : decide ((m : Int) ≤ (s : Int)) = true := by simp; omega
        simp only [z2, if_true, r1, r2, Option.bind_some, gd_t g4]
        exact ⟨_, rfl, rfl, by rw [List.all_append, r3]; simp [v3], by rw [List.length_append]; simp; omega⟩
      · obtain ⟨r, r1, r2, r3, r4⟩ := n_path_r n (m - s) (l.drop s) false (by rw [List.length_drop]; omega) (by omega) (by rw [List.length_drop]; omega) (by rw [List.length_drop]; omega) (dig_drop hd s)
        rw [List.length_drop] at r4
        have g4 : (r.length + 1) * 8 ≤ 140737488355328 ∧ r.length + 1 ≤ 4611686018427387904 := by omega
        have z2 : decide ((m : Int) ≤ (s : Int)) = false := by simp; omega
        have z3 : IntKind.i64.wrap ((m : Int) - (s : Int)) = ((m - s : Nat) : Int) := ceq (by omega) (by omega)
        simp only [z2, z3, Bool.false_eq_true, if_false, r1, r2, Option.bind_some, gd_t g4]
        exact ⟨_, rfl, rfl, by rw [List.all_append, r3]; simp [u3], by rw [List.length_append]; simp; omega⟩
theorem n_path {m : Nat} {l : List Int} (h1 : 1 ≤ m) (hm : m ≤ l.length) (h : l.length ≤ 64) (hd : l.all digB = true) (w : Bool) : ∃ r, F_spec_kConsistency (m : Int) l w = some r ∧ F_impl_prefixPath (m : Int) l w = some r ∧ r.all digB = true ∧ r.length ≤ l.length := by
  obtain ⟨r, r1, r2, r3⟩ := n_path_r l.length m l w (Nat.le_refl _) h1 hm h hd
  exact ⟨r, frec_eq (f := fun n_ => F_spec_kConsistency_r n_ m l w) r1 fun n b => pathS_mono n m l w b, frec_eq (f := fun n_ => F_impl_prefixPath_r n_ m l w) r2 fun n b => pathI_mono n m l w b, r3⟩
theorem n_allDig (l : List Int) : F_impl_areAll__impl_isDigest l = some (l.all digB) := areAll_gen (f := F_impl_areAll_1__impl_isDigest) fun x _ => by
  unfold F_impl_areAll_1__impl_isDigest
  rw [n_isDigest]; rfl
theorem n_allDigS (l : List Int) : F_spec_l1All l 0 4611686018427387903 = some (l.all digB) := n_l1All l _ _
def plaB (kind author : Int) (data : List Int) : Bool := inB 1 9 kind && (inB 0 39 author && (decide ((data.length : Int) ≤ 380) && data.all digB))
abbrev entS : ByteArray := ⟨#[101, 110, 116, 114, 121]⟩
abbrev entS' : ByteArray := ⟨#[101, 110, 116, 114, 121, 32]⟩
abbrev heaS : ByteArray := ⟨#[104, 101, 97, 100]⟩
abbrev heaS' : ByteArray := ⟨#[104, 101, 97, 100, 32]⟩
abbrev leaS : ByteArray := ⟨#[108, 101, 97, 102]⟩
def eD (kind author at_ : Int) (data : List Int) : Int := hshL entS ([kind, author, at_] ++ data)
theorem n_oPlain (e : Entry) : F_spec_oPlain e = some (plaB e.Kind e.Author e.Data) := by
  unfold F_spec_oPlain plaB
  simp only [n_inB, n_allDigS, Option.bind_some, ite_and]
theorem n_plainI (kind author : Int) (data : List Int) : F_impl_isPlainEntry kind author data = some (plaB kind author data) := by
  unfold F_impl_isPlainEntry plaB
  simp only [n_winB, n_allDig, Option.bind_some, ite_and]
theorem pla_dig {kind author : Int} {data : List Int} (h : plaB kind author data = true) {i : Int} (hi : 0 ≤ i ∧ i ≤ 63) : ([kind, author, i] ++ data).all digB = true ∧ data.length ≤ 380 := by
  simp only [plaB, Bool.and_eq_true, decide_eq_true_eq, inB_t] at h
  obtain ⟨h1, h2, h3, h4⟩ := h
  refine ⟨?_, by omega⟩
  rw [List.all_append, h4, Bool.and_true]
  simp only [List.all_cons, List.all_nil, Bool.and_true, Bool.and_eq_true]
  exact ⟨digB_t.2 (by omega), digB_t.2 (by omega), digB_t.2 (by omega)⟩
theorem n_oDigest {e : Entry} {i : Int} (h : plaB e.Kind e.Author e.Data = true) (hi : 0 ≤ i ∧ i ≤ 63) : F_spec_oDigest e i = some (eD e.Kind e.Author i e.Data) := by
  obtain ⟨h1, h2⟩ := pla_dig h hi
  unfold F_spec_oDigest
  rw [gd_t (by simp only [List.length_cons, List.length_nil]; omega), n_hLabelled (s := entS) (by decide) (by simp only [List.length_append, List.length_cons, List.length_nil]; omega) h1]
  rfl
theorem n_EntryDigest (kind author i : Int) {data : List Int} (hl : data.length ≤ 1048576) : F_impl_EntryDigest kind author i data = some (if (plaB kind author data && inB 0 63 i) = true then (eD kind author i data, true) else (0, false)) := by
  unfold F_impl_EntryDigest
  simp only [n_plainI, n_winB, Option.bind_some, ite_or]
  cases hp : plaB kind author data with
  | false => rfl
  | true =>
    cases hi : inB 0 63 i with
    | false => rfl
    | true =>
      obtain ⟨h1, h2⟩ := pla_dig hp (inB_t.1 hi)
      simp only [Bool.not_true, Bool.or_self, Bool.false_eq_true, if_false, Bool.and_self, if_true]
      rw [gd_t (by simp only [List.length_cons, List.length_nil]; omega), n_HashLabelled, if_pos]
      · rfl
      · simp only [labB, h1, Bool.and_true, Bool.and_eq_true, decide_eq_true_eq, List.length_append, List.length_cons, List.length_nil]
        exact ⟨by decide, by show 1 + 5 + _ ≤ 400; omega⟩
def accB (gr : Group) (key i : Int) (e : Entry) : Bool := plaB e.Kind e.Author e.Data && sgnB gr (entS' ++ hxT (eD e.Kind e.Author i e.Data)) key e.Sign
def lensP (p : Proof) : Prop := p.Commits.length ≤ 1048576 ∧ p.Challenges.length ≤ 1048576 ∧ p.Responses.length ≤ 1048576
def lensE (e : Entry) : Prop := e.Data.length ≤ 1048576 ∧ lensP e.Sign
def lensB (b : Board) : Prop := b.Keys.length ≤ 1048576 ∧ b.Entries.length ≤ 1048576 ∧ ∀ e ∈ b.Entries, lensE e
theorem lab_size (s : ByteArray) (d : Int) : (s ++ hxT d).size = s.size + 16 := by rw [ByteArray.size_append, hxT_size]
theorem n_accepts {gr : Group} (k : OkG gr) {key i : Int} (hk : hasB gr key = true) (hi : 0 ≤ i ∧ i ≤ 63) {e : Entry} (hl : lensE e) : F_spec_oAccepts gr key i e = some (accB gr key i e) ∧ F_impl_Group_isEntry gr key i e = some (accB gr key i e) := by
  unfold F_spec_oAccepts F_impl_Group_isEntry F_spec_oLabel
  rw [n_oPlain, n_EntryDigest _ _ _ hl.1]
  cases hp : plaB e.Kind e.Author e.Data with
  | false => simp [accB, hp]
  | true =>
    have hd : digB (eD e.Kind e.Author i e.Data) = true := hshL_dig _ _
    have hs : (entS' ++ hxT (eD e.Kind e.Author i e.Data)).size ≤ 40 := by rw [lab_size]; decide
    obtain ⟨s1, s2⟩ := n_signed k hs hk hl.2.1
    rw [inB_t.2 hi, n_oDigest hp hi]
    simp only [Bool.and_self, if_true, Option.bind_some]
    rw [n_oText hd, Option.bind_some, gd_t (by rw [hxT_size]; decide), Option.bind_some, show F_impl_signLabel (⟨#[101, 110, 116, 114, 121, 32]⟩ : ByteArray) (eD e.Kind e.Author i e.Data) = some (entS' ++ hxT (eD e.Kind e.Author i e.Data)) from n_signLabel (by decide) hd]
    simp only [Option.bind_some]
    rw [show F_spec_oSigned gr ((⟨#[101, 110, 116, 114, 121, 32]⟩ : ByteArray) ++ hxT (eD e.Kind e.Author i e.Data)) key e.Sign = _ from s1, s2]
    simp [accB, hp]
noncomputable def brdB (gr : Group) (b : Board) : Bool :=
  !(decide (40 < (b.Keys.length : Int)) || (!b.Keys.all (hasB gr) || decide (64 < (b.Entries.length : Int)))) &&
  (List.range b.Entries.length).all fun i => !(!inB 0 ((b.Keys.length : Int) - 1) (b.Entries.getD i ⟨0, 0, [], ⟨[], [], []⟩⟩).Author || !accB gr (b.Keys.getD (b.Entries.getD i ⟨0, 0, [], ⟨[], [], []⟩⟩).Author.toNat 0) i (b.Entries.getD i ⟨0, 0, [], ⟨[], [], []⟩⟩))
theorem ix_to {α : Type} {l : List α} {i : Int} (h0 : 0 ≤ i) (h : i < l.length) : ix l i = some (l[i.toNat]'(by omega)) := by
  obtain ⟨k, rfl⟩ := Int.eq_ofNat_of_zero_le h0
  exact ix_at (by omega)
theorem n_board {gr : Group} (k : OkG gr) {b : Board} (hl : lensB b) : F_spec_oBoard gr b = some (brdB gr b) ∧ F_impl_Group_isBoard gr b = some (brdB gr b) := by
  obtain ⟨l1, l2, l3⟩ := hl
  have ek : F_impl_Group_areKeys gr b.Keys = some (!(decide (40 < (b.Keys.length : Int)) || !b.Keys.all (hasB gr))) := by
    unfold F_impl_Group_areKeys
    rw [n_hasAll k, Option.bind_some, ite_and, Option.bind_some]
    by_cases h : (b.Keys.length : Int) ≤ 40
    · have : ¬ 40 < (b.Keys.length : Int) := by omega
      simp [h, this]
    · have : 40 < (b.Keys.length : Int) := by omega
      simp [h, this]
  unfold F_spec_oBoard F_impl_Group_isBoard brdB
  simp only [n_gIs k, ek, Option.bind_some, ite_or]
  rw [show (!(!(decide (40 < (b.Keys.length : Int)) || !b.Keys.all (hasB gr))) || decide (64 < (b.Entries.length : Int))) = (decide (40 < (b.Keys.length : Int)) || (!b.Keys.all (hasB gr) || decide (64 < (b.Entries.length : Int)))) by rw [Bool.not_not, Bool.or_assoc]]
  cases hg : (decide (40 < (b.Keys.length : Int)) || (!b.Keys.all (hasB gr) || decide (64 < (b.Entries.length : Int)))) with
  | true => exact ⟨rfl, rfl⟩
  | false =>
    simp only [Bool.or_eq_false_iff, decide_eq_false_iff_not, Bool.not_eq_false'] at hg
    obtain ⟨g1, g2, g3⟩ := hg
    simp only [Bool.false_eq_true, if_false, Bool.not_false, Bool.true_and]
    have w : IntKind.i64.wrap ((b.Keys.length : Int) - 1) = (b.Keys.length : Int) - 1 := wr64 (by omega) (by omega)
    constructor
    all_goals
      rw [n_allN (fun i => !(!inB 0 ((b.Keys.length : Int) - 1) (b.Entries.getD i ⟨0, 0, [], ⟨[], [], []⟩⟩).Author || !accB gr (b.Keys.getD (b.Entries.getD i ⟨0, 0, [], ⟨[], [], []⟩⟩).Author.toNat 0) i (b.Entries.getD i ⟨0, 0, [], ⟨[], [], []⟩⟩))) false true]
      · simp only [Bool.if_true_left, Bool.if_false_right, Bool.and_true, Bool.decide_eq_true, Bool.or_false]
      · intro i hi
        have he : b.Entries.getD i ⟨0, 0, [], ⟨[], [], []⟩⟩ = b.Entries[i] := by simp [hi]
        rw [ix_at hi, Option.bind_some, he, w]
        simp only [n_inB, n_winB, Option.bind_some]
        cases ha : inB 0 ((b.Keys.length : Int) - 1) b.Entries[i].Author with
        | false => rfl
        | true =>
          have ha := inB_t.1 ha
          have hal : b.Entries[i].Author.toNat < b.Keys.length := by omega
          have hx := List.all_eq_true.1 g2 _ (List.getElem_mem hal)
          have ha2 := n_accepts k hx (i := (i : Int)) (by omega) (l3 _ (List.getElem_mem hi))
          have hk : b.Keys.getD b.Entries[i].Author.toNat 0 = b.Keys[b.Entries[i].Author.toNat] := by simp [hal]
          rw [ix_to ha.1 (by omega), hk]
          simp only [Bool.not_true, Bool.false_eq_true, if_false, Option.bind_some, ha2.1, ha2.2, Bool.false_or, Bool.not_not]
          cases accB gr (b.Keys[b.Entries[i].Author.toNat]) (i : Int) b.Entries[i] <;> rfl
theorem brd_t {gr : Group} {b : Board} (h : brdB gr b = true) : b.Keys.length ≤ 40 ∧ b.Keys.all (hasB gr) = true ∧ b.Entries.length ≤ 64 ∧ ∀ i (hi : i < b.Entries.length), (0 ≤ b.Entries[i].Author ∧ b.Entries[i].Author < b.Keys.length) ∧ ∃ key, hasB gr key = true ∧ accB gr key i b.Entries[i] = true := by
  simp only [brdB, Bool.and_eq_true, Bool.not_eq_true', Bool.or_eq_false_iff, decide_eq_false_iff_not, Bool.not_eq_false', List.all_eq_true, List.mem_range] at h
  obtain ⟨⟨g1, g2, g3⟩, g4⟩ := h
  refine ⟨by omega, List.all_eq_true.2 g2, by omega, fun i hi => ?_⟩
  have he : b.Entries.getD i ⟨0, 0, [], ⟨[], [], []⟩⟩ = b.Entries[i] := by simp [hi]
  have := g4 i hi
  rw [he] at this
  obtain ⟨h1, h2⟩ := this
  have h1 := inB_t.1 h1
  have hal : b.Entries[i].Author.toNat < b.Keys.length := by omega
  have hk : b.Keys.getD b.Entries[i].Author.toNat 0 = b.Keys[b.Entries[i].Author.toNat] := by simp [hal]
  rw [hk] at h2
  exact ⟨by omega, _, g2 _ (List.getElem_mem hal), h2⟩
-- leaves
def leafE (i : Nat) (e : Entry) : Int := hshL leaS ([eD e.Kind e.Author i e.Data] ++ encP e.Sign)
def leaves (b : Board) : List Int := (List.range b.Entries.length).map fun i => leafE i (b.Entries.getD i ⟨0, 0, [], ⟨[], [], []⟩⟩)
theorem leaves_len (b : Board) : (leaves b).length = b.Entries.length := by simp [leaves]
theorem leaves_dig (b : Board) : (leaves b).all digB = true := by
  rw [List.all_eq_true]
  intro x hx
  obtain ⟨i, _, rfl⟩ := List.mem_map.1 hx
  exact hshL_dig _ _
theorem rl_rng {β γ : Type} {n : Nat} {f : Nat → β} {body : Int → List β → Option (Stp (List β) γ)} {stop : List β → γ} (hs : ∀ k (s : List β), k < n → s.length = k → body (k : Int) s = some (.go (s ++ [f k]))) :
    rloop body stop n 0 [] = some (stop ((List.range n).map f)) := by
  refine eq_of_rn (rn_rloop (fun k s => s = (List.range k).map f) rfl ?_ ?_)
  · rintro k s hk rfl
    refine ⟨_, hs k _ hk (by simp), ?_⟩
    show _ = _
    rw [List.range_succ, List.map_append]; rfl
  · rintro s rfl; rfl
theorem enc_form {a b c : Int} (ha : digB a = true) (hb : digB b = true) (hc : digB c = true) : (encP ⟨[a], [b], [c]⟩).all digB = true ∧ (encP ⟨[a], [b], [c]⟩).length = 6 := by
  simp [encP, cnt1, ha, hb, hc]
  decide
theorem n_leaves {gr : Group} (k : OkG gr) {b : Board} (hl : lensB b) (h : brdB gr b = true) : F_spec_oLeaves b = some (leaves b) ∧ F_impl_boardLeaves b = some (leaves b) := by
  obtain ⟨b1, b2, b3, b4⟩ := brd_t h
  unfold F_spec_oLeaves F_impl_boardLeaves
  have key : ∀ i (hi : i < b.Entries.length), plaB b.Entries[i].Kind b.Entries[i].Author b.Entries[i].Data = true ∧ (encP b.Entries[i].Sign).all digB = true ∧ (encP b.Entries[i].Sign).length = 6 := fun i hi => by
    obtain ⟨_, key, h1, h2⟩ := b4 i hi
    simp only [accB, Bool.and_eq_true] at h2
    obtain ⟨a, c, d, e, da, dc, dd⟩ := sgn_form k h2.2
    rw [e]
    exact ⟨h2.1, enc_form da dc dd⟩
  constructor
  · rw [rl_rng (f := fun i => leafE i (b.Entries.getD i ⟨0, 0, [], ⟨[], [], []⟩⟩))]
    · rfl
    · intro i s hi hs
      obtain ⟨k1, k2, k3⟩ := key i hi
      have hd : digB (eD b.Entries[i].Kind b.Entries[i].Author i b.Entries[i].Data) = true := hshL_dig _ _
      have he : b.Entries.getD i ⟨0, 0, [], ⟨[], [], []⟩⟩ = b.Entries[i] := by simp [hi]
      obtain ⟨_, c1, c2, c3⟩ := hl.2.2 _ (List.getElem_mem hi)
      rw [ix_at hi, Option.bind_some, n_oDigest k1 (by omega), Option.bind_some, n_cProof c1 c2 c3, Option.bind_some, gd_t (by simp only [List.length_cons, List.length_nil]; omega), n_hLabelled (s := leaS) (by decide) (by simp only [List.length_append, List.length_cons, List.length_nil]; omega) (by rw [List.all_append, k2, Bool.and_true, List.all_cons, List.all_nil, Bool.and_true]; exact hd), Option.bind_some, gd_t (by omega), he]
      rfl
  · rw [rl_rng (f := fun i => leafE i (b.Entries.getD i ⟨0, 0, [], ⟨[], [], []⟩⟩))]
    · rfl
    · intro i s hi hs
      obtain ⟨k1, k2, k3⟩ := key i hi
      have hd : digB (eD b.Entries[i].Kind b.Entries[i].Author i b.Entries[i].Data) = true := hshL_dig _ _
      have he : b.Entries.getD i ⟨0, 0, [], ⟨[], [], []⟩⟩ = b.Entries[i] := by simp [hi]
      obtain ⟨c0, c1, c2, c3⟩ := hl.2.2 _ (List.getElem_mem hi)
      have hr : recB (encP b.Entries[i].Sign) = true := by simp only [recB, k2, k3, Bool.and_true]; decide
      have hL : labB leaS ([eD b.Entries[i].Kind b.Entries[i].Author i b.Entries[i].Data] ++ encP b.Entries[i].Sign) = true := by
        simp only [labB, List.all_append, k2, Bool.and_true, List.length_append, k3, Bool.and_eq_true, decide_eq_true_eq]
        exact ⟨⟨by decide, by show 1 + 4 + (1 + 6) ≤ 400; omega⟩, by rw [List.all_cons, List.all_nil, Bool.and_true]; exact hd⟩
      rw [ix_at hi, Option.bind_some, n_EntryDigest _ _ _ c0, k1, inB_t.2 (by omega), Option.bind_some, n_EncodeProof c1 c2 c3, hr, Option.bind_some]
      simp only [Bool.and_self, if_true]
      rw [gd_t (by simp only [List.length_cons, List.length_nil]; omega)]
      unfold F_impl_LeafDigest
      rw [show F_impl_HashLabelled (⟨#[108, 101, 97, 102]⟩ : ByteArray) ([eD b.Entries[i].Kind b.Entries[i].Author i b.Entries[i].Data] ++ encP b.Entries[i].Sign) = some (hshL leaS _, true) from by rw [n_HashLabelled, show labB (⟨#[108, 101, 97, 102]⟩ : ByteArray) _ = true from hL]; rfl]
      simp only [Option.bind_some]
      rw [gd_t (by omega), he]
      rfl
-- heads
def heaB (h : Head) : Bool := inB 0 39 h.Author && (inB 0 64 h.Size && digB h.Root)
def hdL (h : Head) : ByteArray := heaS' ++ hxT (hshL heaS [h.Author, h.Size, h.Root])
theorem n_oHead (h : Head) : F_spec_oHead h = some (heaB h) := by
  unfold F_spec_oHead heaB
  simp only [n_inB, n_l3Digest, Option.bind_some, ite_and]
theorem n_headI (h : Head) : F_impl_isPlainHead h.Author h.Size h.Root = some (heaB h) := by
  unfold F_impl_isPlainHead heaB
  simp only [n_winB, n_isDigest, Option.bind_some, ite_and]
def hdbB (gr : Group) (key : Int) (h : Head) : Bool := heaB h && sgnB gr (hdL h) key h.Sign
theorem n_headBy {gr : Group} (k : OkG gr) {key : Int} (hk : hasB gr key = true) {h : Head} (hl : lensP h.Sign) : F_spec_oHeadBy gr key h = some (hdbB gr key h) ∧ F_impl_Group_isHead gr key h = some (hdbB gr key h) := by
  unfold F_spec_oHeadBy F_impl_Group_isHead hdbB
  rw [n_oHead, n_headI]
  cases hh : heaB h with
  | false => exact ⟨rfl, rfl⟩
  | true =>
    simp only [heaB, Bool.and_eq_true, inB_t] at hh
    have hd : [h.Author, h.Size, h.Root].all digB = true := by
      simp only [List.all_cons, List.all_nil, Bool.and_true, Bool.and_eq_true]
      exact ⟨digB_t.2 (by omega), digB_t.2 (by omega), hh.2.2⟩
    have hd2 := hshL_dig heaS [h.Author, h.Size, h.Root]
    have hs : (hdL h).size ≤ 40 := by unfold hdL; rw [lab_size]; decide
    obtain ⟨s1, s2⟩ := n_signed k hs hk hl.1
    have e1 : F_spec_oHeadLabel h = some (hdL h) := by
      unfold F_spec_oHeadLabel
      rw [n_hLabelled (s := heaS) (by decide) (by simp) hd, Option.bind_some, n_oText hd2, Option.bind_some, gd_t (by rw [hxT_size]; decide)]
      rfl
    have e2 : F_impl_headLabel h.Author h.Size h.Root = some (hdL h) := by
      unfold F_impl_headLabel
      rw [show F_impl_HashLabelled (⟨#[104, 101, 97, 100]⟩ : ByteArray) [h.Author, h.Size, h.Root] = some (hshL heaS [h.Author, h.Size, h.Root], true) from by rw [n_HashLabelled, if_pos (by simp only [labB, hd, Bool.and_true]; rfl)], Option.bind_some]
      dsimp only
      rw [show F_impl_signLabel (⟨#[104, 101, 97, 100, 32]⟩ : ByteArray) _ = some (hdL h) from n_signLabel (by decide) hd2]; rfl
    simp only [Option.bind_some, if_true, e1, e2, s1, s2, Bool.true_and]
    exact ⟨trivial, trivial⟩
theorem n_checks {gr : Group} (k : OkG gr) {b : Board} (hl : lensB b) (hb : brdB gr b = true) {h : Head} (hh : lensP h.Sign) : ∃ t, F_spec_oChecks gr b h = some t ∧ F_impl_Group_fits gr b h = some t ∧ (t = true → 0 ≤ h.Size ∧ h.Size ≤ b.Entries.length) := by
  obtain ⟨b1, b2, b3, b4⟩ := brd_t hb
  have w : IntKind.i64.wrap ((b.Keys.length : Int) - 1) = (b.Keys.length : Int) - 1 := wr64 (by omega) (by omega)
  unfold F_spec_oChecks F_impl_Group_fits
  simp only [n_inB, n_winB, w, Option.bind_some]
  cases ha : inB 0 ((b.Keys.length : Int) - 1) h.Author with
  | false => exact ⟨false, rfl, rfl, fun h => by cases h⟩
  | true =>
    have ha := inB_t.1 ha
    have hal : h.Author.toNat < b.Keys.length := by omega
    have hx := List.all_eq_true.1 b2 _ (List.getElem_mem hal)
    obtain ⟨s1, s2⟩ := n_headBy k hx hh
    rw [ix_to ha.1 (by omega)]
    simp only [Bool.not_true, Bool.false_eq_true, if_false, if_true, Option.bind_some, s1, s2]
    cases hc : hdbB gr (b.Keys[h.Author.toNat]) h with
    | false => exact ⟨false, rfl, rfl, fun h => by cases h⟩
    | true =>
      simp only [hdbB, heaB, Bool.and_eq_true, inB_t] at hc
      by_cases hz : h.Size ≤ b.Entries.length
      · have z1 : decide ((b.Entries.length : Int) < h.Size) = false := by simp; omega
        have z2 : decide (h.Size ≤ (b.Entries.length : Int)) = true := by simpa using hz
        have g2 : 0 ≤ h.Size.toNat ∧ h.Size.toNat ≤ (leaves b).length := by rw [leaves_len]; omega
        obtain ⟨v1, v2⟩ := n_leaves k hl hb
        obtain ⟨r, r1, r2, _⟩ := n_root (l := (leaves b).take h.Size.toNat) (by rw [List.length_take, leaves_len]; omega) (dig_take (leaves_dig b) _)
        simp only [Bool.not_true, Bool.false_eq_true, if_false, z1, z2, if_true, Option.bind_some, v1, v2, gd_t hc.1.2.1.1, gd_t g2, List.drop_zero, r1, r2]
        refine ⟨_, rfl, ?_, fun _ => ⟨hc.1.2.1.1, hz⟩⟩
        congr 1
        exact Bool.beq_comm
      · have z1 : decide ((b.Entries.length : Int) < h.Size) = true := by simp; omega
        have z2 : decide (h.Size ≤ (b.Entries.length : Int)) = false := by simp; omega
        simp only [Bool.not_true, Bool.false_eq_true, if_false, z1, z2, if_true, Option.bind_some]
        exact ⟨false, rfl, rfl, fun h => by cases h⟩
theorem n_areBoard (gr : Group) {b : Board} (hl : lensB b) : F_impl_areBoard gr b = some (okG gr && (okG gr && brdB gr b)) := by
  unfold F_impl_areBoard
  rw [n_validG]
  cases hg : okG gr with
  | false => rfl
  | true => simp only [Option.bind_some, if_true, (n_board (okG_t.1 hg) hl).2, Bool.true_and]
theorem n_prefix (gr : Group) {b : Board} {a h : Head} (hl : lensB b) (ha : lensP a.Sign) (hh : lensP h.Sign) : ∃ l t, F_spec_ProvenPrefix gr b a h = some (l, t) ∧ F_impl_ProvenPrefix gr b a h = some (l, t) ∧ l.length ≤ 64 := by
  unfold F_spec_ProvenPrefix F_impl_ProvenPrefix
  rw [n_l2Good, n_areBoard gr hl]
  cases hg : okG gr with
  | false => exact ⟨[], false, rfl, rfl, by simp⟩
  | true =>
    have k := okG_t.1 hg
    simp only [Option.bind_some, Bool.not_true, Bool.false_eq_true, if_false, (n_board k hl).1, Bool.true_and]
    cases hb : brdB gr b with
    | false => exact ⟨[], false, rfl, rfl, by simp⟩
    | true =>
      obtain ⟨t, t1, t2, t3⟩ := n_checks k hl hb ha
      obtain ⟨u, u1, u2, u3⟩ := n_checks k hl hb hh
      obtain ⟨b1, b2, b3, b4⟩ := brd_t hb
      simp only [Bool.not_true, Bool.false_eq_true, if_false, t1, t2, u1, u2, n_inB, n_winB, Option.bind_some, ite_or]
      cases t with
      | false => exact ⟨[], false, rfl, rfl, by simp⟩
      | true =>
        cases u with
        | false => exact ⟨[], false, rfl, rfl, by simp⟩
        | true =>
          cases hi : inB 1 h.Size a.Size with
          | false => exact ⟨[], false, rfl, rfl, by simp⟩
          | true =>
            have hi := inB_t.1 hi
            obtain ⟨u4, u5⟩ := u3 rfl
            obtain ⟨v1, v2⟩ := n_leaves k hl hb
            have g2 : 0 ≤ h.Size.toNat ∧ h.Size.toNat ≤ (leaves b).length := by rw [leaves_len]; omega
            obtain ⟨m, hm⟩ : ∃ m : Nat, a.Size = (m : Int) := ⟨a.Size.toNat, by omega⟩
            have hlen : ((leaves b).take h.Size.toNat).length = h.Size.toNat := by rw [List.length_take, leaves_len]; omega
            obtain ⟨r, r1, r2, _, r3⟩ := n_path (m := m) (l := (leaves b).take h.Size.toNat) (by omega) (by omega) (by omega) (dig_take (leaves_dig b) _) true
            simp only [Bool.not_true, Bool.or_self, Bool.false_eq_true, if_false, v1, v2, Option.bind_some, gd_t u4, gd_t g2, List.drop_zero, hm, r1, r2]
            exact ⟨r, true, rfl, rfl, by omega⟩
def Szs (e : Option Int) : Prop := ∃ z, z ≤ 1048576 ∧ e = some z
theorem szs_bind {e : Option Int} {f : Int → Option Int} (h : Szs e) (hf : ∀ z, 0 ≤ z → z ≤ 1048576 → Szs (f z)) : Szs (e.bind fun z => if decide (z < 0) = true then some (-1) else f z) := by
  obtain ⟨z, h1, rfl⟩ := h
  rw [Option.bind_some]
  by_cases h : z < 0
  · rw [if_pos (by simpa using h)]; exact ⟨-1, by omega, rfl⟩
  · rw [if_neg (by simpa using h)]; exact hf z (by omega) h1
theorem szs_some {z : Int} (h : z ≤ 1048576) : Szs (some z) := ⟨z, h, rfl⟩
theorem szs_i {l : List Int} {n : Int} (h0 : 0 ≤ n) (h1 : n ≤ 1048576) (hl : l.length ≤ 1048576) : Szs (F_laws_szIntS l n) := by
  obtain ⟨z, h, h2⟩ := p_szIntS h0 h1 hl
  exact ⟨z, h2, h⟩
theorem szs_p {p : Proof} (hl : lensP p) {n : Int} (h0 : 0 ≤ n) (h1 : n ≤ 1048576) : Szs (F_laws_szProof p n) :=
  szs_bind (szs_i h0 h1 hl.1) fun z a b => szs_bind (szs_i a b hl.2.1) fun z a b => szs_bind (szs_i a b hl.2.2) fun z a b => szs_some b
theorem szs_e {e : Entry} (hl : lensE e) {n : Int} (h0 : 0 ≤ n) (h1 : n ≤ 1048576) : Szs (F_laws_szEntry e n) :=
  szs_bind (szs_i h0 h1 hl.1) fun z a b => szs_bind (szs_p hl.2 a b) fun z a b => szs_some b
theorem szs_list {α : Type} {l : List α} {f : α → Int → Option Int} {n : Int} (h0 : 0 ≤ n) (h1 : n ≤ 1048576) (hl : l.length ≤ 1048576) (hf : ∀ x ∈ l, ∀ z, 0 ≤ z → z ≤ 1048576 → Szs (f x z)) :
    Szs (if decide ((IntKind.i64.wrap (n - (l.length : Int))) < 0) = true then (some (-1)) else (
      ((wloop (σ := Int × Int) (fun s5 =>
      if decide (s5.2 < (l.length : Int)) = true then (
      (ix l s5.2).bind fun x11 =>
      (f x11 s5.1).bind fun z12 =>
      if decide (z12 < 0) = true then (
      some (.out (.inr (-1)))) else (
      some (.go (z12, IntKind.i64.wrap (s5.2 + 1))))) else (
      some (.out (.inl s5.1)))) (IntKind.i64.wrap (n - (l.length : Int)), 0) : Option (Int ⊕ Int)).bind (Sum.elim (fun x4 =>
      some x4) some)))) := by
  rw [wr64 (by omega) (by omega)]
  by_cases h : n - (l.length : Int) < 0
  · rw [if_pos (by simpa using h)]; exact ⟨-1, by omega, rfl⟩
  · rw [if_neg (by simpa using h)]
    obtain ⟨z, e, hz⟩ := sz_loop (step := fun s5 : Int × Int =>
      if decide (s5.2 < (l.length : Int)) = true then (
      (ix l s5.2).bind fun x11 =>
      (f x11 s5.1).bind fun z12 =>
      if decide (z12 < 0) = true then (
      some (Stp.out (.inr (-1)))) else (
      some (.go (z12, IntKind.i64.wrap (s5.2 + 1))))) else (
      some (.out (.inl s5.1)))) (a0 := n - (l.length : Int)) l.length (by omega) (fun k a hk a0 a1 => by
        obtain ⟨z, hz, e⟩ := hf _ (List.getElem_mem hk) a a0 a1
        refine ⟨z, hz, ?_⟩
        rw [if_pos (by simpa using hk), ix_at hk, Option.bind_some, e, Option.bind_some, inc (by omega)]) (fun a => by simp)
    exact ⟨z, hz, e⟩
theorem szs_b {b : Board} (hl : lensB b) {n : Int} (h0 : 0 ≤ n) (h1 : n ≤ 1048576) : Szs (F_laws_szBoard b n) :=
  szs_bind (szs_i h0 h1 hl.1) fun z a c => szs_bind (szs_list a c hl.2.1 fun e he z a b => szs_e (hl.2.2 e he) a b) fun z a b => szs_some b
theorem szs_h {h : Head} (hl : lensP h.Sign) {n : Int} (h0 : 0 ≤ n) (h1 : n ≤ 1048576) : Szs (F_laws_szHead h n) :=
  szs_bind (szs_p hl h0 h1) fun z a b => szs_some b
-- copies
theorem to_p {p : Proof} (hl : lensP p) : F_laws_toProof p = some p := by
  unfold F_laws_toProof
  rw [p_toIntS hl.1, p_toIntS hl.2.1, p_toIntS hl.2.2]; rfl
theorem to_e {e : Entry} (hl : lensE e) : F_laws_toEntry e = some e := by
  unfold F_laws_toEntry
  rw [p_toIntS hl.1, to_p hl.2]; rfl
theorem to_list {α : Type} {l : List α} {d : α} {f : α → Option α} {c : Int} (hc : 1 ≤ c ∧ c ≤ 1000) (hl : l.length ≤ 1048576) (hf : ∀ x ∈ l, f x = some x) :
    (gd (0 ≤ (l.length : Int) ∧ (l.length : Int) ≤ (l.length : Int) ∧ c * (l.length : Int) ≤ 140737488355328 ∧ (l.length : Int) ≤ 4611686018427387904) <|
    (some (List.replicate l.length d)).bind fun x1 =>
    ((wloop (σ := (List α) × Int) (fun s16 =>
    if decide (s16.2 < (l.length : Int)) = true then (
    (ix l s16.2).bind fun x22 =>
    (f x22).bind fun z23 =>
    (ix s16.1 s16.2).bind fun x24 =>
    some (.go (s16.1.set s16.2.toNat z23, IntKind.i64.wrap (s16.2 + 1)))) else (
    some (.out s16.1))) (x1, 0) : Option ((List α))).bind fun x6 =>
    some x6)) = some l := by
  have h : c * (l.length : Int) ≤ 1000 * 1048576 := Int.mul_le_mul hc.2 (by omega) (by omega) (by omega)
  rw [gd_t (by omega), Option.bind_some, wl_copy, Option.bind_some]
  · intro k hk r hr
    have h2 : k < r.length := by omega
    rw [if_pos (by simpa using hk), ix_at hk, Option.bind_some, hf _ (List.getElem_mem hk), Option.bind_some, ix_at h2, Option.bind_some, inc (by omega)]
    rfl
  · intro r; simp
theorem to_es {l : List Entry} (hl : l.length ≤ 1048576) (hw : ∀ e ∈ l, lensE e) : F_laws_toEntryS l = some l := to_list (c := 112) (by omega) hl fun e he => to_e (hw e he)
theorem to_b {b : Board} (hl : lensB b) : F_laws_toBoard b = some b := by
  unfold F_laws_toBoard
  rw [p_toIntS hl.1, to_es hl.2.1 hl.2.2]; rfl
theorem to_h {h : Head} (hl : lensP h.Sign) : F_laws_toHead h = some h := by
  unfold F_laws_toHead
  rw [to_p hl]; rfl
-- comparisons
theorem eq_p {p : Proof} (hl : lensP p) : F_laws_eqProof p p = some true := by
  unfold F_laws_eqProof
  rw [p_eqIntS hl.1, p_eqIntS hl.2.1, p_eqIntS hl.2.2]; rfl
theorem eq_e {e : Entry} (hl : lensE e) : F_laws_eqEntry e e = some true := by
  unfold F_laws_eqEntry
  rw [if_neg (by simp), if_neg (by simp), p_eqIntS hl.1, eq_p hl.2]; rfl
theorem eq_list {α : Type} {l : List α} {f : α → α → Option Bool} (hl : l.length ≤ 1048576) (hf : ∀ x ∈ l, f x x = some true) :
    (if ((l.length : Int) != (l.length : Int)) = true then (
    some false) else (
    ((wloop (σ := Int) (fun s5 =>
    if decide (s5 < (l.length : Int)) = true then (
    (ix l s5).bind fun x11 =>
    (ix l s5).bind fun x12 =>
    (f x11 x12).bind fun z13 =>
    if (!z13) = true then (
    some (.out (.inr false))) else (
    some (.go (IntKind.i64.wrap (s5 + 1))))) else (
    some (.out (.inl ())))) 0 : Option (Unit ⊕ Bool)).bind (Sum.elim (fun x4 =>
    some true) some)))) = some true := by
  rw [if_neg (by simp), wl_all l.length]
  · rfl
  · intro k hk
    rw [if_pos (by simpa using hk), ix_at hk, Option.bind_some, Option.bind_some, hf _ (List.getElem_mem hk), inc (by omega)]
    rfl
  · simp
theorem eq_b {b : Board} (hl : lensB b) : F_laws_eqBoard b b = some true := by
  unfold F_laws_eqBoard
  rw [p_eqIntS hl.1, show F_laws_eqEntryS b.Entries b.Entries = some true from eq_list hl.2.1 fun e he => eq_e (hl.2.2 e he)]; rfl
theorem eq_h {h : Head} (hl : lensP h.Sign) : F_laws_eqHead h h = some true := by
  unfold F_laws_eqHead
  rw [if_neg (by simp), if_neg (by simp), if_neg (by simp), eq_p hl]; rfl
-- marks
theorem mk_es {l : List Entry} {a : Int} (ha : 1 ≤ a ∧ a ≤ 1000000000000) (hl : l.length ≤ 1048576) (hw : ∀ e ∈ l, lensE e) : ∃ z, F_laws_markEntryS__io0 l a = some z ∧ 1 ≤ z.1 ∧ z.1 ≤ 1000000000000000 := by
  unfold F_laws_markEntryS__io0
  have key := mk_loop (l := l) (a0 := a) (K := 10000000) (step := fun s15 =>
    if decide (s15.2.2 < (s15.1.length : Int)) = true then (
    (ix s15.1 s15.2.2).bind fun x21 =>
    (F_laws_markIntS__io0 x21.Data (IntKind.i64.wrap ((IntKind.i64.wrap (s15.2.1 + 1)) + 1))).bind fun z22 =>
    (F_laws_markIntS__io0 x21.Sign.Commits z22.1).bind fun z23 =>
    (F_laws_markIntS__io0 x21.Sign.Challenges z23.1).bind fun z24 =>
    (F_laws_markIntS__io0 x21.Sign.Responses z24.1).bind fun z25 =>
    some (.go ((((((s15.1.set s15.2.2.toNat (Entry.mk s15.2.1 x21.Author x21.Data x21.Sign)).set s15.2.2.toNat (Entry.mk s15.2.1 (IntKind.i64.wrap (s15.2.1 + 1)) x21.Data x21.Sign)).set s15.2.2.toNat (Entry.mk s15.2.1 (IntKind.i64.wrap (s15.2.1 + 1)) z22.2 x21.Sign)).set s15.2.2.toNat (Entry.mk s15.2.1 (IntKind.i64.wrap (s15.2.1 + 1)) z22.2 (Proof.mk z23.2 x21.Sign.Challenges x21.Sign.Responses))).set s15.2.2.toNat (Entry.mk s15.2.1 (IntKind.i64.wrap (s15.2.1 + 1)) z22.2 (Proof.mk z23.2 z24.2 x21.Sign.Responses))).set s15.2.2.toNat (Entry.mk s15.2.1 (IntKind.i64.wrap (s15.2.1 + 1)) z22.2 (Proof.mk z23.2 z24.2 z25.2)), z25.1, IntKind.i64.wrap (s15.2.2 + 1)))) else (
    some (.out (s15.1, s15.2.1)))) lensE hw (by omega) ha.1 ?_ ?_
  · obtain ⟨z, h1, h2, h3, _⟩ := key
    rw [h1, Option.bind_some]
    have h4 : (l.length : Int) * 10000000 ≤ 1048576 * 10000000 := Int.mul_le_mul (by omega) (Int.le_refl _) (by omega) (by omega)
    exact ⟨_, rfl, h2, by show z.2 ≤ _; omega⟩
  · intro k r a' hk hr hP h1 h2
    have hk2 : (k : Int) * 10000000 ≤ 1048576 * 10000000 := Int.mul_le_mul (by omega) (Int.le_refl _) (by omega) (by omega)
    obtain ⟨c0, c1, c2, c3⟩ := hP
    obtain ⟨m, m1, m2, _⟩ := p_markI r[k].Data (a' + 1 + 1) (by omega) (by omega) c0
    obtain ⟨n, n1, n2, _⟩ := p_markI r[k].Sign.Commits (a' + 1 + 1 + r[k].Data.length) (by omega) (by omega) c1
    obtain ⟨o, o1, o2, _⟩ := p_markI r[k].Sign.Challenges (a' + 1 + 1 + r[k].Data.length + r[k].Sign.Commits.length) (by omega) (by omega) c2
    obtain ⟨p, p1, p2, _⟩ := p_markI r[k].Sign.Responses (a' + 1 + 1 + r[k].Data.length + r[k].Sign.Commits.length + r[k].Sign.Challenges.length) (by omega) (by omega) c3
    refine ⟨⟨a', a' + 1, m, ⟨n, o, p⟩⟩, a' + 1 + 1 + r[k].Data.length + r[k].Sign.Commits.length + r[k].Sign.Challenges.length + r[k].Sign.Responses.length, ?_, ⟨by show m.length ≤ _; omega, by show n.length ≤ _; omega, by show o.length ≤ _; omega, by show p.length ≤ _; omega⟩, ?_, ?_⟩
    · dsimp only
      rw [if_pos (by simpa using hk), ix_at hk, Option.bind_some, wr64 (n := a' + 1) (by omega) (by omega), wr64 (n := a' + 1 + 1) (by omega) (by omega), m1, Option.bind_some, n1, Option.bind_some, o1, Option.bind_some, p1, Option.bind_some, inc (by omega)]
      simp
    · omega
    · omega
  · intro r a hr; simp [hr]
theorem mk_p {p : Proof} {a : Int} (ha : 1 ≤ a ∧ a ≤ 1000000000000000000) (hl : lensP p) : ∃ z, F_laws_markProof__mv0 p a = some z ∧ 1 ≤ z ∧ z ≤ a + 3145728 := by
  obtain ⟨c1, c2, c3⟩ := hl
  unfold F_laws_markProof__mv0
  obtain ⟨n, n1, n2, _⟩ := p_markI p.Commits a (by omega) (by omega) c1
  obtain ⟨o, o1, o2, _⟩ := p_markI p.Challenges (a + p.Commits.length) (by omega) (by omega) c2
  obtain ⟨q, p1, p2, _⟩ := p_markI p.Responses (a + p.Commits.length + p.Challenges.length) (by omega) (by omega) c3
  rw [n1, Option.bind_some, o1, Option.bind_some, p1]
  exact ⟨_, rfl, by show 1 ≤ a + p.Commits.length + p.Challenges.length + p.Responses.length; omega, by show a + p.Commits.length + p.Challenges.length + p.Responses.length ≤ _; omega⟩
theorem mk_h {h : Head} {a : Int} (ha : 1 ≤ a ∧ a ≤ 1000000000000000000) (hl : lensP h.Sign) : ∃ z, F_laws_markHead__mv0 h a = some z ∧ 1 ≤ z ∧ z ≤ a + 3145728 := by
  obtain ⟨z, e, h1⟩ := mk_p ha hl
  unfold F_laws_markHead__mv0
  exact ⟨z, by rw [e]; rfl, h1⟩
theorem mk_b {b : Board} (hl : lensB b) : ∃ z, F_laws_markBoard__mv0 b 1 = some z ∧ 1 ≤ z ∧ z ≤ 1000000000000000 := by
  obtain ⟨c1, c2, c3⟩ := hl
  unfold F_laws_markBoard__mv0
  obtain ⟨n, n1, n2, _⟩ := p_markI b.Keys 1 (by omega) (by omega) c1
  obtain ⟨z, e, h1, h2⟩ := mk_es (a := 1 + b.Keys.length) (by omega) c2 c3
  rw [n1, Option.bind_some, e, Option.bind_some]
  exact ⟨_, rfl, h1, h2⟩
theorem szs_law {e : Option Int} {f : Int → Option Bool} (h : Szs e) (hf : ∀ z, 0 ≤ z → z ≤ 1048576 → f z = some true) : (e.bind fun z => if decide (z < 0) = true then some true else f z) = some true := by
  obtain ⟨z, h1, rfl⟩ := h
  rw [Option.bind_some]
  by_cases h : z < 0
  · rw [if_pos (by simpa using h)]
  · rw [if_neg (by simpa using h)]; exact hf z (by omega) h1
theorem law16 (gr : Group) (b : Board) (a h : Head) (hb : lensB b) (ha : lensP a.Sign) (hh : lensP h.Sign) : F_laws_FnExactProvenPrefix gr b a h = some true := by
  obtain ⟨l, t, s1, s2, s3⟩ := n_prefix gr hb ha hh
  obtain ⟨z, z1, z2, z3⟩ := mk_b hb
  obtain ⟨y, y1, y2, y3⟩ := mk_h (a := z) (by omega) ha
  obtain ⟨x, x1, x2, x3⟩ := mk_h (a := y) (by omega) hh
  obtain ⟨r, r1, r2, r3⟩ := p_markI l 1 (by omega) (by omega) (by omega)
  have h1 := p_heldI r 1 (by omega) (by omega) (by omega) r3
  have e1 : F_laws_eqIntS l l = some true := p_eqIntS (by omega)
  have tg : F_laws_toGroup gr = some gr := rfl
  unfold F_laws_FnExactProvenPrefix
  refine szs_law (szs_b hb (by omega) (by omega)) fun n1 a1 b1 => szs_law (szs_h ha a1 b1) fun n2 a2 b2 => szs_law (szs_h hh a2 b2) fun n3 a3 b3 => ?_
  have g1 : ¬ x < 0 := by omega
  have g2 : ¬ 1 + (l.length : Int) < 0 := by omega
  simp only [tg, to_b hb, to_h ha, to_h hh, s1, s2, e1, eq_b hb, eq_h ha, eq_h hh, z1, y1, x1, r1, h1, r2, Option.bind_some]
  simp [g1, g2]
end Go.Pm
