/-
  FnExactBoardCommits: plain laws.
  No condition.
-/
import Derived.Test.YtloeipgajoimfaaGreatM28b
import Derived.Test.YtloeipgajoimfaaGreatPmZ
namespace Go.Pm
open Go.Am
set_option linter.unusedVariables false
set_option linter.unusedSimpArgs false
-- arguments: sizes, copies, equality
theorem p_szIntS {l : List Int} {n : Int} (h0 : 0 ≤ n) (h1 : n ≤ 1048576) (hl : l.length ≤ 1048576) : ∃ z, F_laws_szIntS l n = some z ∧ z ≤ 1048576 := by
  unfold F_laws_szIntS
  rw [wr64 (by omega) (by omega)]
  by_cases h : n - (l.length : Int) < 0
  · exact ⟨-1, by simp [h], by omega⟩
  · exact ⟨n - l.length, by simp [h], by omega⟩
theorem set_step {α : Type} {l r : List α} {k : Nat} (hk : k < l.length) (hr : r.length = l.length) (h : r.take k = l.take k) : (r.set k l[k]).take (k + 1) = l.take (k + 1) := by
  rw [List.take_succ_eq_append_getElem (by simpa [hr] using hk), List.take_succ_eq_append_getElem hk]
  simp [List.take_set_of_le, h]
theorem p_toIntS {l : List Int} (hl : l.length ≤ 1048576) : F_laws_toIntS l = some l := by
  unfold F_laws_toIntS
  rw [gd_t (by omega), Option.bind_some]
  obtain ⟨b, hb, hp⟩ := cloop_post (β := List Int) (σ := List Int × Int) (step := fun s42 =>
    if decide (s42.2 < (l.length : Int)) = true then (
    (ix l s42.2).bind fun x53 =>
    (ix s42.1 s42.2).bind fun x60 =>
    some (.go (s42.1.set s42.2.toNat x53, IntKind.i64.wrap (s42.2 + 1)))) else (
    some (.out s42.1))) (s0 := (List.replicate l.length 0, 0)) l.length (fun k s => s.2 = (k : Int) ∧ s.1.length = l.length ∧ s.1.take k = l.take k)
    (fun b => b = l) ⟨rfl, by simp, by simp⟩
    (by
      rintro k ⟨a, b⟩ hk ⟨e, h2, h3⟩
      simp only at e h2 h3
      subst e
      have hd : decide ((k : Int) < (l.length : Int)) = true := by simpa using hk
      refine .inl ⟨(a.set k l[k], (k : Int) + 1), ?_, by simp, by simp [h2], set_step hk h2 h3⟩
      simp only [hd, if_true, ix_at hk, Option.bind_some, ix_at (l := a) (k := k) (by omega)]
      rw [wr64 (by omega) (by omega)]
      simp)
    (by
      rintro ⟨a, b⟩ ⟨e, h2, h3⟩
      simp only at e h2 h3
      subst e
      refine ⟨a, by simp, ?_⟩
      rw [List.take_of_length_le (by omega), List.take_of_length_le (Nat.le_refl _)] at h3
      exact h3)
  rw [hb, Option.bind_some, hp]
theorem p_eqIntS {l : List Int} (hl : l.length ≤ 1048576) : F_laws_eqIntS l l = some true := by
  unfold F_laws_eqIntS
  simp only [bne_self_eq_false, Bool.false_eq_true, if_false]
  obtain ⟨b, hb, hp⟩ := cloop_post (β := Unit ⊕ Bool) (σ := Int) (step := fun s52 =>
    if decide (s52 < (l.length : Int)) = true then (
    (ix l s52).bind fun x63 =>
    (ix l s52).bind fun x70 =>
    if (x63 != x70) = true then (
    some (.out (.inr false))) else (
    some (.go (IntKind.i64.wrap (s52 + 1))))) else (
    some (.out (.inl ())))) (s0 := 0) l.length (fun k s => s = (k : Int)) (fun b => b = .inl ()) rfl
    (by
      rintro k a hk e
      subst e
      have hd : decide ((k : Int) < (l.length : Int)) = true := by simpa using hk
      refine .inl ⟨(k : Int) + 1, ?_, by simp⟩
      simp only [hd, if_true, ix_at hk, Option.bind_some, bne_self_eq_false, Bool.false_eq_true, if_false]
      rw [wr64 (by omega) (by omega)])
    (by
      rintro a e
      subst e
      exact ⟨_, by simp, rfl⟩)
  rw [hb, Option.bind_some, hp]; rfl
def MI : List Int → Int → Prop
  | [], _ => True
  | x :: l, k => x = k ∧ MI l (k + 1)
theorem MI_get : ∀ {l : List Int} {k : Int} (i : Nat) (h : i < l.length), MI l k → l[i] = k + i := by
  intro l
  induction l with
  | nil => intro k i h; simp at h
  | cons x l ih =>
    intro k i h hm
    cases i with
    | zero => simp [hm.1]
    | succ i =>
      have := ih (k := k + 1) i (by simpa using h) hm.2
      simp only [List.getElem_cons_succ, this]
      push_cast; omega
theorem MI_of : ∀ {l : List Int} {k : Int}, (∀ (i : Nat) (h : i < l.length), l[i] = k + i) → MI l k := by
  intro l
  induction l with
  | nil => intro k _; trivial
  | cons x l ih =>
    intro k h
    refine ⟨by have h1 : x = k + ((0 : Nat) : Int) := h 0 (by simp); rw [h1]; simp, ih fun i hi => ?_⟩
    have := h (i + 1) (by simpa using hi)
    simp only [List.getElem_cons_succ] at this
    rw [this]; push_cast; omega
theorem p_markI (l : List Int) (k : Int) (h0 : 0 ≤ k) (hk : k + l.length ≤ 1152921504606846976) (hl : l.length ≤ 1048576) : ∃ r, F_laws_markIntS__io0 l k = some (k + l.length, r) ∧ r.length = l.length ∧ MI r k := by
  unfold F_laws_markIntS__io0
  obtain ⟨x, e, r, rfl, h1, h2⟩ := cloop_post (σ := (List Int) × Int × Int) (β := ((List Int) × Int)) (step := fun s29 =>
    if decide (s29.2.2 < (s29.1.length : Int)) = true then (
    (ix s29.1 s29.2.2).bind fun x40 =>
    some (.go (s29.1.set s29.2.2.toNat s29.2.1, IntKind.i64.wrap (s29.2.1 + 1), IntKind.i64.wrap (s29.2.2 + 1)))) else (
    some (.out (s29.1, s29.2.1)))) (s0 := (l, k, 0)) l.length
    (fun i s => ∃ r : List Int, s = (r, k + (i : Int), (i : Int)) ∧ r.length = l.length ∧ ∀ (j : Nat) (h : j < r.length), j < i → r[j] = k + j)
    (fun x => ∃ r : List Int, x = (r, k + l.length) ∧ r.length = l.length ∧ MI r k)
    ⟨l, by simp, rfl, fun j h1 h2 => by omega⟩
    (by
      rintro i s hi ⟨r, rfl, h1, h2⟩
      have hd : decide ((i : Int) < (r.length : Int)) = true := by simp only [decide_eq_true_eq]; omega
      refine .inl ⟨(r.set i (k + i), k + ((i + 1 : Nat) : Int), ((i + 1 : Nat) : Int)), ?_, r.set i (k + i), rfl, by simp [h1], fun j hj hji => ?_⟩
      · simp only [hd, if_true, ix_at (l := r) (k := i) (by omega), Option.bind_some, Int.toNat_natCast]
        rw [wr64 (n := (i : Int) + 1) (by omega) (by omega), wr64 (by omega) (by omega)]
        have e1 : k + (i : Int) + 1 = k + ((i + 1 : Nat) : Int) := by push_cast; omega
        have e2 : (i : Int) + 1 = ((i + 1 : Nat) : Int) := by push_cast; rfl
        rw [e1, e2]
      · rw [List.getElem_set]
        split
        · rename_i e; subst e; rfl
        · exact h2 j (by simpa using hj) (by omega))
    (by
      rintro s ⟨r, rfl, h1, h2⟩
      exact ⟨(r, k + l.length), by simp [h1], r, rfl, h1, MI_of fun i hi => h2 i hi (by omega)⟩)
  rw [e, Option.bind_some]
  exact ⟨r, rfl, h1, h2⟩
theorem p_heldI (l : List Int) (k : Int) (h0 : 0 ≤ k) (hk : k + l.length ≤ 1152921504606846976) (hl : l.length ≤ 1048576) (hm : MI l k) : F_laws_heldIntS l k = some (k + l.length) := by
  unfold F_laws_heldIntS
  obtain ⟨x, e, rfl⟩ := cloop_post (σ := Int × Int) (β := Int ⊕ Int) (step := fun s7 =>
    if decide (s7.2 < (l.length : Int)) = true then (
    (ix l s7.2).bind fun x18 =>
    if (x18 != s7.1) = true then (
    some (.out (.inr (-1)))) else (
    some (.go (IntKind.i64.wrap (s7.1 + 1), IntKind.i64.wrap (s7.2 + 1))))) else (
    some (.out (.inl s7.1)))) (s0 := (k, 0)) l.length (fun i s => s = (k + (i : Int), (i : Int))) (fun x => x = .inl (k + l.length)) (by simp)
    (by
      rintro i s hi rfl
      have hd : decide ((i : Int) < (l.length : Int)) = true := by simpa using hi
      refine .inl ⟨(k + ((i + 1 : Nat) : Int), ((i + 1 : Nat) : Int)), ?_, rfl⟩
      simp only [hd, if_true, ix_at hi, Option.bind_some, MI_get i hi hm, bne_self_eq_false, Bool.false_eq_true, if_false]
      rw [wr64 (n := (i : Int) + 1) (by omega) (by omega), wr64 (by omega) (by omega)]
      have e1 : k + (i : Int) + 1 = k + ((i + 1 : Nat) : Int) := by push_cast; omega
      have e2 : (i : Int) + 1 = ((i + 1 : Nat) : Int) := by push_cast; rfl
      rw [e1, e2])
    (by
      rintro s rfl
      exact ⟨_, by simp, rfl⟩)
  rw [e]; rfl
theorem n_within (a b c : Int) : F_impl_within a b c = some (decide (b ≤ a) && decide (a ≤ c)) := by
  unfold F_impl_within
  by_cases h : b ≤ a <;> simp [h]
theorem n_l1In (a b c : Int) : F_spec_l1In a b c = some (decide (b ≤ a) && decide (a ≤ c)) := by
  unfold F_spec_l1In
  by_cases h : b ≤ a <;> simp [h]
theorem n_isModulus (a : Int) : F_impl_isModulus a = some (decide (2 ≤ a) && decide (a ≤ 2000000000)) := by
  unfold F_impl_isModulus
  rw [n_within]; rfl
theorem tmod_cast (a b : Nat) : (a : Int).tmod (b : Int) = ((a % b : Nat) : Int) := by rw [Int.tmod_eq_emod_of_nonneg (by omega)]; exact (Int.natCast_emod _ _).symm
theorem tdiv_cast (a b : Nat) : (a : Int).tdiv (b : Int) = ((a / b : Nat) : Int) := by rw [Int.tdiv_eq_ediv_of_nonneg (by omega)]; exact (Int.natCast_ediv _ _).symm
theorem mul_cast (a b : Nat) : (a : Int) * (b : Int) = ((a * b : Nat) : Int) := (Int.natCast_mul _ _).symm
theorem and_one {e : Nat} (he : e ≤ 9223372036854775807) : IntKind.i64.wrap (BitVec.ofInt IntKind.i64.bits (e : Int) &&& BitVec.ofInt IntKind.i64.bits 1).toNat = ((e % 2 : Nat) : Int) := by
  have h1 : (BitVec.ofInt IntKind.i64.bits (e : Int) &&& BitVec.ofInt IntKind.i64.bits 1).toNat = e % 2 := by
    rw [BitVec.toNat_and]
    have a1 : (BitVec.ofInt IntKind.i64.bits (e : Int)).toNat = e := by
      rw [BitVec.toNat_ofInt]
      have : IntKind.i64.bits = 64 := rfl
      rw [this]
      omega
    have a2 : (BitVec.ofInt IntKind.i64.bits 1).toNat = 1 := by decide
    rw [a1, a2, Nat.and_one_is_mod]
  rw [h1, wr64 (by omega) (by omega)]
-- powers
theorem n_power {a e m : Nat} (ha : a ≤ 2000000000) (hm : 1 ≤ m) (hm2 : m ≤ 2000000000) (he : e ≤ 9223372036854775807) : F_impl_power (a : Int) (e : Int) (m : Int) = some ((a ^ e % m : Nat) : Int) := by
  unfold F_impl_power
  refine eq_of_rn (rn_gd (by omega) (rn_then (φ := (· = ((a ^ e % m : Nat) : Int))) (rn_wloop (φ := (· = ((a ^ e % m : Nat) : Int))) (fun s => ∃ x y o : Nat, s = ((x : Int), (y : Int), (o : Int)) ∧ x ≤ 2000000000 ∧ y ≤ e ∧ o < m ∧ o * x ^ y % m = a ^ e % m) (fun s => s.2.1.toNat)
    ⟨a, e, 1 % m, by rw [show (1 : Int) = ((1 : Nat) : Int) from rfl, tmod_cast], ha, Nat.le_refl _, Nat.mod_lt _ (by omega), by rw [Nat.mod_mul_mod, Nat.one_mul]⟩ ?_) fun x hx => rn_some hx))
  rintro s ⟨x, y, o, rfl, hx, hy, ho, hi⟩
  refine rn_if (fun h0 => ?_) fun h0 => ?_
  · have h0 : 0 < y := by simpa using h0
    have hox : o * x ≤ 4000000000000000000 := Nat.le_trans (Nat.mul_le_mul (show o ≤ 2000000000 by omega) hx) (by decide)
    have hxx : x * x ≤ 4000000000000000000 := Nat.le_trans (Nat.mul_le_mul hx hx) (by decide)
    refine rn_then (ψ := fun o' => ∃ k : Nat, o' = (k : Int) ∧ k < m ∧ k * (x * x) ^ (y / 2) % m = a ^ e % m) ?_ ?_
    · simp only [and_one (show y ≤ 9223372036854775807 by omega)]
      refine rn_if (fun h1 => rn_gd (by omega) (rn_some ⟨o * x % m, ?_, Nat.mod_lt _ (by omega), ?_⟩)) fun h1 => rn_some ⟨o, rfl, ho, ?_⟩
      · rw [mul_cast, wr64 (by omega) (by omega), tmod_cast]
      · have h1 : y % 2 = 1 := by
          have : ((y % 2 : Nat) : Int) = 1 := by simpa using h1
          omega
        rw [Nat.mod_mul_mod, ← hi, ← Nat.pow_two, ← Nat.pow_mul, Nat.mul_assoc, ← Nat.pow_succ']
        congr 3; omega
      · have h1 : y % 2 = 0 := by
          have : ¬ ((y % 2 : Nat) : Int) = 1 := by simpa using h1
          omega
        rw [← hi, ← Nat.pow_two, ← Nat.pow_mul]
        congr 3; omega
    · rintro o' ⟨k, rfl, hk, hk2⟩
      refine rn_gd (by omega) (rn_some ⟨⟨x * x % m, y / 2, k, ?_, by have := Nat.mod_lt (x * x) (show 0 < m by omega); omega, by omega, hk, ?_⟩, ?_⟩)
      · rw [mul_cast, wr64 (by omega) (by omega), tmod_cast]
        have e3 : (y : Int).fdiv 2 = ((y / 2 : Nat) : Int) := by rw [Int.fdiv_eq_ediv_of_nonneg _ (by omega)]; rfl
        show (_, (y : Int).fdiv 2, _) = _
        rw [e3]
      · rw [Nat.mul_mod, ← Nat.pow_mod, ← Nat.mul_mod]
        exact hk2
      · show ((y : Int).fdiv 2).toNat < (y : Int).toNat
        rw [Int.fdiv_eq_ediv_of_nonneg _ (by omega)]
        omega
  · have h0 : y = 0 := by
      have : ¬ (0 < y) := by simpa using h0
      omega
    subst h0
    refine rn_some ?_
    show (o : Int) = _
    rw [Nat.pow_zero, Nat.mul_one, Nat.mod_eq_of_lt ho] at hi
    rw [hi]
theorem n_nPower {a e m : Nat} (ha : a ≤ 2000000000) (hm : 1 ≤ m) (hm2 : m ≤ 2000000000) (he : e ≤ 9223372036854775807) : F_spec_nPower (a : Int) (e : Int) (m : Int) = some ((a ^ e % m : Nat) : Int) := by
  unfold F_spec_nPower
  refine eq_of_rn (rn_gd (by omega) (rn_then (φ := (· = ((a ^ e % m : Nat) : Int))) (rn_wloop (φ := (· = ((a ^ e % m : Nat) : Int))) (fun s => ∃ x y o : Nat, s = ((x : Int), (y : Int), (o : Int)) ∧ x ≤ 2000000000 ∧ y ≤ e ∧ o < m ∧ o * x ^ y % m = a ^ e % m) (fun s => s.2.1.toNat)
    ⟨a, e, 1 % m, by rw [show (1 : Int) = ((1 : Nat) : Int) from rfl, tmod_cast], ha, Nat.le_refl _, Nat.mod_lt _ (by omega), by rw [Nat.mod_mul_mod, Nat.one_mul]⟩ ?_) fun x hx => rn_some hx))
  rintro s ⟨x, y, o, rfl, hx, hy, ho, hi⟩
  refine rn_if (fun h0 => ?_) fun h0 => ?_
  · have h0 : 0 < y := by simpa using h0
    have hox : o * x ≤ 4000000000000000000 := Nat.le_trans (Nat.mul_le_mul (show o ≤ 2000000000 by omega) hx) (by decide)
    have hxx : x * x ≤ 4000000000000000000 := Nat.le_trans (Nat.mul_le_mul hx hx) (by decide)
    have e2 : (y : Int).tmod 2 = ((y % 2 : Nat) : Int) := tmod_cast y 2
    refine rn_then (ψ := fun o' => ∃ k : Nat, o' = (k : Int) ∧ k < m ∧ k * (x * x) ^ (y / 2) % m = a ^ e % m) ?_ ?_
    · simp only [e2]
      refine rn_if (fun h1 => rn_gd (by omega) (rn_some ⟨o * x % m, ?_, Nat.mod_lt _ (by omega), ?_⟩)) fun h1 => rn_some ⟨o, rfl, ho, ?_⟩
      · rw [mul_cast, wr64 (by omega) (by omega), tmod_cast]
      · have h1 : y % 2 = 1 := by
          have : ((y % 2 : Nat) : Int) = 1 := by simpa using h1
          omega
        rw [Nat.mod_mul_mod, ← hi, ← Nat.pow_two, ← Nat.pow_mul, Nat.mul_assoc, ← Nat.pow_succ']
        congr 3; omega
      · have h1 : y % 2 = 0 := by
          have : ¬ ((y % 2 : Nat) : Int) = 1 := by simpa using h1
          omega
        rw [← hi, ← Nat.pow_two, ← Nat.pow_mul]
        congr 3; omega
    · rintro o' ⟨k, rfl, hk, hk2⟩
      have e3 : (y : Int).tdiv 2 = ((y / 2 : Nat) : Int) := tdiv_cast y 2
      refine rn_gd (by omega) (rn_some ⟨⟨x * x % m, y / 2, k, ?_, by have := Nat.mod_lt (x * x) (show 0 < m by omega); omega, by omega, hk, ?_⟩, ?_⟩)
      · simp only [e3]
        rw [mul_cast, wr64 (n := ((x * x : Nat) : Int)) (by omega) (by omega), tmod_cast, wr64 (n := ((y / 2 : Nat) : Int)) (by omega) (by omega)]
      · rw [Nat.mul_mod, ← Nat.pow_mod, ← Nat.mul_mod]
        exact hk2
      · show (IntKind.i64.wrap ((y : Int).tdiv 2)).toNat < (y : Int).toNat
        rw [e3, wr64 (by omega) (by omega)]
        omega
  · have h0 : y = 0 := by
      have : ¬ (0 < y) := by simpa using h0
      omega
    subst h0
    refine rn_some ?_
    show (o : Int) = _
    rw [Nat.pow_zero, Nat.mul_one, Nat.mod_eq_of_lt ho] at hi
    rw [hi]
-- residues
theorem n_mod {a q : Int} (h0 : 0 < q) (h1 : q ≤ 2000000000) : F_impl_mod a q = some (a % q) := by
  unfold F_impl_mod
  rw [gd_t (by omega), gd_t (by omega)]
  have b1 : a.tmod q < q := Int.tmod_lt_of_pos a h0
  have b2 : -q < a.tmod q := by
    have := Int.lt_tmod_of_pos a h0
    omega
  rw [wr64 (by omega) (by omega), Int.tmod_eq_emod_of_nonneg (by omega)]
  congr 1
  rw [Int.add_emod_right]
  rw [Int.tmod_def, Int.sub_emod, Int.mul_emod_right, Int.sub_zero, Int.emod_emod]
theorem n_nMod {a q : Int} (h0 : 0 < q) (h1 : q ≤ 2000000000) : F_spec_nMod a q = some (a % q) := by
  unfold F_spec_nMod
  rw [gd_t (by omega), gd_t (by omega)]
  have b1 : a.tmod q < q := Int.tmod_lt_of_pos a h0
  have b2 : -q < a.tmod q := by
    have := Int.lt_tmod_of_pos a h0
    omega
  rw [wr64 (by omega) (by omega), Int.tmod_eq_emod_of_nonneg (by omega)]
  congr 1
  rw [Int.add_emod_right]
  rw [Int.tmod_def, Int.sub_emod, Int.mul_emod_right, Int.sub_zero, Int.emod_emod]
-- primes
def Pr (n : Nat) : Prop := 2 ≤ n ∧ ∀ d, 2 ≤ d → d * d ≤ n → n % d ≠ 0
open Classical in
noncomputable def prB (n : Int) : Bool := decide (Pr n.toNat)
theorem prB_t {n : Nat} : prB (n : Int) = true ↔ Pr n := by simp [prB]
theorem n_nPrime (n : Int) (h : n ≤ 2000000000) : F_spec_nPrime n = some (prB n) := by
  unfold F_spec_nPrime
  refine eq_of_rn (rn_if (fun h0 => rn_some ?_) fun h0 => ?_)
  · have h0 : n < 2 := by simpa using h0
    symm
    unfold prB
    rw [decide_eq_false_iff_not]
    intro hp
    have := hp.1
    omega
  · have h0 : ¬ n < 2 := by simpa using h0
    obtain ⟨n, rfl⟩ := Int.eq_ofNat_of_zero_le (show 0 ≤ n by omega)
    refine rn_then (ψ := fun b => (b = .inl () ∧ Pr n) ∨ (b = .inr false ∧ ¬ Pr n)) (rn_wloop (fun s => ∃ d : Nat, s = (d : Int) ∧ 2 ≤ d ∧ d ≤ 44723 ∧ ∀ k, 2 ≤ k → k < d → k * k ≤ n → n % k ≠ 0) (fun s => 50000 - s.toNat) ⟨2, rfl, by omega, by omega, fun k h1 h2 => by omega⟩ ?_) ?_
    · rintro s ⟨d, rfl, hd, hd2, hi⟩
      have hdd : d * d ≤ 2000146729 := Nat.le_trans (Nat.mul_le_mul hd2 hd2) (by decide)
      rw [mul_cast, wr64 (by omega) (by omega)]
      refine rn_if (fun h1 => rn_gd (by omega) (rn_if (fun h2 => rn_some (.inr ⟨rfl, ?_⟩)) fun h2 => rn_some ?_)) fun h1 => rn_some (.inl ⟨rfl, by omega, fun k hk hkn => ?_⟩)
      · have h1 : d * d ≤ n := by have := of_decide_eq_true h1; omega
        rw [tmod_cast] at h2
        have h2 : n % d = 0 := by have : ((n % d : Nat) : Int) = 0 := by simpa using h2
                                  omega
        exact fun hp => hp.2 d hd h1 h2
      · have h1 : d * d ≤ n := by have := of_decide_eq_true h1; omega
        rw [tmod_cast] at h2
        have h2 : n % d ≠ 0 := by have : ¬ ((n % d : Nat) : Int) = 0 := by simpa using h2
                                  omega
        have hd3 : d ≤ 44722 := by
          rcases Nat.lt_or_ge d 44723 with h | h
          · omega
          · have : 44723 * 44723 ≤ d * d := Nat.mul_le_mul h h
            omega
        rw [wr64 (by omega) (by omega)]
        refine ⟨⟨d + 1, rfl, by omega, by omega, fun k h3 h4 h5 => ?_⟩, by omega⟩
        rcases Nat.lt_or_ge k d with h | h
        · exact hi k h3 h h5
        · have : k = d := by omega
          subst this
          exact h2
      · have h1 : n < d * d := by have := of_decide_eq_false h1; omega
        rcases Nat.lt_or_ge k d with h | h
        · exact hi k hk h hkn
        · have := Nat.mul_le_mul h h
          omega
    · rintro b (⟨rfl, hp⟩ | ⟨rfl, hp⟩)
      · exact rn_some (prB_t.2 hp).symm
      · refine rn_some ?_
        symm
        unfold prB
        rw [decide_eq_false_iff_not]
        exact hp
theorem n_isPrime (n : Int) : F_impl_isPrime n = some (decide (n ≤ 2000000000) && prB n) := by
  unfold F_impl_isPrime
  by_cases h : 2 ≤ n ∧ n ≤ 2000000000
  · obtain ⟨n, rfl⟩ := Int.eq_ofNat_of_zero_le (show 0 ≤ n by omega)
    have e2 : ((n : Int)).tmod 2 = ((n % 2 : Nat) : Int) := tmod_cast n 2
    have em : (decide (2 ≤ (n : Int)) && decide ((n : Int) ≤ 2000000000)) = true := by simp only [Bool.and_eq_true, decide_eq_true_eq]; exact h
    rw [show (decide ((n : Int) ≤ 2000000000) && prB (n : Int)) = prB (n : Int) by simp [h.2]]
    refine eq_of_rn (rn_then (ψ := fun b => b = decide (n % 2 = 0 ∧ n ≠ 2)) (rn_call (n_isModulus _) ?_) ?_)
    · rw [em]
      refine rn_f rfl ?_
      rw [e2]
      refine rn_if (fun h1 => rn_some ?_) fun h1 => rn_some ?_
      · have h1 : n % 2 = 0 := by have : ((n % 2 : Nat) : Int) = 0 := by simpa using h1
                                  omega
        have : ((n : Int) != 2) = decide (n ≠ 2) := by
          by_cases hn : n = 2
          · subst hn; rfl
          · have hn' : ¬ (n : Int) = 2 := by omega
            simp [hn, hn']
        rw [this]; simp [h1]
      · have h1 : n % 2 ≠ 0 := by have : ¬ ((n % 2 : Nat) : Int) = 0 := by simpa using h1
                                  omega
        simp [h1]
    · rintro b rfl
      refine rn_if (fun h1 => rn_some ?_) fun h1 => ?_
      · have h1 := of_decide_eq_true h1
        symm
        unfold prB
        rw [decide_eq_false_iff_not]
        intro hp
        have hn : 4 ≤ n := by omega
        exact hp.2 2 (by omega) hn h1.1
      · have h1 := of_decide_eq_false h1
        refine rn_then (ψ := fun b => (b = .inl () ∧ Pr n) ∨ (b = .inr false ∧ ¬ Pr n)) (rn_wloop (fun s => ∃ d : Nat, s = (d : Int) ∧ 3 ≤ d ∧ d % 2 = 1 ∧ d ≤ 44725 ∧ ∀ k, 2 ≤ k → k < d → k * k ≤ n → n % k ≠ 0) (fun s => 50000 - s.toNat) ⟨3, rfl, by omega, by omega, by omega, fun k h2 h3 h4 => ?_⟩ ?_) ?_
        · have : k = 2 := by omega
          subst this
          intro h5
          exact h1 ⟨h5, by omega⟩
        · rintro s ⟨d, rfl, hd, hodd, hd2, hi⟩
          have hdd : d * d ≤ 2000325625 := Nat.le_trans (Nat.mul_le_mul hd2 hd2) (by decide)
          rw [mul_cast, wr64 (by omega) (by omega)]
          refine rn_if (fun h1 => rn_gd (by omega) (rn_if (fun h2 => rn_some (.inr ⟨rfl, ?_⟩)) fun h2 => rn_some ?_)) fun h1 => rn_some (.inl ⟨rfl, by omega, fun k hk hkn => ?_⟩)
          · have h1 : d * d ≤ n := by have := of_decide_eq_true h1; omega
            rw [tmod_cast] at h2
            have h2 : n % d = 0 := by have : ((n % d : Nat) : Int) = 0 := by simpa using h2
                                      omega
            exact fun hp => hp.2 d (by omega) h1 h2
          · have h3 : d * d ≤ n := by have := of_decide_eq_true h1; omega
            rw [tmod_cast] at h2
            have h2 : n % d ≠ 0 := by have : ¬ ((n % d : Nat) : Int) = 0 := by simpa using h2
                                      omega
            have hd3 : d ≤ 44722 := by
              rcases Nat.lt_or_ge d 44723 with h | h
              · omega
              · have : 44723 * 44723 ≤ d * d := Nat.mul_le_mul h h
                omega
            rw [wr64 (by omega) (by omega)]
            refine ⟨⟨d + 2, rfl, by omega, by omega, by omega, fun k h4 h5 h6 h7 => ?_⟩, by omega⟩
            rcases Nat.lt_or_ge k d with h | h
            · exact hi k h4 h h6 h7
            · rcases (show k = d ∨ k = d + 1 by omega) with e | e
              · subst e; exact h2 h7
              · -- an even divisor
                have h8 : n % 2 = 0 := by
                  have a1 : k ∣ n := Nat.dvd_of_mod_eq_zero h7
                  have a2 : 2 ∣ k := Nat.dvd_of_mod_eq_zero (by omega)
                  exact Nat.mod_eq_zero_of_dvd (Nat.dvd_trans a2 a1)
                have h9 : 2 * 2 ≤ n := by
                  have := Nat.mul_le_mul h4 h4
                  omega
                exact hi 2 (by omega) (by omega) h9 h8
          · have h1 : n < d * d := by have := of_decide_eq_false h1; omega
            rcases Nat.lt_or_ge k d with h | h
            · exact hi k hk h hkn
            · have := Nat.mul_le_mul h h
              omega
        · rintro b (⟨rfl, hp⟩ | ⟨rfl, hp⟩)
          · exact rn_some (prB_t.2 hp).symm
          · refine rn_some ?_
            symm
            unfold prB
            rw [decide_eq_false_iff_not]
            exact hp
  · have em : (decide (2 ≤ n) && decide (n ≤ 2000000000)) = false := by
      rw [Bool.and_eq_false_iff, decide_eq_false_iff_not, decide_eq_false_iff_not]; omega
    rw [n_isModulus, em]
    simp only [Option.bind_some, Bool.not_false, if_true]
    congr 1
    symm
    rw [Bool.and_eq_false_iff, decide_eq_false_iff_not]
    by_cases hn : n ≤ 2000000000
    · right
      unfold prB
      rw [decide_eq_false_iff_not]
      intro hp
      have := hp.1
      omega
    · exact .inl hn
structure OkG (gr : Group) : Prop where
  p : 3 ≤ gr.P ∧ gr.P ≤ 2000000000
  q : 2 ≤ gr.Q ∧ gr.Q ≤ gr.P - 1
  d : (gr.P.toNat - 1) % gr.Q.toNat = 0
  g : 2 ≤ gr.G ∧ gr.G ≤ gr.P - 1
  pp : Pr gr.P.toNat
  pq : Pr gr.Q.toNat
  o : gr.G.toNat ^ gr.Q.toNat % gr.P.toNat = 1
open Classical in
noncomputable def okG (gr : Group) : Bool := decide (OkG gr)
theorem okG_t {gr : Group} : okG gr = true ↔ OkG gr := by simp [okG]
theorem okG_f {gr : Group} (h : ¬ OkG gr) : okG gr = false := by simp [okG, h]
theorem okG_of {gr : Group} {b : Bool} (h1 : b = true → OkG gr) (h2 : OkG gr → b = true) : b = okG gr := by
  cases hb : b with
  | true => exact (okG_t.2 (h1 hb)).symm
  | false => exact (okG_f fun h => by rw [h2 h] at hb; cases hb).symm
theorem cast_eq {a : Int} (h : 0 ≤ a) : a = ((a.toNat : Nat) : Int) := by omega
theorem n_powI {a e m : Int} (ha : 0 ≤ a) (ha2 : a ≤ 2000000000) (hm : 1 ≤ m) (hm2 : m ≤ 2000000000) (he : 0 ≤ e) (he2 : e ≤ 9223372036854775807) : F_impl_power a e m = some ((a.toNat ^ e.toNat % m.toNat : Nat) : Int) ∧ F_spec_nPower a e m = some ((a.toNat ^ e.toNat % m.toNat : Nat) : Int) := by
  have h1 := n_power (a := a.toNat) (e := e.toNat) (m := m.toNat) (by omega) (by omega) (by omega) (by omega)
  have h2 := n_nPower (a := a.toNat) (e := e.toNat) (m := m.toNat) (by omega) (by omega) (by omega) (by omega)
  rw [← cast_eq ha, ← cast_eq he, ← cast_eq (show 0 ≤ m by omega)] at h1 h2
  exact ⟨h1, h2⟩
theorem and_iff_t {a b : Bool} : (a && b) = true ↔ a = true ∧ b = true := by simp
theorem n_validG (gr : Group) : F_impl_IsValidGroup gr = some (okG gr) := by
  unfold F_impl_IsValidGroup
  refine eq_of_rn (rn_then (ψ := fun b => b = okG gr) ?_ fun b hb => rn_some hb)
  refine rn_call (n_within _ _ _) (rn_if (fun h => ?_) fun h => ?_)
  · have hp : 3 ≤ gr.P ∧ gr.P ≤ 2000000000 := by simpa using h
    rw [wr64 (n := gr.P - 1) (by omega) (by omega)]
    refine rn_call (n_within _ _ _) (rn_if (fun h => ?_) fun h => ?_)
    · have hq : 2 ≤ gr.Q ∧ gr.Q ≤ gr.P - 1 := by simpa using h
      have ed : (gr.P - 1).tmod gr.Q = (((gr.P.toNat - 1) % gr.Q.toNat : Nat) : Int) := by
        rw [cast_eq (show 0 ≤ gr.P - 1 by omega), cast_eq (show 0 ≤ gr.Q by omega), tmod_cast]
        simp only [Int.toNat_natCast]
        congr 2; omega
      refine rn_gd (by omega) ?_
      rw [ed]
      refine rn_if (fun h => ?_) fun h => ?_
      · have hd : (gr.P.toNat - 1) % gr.Q.toNat = 0 := by
          have : (((gr.P.toNat - 1) % gr.Q.toNat : Nat) : Int) = 0 := by simpa using h
          omega
        refine rn_call (n_within _ _ _) (rn_if (fun h => ?_) fun h => ?_)
        · have hg : 2 ≤ gr.G ∧ gr.G ≤ gr.P - 1 := by simpa using h
          refine rn_call (n_isPrime _) (rn_if (fun h => ?_) fun h => ?_)
          · have hpp : Pr gr.P.toNat := by
              rw [and_iff_t, cast_eq (show 0 ≤ gr.P by omega), prB_t] at h
              exact h.2
            refine rn_call (n_isPrime _) (rn_if (fun h => ?_) fun h => ?_)
            · have hpq : Pr gr.Q.toNat := by
                rw [and_iff_t, cast_eq (show 0 ≤ gr.Q by omega), prB_t] at h
                exact h.2
              refine rn_call (n_powI (a := gr.G) (e := gr.Q) (m := gr.P) (by omega) (by omega) (by omega) (by omega) (by omega) (by omega)).1 (rn_some (okG_of (fun h => ⟨hp, hq, hd, hg, hpp, hpq, ?_⟩) fun h => ?_))
              · have : ((gr.G.toNat ^ gr.Q.toNat % gr.P.toNat : Nat) : Int) = 1 := by simpa using h
                omega
              · rw [h.o]; rfl
            · refine rn_some (okG_f fun hk => ?_).symm
              have : (decide (gr.Q ≤ 2000000000) && prB gr.Q) = true := by
                rw [and_iff_t, cast_eq (show 0 ≤ gr.Q by omega), prB_t]
                exact ⟨by simp; omega, hk.pq⟩
              rw [this] at h; cases h
          · refine rn_some (okG_f fun hk => ?_).symm
            have : (decide (gr.P ≤ 2000000000) && prB gr.P) = true := by
              rw [and_iff_t, cast_eq (show 0 ≤ gr.P by omega), prB_t]
              exact ⟨by simp; omega, hk.pp⟩
            rw [this] at h; cases h
        · refine rn_some (okG_f fun hk => ?_).symm
          have := hk.g
          simp at h; omega
      · refine rn_some (okG_f fun hk => ?_).symm
        rw [hk.d] at h; cases h
    · refine rn_some (okG_f fun hk => ?_).symm
      have := hk.q
      simp at h; omega
  · refine rn_some (okG_f fun hk => ?_).symm
    have := hk.p
    simp at h; omega
theorem n_l2Good (gr : Group) : F_spec_l2Good gr = some (okG gr) := by
  unfold F_spec_l2Good
  refine eq_of_rn (rn_then (ψ := fun b => b = okG gr) ?_ fun b hb => rn_some hb)
  refine rn_call (n_l1In _ _ _) (rn_if (fun h => ?_) fun h => ?_)
  · have hp : 3 ≤ gr.P ∧ gr.P ≤ 2000000000 := by simpa using h
    rw [wr64 (n := gr.P - 1) (by omega) (by omega)]
    refine rn_call (n_l1In _ _ _) (rn_if (fun h => ?_) fun h => ?_)
    · have hq : 2 ≤ gr.Q ∧ gr.Q ≤ gr.P - 1 := by simpa using h
      have ed : (gr.P - 1).tmod gr.Q = (((gr.P.toNat - 1) % gr.Q.toNat : Nat) : Int) := by
        rw [cast_eq (show 0 ≤ gr.P - 1 by omega), cast_eq (show 0 ≤ gr.Q by omega), tmod_cast]
        simp only [Int.toNat_natCast]
        congr 2; omega
      refine rn_gd (by omega) ?_
      rw [ed]
      refine rn_if (fun h => ?_) fun h => ?_
      · have hd : (gr.P.toNat - 1) % gr.Q.toNat = 0 := by
          have : (((gr.P.toNat - 1) % gr.Q.toNat : Nat) : Int) = 0 := by simpa using h
          omega
        refine rn_call (n_l1In _ _ _) (rn_if (fun h => ?_) fun h => ?_)
        · have hg : 2 ≤ gr.G ∧ gr.G ≤ gr.P - 1 := by simpa using h
          refine rn_call (n_powI (a := gr.G) (e := gr.Q) (m := gr.P) (by omega) (by omega) (by omega) (by omega) (by omega) (by omega)).2 (rn_if (fun h => ?_) fun h => ?_)
          · have ho : gr.G.toNat ^ gr.Q.toNat % gr.P.toNat = 1 := by
              have : ((gr.G.toNat ^ gr.Q.toNat % gr.P.toNat : Nat) : Int) = 1 := by simpa using h
              omega
            refine rn_call (n_nPrime _ (by omega)) (rn_if (fun h => ?_) fun h => ?_)
            · have hpq : Pr gr.Q.toNat := by
                rw [cast_eq (show 0 ≤ gr.Q by omega), prB_t] at h
                exact h
              refine rn_call (n_nPrime _ (by omega)) (rn_some (okG_of (fun h => ⟨hp, hq, hd, hg, ?_, hpq, ho⟩) fun h => ?_))
              · rw [cast_eq (show 0 ≤ gr.P by omega), prB_t] at h
                exact h
              · rw [cast_eq (show 0 ≤ gr.P by omega), prB_t]
                exact h.pp
            · refine rn_some (okG_f fun hk => ?_).symm
              have : prB gr.Q = true := by
                rw [cast_eq (show 0 ≤ gr.Q by omega), prB_t]
                exact hk.pq
              rw [this] at h; cases h
          · refine rn_some (okG_f fun hk => ?_).symm
            rw [hk.o] at h; cases h
        · refine rn_some (okG_f fun hk => ?_).symm
          have := hk.g
          simp at h; omega
      · refine rn_some (okG_f fun hk => ?_).symm
        rw [hk.d] at h; cases h
    · refine rn_some (okG_f fun hk => ?_).symm
      have := hk.q
      simp at h; omega
  · refine rn_some (okG_f fun hk => ?_).symm
    have := hk.p
    simp at h; omega
-- elements
def hasB (gr : Group) (x : Int) : Bool := decide (1 ≤ x) && decide (x ≤ gr.P - 1) && decide (x.toNat ^ gr.Q.toNat % gr.P.toNat = 1)
def expB (gr : Group) (x : Int) : Bool := decide (0 ≤ x) && decide (x ≤ gr.Q - 1)
theorem n_has {gr : Group} (k : OkG gr) (x : Int) : F_impl_Group_has gr x = some (hasB gr x) := by
  have hp := k.p
  have hq := k.q
  unfold F_impl_Group_has hasB
  rw [wr64 (n := gr.P - 1) (by omega) (by omega), n_within]
  refine eq_of_rn (rn_then (ψ := fun b => b = _) ?_ fun b hb => rn_some hb)
  refine rn_call rfl (rn_if (fun h => ?_) fun h => ?_)
  · have hx : 1 ≤ x ∧ x ≤ gr.P - 1 := by simpa using h
    refine rn_call (n_powI (a := x) (e := gr.Q) (m := gr.P) (by omega) (by omega) (by omega) (by omega) (by omega) (by omega)).1 (rn_some ?_)
    rw [h, Bool.true_and]
    by_cases h1 : x.toNat ^ gr.Q.toNat % gr.P.toNat = 1
    · simp [h1]
    · have : ¬ ((x.toNat ^ gr.Q.toNat % gr.P.toNat : Nat) : Int) = 1 := by omega
      rw [beq_false_of_ne this, decide_eq_false h1]
  · rw [h]; exact rn_some rfl
theorem n_gIs {gr : Group} (k : OkG gr) (l : List Int) : F_spec_gIs gr l = some (l.all (hasB gr)) := by
  have hp := k.p
  have hq := k.q
  unfold F_spec_gIs
  rw [wr64 (n := gr.P - 1) (by omega) (by omega)]
  refine eq_of_rn (rn_then (ψ := fun b => (b = .inl () ∧ l.all (hasB gr) = true) ∨ (b = .inr false ∧ l.all (hasB gr) = false)) (rn_rloop (fun i s => (l.take i).all (hasB gr) = true) rfl ?_ ?_) ?_)
  · rintro i s hi hI
    refine rn_ix hi (rn_then (ψ := fun b => b = !hasB gr l[i]) ?_ ?_)
    · refine rn_call (n_l1In _ _ _) (rn_if (fun h => rn_some ?_) fun h => ?_)
      · have h : (decide (1 ≤ l[i]) && decide (l[i] ≤ gr.P - 1)) = false := by rwa [Bool.not_eq_true'] at h
        simp [hasB, h]
      · have h : (decide (1 ≤ l[i]) && decide (l[i] ≤ gr.P - 1)) = true := by simpa using h
        have hx : 1 ≤ l[i] ∧ l[i] ≤ gr.P - 1 := by simpa using h
        refine rn_call (n_powI (a := l[i]) (e := gr.Q) (m := gr.P) (by omega) (by omega) (by omega) (by omega) (by omega) (by omega)).2 (rn_some ?_)
        simp only [hasB, h, Bool.true_and]
        by_cases h1 : l[i].toNat ^ gr.Q.toNat % gr.P.toNat = 1
        · simp [h1]
        · have : ¬ ((l[i].toNat ^ gr.Q.toNat % gr.P.toNat : Nat) : Int) = 1 := by omega
          simp only [bne, beq_false_of_ne this, decide_eq_false h1]
    · rintro b rfl
      refine rn_if (fun h => rn_some (.inr ⟨rfl, ?_⟩)) fun h => rn_some ?_
      · have h : hasB gr l[i] = false := by simpa using h
        rw [List.all_eq_false]
        exact ⟨l[i], List.getElem_mem hi, by simp [h]⟩
      · have h : hasB gr l[i] = true := by simpa using h
        show (l.take (i + 1)).all (hasB gr) = true
        rw [List.take_succ_eq_append_getElem hi, List.all_append, hI]
        simp [h]
  · rintro s hI
    rw [List.take_length] at hI
    exact .inl ⟨rfl, hI⟩
  · rintro b (⟨rfl, h⟩ | ⟨rfl, h⟩)
    · exact rn_some h.symm
    · exact rn_some h.symm
theorem n_l1All (l : List Int) (a b : Int) : F_spec_l1All l a b = some (l.all fun x => decide (a ≤ x) && decide (x ≤ b)) := by
  unfold F_spec_l1All
  refine eq_of_rn (rn_then (ψ := fun c => (c = .inl () ∧ (l.all fun x => decide (a ≤ x) && decide (x ≤ b)) = true) ∨ (c = .inr false ∧ (l.all fun x => decide (a ≤ x) && decide (x ≤ b)) = false)) (rn_rloop (fun i s => ((l.take i).all fun x => decide (a ≤ x) && decide (x ≤ b)) = true) rfl ?_ ?_) ?_)
  · rintro i s hi hI
    refine rn_ix hi (rn_call (n_l1In _ _ _) (rn_if (fun h => rn_some (.inr ⟨rfl, ?_⟩)) fun h => rn_some ?_))
    · rw [List.all_eq_false]
      exact ⟨l[i], List.getElem_mem hi, by rw [Bool.not_eq_true'] at h; rw [h]; simp⟩
    · show ((l.take (i + 1)).all fun x => decide (a ≤ x) && decide (x ≤ b)) = true
      rw [List.take_succ_eq_append_getElem hi, List.all_append, hI]
      simpa using h
  · rintro s hI
    rw [List.take_length] at hI
    exact .inl ⟨rfl, hI⟩
  · rintro c (⟨rfl, h⟩ | ⟨rfl, h⟩)
    · exact rn_some h.symm
    · exact rn_some h.symm
theorem n_gExps {gr : Group} (h : 0 ≤ gr.Q) (h2 : gr.Q ≤ 2000000000) (l : List Int) : F_spec_gExps gr l = some (l.all (expB gr)) := by
  unfold F_spec_gExps
  rw [wr64 (by omega) (by omega), n_l1All]; rfl
theorem n_isExp {gr : Group} (h : 0 ≤ gr.Q) (h2 : gr.Q ≤ 2000000000) (x : Int) : F_impl_Group_isExp gr x = some (expB gr x) := by
  unfold F_impl_Group_isExp
  rw [wr64 (by omega) (by omega), n_within]; rfl
-- powers and products
def powG (gr : Group) (x e : Int) : Int := ((x.toNat ^ (e % gr.Q).toNat % gr.P.toNat : Nat) : Int)
theorem powG_bd {gr : Group} (k : OkG gr) (x e : Int) : 0 ≤ powG gr x e ∧ powG gr x e ≤ gr.P - 1 := by
  have hp := k.p
  unfold powG
  have := Nat.mod_lt (x.toNat ^ (e % gr.Q).toNat) (y := gr.P.toNat) (by omega)
  omega
theorem n_pow {gr : Group} (k : OkG gr) {x : Int} (h0 : 0 ≤ x) (h1 : x ≤ 2000000000) (e : Int) : F_impl_Group_pow gr x e = some (powG gr x e) ∧ F_spec_gExp gr x e = some (powG gr x e) := by
  have hp := k.p
  have hq := k.q
  have b1 : 0 ≤ e % gr.Q := Int.emod_nonneg _ (by omega)
  have b2 : e % gr.Q < gr.Q := Int.emod_lt_of_pos _ (by omega)
  have hw := n_powI (a := x) (e := e % gr.Q) (m := gr.P) (by omega) (by omega) (by omega) (by omega) b1 (by omega)
  unfold F_impl_Group_pow F_spec_gExp
  rw [n_mod (by omega) (by omega), n_nMod (by omega) (by omega), Option.bind_some, Option.bind_some, hw.1, hw.2]
  exact ⟨rfl, rfl⟩
theorem n_gExp {gr : Group} (k : OkG gr) {x : Int} (h0 : 0 ≤ x) (h1 : x ≤ 2000000000) (e : Int) : F_spec_gExp gr x e = some (powG gr x e) := by
  have hp := k.p
  have hq := k.q
  have b1 : 0 ≤ e % gr.Q := Int.emod_nonneg _ (by omega)
  have b2 : e % gr.Q < gr.Q := Int.emod_lt_of_pos _ (by omega)
  have hw := n_powI (a := x) (e := e % gr.Q) (m := gr.P) (by omega) (by omega) (by omega) (by omega) b1 (by omega)
  unfold F_spec_gExp
  rw [n_nMod (by omega) (by omega), Option.bind_some, hw.2]
  rfl
def mulG (gr : Group) (l : List Int) : Int := l.foldl (fun o x => o * x % gr.P) 1
theorem foldG_bd {gr : Group} (h : 1 ≤ gr.P) : ∀ (l : List Int) (o : Int), 0 ≤ o → o ≤ gr.P → (∀ x ∈ l, 0 ≤ x) → 0 ≤ l.foldl (fun o x => o * x % gr.P) o ∧ l.foldl (fun o x => o * x % gr.P) o ≤ gr.P := by
  intro l
  induction l with
  | nil => intro o h0 h1 _; exact ⟨h0, h1⟩
  | cons x l ih =>
    intro o h0 h1 h2
    exact ih _ (Int.emod_nonneg _ (by omega)) (Int.le_of_lt (Int.emod_lt_of_pos (o * x) (show 0 < gr.P by omega))) fun y hy => h2 y (List.mem_cons_of_mem _ hy)
theorem mul_eq (gr : Group) (l : List Int) : F_spec_gMul gr l = F_impl_Group_mul gr l := rfl
theorem n_mul {gr : Group} (k : OkG gr) {l : List Int} (hl : ∀ x ∈ l, 0 ≤ x ∧ x ≤ 2000000000) : F_impl_Group_mul gr l = some (mulG gr l) := by
  have hp := k.p
  unfold F_impl_Group_mul
  refine eq_of_rn (rn_then (ψ := fun b => b = mulG gr l) (rn_rloop (fun i s => s = (l.take i).foldl (fun o x => o * x % gr.P) 1) rfl ?_ ?_) fun b hb => rn_some hb)
  · rintro i s hi rfl
    have hb := foldG_bd (gr := gr) (by omega) (l.take i) 1 (by omega) (by omega) fun x hx => (hl x (List.mem_of_mem_take hx)).1
    have hx := hl l[i] (List.getElem_mem hi)
    refine rn_ix hi (rn_gd (by omega) (rn_some ?_))
    show _ = (l.take (i + 1)).foldl _ _
    rw [List.take_succ_eq_append_getElem hi, List.foldl_append]
    generalize (l.take i).foldl (fun o x => o * x % gr.P) 1 = o at hb ⊢
    have b1 : 0 ≤ o * l[i] := Int.mul_nonneg hb.1 hx.1
    have b2 : o * l[i] ≤ 2000000000 * 2000000000 := Int.mul_le_mul (by omega) hx.2 hx.1 (by omega)
    show (IntKind.i64.wrap (o * l[i])).tmod gr.P = o * l[i] % gr.P
    rw [wr64 (by omega) (by omega), Int.tmod_eq_emod_of_nonneg b1]
  · rintro s rfl
    rw [List.take_length]; rfl
theorem n_gMul {gr : Group} (k : OkG gr) {l : List Int} (hl : ∀ x ∈ l, 0 ≤ x ∧ x ≤ 2000000000) : F_spec_gMul gr l = some (mulG gr l) := by rw [mul_eq]; exact n_mul k hl
theorem mulG_bd {gr : Group} (k : OkG gr) {l : List Int} (hl : ∀ x ∈ l, 0 ≤ x ∧ x ≤ 2000000000) : 0 ≤ mulG gr l ∧ mulG gr l ≤ gr.P := by
  have hp := k.p
  exact foldG_bd (by omega) l 1 (by omega) (by omega) fun x hx => (hl x hx).1
-- ciphertexts
theorem n_hasAll {gr : Group} (k : OkG gr) (l : List Int) : F_impl_Group_hasAll gr l = some (l.all (hasB gr)) := by
  unfold F_impl_Group_hasAll F_impl_areAll__impl_Group_has F_slices_ContainsFunc_int_int__impl_areAll_1_impl_Group_has F_slices_IndexFunc_int_int__impl_areAll_1_impl_Group_has
  refine eq_of_rn (rn_then (ψ := fun b => b = l.all (hasB gr)) (rn_then (ψ := fun b => b = !l.all (hasB gr)) (rn_then (ψ := fun j => (j = -1 ∧ l.all (hasB gr) = true) ∨ (0 ≤ j ∧ l.all (hasB gr) = false)) (rn_then (ψ := fun b => (b = .inl () ∧ l.all (hasB gr) = true) ∨ (∃ j, b = .inr j ∧ 0 ≤ j ∧ l.all (hasB gr) = false)) (rn_rloop (fun i s => (l.take i).all (hasB gr) = true) rfl ?_ ?_) ?_) ?_) ?_) ?_)
  · rintro i s hi hI
    have hc : F_impl_areAll_1__impl_Group_has l[i] gr = some (!hasB gr l[i]) := by
      unfold F_impl_areAll_1__impl_Group_has
      rw [n_has k]; rfl
    refine rn_ix hi (rn_call hc (rn_if (fun h => rn_some (.inr ⟨i, rfl, by omega, ?_⟩)) fun h => rn_some ?_))
    · rw [List.all_eq_false]
      exact ⟨l[i], List.getElem_mem hi, by rw [Bool.not_eq_true'] at h; rw [h]; simp⟩
    · show (l.take (i + 1)).all (hasB gr) = true
      rw [List.take_succ_eq_append_getElem hi, List.all_append, hI]
      simpa using h
  · rintro s hI
    rw [List.take_length] at hI
    exact .inl ⟨rfl, hI⟩
  · rintro b (⟨rfl, h⟩ | ⟨j, rfl, h0, h⟩)
    · exact rn_some (.inl ⟨rfl, h⟩)
    · exact rn_some (.inr ⟨h0, h⟩)
  · rintro j (⟨rfl, h⟩ | ⟨h0, h⟩)
    · exact rn_some (by rw [h]; rfl)
    · exact rn_some (by rw [h]; simpa using h0)
  · rintro b rfl
    exact rn_some (by simp)
  · rintro b rfl
    exact rn_some rfl
theorem has_bd {gr : Group} {x : Int} (h : hasB gr x = true) : 1 ≤ x ∧ x ≤ gr.P - 1 := by
  simp only [hasB, Bool.and_eq_true, decide_eq_true_eq] at h
  exact h.1
theorem ite_n {α : Type} (b : Bool) (u v : α) : (if b = true then some u else some v) = some (if (!b) = true then v else u) := by cases b <;> rfl
theorem ite_m {α : Type} (b : Bool) (u v : α) : (if (!b) = true then some u else some v) = some (if b = true then v else u) := by cases b <;> rfl
theorem n_first {β : Type} {body : Int → Unit → Option (Stp Unit (Unit ⊕ β))} (m : Nat) (p : Nat → Bool) (val : Nat → β) (h : ∀ k, k < m → body (k : Int) () = some (if p k = true then .go () else .out (.inr (val k)))) :
    (rloop body (fun _ => .inl ()) m 0 () = some (.inl ()) ∧ ∀ k, k < m → p k = true) ∨ ∃ k, k < m ∧ p k = false ∧ (∀ j, j < k → p j = true) ∧ rloop body (fun _ => .inl ()) m 0 () = some (.inr (val k)) := by
  have key : Rn (rloop body (fun _ => Sum.inl ()) m 0 ()) (fun b => (b = .inl () ∧ ∀ k, k < m → p k = true) ∨ ∃ k, k < m ∧ p k = false ∧ (∀ j, j < k → p j = true) ∧ b = .inr (val k)) := by
    refine rn_rloop (fun k _ => ∀ j, j < k → p j = true) (fun j hj => by omega) ?_ fun s hs => .inl ⟨rfl, hs⟩
    intro k s hk hI
    refine ⟨_, h k hk, ?_⟩
    cases hp : p k with
    | true =>
      intro j hj
      rcases Nat.lt_or_ge j k with h | h
      · exact hI j h
      · have : j = k := by omega
        rw [this]; exact hp
    | false => exact .inr ⟨k, hk, hp, hI, rfl⟩
  obtain ⟨b, e, h1 | ⟨k, h1, h2, h3, h4⟩⟩ := key
  · exact .inl ⟨by rw [e, h1.1], h1.2⟩
  · exact .inr ⟨k, h1, h2, h3, by rw [e, h4]⟩
theorem n_index (l : List Int) (x : Int) : (F_slices_Index_int_int l x = some (-1) ∧ ¬ x ∈ l) ∨ ∃ k, ∃ h : k < l.length, F_slices_Index_int_int l x = some (k : Int) ∧ l[k] = x ∧ ∀ j (hj : j < k), l[j]'(by omega) ≠ x := by
  unfold F_slices_Index_int_int
  rcases n_first l.length (fun k => (l[k]?).any fun y => !(x == y)) (fun k => (k : Int)) (body := fun i8 s7 => (ix l i8).bind fun x17 => if (x == x17) = true then some (.out (.inr i8)) else some (.go ())) (fun k hk => by
    rw [ix_at hk, Option.bind_some, List.getElem?_eq_getElem hk]
    exact ite_n _ _ _) with ⟨e, h1⟩ | ⟨k, h1, h2, h3, e⟩
  · refine .inl ⟨by rw [e]; rfl, fun hx => ?_⟩
    obtain ⟨k, hk, rfl⟩ := List.mem_iff_getElem.1 hx
    have := h1 k hk
    rw [List.getElem?_eq_getElem hk] at this
    simp at this
  · refine .inr ⟨k, h1, by rw [e]; rfl, ?_, fun j hj => ?_⟩
    · rw [List.getElem?_eq_getElem h1] at h2
      simp at h2
      exact h2.symm
    · have := h3 j hj
      rw [List.getElem?_eq_getElem (by omega)] at this
      simp at this
      exact fun e => this e.symm
theorem n_contains (l : List Int) (x : Int) : F_slices_Contains_int_int l x = some (l.contains x) := by
  unfold F_slices_Contains_int_int
  rcases n_index l x with ⟨e, h⟩ | ⟨k, hk, e, h, _⟩
  · rw [e]
    have : l.contains x = false := by simpa using h
    rw [this]; rfl
  · rw [e]
    have : l.contains x = true := by
      have := List.getElem_mem hk
      rw [h] at this
      simpa using this
    rw [this]
    simp
theorem areAll_gen {l : List Int} {p : Int → Bool} {f : Int → Option Bool} (hf : ∀ x ∈ l, f x = some (!p x)) :
    ((((rloop (σ := Unit) (β := Unit ⊕ Int) (fun i8 s7 => (ix l i8).bind fun x17 => (f x17).bind fun z20 => if z20 = true then (some (.out (.inr i8))) else (some (.go ()))) (fun s7 => .inl ()) (l.length) 0 () : Option (Unit ⊕ Int)).bind (Sum.elim (fun (x5 : Unit) => some (-1)) some)).bind fun z1 => some (decide (0 ≤ z1))).bind fun z1 => some (!z1)) = some (l.all p) := by
  rcases n_first l.length (fun k => (l[k]?).any p) (fun k => (k : Int)) (body := fun i8 s7 => (ix l i8).bind fun x17 => (f x17).bind fun z20 => if z20 = true then (some (.out (.inr i8))) else (some (.go ()))) (fun k hk => by
    rw [ix_at hk, Option.bind_some, hf _ (List.getElem_mem hk), Option.bind_some, List.getElem?_eq_getElem hk]
    exact ite_m _ _ _) with ⟨e, h1⟩ | ⟨k, h1, h2, h3, e⟩
  · rw [e]
    have : l.all p = true := by
      rw [List.all_eq_true]
      intro x hx
      obtain ⟨k, hk, rfl⟩ := List.mem_iff_getElem.1 hx
      have := h1 k hk
      rw [List.getElem?_eq_getElem hk] at this
      exact this
    rw [this]; rfl
  · rw [e]
    have : l.all p = false := by
      rw [List.all_eq_false]
      refine ⟨l[k], List.getElem_mem h1, ?_⟩
      rw [List.getElem?_eq_getElem h1] at h2
      simpa using h2
    rw [this]
    simp
def dg (q : Nat) : Nat → Nat → List Int
  | 0, _ => []
  | k + 1, n => ((n % q : Nat) : Int) :: dg q k (n / q)
theorem n_areExps {gr : Group} (h : 0 ≤ gr.Q) (h2 : gr.Q ≤ 2000000000) (l : List Int) : F_impl_Group_areExps gr l = some (l.all (expB gr)) := by
  have h1 : F_impl_areAll__impl_Group_isExp l gr = some (l.all (expB gr)) := areAll_gen (f := fun x => F_impl_areAll_1__impl_Group_isExp x gr) fun x _ => by
    unfold F_impl_areAll_1__impl_Group_isExp
    rw [n_isExp h h2]; rfl
  unfold F_impl_Group_areExps
  rw [h1]; rfl
theorem Pr_gcd {n d : Nat} (h : Pr n) (hd : d % n ≠ 0) : Nat.gcd n d = 1 := by
  obtain ⟨k, hk⟩ := Nat.gcd_dvd_left n d
  have hn := h.1
  have h0 : 0 < Nat.gcd n d := Nat.gcd_pos_of_pos_left d (by omega)
  have hdv := Nat.gcd_dvd_right n d
  generalize Nat.gcd n d = g at hk h0 hdv
  apply Classical.byContradiction
  intro hg
  have hg2 : 2 ≤ g := by omega
  have hk2 : 2 ≤ k := by
    rcases Nat.lt_or_ge k 2 with h | h
    · have : k = 0 ∨ k = 1 := by omega
      rcases this with rfl | rfl
      · omega
      · rw [Nat.mul_one] at hk
        rw [← hk] at hdv
        exact absurd (Nat.mod_eq_zero_of_dvd hdv) hd
    · exact h
  rcases Nat.le_total g k with h' | h'
  · exact h.2 g hg2 (by rw [hk]; exact Nat.mul_le_mul_left g h') (by rw [hk]; exact Nat.mul_mod_right g k)
  · exact h.2 k hk2 (by rw [hk]; exact Nat.mul_le_mul_right k h') (by rw [hk]; exact Nat.mul_mod_left g k)
theorem Pr_mul {n : Nat} (h : Pr n) {a b : Int} (hab : (a * b) % (n : Int) = 0) : a % (n : Int) = 0 ∨ b % (n : Int) = 0 := by
  have h1 : n ∣ a.natAbs * b.natAbs := by
    rw [← Int.natAbs_mul]
    exact Int.ofNat_dvd_left.1 (Int.dvd_of_emod_eq_zero hab)
  by_cases ha : a.natAbs % n = 0
  · exact .inl (Int.emod_eq_zero_of_dvd (Int.ofNat_dvd_left.2 (Nat.dvd_of_mod_eq_zero ha)))
  · exact .inr (Int.emod_eq_zero_of_dvd (Int.ofNat_dvd_left.2 (Nat.Coprime.dvd_of_dvd_mul_left (Pr_gcd h ha) h1)))
def byL (s : ByteArray) : List Int := s.data.toList.map fun b => (b.toNat : Int)
theorem byL_len (s : ByteArray) : (byL s).length = s.size := by
  show (s.data.toList.map _).length = s.data.size
  rw [List.length_map, Array.length_toList]
theorem byL_bd (s : ByteArray) : ∀ x ∈ byL s, 0 ≤ x ∧ x ≤ 255 := by
  intro x hx
  obtain ⟨b, _, rfl⟩ := List.mem_map.1 hx
  have := b.toNat_lt
  omega
theorem ixs_at {s : ByteArray} {k : Nat} (h : k < s.size) : ixs s (k : Int) = some ((byL s)[k]'(by rw [byL_len]; exact h)) := by
  have h2 : k < s.data.size := h
  simp [ixs, byL, h]
  rfl
theorem n_with (s : ByteArray) (l : List Int) (hs : s.size ≤ 1000000) (hl : l.length ≤ 1000000000000) : F_spec_l3With s l = some ((s.size : Int) :: byL s ++ l) := by
  unfold F_spec_l3With
  refine eq_of_rn (rn_then (ψ := fun x => x = (s.size : Int) :: byL s) (rn_cloop s.size (fun n p => n ≤ s.size ∧ p = ((s.size : Int) :: (byL s).take n, (n : Int))) ⟨by omega, by simp⟩ ?_ ?_) ?_)
  · rintro n p hn ⟨_, rfl⟩
    have hn2 : n < (byL s).length := by rw [byL_len]; exact hn
    have hb := byL_bd s _ (List.getElem_mem hn2)
    refine rn_if (fun _ => ?_) fun h => absurd h (by simp; omega)
    refine rn_call (ixs_at hn) (rn_gd ?_ (rn_some ⟨by omega, ?_⟩))
    · simp only [List.length_cons, List.length_take, byL_len]; omega
    · show ((s.size : Int) :: (byL s).take n ++ [_], _) = _
      rw [wr64 (by omega) (by omega), wr64 (by omega) (by omega), List.cons_append, List.take_append_getElem hn2]
      rfl
  · rintro p ⟨_, rfl⟩
    refine rn_if (fun h => absurd h (by simp)) fun _ => rn_some ?_
    show (s.size : Int) :: (byL s).take s.size = _
    rw [List.take_of_length_le (by rw [byL_len]; omega)]
  · rintro _ rfl
    refine rn_gd ?_ (rn_some rfl)
    simp only [List.length_cons, byL_len]; omega
theorem n_labelled (s : ByteArray) (l : List Int) (hs : s.size ≤ 1000000) (hl : l.length ≤ 1000000000000) : F_impl_labelled s l = some ((s.size : Int) :: byL s ++ l) := n_with s l hs hl
def digB (x : Int) : Bool := decide (0 ≤ x) && decide (x ≤ 4611686018427387903)
theorem digB_t {x : Int} : digB x = true ↔ 0 ≤ x ∧ x ≤ 4611686018427387903 := by simp [digB]
theorem n_isDigest (x : Int) : F_impl_isDigest x = some (digB x) := by
  unfold F_impl_isDigest
  rw [n_within]; rfl
theorem n_l3Digest (x : Int) : F_spec_l3Digest x = some (digB x) := by
  unfold F_spec_l3Digest
  rw [n_l1In]; rfl
theorem byL_dig (s : ByteArray) : (byL s).all digB = true := by
  rw [List.all_eq_true]
  intro x hx
  have := byL_bd s x hx
  exact digB_t.2 ⟨by omega, by omega⟩
def hs1 (c s k : Int) : Int := (c * s + k + 1) % 2147483647
def absH (p : Int × Int) (x : Int) : Int × Int := (hs1 48271 (hs1 48271 p.1 (x % 2147483648)) (x / 2147483648), hs1 69621 (hs1 69621 p.2 (x % 2147483648)) (x / 2147483648))
def hashN (l : List Int) : Int := let p := (((l.length : Int) :: l).foldl absH (1, 2)); p.1 * 2147483648 + p.2
theorem hs1_bd (c s k : Int) : 0 ≤ hs1 c s k ∧ hs1 c s k ≤ 2147483646 := by unfold hs1; omega
theorem hs1_eq {c s k : Int} (hc : c = 48271 ∨ c = 69621) (hs : 0 ≤ s ∧ s ≤ 2147483646) (hk : 0 ≤ k ∧ k ≤ 2147483648) : (IntKind.i64.wrap ((IntKind.i64.wrap ((IntKind.i64.wrap (c * s)) + k)) + 1)).tmod 2147483647 = hs1 c s k := by
  rcases hc with rfl | rfl
  · rw [wr64 (n := 48271 * s) (by omega) (by omega), wr64 (n := 48271 * s + k) (by omega) (by omega), wr64 (by omega) (by omega), Int.tmod_eq_emod_of_nonneg (by omega)]; rfl
  · rw [wr64 (n := 69621 * s) (by omega) (by omega), wr64 (n := 69621 * s + k) (by omega) (by omega), wr64 (by omega) (by omega), Int.tmod_eq_emod_of_nonneg (by omega)]; rfl
def okP (p : Int × Int) : Prop := (0 ≤ p.1 ∧ p.1 ≤ 2147483646) ∧ (0 ≤ p.2 ∧ p.2 ≤ 2147483646)
theorem absH_ok (p : Int × Int) (x : Int) : okP (absH p x) := ⟨hs1_bd _ _ _, hs1_bd _ _ _⟩
theorem fold_ok : ∀ (l : List Int) (p : Int × Int), okP p → okP (l.foldl absH p)
  | [], _, h => h
  | x :: l, p, _ => fold_ok l _ (absH_ok p x)
theorem hashN_dig (l : List Int) : digB (hashN l) = true := by
  obtain ⟨h1, h2⟩ := fold_ok ((l.length : Int) :: l) (1, 2) ⟨by decide, by decide⟩
  refine digB_t.2 ?_
  unfold hashN
  dsimp only
  omega
theorem n_absorb {p : Int × Int} {x : Int} (hp : okP p) (hx : digB x = true) : F_spec_l3State_absorb__io0 p.1 p.2 x = some (absH p x) := by
  obtain ⟨h1, h2⟩ := hp
  have hx := digB_t.1 hx
  have e1 : x.tmod 2147483648 = x % 2147483648 := Int.tmod_eq_emod_of_nonneg hx.1
  have e2 : IntKind.i64.wrap (x.tdiv 2147483648) = x / 2147483648 := by
    rw [Int.tdiv_eq_ediv_of_nonneg hx.1, wr64 (by omega) (by omega)]
  have b1 : 0 ≤ x % 2147483648 ∧ x % 2147483648 ≤ 2147483648 := by omega
  have b2 : 0 ≤ x / 2147483648 ∧ x / 2147483648 ≤ 2147483648 := by omega
  have h0 : ix [x % 2147483648, x / 2147483648] 0 = some (x % 2147483648) := rfl
  have h1' : ix [x % 2147483648, x / 2147483648] 1 = some (x / 2147483648) := rfl
  unfold F_spec_l3State_absorb__io0
  rw [e1, e2, Option.bind_some, wloop_eq]
  simp only [List.length_cons, List.length_nil, show decide ((0 : Int) < ((0 + 1 + 1 : Nat) : Int)) = true from rfl, if_true, h0, Option.bind_some, hs1_eq (.inl rfl) h1 b1, hs1_eq (.inr rfl) h2 b1]
  rw [wloop_eq]
  simp only [show IntKind.i64.wrap (0 + 1) = 1 from rfl, show decide ((1 : Int) < ((0 + 1 + 1 : Nat) : Int)) = true from rfl, if_true, h1', Option.bind_some, hs1_eq (.inl rfl) (hs1_bd _ _ _) b2, hs1_eq (.inr rfl) (hs1_bd _ _ _) b2]
  rw [wloop_eq]
  simp only [show IntKind.i64.wrap (1 + 1) = 2 from rfl, show decide ((2 : Int) < ((0 + 1 + 1 : Nat) : Int)) = false from rfl, Bool.false_eq_true, if_false, Option.bind_some]
  rfl
theorem all_dig {l : List Int} (h : l.all digB = true) {k : Nat} (hk : k < l.length) : digB l[k] = true := List.all_eq_true.1 h _ (List.getElem_mem hk)
theorem n_hInts {l : List Int} (hl : l.length ≤ 1000000000000) (hd : l.all digB = true) : F_spec_hInts l = some (hashN l) := by
  unfold F_spec_hInts
  have e0 := n_absorb (p := (1, 2)) (x := (l.length : Int)) ⟨by decide, by decide⟩ (digB_t.2 ⟨by omega, by omega⟩)
  refine eq_of_rn (rn_call e0 (rn_then (ψ := fun p => p = ((l.length : Int) :: l).foldl absH (1, 2)) (rn_rloop (fun n p => p = ((l.length : Int) :: l.take n).foldl absH (1, 2)) rfl ?_ ?_) ?_))
  · rintro n p hn rfl
    refine rn_ix hn (rn_call (n_absorb (fold_ok _ _ ⟨by decide, by decide⟩) (all_dig hd hn)) (rn_some ?_))
    show absH _ _ = _
    rw [← List.take_append_getElem hn, ← List.cons_append, List.foldl_append]
    rfl
  · rintro p rfl
    show (((l.length : Int) :: l.take l.length).foldl absH (1, 2)) = _
    rw [List.take_length]
  · rintro p rfl
    obtain ⟨h1, h2⟩ := fold_ok ((l.length : Int) :: l) (1, 2) ⟨by decide, by decide⟩
    refine rn_some ?_
    rw [wr64 (n := _ * 2147483648) (by omega) (by omega), wr64 (by omega) (by omega)]
    rfl
theorem and_mask {x : Int} (hx : digB x = true) : IntKind.i64.wrap (BitVec.ofInt IntKind.i64.bits x &&& BitVec.ofInt IntKind.i64.bits 2147483647).toNat = x % 2147483648 := by
  have hx := digB_t.1 hx
  obtain ⟨n, rfl⟩ := Int.eq_ofNat_of_zero_le hx.1
  have h1 : (BitVec.ofInt IntKind.i64.bits ((n : Nat) : Int) &&& BitVec.ofInt IntKind.i64.bits 2147483647).toNat = n % 2147483648 := by
    rw [BitVec.toNat_and]
    have a1 : (BitVec.ofInt IntKind.i64.bits (n : Int)).toNat = n := by
      rw [BitVec.toNat_ofInt]
      have : IntKind.i64.bits = 64 := rfl
      rw [this]
      omega
    have a2 : (BitVec.ofInt IntKind.i64.bits 2147483647).toNat = 2 ^ 31 - 1 := by decide
    rw [a1, a2, Nat.and_two_pow_sub_one_eq_mod]
  rw [h1, wr64 (by omega) (by omega)]
  omega
theorem n_hash {l : List Int} (hl : l.length ≤ 1000000000000) (hd : l.all digB = true) : F_impl_hash l = some (hashN l) := by
  unfold F_impl_hash
  have hd2 : ((l.length : Int) :: l).all digB = true := by
    rw [List.all_cons, hd, Bool.and_true]
    exact digB_t.2 ⟨by omega, by omega⟩
  refine eq_of_rn (rn_gd (by simp only [List.length_cons, List.length_nil]; omega) (rn_call rfl (rn_then (ψ := fun p => p = ((l.length : Int) :: l).foldl absH (1, 2)) (rn_rloop (fun n p => p = (((l.length : Int) :: l).take n).foldl absH (1, 2)) rfl ?_ ?_) ?_)))
  · rintro n p hn rfl
    have ok := fold_ok ((((l.length : Int) :: l)).take n) (1, 2) ⟨by decide, by decide⟩
    have dg := all_dig hd2 hn
    have b := digB_t.1 dg
    have ef : (((l.length : Int) :: l)[n]).fdiv 2147483648 = ((l.length : Int) :: l)[n] / 2147483648 := Int.fdiv_eq_ediv_of_nonneg _ (by omega)
    have hn' : n < ((l.length : Int) :: l).length := hn
    refine rn_ix hn (rn_some ?_)
    show (_, _) = _
    simp only [List.singleton_append]
    rw [and_mask dg, ef, hs1_eq (.inl rfl) ok.1 (by omega), hs1_eq (.inr rfl) ok.2 (by omega), hs1_eq (.inl rfl) (hs1_bd _ _ _) (by omega), hs1_eq (.inr rfl) (hs1_bd _ _ _) (by omega),
      ← List.take_append_getElem hn', List.foldl_append]
    rfl
  · rintro p rfl
    show ((((l.length : Int) :: l).take ([(l.length : Int)] ++ l).length).foldl absH (1, 2)) = _
    rw [List.singleton_append, List.take_length]
  · rintro p rfl
    obtain ⟨h1, h2⟩ := fold_ok ((l.length : Int) :: l) (1, 2) ⟨by decide, by decide⟩
    refine rn_some ?_
    rw [wr64 (n := _ * 2147483648) (by omega) (by omega), wr64 (by omega) (by omega)]
    rfl
def hshL (s : ByteArray) (l : List Int) : Int := hashN ((s.size : Int) :: byL s ++ l)
theorem hshL_dig (s : ByteArray) (l : List Int) : digB (hshL s l) = true := hashN_dig _
def labB (s : ByteArray) (l : List Int) : Bool := decide (s.size ≤ 40) && decide (1 + s.size + l.length ≤ 400) && l.all digB
theorem lab_all {s : ByteArray} {l : List Int} (hs : s.size ≤ 1000000) : ((s.size : Int) :: byL s ++ l).all digB = l.all digB := by
  rw [List.cons_append, List.all_cons, List.all_append, byL_dig, digB_t.2 ⟨by omega, by omega⟩, Bool.true_and, Bool.true_and]
theorem n_hLabelled {s : ByteArray} {l : List Int} (hs : s.size ≤ 1000000) (hl : l.length ≤ 100000000000) (hd : l.all digB = true) : F_spec_hLabelled s l = some (hshL s l) := by
  unfold F_spec_hLabelled
  rw [n_with s l hs (by omega), Option.bind_some, n_hInts (by simp [byL_len]; omega) (by rw [lab_all hs]; exact hd)]
  rfl
theorem n_areDigests (l : List Int) : F_impl_areDigests l = some (decide (l.length ≤ 400) && l.all digB) := by
  unfold F_impl_areDigests
  have h1 : F_impl_areAll__impl_isDigest l = some (l.all digB) := areAll_gen (f := F_impl_areAll_1__impl_isDigest) fun x _ => by
    unfold F_impl_areAll_1__impl_isDigest
    rw [n_isDigest]; rfl
  rw [h1]
  by_cases h : l.length ≤ 400
  · rw [if_pos (by simp; omega)]; simp [h]
  · rw [if_neg (by simp; omega)]; simp [h]
theorem n_HashInts (l : List Int) : F_impl_HashInts l = some (if (decide (l.length ≤ 400) && l.all digB) = true then (hashN l, true) else (0, false)) := by
  unfold F_impl_HashInts
  rw [n_areDigests, Option.bind_some]
  cases h : (decide (l.length ≤ 400) && l.all digB) with
  | true =>
    simp only [Bool.and_eq_true, decide_eq_true_eq] at h
    rw [n_hash (by omega) h.2]; rfl
  | false => rfl
theorem n_HashLabelled (s : ByteArray) (l : List Int) : F_impl_HashLabelled s l = some (if labB s l = true then (hshL s l, true) else (0, false)) := by
  unfold F_impl_HashLabelled
  by_cases h1 : s.size ≤ 40
  · by_cases h2 : l.length ≤ 400
    · rw [if_neg (by simp; omega), Option.bind_some, if_neg (by simp; omega), n_labelled s l (by omega) (by omega), Option.bind_some, n_HashInts, lab_all (by omega)]
      have e : ((s.size : Int) :: byL s ++ l).length = 1 + s.size + l.length := by simp [byL_len]; omega
      rw [e]
      have e2 : labB s l = (decide (1 + s.size + l.length ≤ 400) && l.all digB) := by simp [labB, h1]
      rw [e2]
      cases decide (1 + s.size + l.length ≤ 400) <;> cases l.all digB <;> rfl
    · rw [if_neg (by simp; omega), Option.bind_some, if_pos (by simp; omega)]
      have : labB s l = false := by
        have : ¬ 1 + s.size + l.length ≤ 400 := by omega
        simp [labB, this]
      rw [this]; rfl
  · rw [if_pos (by simp; omega), Option.bind_some, if_pos rfl]
    have : labB s l = false := by simp [labB, h1]
    rw [this]; rfl
-- derived elements
theorem Pr_pow {p : Nat} (hp : Pr p) {b : Nat} (h1 : 1 ≤ b) (h2 : b < p) : ∀ e : Nat, b ^ e % p ≠ 0
  | 0 => by
    have := hp.1
    rw [Nat.pow_zero, Nat.mod_eq_of_lt (by omega)]; omega
  | e + 1 => fun h => by
    have hb : ((b ^ e : Nat) : Int) % (p : Int) = 0 ∨ (b : Int) % (p : Int) = 0 := Pr_mul hp (by
      rw [← Int.natCast_mul, ← Nat.pow_succ, ← Int.natCast_emod, h]; rfl)
    rcases hb with h3 | h3
    · exact Pr_pow hp h1 h2 e (by rw [← Int.natCast_emod] at h3; omega)
    · rw [← Int.natCast_emod, Nat.mod_eq_of_lt h2] at h3; omega
def drvX (gr : Group) (s : ByteArray) (k c : Int) : Int := 1 + hshL s [gr.P, gr.Q, gr.G, k, c] % (gr.P - 1)
def drvC (gr : Group) (s : ByteArray) (k c : Int) : Int := (((drvX gr s k c).toNat ^ ((gr.P - 1) / gr.Q).toNat % gr.P.toNat : Nat) : Int)
theorem drvX_bd {gr : Group} (k : OkG gr) (s : ByteArray) (i c : Int) : 1 ≤ drvX gr s i c ∧ drvX gr s i c ≤ gr.P - 1 := by
  have hp := k.p
  have h1 := Int.emod_nonneg (hshL s [gr.P, gr.Q, gr.G, i, c]) (show gr.P - 1 ≠ 0 by omega)
  have h2 := Int.emod_lt_of_pos (hshL s [gr.P, gr.Q, gr.G, i, c]) (show 0 < gr.P - 1 by omega)
  unfold drvX
  omega
theorem drvC_bd {gr : Group} (k : OkG gr) (s : ByteArray) (i c : Int) : 1 ≤ drvC gr s i c ∧ drvC gr s i c ≤ gr.P - 1 := by
  have hp := k.p
  have hx := drvX_bd k s i c
  have h1 := Pr_pow k.pp (b := (drvX gr s i c).toNat) (by omega) (by omega) ((gr.P - 1) / gr.Q).toNat
  have h2 := Nat.mod_lt ((drvX gr s i c).toNat ^ ((gr.P - 1) / gr.Q).toNat) (show 0 < gr.P.toNat by omega)
  unfold drvC
  omega
theorem drv_pow {gr : Group} (k : OkG gr) (s : ByteArray) (i c : Int) : 
    F_impl_power (IntKind.i64.wrap (1 + ((hshL s [gr.P, gr.Q, gr.G, i, c]).tmod (IntKind.i64.wrap (gr.P - 1))))) (IntKind.i64.wrap ((IntKind.i64.wrap (gr.P - 1)).tdiv gr.Q)) gr.P = some (drvC gr s i c) ∧
    F_spec_nPower (IntKind.i64.wrap (1 + ((hshL s [gr.P, gr.Q, gr.G, i, c]).tmod (IntKind.i64.wrap (gr.P - 1))))) (IntKind.i64.wrap ((IntKind.i64.wrap (gr.P - 1)).tdiv gr.Q)) gr.P = some (drvC gr s i c) := by
  have hp := k.p
  have hq := k.q
  have hd := digB_t.1 (hshL_dig s [gr.P, gr.Q, gr.G, i, c])
  have hx := drvX_bd k s i c
  have e1 : IntKind.i64.wrap (gr.P - 1) = gr.P - 1 := wr64 (by omega) (by omega)
  have e2 : IntKind.i64.wrap (1 + ((hshL s [gr.P, gr.Q, gr.G, i, c]).tmod (gr.P - 1))) = drvX gr s i c := by
    rw [Int.tmod_eq_emod_of_nonneg hd.1]
    unfold drvX at hx ⊢
    exact wr64 (by omega) (by omega)
  have h3 : (gr.P - 1) / gr.Q ≤ gr.P - 1 := Int.ediv_le_self _ (by omega)
  have h4 : 0 ≤ (gr.P - 1) / gr.Q := Int.ediv_nonneg (by omega) (by omega)
  have e3 : IntKind.i64.wrap ((gr.P - 1).tdiv gr.Q) = (gr.P - 1) / gr.Q := by
    rw [Int.tdiv_eq_ediv_of_nonneg (by omega), wr64 (by omega) (by omega)]
  rw [e1, e2, e3]
  exact n_powI (by omega) (by omega) (by omega) (by omega) h4 (by omega)
theorem drv_dig {gr : Group} (k : OkG gr) {i c : Int} (hi : digB i = true) (hc : 0 ≤ c ∧ c ≤ 1000) : [gr.P, gr.Q, gr.G, i, c].all digB = true := by
  have hp := k.p
  have hq := k.q
  have hg := k.g
  simp only [List.all_cons, List.all_nil, Bool.and_true, Bool.and_eq_true]
  exact ⟨digB_t.2 (by omega), digB_t.2 (by omega), digB_t.2 (by omega), hi, digB_t.2 (by omega)⟩
def DrvR (gr : Group) (s : ByteArray) (i y : Int) : Prop := (∃ c : Nat, c < 1000 ∧ y = drvC gr s i c ∧ drvC gr s i c ≠ 1 ∧ ∀ j : Nat, j < c → drvC gr s i j = 1) ∨ (y = 0 ∧ ∀ j : Nat, j < 1000 → drvC gr s i j = 1)
theorem DrvR_uniq {gr : Group} (k : OkG gr) {s : ByteArray} {i x y : Int} (h1 : DrvR gr s i x) (h2 : DrvR gr s i y) : x = y := by
  rcases h1 with ⟨c, hc, rfl, h3, h4⟩ | ⟨rfl, h4⟩ <;> rcases h2 with ⟨d, hd, rfl, h5, h6⟩ | ⟨rfl, h6⟩
  · rcases Nat.lt_trichotomy c d with h | h | h
    · exact absurd (h6 c h) h3
    · rw [h]
    · exact absurd (h4 d h) h5
  · exact absurd (h6 c hc) h3
  · exact absurd (h4 d hd) h5
  · rfl
theorem DrvR_bd {gr : Group} (k : OkG gr) {s : ByteArray} {i x : Int} (h1 : DrvR gr s i x) : 0 ≤ x ∧ x ≤ gr.P - 1 := by
  have hp := k.p
  rcases h1 with ⟨c, hc, rfl, h3, h4⟩ | ⟨rfl, h4⟩
  · have := drvC_bd k s i c; omega
  · omega
theorem n_hDerived {gr : Group} (k : OkG gr) {s : ByteArray} (hs : s.size ≤ 40) {i : Int} (hi : digB i = true) : Rn (F_spec_hDerived gr s i) (DrvR gr s i) := by
  have hp := k.p
  have hq := k.q
  unfold F_spec_hDerived
  refine rn_then (ψ := fun x => (x = .inl () ∧ ∀ j : Nat, j < 1000 → drvC gr s i j = 1) ∨ ∃ c : Nat, c < 1000 ∧ x = .inr (drvC gr s i c) ∧ drvC gr s i c ≠ 1 ∧ ∀ j : Nat, j < c → drvC gr s i j = 1)
    (rn_cloop 1000 (fun n p => p = (n : Int) ∧ n ≤ 1000 ∧ ∀ j : Nat, j < n → drvC gr s i j = 1) ⟨rfl, by omega, fun j hj => by omega⟩ ?_ ?_) ?_
  · rintro n p hn ⟨rfl, _, hI⟩
    refine rn_if (fun _ => ?_) fun h => absurd h (by simp; omega)
    refine rn_call (n_hLabelled (by omega) (by simp) (drv_dig k hi (by omega))) (rn_gd (by rw [wr64 (by omega) (by omega)]; omega) (rn_gd (by omega) (rn_call (drv_pow k s i n).2 (rn_if (fun h => rn_some (.inr ⟨n, hn, rfl, by simpa using h, hI⟩)) fun h => rn_some ⟨by rw [wr64 (by omega) (by omega)]; rfl, hn, fun j hj => ?_⟩))))
    rcases Nat.lt_or_ge j n with h1 | h1
    · exact hI j h1
    · have : j = n := by omega
      subst this
      simpa using h
  · rintro p ⟨rfl, _, hI⟩
    refine rn_if (fun h => absurd h (by simp)) fun _ => rn_some (.inl ⟨rfl, hI⟩)
  · rintro x (⟨rfl, h⟩ | ⟨c, hc, rfl, h⟩)
    · exact rn_some (.inr ⟨rfl, h⟩)
    · exact rn_some (.inl ⟨c, hc, rfl, h⟩)
theorem n_derive {gr : Group} (k : OkG gr) {s : ByteArray} (hs : s.size ≤ 40) {i : Int} (hi : digB i = true) : Rn (F_impl_Group_derive gr s i) (fun x => DrvR gr s i x.1 ∧ x.2 = decide (0 < x.1)) := by
  have hp := k.p
  have hq := k.q
  unfold F_impl_Group_derive
  refine rn_then (ψ := fun x => (x = .inl () ∧ ∀ j : Nat, j < 1000 → drvC gr s i j = 1) ∨ ∃ c : Nat, c < 1000 ∧ x = .inr (drvC gr s i c, true) ∧ drvC gr s i c ≠ 1 ∧ ∀ j : Nat, j < c → drvC gr s i j = 1)
    (rn_cloop 1000 (fun n p => p = (n : Int) ∧ n ≤ 1000 ∧ ∀ j : Nat, j < n → drvC gr s i j = 1) ⟨rfl, by omega, fun j hj => by omega⟩ ?_ ?_) ?_
  · rintro n p hn ⟨rfl, _, hI⟩
    refine rn_if (fun _ => ?_) fun h => absurd h (by simp; omega)
    have hl : labB s [gr.P, gr.Q, gr.G, i, (n : Int)] = true := by
      have := drv_dig k (i := i) (c := n) hi (by omega)
      simp only [labB, this, Bool.and_true, List.length_cons, List.length_nil, Bool.and_eq_true, decide_eq_true_eq]
      omega
    have eh : F_impl_HashLabelled s [gr.P, gr.Q, gr.G, i, (n : Int)] = some (hshL s [gr.P, gr.Q, gr.G, i, (n : Int)], true) := by rw [n_HashLabelled, if_pos hl]
    refine rn_call eh (rn_f rfl (rn_gd (by rw [wr64 (by omega) (by omega)]; omega) (rn_gd (by omega) (rn_call (drv_pow k s i n).1 (rn_if (fun h => rn_some (.inr ⟨n, hn, rfl, by simpa using h, hI⟩)) fun h => rn_some ⟨by rw [wr64 (by omega) (by omega)]; rfl, hn, fun j hj => ?_⟩)))))
    rcases Nat.lt_or_ge j n with h1 | h1
    · exact hI j h1
    · have : j = n := by omega
      subst this
      simpa using h
  · rintro p ⟨rfl, _, hI⟩
    refine rn_if (fun h => absurd h (by simp)) fun _ => rn_some (.inl ⟨rfl, hI⟩)
  · rintro x (⟨rfl, h⟩ | ⟨c, hc, rfl, h⟩)
    · exact rn_some ⟨.inr ⟨rfl, h⟩, rfl⟩
    · have := drvC_bd k s i c
      exact rn_some ⟨.inl ⟨c, hc, rfl, h⟩, by symm; simp; omega⟩
theorem n_drv {gr : Group} (k : OkG gr) {s : ByteArray} (hs : s.size ≤ 40) {i : Int} (hi : digB i = true) : ∃ y, F_spec_hDerived gr s i = some y ∧ F_impl_Group_derive gr s i = some (y, decide (0 < y)) ∧ DrvR gr s i y := by
  obtain ⟨y, h1, h2⟩ := n_hDerived k hs hi
  obtain ⟨⟨z, t⟩, h3, h4, h5⟩ := n_derive k hs hi
  refine ⟨y, h1, ?_, h2⟩
  simp only at h4 h5
  have : z = y := DrvR_uniq k h4 h2
  subst this
  rw [h3, h5]
theorem snoc_at {α : Type} {R : Nat → α → Prop} {l : List α} {n : Nat} {z : α} (hl : l.length = n) (h : ∀ j (h : j < l.length), R j l[j]) (hz : R n z) : ∀ j (h : j < (l ++ [z]).length), R j (l ++ [z])[j] := by
  intro j hj
  rw [List.getElem_append]
  split
  · exact h j _
  · have hj : j < n + 1 := by simpa [hl] using hj
    have e : j = n := by omega
    subst e
    simpa [hl] using hz
def Drvs (gr : Group) (n : Nat) (l : List Int) : Prop := l.length = n ∧ ∀ j (h : j < l.length), DrvR gr ⟨#[104, 115]⟩ j l[j]
theorem n_bases {gr : Group} (k : OkG gr) {n : Nat} (hn : n ≤ 24) : ∃ b t, F_spec_BasesOf gr (n : Int) = some (b, t) ∧ F_impl_Group_basesOf gr (n : Int) = some (b, t) ∧
    (t = true → DrvR gr ⟨#[104]⟩ 0 b.H ∧ 0 < b.H ∧ Drvs gr n b.Hs ∧ ∀ x ∈ b.Hs, 0 < x) := by
  have hp := k.p
  obtain ⟨y, hy1, hy2, hy3⟩ := n_drv k (s := ⟨#[104]⟩) (by decide) (i := 0) rfl
  have hok : okG gr = true := okG_t.2 k
  have D : ∀ m : Nat, m < 24 → ∃ z, F_spec_hDerived gr ⟨#[104, 115]⟩ m = some z ∧ F_impl_Group_derive gr ⟨#[104, 115]⟩ m = some (z, decide (0 < z)) ∧ DrvR gr ⟨#[104, 115]⟩ m z := fun m hm => n_drv k (by decide) (digB_t.2 ⟨by omega, by omega⟩)
  have S : Rn (F_spec_DeriveElements gr ⟨#[104, 115]⟩ (n : Int)) (fun x => (x.2 = true ∧ Drvs gr n x.1 ∧ ∀ z ∈ x.1, 0 < z) ∨ (x = ([], false) ∧ ∃ m : Nat, m < n ∧ DrvR gr ⟨#[104, 115]⟩ m 0)) := by
    unfold F_spec_DeriveElements
    refine rn_then (ψ := fun b => b = false) ?_ ?_
    · refine rn_call (n_l2Good gr) (rn_f (by rw [hok]; rfl) (rn_f rfl (rn_call (n_l1In _ _ _) (rn_some ?_))))
      simp; omega
    · rintro _ rfl
      refine rn_f rfl (rn_then (ψ := fun x => (∃ l, x = .inl l ∧ Drvs gr n l ∧ ∀ z ∈ l, 0 < z) ∨ (x = .inr ([], false) ∧ ∃ m : Nat, m < n ∧ DrvR gr ⟨#[104, 115]⟩ m 0)) (rn_cloop n (fun m p => p.2 = (m : Int) ∧ m ≤ n ∧ Drvs gr m p.1 ∧ ∀ z ∈ p.1, 0 < z) ⟨rfl, by omega, ⟨rfl, fun j hj => by simp at hj⟩, fun z hz => by simp at hz⟩ ?_ ?_) ?_)
      · rintro m ⟨l, c⟩ hm ⟨h1, _, hD, hpos⟩
        simp only at h1 hD hpos
        subst h1
        obtain ⟨z, z1, z2, z3⟩ := D m (by omega)
        have zb := DrvR_bd k z3
        refine rn_if (fun _ => ?_) fun h => absurd h (by simp; omega)
        refine rn_call z1 (rn_if (fun h => rn_some (.inr ⟨rfl, m, hm, ?_⟩)) fun h => rn_gd ?_ (rn_some ⟨?_, hm, ⟨by simp [hD.1], snoc_at hD.1 hD.2 z3⟩, fun w hw => ?_⟩))
        · have : z = 0 := by simpa using h
          rw [← this]; exact z3
        · have := hD.1; simp only; omega
        · show IntKind.i64.wrap _ = _
          rw [wr64 (by omega) (by omega)]; rfl
        · rcases List.mem_append.1 hw with h1 | h1
          · exact hpos w h1
          · have : w = z := by simpa using h1
            subst this
            have : ¬ w = 0 := by simpa using h
            omega
      · rintro ⟨l, _⟩ ⟨rfl, _, hD⟩
        exact rn_if (fun h => absurd h (by simp)) fun _ => rn_some (.inl ⟨l, rfl, hD⟩)
      · rintro x (⟨l, rfl, h⟩ | ⟨rfl, h⟩)
        · exact rn_some (.inl ⟨rfl, h⟩)
        · exact rn_some (.inr ⟨rfl, h⟩)
  have I : Rn (wloop (σ := Int × (List Int) × Bool × Int) (β := Int × (List Int) × Bool) (fun s16 =>
  if decide (s16.2.2.2 < (n : Int)) = true then (
  (F_impl_Group_derive gr (⟨#[104, 115]⟩ : ByteArray) s16.2.2.2).bind fun z22 =>
  ((if s16.2.2.1 = true then (
  some z22.2) else (
  some false) : Option (Bool)).bind fun x25 =>
  gd ((s16.2.1.length + 1) * 8 ≤ 140737488355328 ∧ s16.2.1.length + 1 ≤ 4611686018427387904) <|
  some (.go (s16.1, s16.2.1 ++ [z22.1], x25, IntKind.i64.wrap (s16.2.2.2 + 1))))) else (
  some (.out (s16.1, s16.2.1, s16.2.2.1)))) (y, [], true, 0)) (fun x => x.1 = y ∧ Drvs gr n x.2.1 ∧ x.2.2 = x.2.1.all (fun z => decide (0 < z))) := by
    refine rn_cloop n (fun m p => p.1 = y ∧ p.2.2.2 = (m : Int) ∧ m ≤ n ∧ Drvs gr m p.2.1 ∧ p.2.2.1 = p.2.1.all (fun z => decide (0 < z))) ⟨rfl, rfl, by omega, ⟨rfl, fun j hj => by simp at hj⟩, rfl⟩ ?_ ?_
    · rintro m ⟨w, l, t, c⟩ hm ⟨h1, h2, _, hD, h3⟩
      simp only at h1 h2 hD h3
      subst h1 h2 h3
      obtain ⟨z, z1, z2, z3⟩ := D m (by omega)
      refine rn_if (fun _ => ?_) fun h => absurd h (by simp; omega)
      refine rn_call z2 (rn_then (ψ := fun b => b = (l.all (fun z => decide (0 < z)) && decide (0 < z))) (rn_if (fun h => rn_some ?_) fun h => rn_some ?_) ?_)
      · simp only at h; rw [h]; rfl
      · simp only at h; rw [h]; rfl
      · rintro _ rfl
        refine rn_gd (by have := hD.1; dsimp only; omega) (rn_some ⟨rfl, ?_, hm, ⟨by simp [hD.1], snoc_at hD.1 hD.2 z3⟩, ?_⟩)
        · show IntKind.i64.wrap ((m : Int) + 1) = _
          rw [wr64 (by omega) (by omega)]; rfl
        · show _ = (l ++ [z]).all _
          simp
    · rintro ⟨w, l, t, c⟩ ⟨h1, h2, _, hD, h3⟩
      simp only at h1 h2 hD h3
      subst h1 h2 h3
      exact rn_if (fun h => absurd h (by simp)) fun _ => rn_some ⟨rfl, hD, rfl⟩
  obtain ⟨⟨b, l, t⟩, i1, i2, i3, i4⟩ := I
  simp only at i2 i3 i4
  subst i2
  obtain ⟨⟨l2, t2⟩, s1, s2⟩ := S
  have E : t2 = t ∧ (t = true → l2 = l ∧ ∀ z ∈ l, 0 < z) := by
    rcases s2 with ⟨h1, h2, h3⟩ | ⟨h1, m, hm, h3⟩
    · simp only at h1 h2 h3
      have e : l2 = l := List.ext_getElem (h2.1.trans i3.1.symm) fun j a c => DrvR_uniq k (h2.2 j a) (i3.2 j c)
      subst e
      have : l2.all (fun z => decide (0 < z)) = true := by simpa using h3
      rw [this] at i4
      exact ⟨by rw [h1, i4], fun _ => ⟨rfl, h3⟩⟩
    · cases h1
      have hml : m < l.length := by rw [i3.1]; exact hm
      have : l[m] = 0 := DrvR_uniq k (i3.2 m hml) h3
      have hf : l.all (fun z => decide (0 < z)) = false := by
        rw [List.all_eq_false]
        exact ⟨l[m], List.getElem_mem hml, by simp [this]⟩
      rw [hf] at i4
      exact ⟨i4.symm, fun h => by rw [i4] at h; cases h⟩
  have S0 : F_spec_BasesOf gr (n : Int) = some (if (decide (0 < b) && t2) = true then (⟨b, l2⟩, true) else (⟨0, []⟩, false)) := by
    have hD : F_spec_DeriveElement gr ⟨#[104]⟩ 0 = some (b, decide (0 < b)) := by
      unfold F_spec_DeriveElement
      rw [n_l2Good, hok]
      simp only [Option.bind_some, Bool.not_true, Bool.false_eq_true, if_false]
      rw [if_neg (show ¬ (decide (40 < (((⟨#[104]⟩ : ByteArray).size : Nat) : Int)) = true) by decide), n_l3Digest, Option.bind_some, Option.bind_some, if_neg (by decide), hy1, Option.bind_some]
    unfold F_spec_BasesOf
    rw [n_l2Good, hok]
    simp only [Option.bind_some, Bool.not_true, Bool.false_eq_true, if_false]
    rw [n_l1In, Option.bind_some, Option.bind_some, if_neg (by simp; omega), hD, Option.bind_some, s1, Option.bind_some]
    cases decide (0 < b) <;> cases t2 <;> rfl
  have I0 : F_impl_Group_basesOf gr (n : Int) = some (if (decide (0 < b) && t) = true then (⟨b, l⟩, true) else (⟨0, []⟩, false)) := by
    unfold F_impl_Group_basesOf
    rw [hy2, Option.bind_some, i1, Option.bind_some]
    cases decide (0 < b) <;> cases t <;> rfl
  obtain ⟨rfl, E2⟩ := E
  cases hb : (decide (0 < b) && t2) with
  | false =>
    rw [hb] at S0 I0
    exact ⟨_, _, S0, I0, fun h => by cases h⟩
  | true =>
    rw [hb] at S0 I0
    simp only [Bool.and_eq_true, decide_eq_true_eq] at hb
    obtain ⟨rfl, hpos⟩ := E2 hb.2
    exact ⟨_, _, S0, I0, fun _ => ⟨hy3, hb.1, i3, hpos⟩⟩
-- loops
theorem ceq {n : Int} {k : Nat} (h : n = (k : Int)) (hk : k ≤ 4194304) : IntKind.i64.wrap n = (k : Int) := by rw [wr64 (by omega) (by omega), h]
theorem inc {k : Nat} (hk : k < 4194304) : IntKind.i64.wrap ((k : Int) + 1) = ((k + 1 : Nat) : Int) := ceq (by omega) (by omega)
theorem wl_up {σ β : Type} {step : σ × Int → Option (Stp (σ × Int) β)} {f : Nat → σ → σ} {out : σ → β} (n : Nat) {s0 : σ} (I : Nat → σ → Prop) (h0 : I 0 s0)
    (hs : ∀ k s, k < n → I k s → step (s, (k : Int)) = some (.go (f k s, ((k + 1 : Nat) : Int))) ∧ I (k + 1) (f k s)) (he : ∀ s, I n s → step (s, (n : Int)) = some (.out (out s))) : ∃ s, wloop step (s0, 0) = some (out s) ∧ I n s := by
  obtain ⟨b, h1, s, h2, h3⟩ := rn_cloop (step := step) (s0 := (s0, 0)) (φ := fun b => ∃ s, b = out s ∧ I n s) n (fun k p => p.2 = (k : Int) ∧ I k p.1) ⟨rfl, h0⟩
    (by
      rintro k ⟨s, c⟩ hk ⟨rfl, hI⟩
      obtain ⟨h1, h2⟩ := hs k s hk hI
      exact ⟨_, h1, rfl, h2⟩)
    (by
      rintro ⟨s, c⟩ ⟨rfl, hI⟩
      exact ⟨_, he s hI, s, rfl, hI⟩)
  exact ⟨s, by rw [h1, h2], h3⟩
theorem rl_map {α β γ : Type} {l : List α} {f : α → β} {body : Int → List β → Option (Stp (List β) γ)} {stop : List β → γ} (a0 : List β) (hs : ∀ k (h : k < l.length) (s : List β), s.length = a0.length + k → body (k : Int) s = some (.go (s ++ [f l[k]]))) :
    rloop body stop l.length 0 a0 = some (stop (a0 ++ l.map f)) := by
  refine eq_of_rn (rn_rloop (fun k s => s = a0 ++ (l.take k).map f ∧ k ≤ l.length) ⟨by simp, by omega⟩ ?_ ?_)
  · rintro k s hk ⟨rfl, _⟩
    refine ⟨_, hs k hk _ (by simp; omega), ?_, hk⟩
    rw [List.take_succ_eq_append_getElem hk, List.map_append, List.append_assoc]; rfl
  · rintro s ⟨rfl, _⟩
    simp
theorem wl_copy {α : Type} {l : List α} {d : α} {step : List α × Int → Option (Stp (List α × Int) (List α))} (hs : ∀ k (h : k < l.length) (r : List α), r.length = l.length → step (r, (k : Int)) = some (.go (r.set k l[k], ((k + 1 : Nat) : Int))))
    (he : ∀ r, step (r, (l.length : Int)) = some (.out r)) : wloop step (List.replicate l.length d, 0) = some l := by
  obtain ⟨s, h1, h2, h3⟩ := wl_up (step := step) (out := fun r => r) (f := fun k r => if h : k < l.length then r.set k l[k] else r) l.length (s0 := List.replicate l.length d) (fun k r => r.length = l.length ∧ r.take k = l.take k) ⟨by simp, by simp⟩
    (by
      rintro k r hk ⟨h1, h2⟩
      refine ⟨by rw [hs k hk r h1, dif_pos hk], by rw [dif_pos hk]; simpa using h1, ?_⟩
      rw [dif_pos hk]
      apply List.ext_getElem (by simp; omega)
      intro i hi hi2
      simp only [List.length_take] at hi2
      rw [List.getElem_take, List.getElem_take, List.getElem_set]
      split
      · rename_i e; subst e; rfl
      · have : i < k := by omega
        have e := congrArg (fun z => z[i]?) h2
        simp only [List.getElem?_take, this, if_true] at e
        rw [List.getElem?_eq_getElem (by omega), List.getElem?_eq_getElem (by omega)] at e
        exact Option.some.inj e) (fun s _ => he s)
  rw [h1]
  have e1 : s.take l.length = s := List.take_of_length_le (by omega)
  rw [← e1, h3, List.take_length]
theorem wl_all {β : Type} {step : Int → Option (Stp Int (Unit ⊕ β))} (n : Nat) (hs : ∀ k : Nat, k < n → step (k : Int) = some (.go ((k + 1 : Nat) : Int))) (he : step (n : Int) = some (.out (.inl ()))) : wloop step 0 = some (.inl ()) := by
  refine eq_of_rn (rn_cloop n (fun k s => s = (k : Int)) rfl ?_ ?_)
  · rintro k s hk rfl; exact ⟨_, hs k hk, rfl⟩
  · rintro s rfl; exact ⟨_, he, rfl⟩
-- contests
structure OkC (ct : Contest) : Prop where
  lo : 0 ≤ ct.Least ∧ ct.Least ≤ ct.Most
  k : ((ct.Kind = 1 ∨ ct.Kind = 3) ∧ (1 ≤ ct.Options ∧ ct.Options ≤ 8) ∧ ct.Most ≤ ct.Options ∧ ct.Points = 0) ∨ (ct.Kind = 2 ∧ (1 ≤ ct.Options ∧ ct.Options ≤ 8) ∧ (1 ≤ ct.Points ∧ ct.Points ≤ 5) ∧ ct.Most ≤ ct.Options * ct.Points) ∨ (ct.Kind = 4 ∧ ct.Options = 0 ∧ ct.Most ≤ 5 ∧ ct.Points = 0)
open Classical in
noncomputable def okC (ct : Contest) : Bool := decide (OkC ct)
theorem okC_t {ct : Contest} : okC ct = true ↔ OkC ct := by simp [okC]
theorem mulb {a b : Int} (h : 1 ≤ a ∧ a ≤ 8) (h2 : 1 ≤ b ∧ b ≤ 5) : 1 ≤ a * b ∧ a * b ≤ 40 := by
  have h3 : a * b ≤ 8 * 5 := Int.mul_le_mul h.2 h2.2 (by omega) (by omega)
  have h4 : 1 * 1 ≤ a * b := Int.mul_le_mul h.1 h2.1 (by omega) (by omega)
  omega
theorem n_IsValidContest (ct : Contest) : F_impl_IsValidContest ct = some (okC ct) := by
  have e : ∀ b : Bool, (b = true ↔ OkC ct) → b = okC ct := fun b h => by
    rw [Bool.eq_iff_iff, h, okC_t]
  have f : ¬ OkC ct → okC ct = false := fun h => by simp [okC, h]
  unfold F_impl_IsValidContest
  simp only [n_within, Option.bind_some]
  by_cases l1 : ct.Least < 0
  · simp [l1]; exact f fun h => by have := h.lo; omega
  by_cases l2 : ct.Most < ct.Least
  · simp [l1, l2]; exact f fun h => by have := h.lo; omega
  simp only [l1, l2, decide_false, Bool.false_eq_true, if_false, Option.bind_some]
  by_cases k13 : ct.Kind = 1 ∨ ct.Kind = 3
  · have : (if (ct.Kind == 1) = true then some (ct.Kind == 1) else some (ct.Kind == 3)) = some true := by
      rcases k13 with h | h <;> simp [h]
    rw [this, Option.bind_some, if_pos rfl]
    by_cases o : 1 ≤ ct.Options ∧ ct.Options ≤ 8
    · by_cases m : ct.Most ≤ ct.Options
      · simp [o, m]
        refine e _ ⟨fun h => ⟨by omega, .inl ⟨k13, o, m, by simpa using h⟩⟩, fun h => ?_⟩
        rcases h.k with h | h | h
        · simp [h.2.2.2]
        · omega
        · omega
      · simp [o, m]
        exact f fun h => by rcases h.k with h | h | h <;> omega
    · have : (decide (1 ≤ ct.Options) && decide (ct.Options ≤ 8)) = false := by simp; omega
      rw [this]; simp
      exact f fun h => by rcases h.k with h | h | h <;> omega
  · have : (if (ct.Kind == 1) = true then some (ct.Kind == 1) else some (ct.Kind == 3)) = some false := by
      simp only [not_or] at k13; simp [k13]
    rw [this, Option.bind_some, if_neg (by simp)]
    by_cases k2 : ct.Kind = 2
    · simp only [k2]
      by_cases o : 1 ≤ ct.Options ∧ ct.Options ≤ 8
      · by_cases p : 1 ≤ ct.Points ∧ ct.Points ≤ 5
        · have b := mulb o p
          simp only [o, p]
          simp [wr64 (n := ct.Options * ct.Points) (by omega) (by omega)]
          refine e _ ⟨fun h => ⟨by omega, .inr (.inl ⟨k2, o, p, by simpa using h⟩)⟩, fun h => ?_⟩
          rcases h.k with h | h | h
          · omega
          · simpa using h.2.2.2
          · omega
        · have : (decide (1 ≤ ct.Points) && decide (ct.Points ≤ 5)) = false := by simp; omega
          rw [this]; simp [o]
          exact f fun h => by rcases h.k with h | h | h <;> omega
      · have : (decide (1 ≤ ct.Options) && decide (ct.Options ≤ 8)) = false := by simp; omega
        rw [this]; simp
        exact f fun h => by rcases h.k with h | h | h <;> omega
    · have k2' : (ct.Kind == 2) = false := by simpa using k2
      simp only [k2', Bool.false_eq_true, if_false]
      by_cases k4 : ct.Kind = 4
      · have k4' : (ct.Kind == 4) = true := by simpa using k4
        simp only [k4', if_true]
        by_cases o : ct.Options = 0
        · by_cases m : ct.Most ≤ 5
          · simp [o, m]
            refine e _ ⟨fun h => ⟨by omega, .inr (.inr ⟨k4, o, m, by simpa using h⟩)⟩, fun h => ?_⟩
            rcases h.k with h | h | h
            · omega
            · omega
            · simp [h.2.2.2]
          · simp [o, m]
            exact f fun h => by rcases h.k with h | h | h <;> omega
        · simp [o]
          exact f fun h => by rcases h.k with h | h | h <;> omega
      · have k4' : (ct.Kind == 4) = false := by simpa using k4
        simp only [k4', Bool.false_eq_true, if_false]
        rw [f fun h => by rcases h.k with h | h | h <;> omega]
theorem n_vContest (ct : Contest) : F_spec_vContest ct = some (okC ct) := by
  rw [← n_IsValidContest]
  unfold F_spec_vContest F_impl_IsValidContest
  simp only [n_within, n_l1In, Option.bind_some]
  cases h : ct.Kind == 4 <;> simp
-- lists that are asked of all elements
theorem n_allN {γ : Type} {m : Nat} (p : Nat → Bool) (c d : γ) {body : Int → Unit → Option (Stp Unit (Unit ⊕ γ))} (h : ∀ k, k < m → body (k : Int) () = some (if p k = true then .go () else .out (.inr c))) :
    (rloop body (fun _ => .inl ()) m 0 ()).bind (Sum.elim (fun _ => some d) some) = some (if (List.range m).all p = true then d else c) := by
  rcases n_first (body := body) m p (fun _ => c) h with ⟨e, h1⟩ | ⟨k, h1, h2, h3, e⟩
  · have : (List.range m).all p = true := by
      rw [List.all_eq_true]; intro x hx; exact h1 x (List.mem_range.1 hx)
    rw [e, this]; rfl
  · have : (List.range m).all p = false := by
      rw [List.all_eq_false]; exact ⟨k, List.mem_range.2 h1, by simp [h2]⟩
    rw [e, this]; rfl
def inB (a b x : Int) : Bool := decide (a ≤ x) && decide (x ≤ b)
theorem inB_t {a b x : Int} : inB a b x = true ↔ a ≤ x ∧ x ≤ b := by simp [inB]
-- votes
theorem ite_and (a b : Bool) : (if a = true then some b else some false) = some (a && b) := by cases a <;> rfl
theorem ite_or (a b : Bool) : (if a = true then some true else some b) = some (a || b) := by cases a <;> rfl
theorem n_inB (x a b : Int) : F_spec_l1In x a b = some (inB a b x) := n_l1In x a b
theorem n_winB (x a b : Int) : F_impl_within x a b = some (inB a b x) := n_within x a b
theorem all_mono {l : List Int} {a b a' b' : Int} (ha : a' ≤ a) (hb : b ≤ b') (h : l.all (inB a b) = true) : l.all (inB a' b') = true := by
  rw [List.all_eq_true] at h ⊢
  intro x hx
  have := inB_t.1 (h x hx)
  exact inB_t.2 (by omega)
-- numbers of digits
def num (b : Int) : List Int → Int
  | [] => 0
  | d :: l => num b l * b + d
theorem num_bd {b : Int} (hb : 0 ≤ b ∧ b ≤ 40) : ∀ {l : List Int}, l.all (inB 0 40) = true → 0 ≤ num b l ∧ num b l ≤ 64 ^ (l.length + 1)
  | [], _ => by simp [num]
  | d :: l, h => by
    rw [List.all_cons, Bool.and_eq_true] at h
    have h1 := inB_t.1 h.1
    have h2 := num_bd hb h.2
    have h3 : num b l * b ≤ 64 ^ (l.length + 1) * 40 := Int.mul_le_mul h2.2 hb.2 hb.1 (by omega)
    have h4 := Int.mul_nonneg h2.1 hb.1
    have h5 : (1 : Int) ≤ 64 ^ (l.length + 1) := Int.pow_pos (by omega)
    simp only [num, List.length_cons]
    rw [Int.pow_succ (64 : Int) (l.length + 1)]
    omega
theorem num_bd8 {b : Int} (hb : 0 ≤ b ∧ b ≤ 40) {l : List Int} (hl : l.length ≤ 8) (h : l.all (inB 0 40) = true) : 0 ≤ num b l ∧ num b l ≤ 18014398509481984 := by
  have := num_bd hb h
  have h2 : (64 : Nat) ^ (l.length + 1) ≤ 64 ^ 9 := Nat.pow_le_pow_right (by omega) (by omega)
  have h3 : ((64 ^ (l.length + 1) : Nat) : Int) = (64 : Int) ^ (l.length + 1) := Int.natCast_pow 64 _
  omega
theorem num_loop {l : List Int} {b m : Int} (hb : 0 ≤ b ∧ b ≤ 40) (hl : l.length ≤ 8) (h : (l.map (· + m)).all (inB 0 40) = true) {step : Int × Int → Option (Stp (Int × Int) Int)}
    (hs : ∀ (k : Nat) (h : k < l.length) (a : Int), 0 ≤ a → a ≤ 18014398509481984 → step (a, (k : Int)) = some (.go (a * b + (l[k] + m), (k : Int) - 1))) (he : ∀ a, step (a, -1) = some (.out a)) :
    wloop step (0, (l.length : Int) - 1) = some (num b (l.map (· + m))) := by
  refine eq_of_rn (rn_cloop l.length (fun j p => p = (num b ((l.drop (l.length - j)).map (· + m)), ((l.length - j : Nat) : Int) - 1) ∧ j ≤ l.length) ⟨by simp [num], by omega⟩ ?_ ?_)
  · rintro j p hj ⟨rfl, _⟩
    obtain ⟨k, hk, e1, e2⟩ : ∃ k : Nat, k < l.length ∧ l.length - j = k + 1 ∧ l.length - (j + 1) = k := ⟨l.length - j - 1, by omega, by omega, by omega⟩
    rw [e1]
    have hd : ((l.drop (k + 1)).map (· + m)).all (inB 0 40) = true := by
      rw [List.all_eq_true] at h ⊢
      intro x hx
      obtain ⟨y, hy, rfl⟩ := List.mem_map.1 hx
      exact h _ (List.mem_map.2 ⟨y, List.mem_of_mem_drop hy, rfl⟩)
    have bd := num_bd8 hb (by simp; omega) hd
    refine ⟨.go (num b ((l.drop (k + 1)).map (· + m)) * b + (l[k] + m), (k : Int) - 1), by rw [show ((k + 1 : Nat) : Int) - 1 = (k : Int) by omega]; exact hs k hk _ bd.1 bd.2, ?_, hj⟩
    rw [e2, List.drop_eq_getElem_cons hk]
    rfl
  · rintro p ⟨rfl, _⟩
    refine ⟨.out (num b (l.map (· + m))), ?_, rfl⟩
    rw [Nat.sub_self, List.drop_zero]
    exact he _
theorem at_all {l : List Int} {m a b : Int} (h : (l.map (· + m)).all (inB a b) = true) {k : Nat} (hk : k < l.length) : a ≤ l[k] + m ∧ l[k] + m ≤ b := by
  rw [List.all_eq_true] at h
  exact inB_t.1 (h _ (List.mem_map.2 ⟨l[k], List.getElem_mem hk, rfl⟩))
theorem n_vNumber {l : List Int} {b m : Int} (hb : 0 ≤ b ∧ b ≤ 40) (hm : 0 ≤ m ∧ m ≤ 1) (hl : l.length ≤ 8) (h : (l.map (· + m)).all (inB 0 40) = true) : F_spec_vNumber l b m = some (num b (l.map (· + m))) := by
  unfold F_spec_vNumber
  rw [wr64 (n := (l.length : Int) - 1) (by omega) (by omega), num_loop hb hl h, Option.bind_some]
  · intro k hk a h0 h1
    have h2 : a * b ≤ 18014398509481984 * 40 := Int.mul_le_mul h1 hb.2 hb.1 (by omega)
    have h3 := Int.mul_nonneg h0 hb.1
    have h4 := at_all h hk
    rw [if_pos (by simp), ix_at hk, Option.bind_some, wr64 (n := a * b) (by omega) (by omega), wr64 (n := a * b + l[k]) (by omega) (by omega), wr64 (n := a * b + l[k] + m) (by omega) (by omega), wr64 (n := (k : Int) - 1) (by omega) (by omega), Int.add_assoc]
  · intro a; rfl
theorem n_codeOf {l : List Int} {b : Int} (hb : 0 ≤ b ∧ b ≤ 40) (hl : l.length ≤ 8) (h : l.all (inB 0 40) = true) : F_impl_codeOf l b = some (num b l) := by
  have e : l.map (· + 0) = l := by simp
  unfold F_impl_codeOf
  rw [wr64 (n := (l.length : Int) - 1) (by omega) (by omega), num_loop (m := 0) hb hl (by rw [e]; exact h), Option.bind_some, e]
  · intro k hk a h0 h1
    have h2 : a * b ≤ 18014398509481984 * 40 := Int.mul_le_mul h1 hb.2 hb.1 (by omega)
    have h3 := Int.mul_nonneg h0 hb.1
    have h4 := at_all (m := 0) (by rw [e]; exact h) hk
    rw [if_pos (by simp), ix_at hk, Option.bind_some, wr64 (n := a * b) (by omega) (by omega), wr64 (n := a * b + l[k]) (by omega) (by omega), wr64 (n := (k : Int) - 1) (by omega) (by omega), Int.add_zero]
  · intro a; rfl
-- marks
def marks (n : Nat) (v : List Int) : List Int := (List.range n).map fun (i : Nat) => if v.contains (i : Int) = true then 1 else 0
theorem marks_len (n : Nat) (v : List Int) : (marks n v).length = n := by simp [marks]
theorem n_vMarks {ct : Contest} (ho : 0 ≤ ct.Options ∧ ct.Options ≤ 8) {v : List Int} (h : v.all (inB 0 (ct.Options - 1)) = true) : F_spec_vMarks ct v = some (marks ct.Options.toNat v) := by
  unfold F_spec_vMarks
  refine eq_of_rn (rn_gd (by omega) (rn_call rfl (rn_then (ψ := fun b => b = _) (rn_rloop (fun k s => s = marks ct.Options.toNat (v.take k)) ?_ ?_ ?_) fun b hb => rn_some hb)))
  · simp [marks, List.map_const']
  · rintro k s hk rfl
    have hv := inB_t.1 (List.all_eq_true.1 h _ (List.getElem_mem hk))
    obtain ⟨x, hx⟩ : ∃ x : Nat, v[k] = (x : Int) := ⟨v[k].toNat, by omega⟩
    refine rn_ix hk ?_
    rw [hx]
    refine rn_ix (by rw [marks_len]; omega) (rn_some ?_)
    show (marks _ (v.take k)).set x 1 = marks _ (v.take (k + 1))
    rw [List.take_succ_eq_append_getElem hk]
    apply List.ext_getElem (by simp [marks_len])
    intro i hi hi2
    rw [List.getElem_set]
    simp only [marks, List.getElem_map, List.getElem_range, List.contains_eq_mem, List.mem_append, List.mem_singleton, decide_eq_true_eq]
    by_cases e : x = i
    · subst e; simp [hx]
    · have : ¬ (i : Int) = v[k] := by omega
      simp [e, this]
  · rintro s rfl
    rw [List.take_length]
-- the greatest code
def rng (a : Int) (n : Nat) : List Int := (List.range n).map fun (i : Nat) => a + (i : Int)
theorem rng_len (a : Int) (n : Nat) : (rng a n).length = n := by simp [rng]
theorem rng_mem {a x : Int} {n : Nat} : x ∈ rng a n ↔ a ≤ x ∧ x < a + n := by
  simp only [rng, List.mem_map, List.mem_range]
  constructor
  · rintro ⟨i, hi, rfl⟩; omega
  · exact fun h => ⟨(x - a).toNat, by omega, by omega⟩
theorem rng_all {a b c : Int} {n : Nat} (h1 : b ≤ a) (h2 : a + n - 1 ≤ c) : (rng a n).all (inB b c) = true := by
  rw [List.all_eq_true]
  intro x hx
  have := rng_mem.1 hx
  exact inB_t.2 (by omega)
theorem wl_app {β : Type} {step : List Int × Int → Option (Stp (List Int × Int) β)} {f : Nat → Int} {out : List Int → β} {a : Int} (n : Nat) (hs : ∀ (k : Nat) (s : List Int), k < n → s.length = k → step (s, a + (k : Int)) = some (.go (s ++ [f k], a + (k : Int) + 1))) (he : ∀ s, step (s, a + (n : Int)) = some (.out (out s))) :
    wloop step ([], a) = some (out ((List.range n).map f)) := by
  refine eq_of_rn (rn_cloop n (fun k p => p = ((List.range k).map f, a + (k : Int))) (by simp) ?_ ?_)
  · rintro k p hk rfl
    refine ⟨_, hs k _ hk (by simp), ?_⟩
    show (_, _) = _
    rw [List.range_succ, List.map_append]
    have e : a + (k : Int) + 1 = a + ((k + 1 : Nat) : Int) := by omega
    rw [e]; rfl
  · rintro p rfl
    exact ⟨_, he _, rfl⟩
theorem wl_rep {step : List Int × Int × Int → Option (Stp (List Int × Int × Int) (List Int))} {n : Nat} {m : Int} (hn : n ≤ 8) (p : Int) (hp : 0 ≤ p ∧ p ≤ 5) (hm : 0 ≤ m)
    (hs : ∀ (k : Nat) (s : List Int) (r : Int), k < n → s.length = n → 0 ≤ r → r ≤ m → step (s, r, (k : Int)) = some (.go (s.set k (if p < r then p else r), r - (if p < r then p else r), (k : Int) - 1))) (he : ∀ s r, step (s, r, -1) = some (.out s)) :
    ∃ l, wloop step (List.replicate n 0, m, (n : Int) - 1) = some l ∧ l.length = n ∧ l.all (inB 0 5) = true := by
  refine rn_cloop n (fun j x => x.1.length = n ∧ x.1.all (inB 0 5) = true ∧ (0 ≤ x.2.1 ∧ x.2.1 ≤ m) ∧ x.2.2 = ((n - j : Nat) : Int) - 1 ∧ j ≤ n) ⟨by simp, ?_, ⟨hm, Int.le_refl _⟩, by simp, by omega⟩ ?_ ?_
  · rw [List.all_eq_true]
    intro x hx
    have : x = 0 := (List.mem_replicate.1 hx).2
    subst this; rfl
  · rintro j ⟨s, r, c⟩ hj ⟨h1, h2, h3, h4, _⟩
    simp only at h1 h2 h3 h4
    obtain ⟨k, hk, e1, e2⟩ : ∃ k : Nat, k < n ∧ n - j = k + 1 ∧ n - (j + 1) = k := ⟨n - j - 1, by omega, by omega, by omega⟩
    have : c = (k : Int) := by omega
    subst this
    have b : 0 ≤ (if p < r then p else r) ∧ (if p < r then p else r) ≤ 5 ∧ (if p < r then p else r) ≤ r := by split <;> omega
    refine ⟨.go (s.set k (if p < r then p else r), r - (if p < r then p else r), (k : Int) - 1), hs k s r hk h1 h3.1 h3.2, by simpa using h1, ?_, ⟨by dsimp only; omega, by dsimp only; omega⟩, by dsimp only; omega, hj⟩
    rw [List.all_eq_true] at h2 ⊢
    intro x hx
    rcases List.mem_or_eq_of_mem_set hx with h | rfl
    · exact h2 x h
    · exact inB_t.2 ⟨b.1, b.2.1⟩
  · rintro ⟨s, r, c⟩ ⟨h1, h2, h3, h4, _⟩
    simp only at h1 h2 h3 h4
    have : c = -1 := by omega
    subst this
    exact ⟨_, he s r, h1, h2⟩
theorem n_greatest {ct : Contest} (k : OkC ct) : ∃ n, F_spec_bGreatest ct = some n ∧ F_impl_Contest_greatest ct = some n := by
  have lo := k.lo
  unfold F_spec_bGreatest F_impl_Contest_greatest
  rcases k.k with ⟨k13, ho, hm, hp⟩ | ⟨k2, ho, hp, hm⟩ | ⟨k4, ho, hm, hp⟩
  · obtain ⟨o, eo⟩ : ∃ o : Nat, ct.Options = (o : Int) := ⟨ct.Options.toNat, by omega⟩
    obtain ⟨m, em⟩ : ∃ m : Nat, ct.Most = (m : Int) := ⟨ct.Most.toNat, by omega⟩
    have w : IntKind.i64.wrap (ct.Options - ct.Most) = ct.Options - ct.Most := wr64 (by omega) (by omega)
    have e1 : ∀ {β : Type} (out : List Int → β), wloop (fun s5 : List Int × Int => if decide (s5.2 < ct.Options) = true then (gd ((s5.1.length + 1) * 8 ≤ 140737488355328 ∧ s5.1.length + 1 ≤ 4611686018427387904) <| some (.go (s5.1 ++ [s5.2], IntKind.i64.wrap (s5.2 + 1)))) else (some (.out (out s5.1)))) ([], ct.Options - ct.Most) = some (out (rng (ct.Options - ct.Most) m)) := fun {β} out => by
      refine wl_app m ?_ ?_
      · intro c s hc hs
        rw [if_pos (by simp; omega), gd_t (by rw [hs]; omega), wr64 (by dsimp only; omega) (by dsimp only; omega)]
      · intro s
        rw [if_neg (by simp; omega)]
    have hall : (rng (ct.Options - ct.Most) m).all (inB 0 (ct.Options - 1)) = true := rng_all (by omega) (by omega)
    rcases k13 with k1 | k3
    · rw [k1]
      simp only [show ((1 : Int) == 1) = true from rfl, if_true, w]
      have e2 : wloop (σ := List Int × Int) (β := List Int) (fun s5 => if decide (s5.2 < ct.Options) = true then (((if decide (ct.Options - ct.Most ≤ s5.2) = true then (some 1) else (some 0) : Option (Int)).bind fun x13 =>
          gd ((s5.1.length + 1) * 8 ≤ 140737488355328 ∧ s5.1.length + 1 ≤ 4611686018427387904) <| some (.go (s5.1 ++ [x13], IntKind.i64.wrap (s5.2 + 1))))) else (some (.out s5.1))) ([], 0) = some ((List.range o).map fun (i : Nat) => if decide (ct.Options - ct.Most ≤ (i : Int)) = true then 1 else 0) := by
        refine wl_app (out := fun s => s) (a := 0) o ?_ ?_
        · intro c s hc hs
          have hg : ∀ x : Int, gd ((s.length + 1) * 8 ≤ 140737488355328 ∧ s.length + 1 ≤ 4611686018427387904) (some (Stp.go (β := List Int) (s ++ [x], IntKind.i64.wrap (0 + (c : Int) + 1)))) = some (.go (s ++ [x], 0 + (c : Int) + 1)) := fun x => by
            rw [gd_t (by rw [hs]; omega), wr64 (by omega) (by omega)]
          rw [if_pos (by simp; omega)]
          dsimp only
          by_cases h : ct.Options - ct.Most ≤ (c : Int)
          · rw [if_pos (by simpa using h), Option.bind_some, hg, if_pos (by simpa using h)]
          · rw [if_neg (by simpa using h), Option.bind_some, hg, if_neg (by simpa using h)]
        · intro s
          rw [if_neg (by simp; omega)]
      have em2 : marks ct.Options.toNat (rng (ct.Options - ct.Most) m) = (List.range o).map fun (i : Nat) => if decide (ct.Options - ct.Most ≤ (i : Int)) = true then 1 else 0 := by
        have : ct.Options.toNat = o := by omega
        rw [this]
        unfold marks
        refine List.map_congr_left fun i hi => ?_
        have hi := List.mem_range.1 hi
        congr 1
        rw [List.contains_eq_mem, decide_eq_true_eq, decide_eq_true_eq, rng_mem]
        exact propext ⟨fun h => h.1, fun h => ⟨h, by omega⟩⟩
      have ha : ((List.range o).map fun (i : Nat) => if decide (ct.Options - ct.Most ≤ (i : Int)) = true then (1 : Int) else 0).all (inB 0 40) = true := by
        rw [List.all_map, List.all_eq_true]
        intro i _
        show inB 0 40 (if _ then _ else _) = true
        split <;> rfl
      have hb : F_impl_Contest_base ct = some 2 := by unfold F_impl_Contest_base; rw [k1]; rfl
      refine ⟨?_, ?_, ?_⟩
      rotate_left 2
      · rw [e2, Option.bind_some, hb, Option.bind_some, n_codeOf (by omega) (by simp; omega) ha]; rfl
      · rw [e1 (fun s => s), Option.bind_some]
        unfold F_spec_vCode
        rw [k1, if_pos (show ((1 : Int) == 1) = true from rfl), n_vMarks (by omega) hall, Option.bind_some, em2, n_vNumber (by omega) (by omega) (by simp; omega) (by simpa using ha)]
        simp
        rfl
    · rw [k3]
      simp only [show ((3 : Int) == 1) = false from rfl, show ((3 : Int) == 2) = false from rfl, show ((3 : Int) == 3) = true from rfl, Bool.false_eq_true, if_false, if_true, w]
      have ee : (rng (ct.Options - ct.Most) m).map (· + 1) = rng (ct.Options - ct.Most + 1) m := by
        simp only [rng, List.map_map]
        refine List.map_congr_left fun i hi => ?_
        show ct.Options - ct.Most + (i : Int) + 1 = ct.Options - ct.Most + 1 + (i : Int); omega
      have e2 : wloop (σ := List Int × Int) (β := List Int) (fun s40 => if decide (s40.2 < ct.Most) = true then (gd ((s40.1.length + 1) * 8 ≤ 140737488355328 ∧ s40.1.length + 1 ≤ 4611686018427387904) <|
          some (.go (s40.1 ++ [IntKind.i64.wrap ((IntKind.i64.wrap (ct.Options - ct.Most + 1)) + s40.2)], IntKind.i64.wrap (s40.2 + 1)))) else (some (.out s40.1))) ([], 0) = some (rng (ct.Options - ct.Most + 1) m) := by
        refine wl_app (out := fun s => s) (a := 0) (f := fun i => ct.Options - ct.Most + 1 + (i : Int)) m ?_ ?_
        · intro c s hc hs
          rw [if_pos (by simp; omega), gd_t (by rw [hs]; omega), wr64 (n := ct.Options - ct.Most + 1) (by omega) (by omega), wr64 (n := 0 + (c : Int) + 1) (by omega) (by omega), wr64 (by dsimp only; omega) (by dsimp only; omega), Int.zero_add]
        · intro s
          rw [if_neg (by simp; omega)]
      have ha : (rng (ct.Options - ct.Most + 1) m).all (inB 0 40) = true := rng_all (by omega) (by omega)
      have hb : F_impl_Contest_base ct = some (ct.Options + 1) := by unfold F_impl_Contest_base; rw [k3, wr64 (n := ct.Options + 1) (by omega) (by omega)]; rfl
      refine ⟨?_, ?_, ?_⟩
      rotate_left 2
      · rw [e2, Option.bind_some, hb, Option.bind_some, n_codeOf (by omega) (by rw [rng_len]; omega) ha]; rfl
      · rw [e1 (fun s => s), Option.bind_some]
        unfold F_spec_vCode
        rw [k3, wr64 (n := ct.Options + 1) (by omega) (by omega)]
        simp only [show ((3 : Int) == 1) = false from rfl, show ((3 : Int) == 2) = false from rfl, show ((3 : Int) == 3) = true from rfl, Bool.false_eq_true, if_false, if_true]
        rw [n_vNumber (by omega) (by omega) (by rw [rng_len]; omega) (by rw [ee]; exact ha), ee]
        rfl
  · obtain ⟨o, eo⟩ : ∃ o : Nat, ct.Options = (o : Int) := ⟨ct.Options.toNat, by omega⟩
    have mb := mulb ho hp
    rw [k2]
    simp only [show ((2 : Int) == 1) = false from rfl, show ((2 : Int) == 2) = true from rfl, Bool.false_eq_true, if_false, if_true]
    rw [gd_t (by omega), gd_t (by omega), Option.bind_some, Option.bind_some, wr64 (n := ct.Options - 1) (by omega) (by omega)]
    have hl : ∀ a b : Int, F_spec_l1Least a b = some (if a < b then a else b) := fun a b => by unfold F_spec_l1Least; by_cases h : a < b <;> simp [h]
    have hmin : ∀ a b : Int, (if b < a then b else a) = (if a < b then a else b) := fun a b => by split <;> split <;> omega
    have eS := wl_rep (step := fun s26 : List Int × Int × Int =>
      if decide (0 ≤ s26.2.2) = true then (
      (F_spec_l1Least s26.2.1 ct.Points).bind fun z32 =>
      (ix s26.1 s26.2.2).bind fun x33 =>
      (ix (s26.1.set s26.2.2.toNat z32) s26.2.2).bind fun x34 =>
      some (.go (s26.1.set s26.2.2.toNat z32, IntKind.i64.wrap (s26.2.1 - x34), IntKind.i64.wrap (s26.2.2 - 1)))) else (
      some (.out s26.1))) (n := o) (m := ct.Most) (by omega) ct.Points (by omega) (by omega) ?_ (fun s r => rfl)
    · obtain ⟨l, h1, h2, h3⟩ := eS
      have e : (fun s26 : List Int × Int × Int =>
        if decide (0 ≤ s26.2.2) = true then (
        (F_spec_l1Least s26.2.1 ct.Points).bind fun z32 =>
        (ix s26.1 s26.2.2).bind fun x33 =>
        (ix (s26.1.set s26.2.2.toNat z32) s26.2.2).bind fun x34 =>
        some (.go (s26.1.set s26.2.2.toNat z32, IntKind.i64.wrap (s26.2.1 - x34), IntKind.i64.wrap (s26.2.2 - 1)))) else (
        some (.out s26.1))) = (fun s29 : List Int × Int × Int =>
        if decide (0 ≤ s29.2.2) = true then (
        (ix s29.1 s29.2.2).bind fun x35 =>
        (ix (s29.1.set s29.2.2.toNat (if ct.Points < s29.2.1 then ct.Points else s29.2.1)) s29.2.2).bind fun x36 =>
        some (Stp.go (s29.1.set s29.2.2.toNat (if ct.Points < s29.2.1 then ct.Points else s29.2.1), IntKind.i64.wrap (s29.2.1 - x36), IntKind.i64.wrap (s29.2.2 - 1)))) else (
        some (.out s29.1))) := by
        funext s
        simp only [hl, hmin, Option.bind_some]
      rw [← e]
      have : ct.Options.toNat = o := by omega
      rw [this, eo, h1, Option.bind_some, Option.bind_some]
      have hb : F_impl_Contest_base ct = some (ct.Points + 1) := by unfold F_impl_Contest_base; rw [k2, wr64 (by omega) (by omega)]; rfl
      have ha := all_mono (a := 0) (a' := 0) (b := 5) (b' := 40) (by omega) (by omega) h3
      refine ⟨?_, ?_, ?_⟩
      rotate_left 2
      · rw [hb, Option.bind_some, n_codeOf (by omega) (by omega) ha]; rfl
      · unfold F_spec_vCode
        rw [k2, wr64 (n := ct.Points + 1) (by omega) (by omega)]
        simp only [show ((2 : Int) == 1) = false from rfl, show ((2 : Int) == 2) = true from rfl, Bool.false_eq_true, if_false, if_true]
        rw [n_vNumber (by omega) (by omega) (by omega) (by simpa using ha)]
        simp
    · intro c s r hc hs h0 h1
      have hc2 : c < (s.set c (if ct.Points < r then ct.Points else r)).length := by simp; omega
      dsimp only
      rw [if_pos (by simp), hl, Option.bind_some, ix_at (by omega), Option.bind_some, ← hmin, Int.toNat_natCast, ix_at hc2, Option.bind_some]
      have b : 0 ≤ (if ct.Points < r then ct.Points else r) ∧ (if ct.Points < r then ct.Points else r) ≤ r := by split <;> omega
      rw [List.getElem_set_self, wr64 (by omega) (by omega), wr64 (by omega) (by omega)]
  · obtain ⟨m, em⟩ : ∃ m : Nat, ct.Most = (m : Int) := ⟨ct.Most.toNat, by omega⟩
    rw [k4]
    simp only [show ((4 : Int) == 1) = false from rfl, show ((4 : Int) == 2) = false from rfl, show ((4 : Int) == 3) = false from rfl, Bool.false_eq_true, if_false, if_true]
    have e1 : wloop (σ := List Int × Int) (β := List Int) (fun s46 => if decide (s46.2 < ct.Most) = true then (gd ((s46.1.length + 1) * 8 ≤ 140737488355328 ∧ s46.1.length + 1 ≤ 4611686018427387904) <|
        some (.go (s46.1 ++ [26], IntKind.i64.wrap (s46.2 + 1)))) else (some (.out s46.1))) ([], 0) = some ((List.range m).map fun _ => 26) := by
      refine wl_app (out := fun s => s) (a := 0) m ?_ ?_
      · intro c s hc hs
        rw [if_pos (by simp; omega), gd_t (by rw [hs]; omega), wr64 (by dsimp only; omega) (by dsimp only; omega)]
      · intro s
        rw [if_neg (by simp; omega)]
    have ha : ((List.range m).map fun _ => (26 : Int)).all (inB 0 40) = true := by
      rw [List.all_map, List.all_eq_true]; intro i _; rfl
    have hb : F_impl_Contest_base ct = some 27 := by unfold F_impl_Contest_base; rw [k4]; rfl
    rw [e1, Option.bind_some, Option.bind_some]
    refine ⟨?_, ?_, ?_⟩
    rotate_left 2
    · rw [hb, Option.bind_some, n_codeOf (by omega) (by simp; omega) ha]; rfl
    · unfold F_spec_vCode
      rw [k4]
      simp only [show ((4 : Int) == 1) = false from rfl, show ((4 : Int) == 2) = false from rfl, show ((4 : Int) == 3) = false from rfl, Bool.false_eq_true, if_false, if_true]
      rw [n_vNumber (by omega) (by omega) (by simp; omega) (by simpa using ha)]
      simp
      rfl
-- sealable contests
theorem n_formI (ct : Contest) : F_impl_Contest_isForm ct = some (ct.Kind == 1 || ct.Kind == 2) := by
  unfold F_impl_Contest_isForm
  rw [ite_or]; rfl
theorem n_bRows (ct : Contest) : F_spec_bRows ct = some (ct.Kind == 1 || ct.Kind == 2) := by
  unfold F_spec_bRows
  rw [ite_or]; rfl
theorem n_sealable (gr : Group) (ct : Contest) : ∃ b, F_spec_bGood gr ct = some b ∧ F_impl_IsSealable gr ct = some b ∧ (b = true → OkG gr ∧ OkC ct) := by
  unfold F_spec_bGood F_impl_IsSealable
  rw [n_l2Good, n_validG]
  simp only [n_vContest, n_IsValidContest, n_bRows, n_formI, Option.bind_some]
  cases hg : okG gr with
  | false => exact ⟨false, rfl, rfl, fun h => by cases h⟩
  | true =>
    cases hc : okC ct with
    | false => exact ⟨false, rfl, rfl, fun h => by cases h⟩
    | true =>
      obtain ⟨n, h1, h2⟩ := n_greatest (okC_t.1 hc)
      simp only [h1, h2, Bool.not_true, Bool.false_eq_true, if_false, Option.bind_some]
      have k := And.intro (okG_t.1 hg) (okC_t.1 hc)
      simp only [ite_or, ite_and, Option.bind_some]
      cases decide (100000 < n) || decide (gr.Q ≤ n) with
      | true => exact ⟨false, rfl, rfl, fun h => by cases h⟩
      | false => exact ⟨_, rfl, rfl, fun _ => k⟩
-- plans
theorem n_plan (p : Plan) : ∃ b, F_spec_nPlan p = some b ∧ F_impl_IsValidPlan p = some b ∧ (b = true → OkG p.Gr ∧ OkC p.Ct ∧ 7 < p.Gr.Q ∧ (1 ≤ p.Threshold ∧ p.Threshold ≤ p.Trustees ∧ p.Trustees ≤ 4) ∧ (0 ≤ p.Mixers ∧ p.Mixers ≤ 3) ∧ (1 ≤ p.Voters ∧ p.Voters ≤ 12) ∧ digB p.Seed = true) := by
  obtain ⟨b, s1, s2, s3⟩ := n_sealable p.Gr p.Ct
  unfold F_spec_nPlan F_impl_IsValidPlan
  simp only [s1, s2, n_inB, n_winB, n_isDigest, n_l3Digest, n_bRows, n_formI, Option.bind_some, ite_or]
  have e : (!b || (!inB 1 p.Trustees p.Threshold || (decide (4 < p.Trustees) || (decide (p.Gr.Q ≤ 7) || (!inB 0 3 p.Mixers || (!inB 1 12 p.Voters || !digB p.Seed)))))) = (!b || (decide (p.Gr.Q ≤ 7) || (!inB 1 4 p.Trustees || (!inB 1 p.Trustees p.Threshold || (!inB 0 3 p.Mixers || (!inB 1 12 p.Voters || !digB p.Seed)))))) := by
    rw [Bool.eq_iff_iff]
    generalize digB p.Seed = d
    simp only [Bool.or_eq_true, Bool.not_eq_true', decide_eq_true_eq, inB, Bool.and_eq_false_iff, decide_eq_false_iff_not]
    cases b <;> cases d <;> simp <;> omega
  rw [← e]
  cases hb : (!b || (!inB 1 p.Trustees p.Threshold || (decide (4 < p.Trustees) || (decide (p.Gr.Q ≤ 7) || (!inB 0 3 p.Mixers || (!inB 1 12 p.Voters || !digB p.Seed)))))) with
  | true => exact ⟨false, rfl, rfl, fun h => by cases h⟩
  | false =>
    simp only [Bool.or_eq_false_iff, Bool.not_eq_false', decide_eq_false_iff_not, inB_t] at hb
    obtain ⟨h1, h2, h3, h4, h5, h6, h7⟩ := hb
    obtain ⟨kg, kc⟩ := s3 h1
    obtain ⟨bs, t, n1, n2, _⟩ := n_bases kg (n := 12) (by omega)
    simp only [Bool.false_eq_true, if_false]
    have et : ∀ a, F_spec_bTop p.Ct = some a → (p.Ct.Kind == 1 || p.Ct.Kind == 2) = true → F_impl_Contest_most p.Ct = some a := by
      intro a ha hk
      unfold F_spec_bTop at ha
      unfold F_impl_Contest_most
      simp only [Bool.or_eq_true, beq_iff_eq] at hk
      rcases hk with h | h <;> simp [h] at ha ⊢ <;> exact ha
    obtain ⟨a, ha⟩ : ∃ a, F_spec_bTop p.Ct = some a := by unfold F_spec_bTop; split <;> exact ⟨_, rfl⟩
    have fin : OkG p.Gr ∧ OkC p.Ct ∧ 7 < p.Gr.Q ∧ (1 ≤ p.Threshold ∧ p.Threshold ≤ p.Trustees ∧ p.Trustees ≤ 4) ∧ (0 ≤ p.Mixers ∧ p.Mixers ≤ 3) ∧ (1 ≤ p.Voters ∧ p.Voters ≤ 12) ∧ digB p.Seed = true := ⟨kg, kc, by omega, by omega, h5, h6, h7⟩
    have n1' : F_spec_BasesOf p.Gr 12 = some (bs, t) := n1
    have n2' : F_impl_Group_basesOf p.Gr 12 = some (bs, t) := n2
    cases hk : (p.Ct.Kind == 1 || p.Ct.Kind == 2) with
    | false =>
      simp only [Bool.false_eq_true, if_false, Option.bind_some, n1', n2']
      exact ⟨t, rfl, rfl, fun _ => fin⟩
    | true =>
      simp only [if_true, ha, et a ha hk, Option.bind_some, n1', n2']
      cases decide (p.Gr.Q ≤ IntKind.i64.wrap (p.Voters * a)) with
      | true => exact ⟨false, rfl, rfl, fun h => by cases h⟩
      | false => exact ⟨t, rfl, rfl, fun _ => fin⟩
theorem sz_loop {step : Int × Int → Option (Stp (Int × Int) (Int ⊕ Int))} {a0 : Int} (n : Nat) (h0 : 0 ≤ a0 ∧ a0 ≤ 1048576) (hs : ∀ (k : Nat) (a : Int), k < n → 0 ≤ a → a ≤ 1048576 → ∃ z, z ≤ 1048576 ∧ step (a, (k : Int)) = if decide (z < 0) = true then some (.out (.inr (-1))) else some (.go (z, ((k + 1 : Nat) : Int))))
    (he : ∀ a, step (a, (n : Int)) = some (.out (.inl a))) : ∃ z, (wloop step (a0, 0)).bind (Sum.elim (fun x => some x) some) = some z ∧ z ≤ 1048576 := by
  obtain ⟨b, h1, h2⟩ := rn_cloop (step := step) (s0 := (a0, 0)) (φ := fun b => Sum.elim (fun z => z ≤ 1048576) (fun z => z ≤ 1048576) b) n (fun k p => p.2 = (k : Int) ∧ 0 ≤ p.1 ∧ p.1 ≤ 1048576) ⟨rfl, h0⟩
    (by
      rintro k ⟨a, c⟩ hk ⟨rfl, h1, h2⟩
      obtain ⟨z, hz, e⟩ := hs k a hk h1 h2
      by_cases h : z < 0
      · exact ⟨.out (.inr (-1)), by rw [e, if_pos (by simpa using h)], by show (-1 : Int) ≤ _; omega⟩
      · exact ⟨.go (z, ((k + 1 : Nat) : Int)), by rw [e, if_neg (by simpa using h)], rfl, by dsimp only; omega, hz⟩)
    (by
      rintro ⟨a, c⟩ ⟨rfl, h1, h2⟩
      exact ⟨_, he a, h2⟩)
  rw [h1, Option.bind_some]
  cases b with
  | inl z => exact ⟨z, rfl, h2⟩
  | inr z => exact ⟨z, rfl, h2⟩
theorem mk_loop {α : Type} {step : List α × Int × Int → Option (Stp (List α × Int × Int) (List α × Int))} {l : List α} {a0 K : Int} (P : α → Prop) (hP : ∀ x ∈ l, P x) (hK : 0 ≤ K) (h0 : 1 ≤ a0)
    (hs : ∀ (k : Nat) (r : List α) (a : Int) (h : k < r.length), r.length = l.length → P r[k] → 1 ≤ a → a ≤ a0 + k * K → ∃ x a', step (r, a, (k : Int)) = some (.go (r.set k x, a', ((k + 1 : Nat) : Int))) ∧ P x ∧ a ≤ a' ∧ a' ≤ a + K)
    (he : ∀ r a, r.length = l.length → step (r, a, (l.length : Int)) = some (.out (r, a))) : ∃ z, wloop step (l, a0, 0) = some z ∧ 1 ≤ z.2 ∧ z.2 ≤ a0 + l.length * K ∧ z.1.length = l.length ∧ ∀ x ∈ z.1, P x := by
  refine rn_cloop l.length (fun k p => p.2.2 = (k : Int) ∧ p.1.length = l.length ∧ (∀ x ∈ p.1, P x) ∧ 1 ≤ p.2.1 ∧ p.2.1 ≤ a0 + k * K) ⟨rfl, rfl, hP, h0, by simp⟩ ?_ ?_
  · rintro k ⟨r, a, c⟩ hk ⟨rfl, h1, h2, h3, h4⟩
    simp only at h1 h2 h3 h4
    obtain ⟨x, a', e, h5, h6, h7⟩ := hs k r a (by omega) h1 (h2 _ (List.getElem_mem (by omega))) h3 h4
    refine ⟨_, e, rfl, by simpa using h1, fun y hy => ?_, by dsimp only; omega, ?_⟩
    · rcases List.mem_or_eq_of_mem_set hy with h | rfl
      · exact h2 y h
      · exact h5
    · show a' ≤ a0 + ((k + 1 : Nat) : Int) * K
      rw [show (((k + 1 : Nat) : Int)) * K = (k : Int) * K + K by rw [Int.natCast_add, Int.add_mul]; omega]
      omega
  · rintro ⟨r, a, c⟩ ⟨rfl, h1, h2, h3, h4⟩
    exact ⟨_, he r a h1, h3, h4, h1, h2⟩
theorem flatI_take {α : Type} {L : List (List α)} {i : Nat} (h : i < L.length) : (L.take (i + 1)).flatten = (L.take i).flatten ++ L[i] := by
  rw [List.take_succ_eq_append_getElem h, List.flatten_append]; simp
theorem flatI_le {α : Type} (L : List (List α)) (i : Nat) : (L.take i).flatten.length ≤ L.flatten.length := by
  have e : L.flatten = (L.take i).flatten ++ (L.drop i).flatten := by rw [← List.flatten_append, List.take_append_drop]
  rw [e, List.length_append]; omega
theorem n_concatI (L : List (List Int)) (h : L.flatten.length ≤ 1000000000000) : F_slices_Concat_int_int L = some L.flatten := by
  unfold F_slices_Concat_int_int
  refine eq_of_rn (rn_then (ψ := fun n => n = (L.flatten.length : Int)) (rn_rloop (fun i s => s = ((L.take i).flatten.length : Int)) rfl ?_ ?_) ?_)
  · rintro i s hi rfl
    have e := congrArg List.length (flatI_take hi)
    rw [List.length_append] at e
    have hl := flatI_le L (i + 1)
    refine rn_ix hi ?_
    rw [wr64 (by omega) (by omega)]
    refine rn_f (by simp only [decide_eq_false_iff_not]; omega) (rn_some ?_)
    show _ = _
    omega
  · rintro s rfl
    rw [List.take_length]
  · rintro n rfl
    refine rn_gd (by omega) (rn_then (ψ := fun r => r = L.flatten) (rn_rloop (fun i s => s = (L.take i).flatten) rfl ?_ ?_) fun r hr => rn_some hr)
    · rintro i s hi rfl
      have e := congrArg List.length (flatI_take hi)
      rw [List.length_append] at e
      have hl := flatI_le L (i + 1)
      refine rn_ix hi (rn_gd (by omega) (rn_some ?_))
      show _ = _
      rw [flatI_take hi]
    · rintro s rfl
      rw [List.take_length]
-- challenges
def chG (gr : Group) (s : ByteArray) (l : List Int) : Int := hshL s ([gr.P, gr.Q, gr.G] ++ l) % gr.Q
theorem grp_dig {gr : Group} (k : OkG gr) {l : List Int} : ([gr.P, gr.Q, gr.G] ++ l).all digB = l.all digB := by
  have hp := k.p
  have hq := k.q
  have hg := k.g
  rw [List.all_append]
  have : [gr.P, gr.Q, gr.G].all digB = true := by
    simp only [List.all_cons, List.all_nil, Bool.and_true, Bool.and_eq_true]
    exact ⟨digB_t.2 (by omega), digB_t.2 (by omega), digB_t.2 (by omega)⟩
  rw [this, Bool.true_and]
theorem n_hChallenge {gr : Group} (k : OkG gr) {s : ByteArray} {l : List Int} (hs : s.size ≤ 1000000) (hl : l.length ≤ 10000000000) (hd : l.all digB = true) : F_spec_hChallenge gr s l = some (chG gr s l) := by
  have hq := k.q
  have hb := digB_t.1 (hshL_dig s ([gr.P, gr.Q, gr.G] ++ l))
  unfold F_spec_hChallenge
  rw [gd_t (by simp only [List.length_cons, List.length_nil]; omega), n_hLabelled hs (by simp only [List.length_append, List.length_cons, List.length_nil]; omega) (by rw [grp_dig k]; exact hd), Option.bind_some, gd_t (by omega), Int.tmod_eq_emod_of_nonneg hb.1]
  rfl
theorem n_chlI {gr : Group} (k : OkG gr) (s : ByteArray) {l : List Int} (hl : l.length ≤ 10000000000) : F_impl_Group_challenge gr s l = some (if labB s ([gr.P, gr.Q, gr.G] ++ l) = true then (chG gr s l, true) else (0, false)) := by
  have hq := k.q
  have hb := digB_t.1 (hshL_dig s ([gr.P, gr.Q, gr.G] ++ l))
  unfold F_impl_Group_challenge
  rw [gd_t (by simp only [List.length_cons, List.length_nil]; omega), n_HashLabelled, Option.bind_some]
  cases labB s ([gr.P, gr.Q, gr.G] ++ l) with
  | false => rfl
  | true =>
    simp only [if_true, Bool.not_true, Bool.false_eq_true, if_false]
    rw [gd_t (by omega), Int.tmod_eq_emod_of_nonneg hb.1]
    rfl
theorem lab_t {gr : Group} (k : OkG gr) {s : ByteArray} {l : List Int} (hs : s.size ≤ 40) (hl : 4 + s.size + l.length ≤ 400) (hd : l.all digB = true) : labB s ([gr.P, gr.Q, gr.G] ++ l) = true := by
  unfold labB
  rw [grp_dig k, hd, Bool.and_true, Bool.and_eq_true, decide_eq_true_eq, decide_eq_true_eq]
  simp only [List.length_append, List.length_cons, List.length_nil]
  omega
theorem has_dig {gr : Group} (k : OkG gr) {l : List Int} (h : l.all (hasB gr) = true) : l.all digB = true := by
  have hp := k.p
  rw [List.all_eq_true] at h ⊢
  intro x hx
  have := has_bd (h x hx)
  exact digB_t.2 (by omega)
-- products of powers
def prdG (gr : Group) : List Int → List Int → Int → Int
  | x :: l, e :: m, o => prdG gr l m (o * powG gr x e % gr.P)
  | _, _, o => o
theorem prdG_snoc (gr : Group) : ∀ (l m : List Int) (x e o : Int), l.length = m.length → prdG gr (l ++ [x]) (m ++ [e]) o = prdG gr l m o * powG gr x e % gr.P
  | [], [], x, e, o, _ => rfl
  | y :: l, f :: m, x, e, o, h => prdG_snoc gr l m x e _ (by simpa using h)
theorem prdG_cut (gr : Group) : ∀ (l m : List Int) (o : Int), prdG gr l (m.take l.length) o = prdG gr l m o
  | [], m, o => by cases m <;> rfl
  | y :: l, [], o => rfl
  | y :: l, f :: m, o => prdG_cut gr l m _
theorem prdG_bd {gr : Group} (h : 0 < gr.P) : ∀ (l m : List Int) (o : Int), 0 ≤ o ∧ o < gr.P → 0 ≤ prdG gr l m o ∧ prdG gr l m o < gr.P
  | x :: l, e :: m, o, _ => prdG_bd h l m _ ⟨Int.emod_nonneg _ (by omega), Int.emod_lt_of_pos _ h⟩
  | [], _, o, ho => ho
  | _ :: _, [], o, ho => ho
theorem mul_two {gr : Group} (k : OkG gr) {x y : Int} (hx : 0 ≤ x ∧ x < gr.P) (hy : 0 ≤ y) : mulG gr [x, y] = x * y % gr.P := by
  have hp := k.p
  simp only [mulG, List.foldl_cons, List.foldl_nil, Int.one_mul]
  rw [Int.emod_eq_of_lt hx.1 hx.2]
theorem n_gProd {gr : Group} (k : OkG gr) {l m : List Int} (hl : ∀ x ∈ l, 0 ≤ x ∧ x ≤ 2000000000) (hm : l.length ≤ m.length) : F_spec_gProd gr l m = some (prdG gr l m 1) := by
  have hp := k.p
  unfold F_spec_gProd
  refine eq_of_rn (rn_then (ψ := fun b => b = prdG gr l m 1) (rn_rloop (fun i s => s = prdG gr (l.take i) (m.take i) 1) rfl ?_ ?_) fun b hb => rn_some hb)
  · rintro i s hi rfl
    have bd := prdG_bd (gr := gr) (by omega) (l.take i) (m.take i) 1 (by omega)
    have hx := hl l[i] (List.getElem_mem hi)
    have pb := powG_bd k l[i] (m[i]'(by omega))
    refine rn_ix hi (rn_ix (show i < m.length by omega) (rn_call (n_gExp k hx.1 hx.2 _) (rn_gd (by omega) (rn_some ?_))))
    show _ = prdG gr (l.take (i + 1)) (m.take (i + 1)) 1
    rw [List.take_succ_eq_append_getElem hi, List.take_succ_eq_append_getElem (show i < m.length by omega), prdG_snoc _ _ _ _ _ _ (by simp; omega)]
    have b1 := Int.mul_nonneg bd.1 pb.1
    have b2 : prdG gr (l.take i) (m.take i) 1 * powG gr l[i] (m[i]'(by omega)) ≤ 2000000000 * 2000000000 := Int.mul_le_mul (by omega) (by omega) pb.1 (by omega)
    rw [wr64 (by omega) (by omega), Int.tmod_eq_emod_of_nonneg b1]
  · rintro s rfl
    rw [List.take_length, prdG_cut]
theorem n_powersI {gr : Group} (k : OkG gr) {l m : List Int} (hl : ∀ x ∈ l, 0 ≤ x ∧ x ≤ 2000000000) (hm : l.length ≤ m.length) : F_impl_Group_powers gr l m = some (prdG gr l m 1) := by
  have hp := k.p
  unfold F_impl_Group_powers
  refine eq_of_rn (rn_then (ψ := fun b => b = prdG gr l m 1) (rn_rloop (fun i s => s = prdG gr (l.take i) (m.take i) 1) rfl ?_ ?_) fun b hb => rn_some hb)
  · rintro i s hi rfl
    have bd := prdG_bd (gr := gr) (by omega) (l.take i) (m.take i) 1 (by omega)
    have hx := hl l[i] (List.getElem_mem hi)
    have pb := powG_bd k l[i] (m[i]'(by omega))
    refine rn_ix hi (rn_ix (show i < m.length by omega) (rn_call (n_pow k hx.1 hx.2 _).1 (rn_call (n_mul k ?_) (rn_some ?_))))
    · intro y hy
      simp only [List.mem_cons, List.not_mem_nil, or_false] at hy
      rcases hy with rfl | rfl <;> omega
    · show _ = prdG gr (l.take (i + 1)) (m.take (i + 1)) 1
      rw [List.take_succ_eq_append_getElem hi, List.take_succ_eq_append_getElem (show i < m.length by omega), prdG_snoc _ _ _ _ _ _ (by simp; omega), mul_two k bd pb.1]
  · rintro s rfl
    rw [List.take_length, prdG_cut]
-- linear statements
structure LinS (gr : Group) (bs : List (List Int)) : Prop where
  n : 1 ≤ bs.length ∧ bs.length ≤ 8
  m : 1 ≤ (bs.headD []).length ∧ (bs.headD []).length ≤ 8
  r : ∀ r ∈ bs, r.length = (bs.headD []).length ∧ r.all (hasB gr) = true
theorem flatI_len : ∀ {bs : List (List Int)} {c : Nat}, (∀ r ∈ bs, r.length ≤ c) → bs.flatten.length ≤ bs.length * c
  | [], _, _ => by simp
  | r :: bs, c, h => by
    have h1 := h r (List.mem_cons_self ..)
    have h2 := flatI_len fun x hx => h x (List.mem_cons_of_mem r hx)
    rw [List.flatten_cons, List.length_append, List.length_cons, Nat.add_mul]
    omega
theorem LinS.flat {gr : Group} {bs : List (List Int)} (h : LinS gr bs) : bs.flatten.length ≤ 64 := by
  have := flatI_len (bs := bs) (c := 8) fun r hr => by rw [(h.r r hr).1]; exact h.m.2
  have := h.n
  omega
theorem LinS.dig {gr : Group} (k : OkG gr) {bs : List (List Int)} (h : LinS gr bs) : bs.flatten.all digB = true := by
  rw [List.all_eq_true]
  intro x hx
  obtain ⟨r, hr, hx⟩ := List.mem_flatten.1 hx
  exact List.all_eq_true.1 (has_dig k (h.r r hr).2) x hx
theorem LinS.hd {gr : Group} {bs : List (List Int)} (h : LinS gr bs) : ix bs 0 = some (bs.headD []) := by
  cases bs with
  | nil => have := h.n; simp at this
  | cons r l => rfl
theorem has_rng {gr : Group} (k : OkG gr) {l : List Int} (h : l.all (hasB gr) = true) : ∀ x ∈ l, 0 ≤ x ∧ x ≤ 2000000000 := fun x hx => by
  have hp := k.p
  have := has_bd (List.all_eq_true.1 h x hx)
  omega
theorem n_stmt {bs : List (List Int)} {im cs : List Int} (h1 : bs.flatten.length ≤ 1000000) (h2 : im.length ≤ 1048576) (h3 : cs.length ≤ 1048576) : F_spec_sStatement bs im cs = some (bs.flatten ++ im ++ cs) := by
  unfold F_spec_sStatement
  refine eq_of_rn (rn_then (ψ := fun r => r = bs.flatten) (rn_rloop (fun i s => s = (bs.take i).flatten) rfl ?_ ?_) ?_)
  · rintro i s hi rfl
    have e := congrArg List.length (flatI_take hi)
    rw [List.length_append] at e
    have hl := flatI_le bs (i + 1)
    refine rn_ix hi (rn_gd (by omega) (rn_some ?_))
    show _ = _
    rw [flatI_take hi]
  · rintro s rfl
    rw [List.take_length]
  · rintro r rfl
    exact rn_gd (by omega) (rn_gd (by rw [List.length_append]; omega) (rn_some rfl))
theorem n_images {gr : Group} (k : OkG gr) {bs : List (List Int)} {es : List Int} (hb : LinS gr bs) (he : es.length = (bs.headD []).length) : F_impl_Group_images gr bs es = some (bs.map fun r => prdG gr r es 1) := by
  unfold F_impl_Group_images
  have hn := hb.n
  rw [rl_map (f := fun r => prdG gr r es 1) []]
  · rfl
  · intro i hi s hs
    have hr := hb.r _ (List.getElem_mem hi)
    rw [ix_at hi, Option.bind_some, n_powersI k (has_rng k hr.2) (by omega), Option.bind_some, gd_t (by simp at hs; omega)]
def verB (gr : Group) (s : ByteArray) (bs : List (List Int)) (im : List Int) (p : Proof) : Bool :=
  !(((p.Commits.length : Int) != (bs.length : Int)) || (((p.Challenges.length : Int) != 1) || (((p.Responses.length : Int) != ((bs.headD []).length : Int)) || (!p.Commits.all (hasB gr) || !p.Responses.all (expB gr))))) &&
  (!(p.Challenges.headD 0 != chG gr s (bs.flatten ++ im ++ p.Commits)) &&
  (List.range bs.length).all fun i => !(prdG gr (bs.getD i []) p.Responses 1 != mulG gr [p.Commits.getD i 0, powG gr (im.getD i 0) (p.Challenges.headD 0)]))
theorem n_sVerify {gr : Group} (k : OkG gr) {s : ByteArray} (hs : s.size ≤ 40) {bs : List (List Int)} {im : List Int} {p : Proof} (hb : LinS gr bs) (hi : im.length = bs.length) (hd : im.all (hasB gr) = true) (hc : p.Commits.length ≤ 1048576) :
    F_spec_sVerify gr s bs im p = some (verB gr s bs im p) := by
  have hp := k.p
  have hq := k.q
  unfold F_spec_sVerify verB
  simp only [hb.hd, n_gIs k, n_gExps (gr := gr) (by omega) (by omega), Option.bind_some, ite_or]
  cases hg : (((p.Commits.length : Int) != (bs.length : Int)) || (((p.Challenges.length : Int) != 1) || (((p.Responses.length : Int) != ((bs.headD []).length : Int)) || (!p.Commits.all (hasB gr) || !p.Responses.all (expB gr))))) with
  | true => rfl
  | false =>
    simp only [Bool.or_eq_false_iff, bne_eq_false_iff_eq, Bool.not_eq_false'] at hg
    obtain ⟨g1, g2, g3, g4, g5⟩ := hg
    have hf := hb.flat
    have hn := hb.n
    obtain ⟨c, hce⟩ : ∃ c, p.Challenges = [c] := by
      match h : p.Challenges, g2 with
      | [c], _ => exact ⟨c, rfl⟩
    have hdig : (bs.flatten ++ im ++ p.Commits).all digB = true := by
      rw [List.all_append, List.all_append, hb.dig k, has_dig k hd, has_dig k g4]; rfl
    simp only [Bool.false_eq_true, if_false, hce, show ix [c] 0 = some c from rfl, Option.bind_some, n_stmt (bs := bs) (im := im) (cs := p.Commits) (by omega) (by omega) hc]
    rw [n_hChallenge k (by omega) (by simp only [List.length_append]; omega) hdig, Option.bind_some]
    show _ = some (!false && (!(c != _) && _))
    by_cases hcc : c = chG gr s (bs.flatten ++ im ++ p.Commits)
    · have e1 : (c != chG gr s (bs.flatten ++ im ++ p.Commits)) = false := by simpa using hcc
      rw [e1]
      simp only [Bool.false_eq_true, if_false, Bool.not_false, Bool.true_and]
      rw [n_allN (fun i => !(prdG gr (bs.getD i []) p.Responses 1 != mulG gr [p.Commits.getD i 0, powG gr (im.getD i 0) c])) false true]
      · simp only [Bool.if_true_left, Bool.if_false_right, Bool.and_true, Bool.decide_eq_true, Bool.or_false]
        rfl
      · intro i hi
        have hr := hb.r _ (List.getElem_mem hi)
        have h1 : i < p.Commits.length := by omega
        have h2 : i < im.length := by omega
        have ic := has_rng k g4 _ (List.getElem_mem h1)
        have ii := has_rng k hd _ (List.getElem_mem h2)
        have pb := powG_bd k im[i] c
        rw [ix_at hi, Option.bind_some, ix_at h1, Option.bind_some, ix_at h2, Option.bind_some, n_gProd k (has_rng k hr.2) (by omega), Option.bind_some, n_gExp k ii.1 ii.2, Option.bind_some, n_gMul k ?_, Option.bind_some]
        · simp only [List.getD_eq_getElem?_getD, List.getElem?_eq_getElem hi, List.getElem?_eq_getElem h1, List.getElem?_eq_getElem h2, Option.getD_some]
          exact ite_n _ _ _
        · intro y hy
          simp only [List.mem_cons, List.not_mem_nil, or_false] at hy
          rcases hy with rfl | rfl <;> omega
    · have e1 : (c != chG gr s (bs.flatten ++ im ++ p.Commits)) = true := by simpa using hcc
      rw [e1]; rfl
theorem n_verifyI {gr : Group} (k : OkG gr) {s : ByteArray} (hs : s.size ≤ 40) {bs : List (List Int)} {im : List Int} {p : Proof} (hb : LinS gr bs) (hi : im.length = bs.length) (hd : im.all (hasB gr) = true) (hc : p.Commits.length ≤ 1048576) :
    F_impl_Group_verifyLinear gr s bs im p = some (verB gr s bs im p) := by
  have hp := k.p
  have hq := k.q
  unfold F_impl_Group_verifyLinear verB
  simp only [hb.hd, n_hasAll k, n_areExps (gr := gr) (by omega) (by omega), Option.bind_some, ite_or]
  cases hg : (((p.Commits.length : Int) != (bs.length : Int)) || (((p.Challenges.length : Int) != 1) || (((p.Responses.length : Int) != ((bs.headD []).length : Int)) || (!p.Commits.all (hasB gr) || !p.Responses.all (expB gr))))) with
  | true => rfl
  | false =>
    simp only [Bool.or_eq_false_iff, bne_eq_false_iff_eq, Bool.not_eq_false'] at hg
    obtain ⟨g1, g2, g3, g4, g5⟩ := hg
    have hf := hb.flat
    have hn := hb.n
    obtain ⟨c, hce⟩ : ∃ c, p.Challenges = [c] := by
      match h : p.Challenges, g2 with
      | [c], _ => exact ⟨c, rfl⟩
    have hdig : (bs.flatten ++ im ++ p.Commits).all digB = true := by
      rw [List.all_append, List.all_append, hb.dig k, has_dig k hd, has_dig k g4]; rfl
    have hfl : [bs.flatten, im, p.Commits].flatten = bs.flatten ++ im ++ p.Commits := by simp
    have hl : (bs.flatten ++ im ++ p.Commits).length ≤ 80 := by simp only [List.length_append]; omega
    simp only [Bool.false_eq_true, if_false, hce, show ix [c] 0 = some c from rfl, Option.bind_some, n_concatI bs (by omega), n_concatI [bs.flatten, im, p.Commits] (by rw [hfl]; omega), hfl]
    rw [n_chlI k s (by omega), if_pos (lab_t k hs (by omega) hdig), Option.bind_some]
    simp only [Bool.not_true, Bool.false_eq_true, if_false, Option.bind_some]
    show _ = some (!false && (!(c != _) && _))
    by_cases hcc : c = chG gr s (bs.flatten ++ im ++ p.Commits)
    · have e1 : (c != chG gr s (bs.flatten ++ im ++ p.Commits)) = false := by simpa using hcc
      rw [e1, ← hcc]
      simp only [Bool.false_eq_true, if_false, Bool.not_false, Bool.true_and]
      rw [n_images k hb (by omega), Option.bind_some, n_allN (fun i => !(prdG gr (bs.getD i []) p.Responses 1 != mulG gr [p.Commits.getD i 0, powG gr (im.getD i 0) c])) false true]
      · simp only [Bool.if_true_left, Bool.if_false_right, Bool.and_true, Bool.decide_eq_true, Bool.or_false, List.length_map]
        rfl
      · intro i hi
        have hi' : i < bs.length := by simpa using hi
        have h1 : i < p.Commits.length := by omega
        have h2 : i < im.length := by omega
        have ic := has_rng k g4 _ (List.getElem_mem h1)
        have ii := has_rng k hd _ (List.getElem_mem h2)
        have pb := powG_bd k im[i] c
        rw [ix_at hi, Option.bind_some, ix_at h1, Option.bind_some, ix_at h2, Option.bind_some, (n_pow k ii.1 ii.2 _).1, Option.bind_some, n_mul k ?_, Option.bind_some]
        · simp only [List.getElem_map, List.getD_eq_getElem?_getD, List.getElem?_eq_getElem hi', List.getElem?_eq_getElem h1, List.getElem?_eq_getElem h2, Option.getD_some]
          exact ite_n _ _ _
        · intro y hy
          simp only [List.mem_cons, List.not_mem_nil, or_false] at hy
          rcases hy with rfl | rfl <;> omega
    · have e1 : (c != chG gr s (bs.flatten ++ im ++ p.Commits)) = true := by simpa using hcc
      rw [e1]; rfl
theorem gen_has {gr : Group} (k : OkG gr) : hasB gr gr.G = true := by
  have hg := k.g
  simp only [hasB, Bool.and_eq_true, decide_eq_true_eq]
  exact ⟨by omega, k.o⟩
theorem rows_one {gr : Group} {x : Int} (h : hasB gr x = true) : LinS gr [[x]] := ⟨by simp, by simp, fun r hr => by
  rw [List.mem_singleton.1 hr]
  simp [h]⟩
def sgnB (gr : Group) (s : ByteArray) (key : Int) (p : Proof) : Bool := verB gr s [[gr.G]] [key] p
theorem n_signed {gr : Group} (k : OkG gr) {s : ByteArray} (hs : s.size ≤ 40) {key : Int} (hk : hasB gr key = true) {p : Proof} (hc : p.Commits.length ≤ 1048576) : F_spec_oSigned gr s key p = some (sgnB gr s key p) ∧ F_impl_Group_isSigned gr s key p = some (sgnB gr s key p) := by
  have hr := rows_one (gen_has k)
  have hd : [key].all (hasB gr) = true := by simp [hk]
  unfold F_spec_oSigned F_impl_Group_isSigned
  rw [n_sVerify k hs hr rfl hd hc, n_verifyI k hs hr rfl hd hc]
  exact ⟨rfl, rfl⟩
def hxS : ByteArray := ⟨#[48, 49, 50, 51, 52, 53, 54, 55, 56, 57, 97, 98, 99, 100, 101, 102]⟩
def hxC (n : Int) : Int := (ixs hxS n).getD 0
theorem hx_at {n : Int} (h : 0 ≤ n ∧ n < 16) : ixs hxS n = some (hxC n) := by
  obtain ⟨k, rfl⟩ := Int.eq_ofNat_of_zero_le h.1
  have : ∀ k : Fin 16, ixs hxS (k.val : Int) = some (hxC (k.val : Int)) := by decide
  exact this ⟨k, by omega⟩
def hxD (d : Int) (k : Nat) : Int := d / 16 ^ k % 16
theorem hxD_bd (d : Int) (k : Nat) : 0 ≤ hxD d k ∧ hxD d k < 16 := by unfold hxD; omega
def hxL (d : Int) : List Int := (List.range 16).map fun i => hxC (hxD d (15 - i))
theorem bytes_size (l : List Int) : (bytesOf l).size = l.length := by
  show ((l.map fun n => UInt8.ofNat n.toNat).toArray).size = _
  simp
def hxT (d : Int) : ByteArray := bytesOf (hxL d)
theorem hxT_size (d : Int) : (hxT d).size = 16 := by unfold hxT; rw [bytes_size]; simp [hxL]
theorem n_textS {d : Int} (h : digB d = true) : F_spec_DigestText d = some (hxT d, true) := by
  have hd := digB_t.1 h
  unfold F_spec_DigestText
  rw [n_l3Digest, h, Option.bind_some]
  simp only [Bool.not_true, Bool.false_eq_true, if_false]
  rw [gd_t (by omega), Option.bind_some]
  have key := rn_cloop (σ := Int × List Int × Int) (β := List Int) (step := fun s17 =>
    if decide (0 ≤ s17.2.2) = true then (
    (ixs (⟨#[48, 49, 50, 51, 52, 53, 54, 55, 56, 57, 97, 98, 99, 100, 101, 102]⟩ : ByteArray) (s17.1.tmod 16)).bind fun x23 =>
    (ix s17.2.1 s17.2.2).bind fun x24 =>
    some (.go (IntKind.i64.wrap (s17.1.tdiv 16), s17.2.1.set s17.2.2.toNat x23, IntKind.i64.wrap (s17.2.2 - 1)))) else (
    some (.out s17.2.1))) (s0 := (d, List.replicate 16 0, 15)) (φ := fun l => l = hxL d) 16
    (fun j p => p.1 = d / 16 ^ j ∧ p.2.1.length = 16 ∧ p.2.2 = 15 - (j : Int) ∧ ∀ i (h : i < p.2.1.length), 15 < i + j → p.2.1[i] = hxC (hxD d (15 - i))) ⟨by simp, by simp, rfl, fun i h1 h2 => by simp at h1; omega⟩ ?_ ?_
  · obtain ⟨l, e, rfl⟩ := key
    rw [e]; rfl
  · rintro j ⟨a, l, c⟩ hj ⟨rfl, h2, rfl, h4⟩
    simp only at h2 h4
    have hp : (0 : Int) < 16 ^ j := Int.pow_pos (by omega)
    have h0 : 0 ≤ d / 16 ^ j := Int.ediv_nonneg hd.1 (by omega)
    have h1 : d / 16 ^ j ≤ d := Int.ediv_le_self _ hd.1
    obtain ⟨i, hi, e1⟩ : ∃ i : Nat, i < 16 ∧ 15 - (j : Int) = (i : Int) := ⟨15 - j, by omega, by omega⟩
    have hil : i < l.length := by omega
    have e2 : (d / 16 ^ j).tmod 16 = hxD d j := Int.tmod_eq_emod_of_nonneg h0
    have e3 : IntKind.i64.wrap ((d / 16 ^ j).tdiv 16) = d / 16 ^ (j + 1) := by
      rw [Int.tdiv_eq_ediv_of_nonneg h0, wr64 (by omega) (by omega), Int.ediv_ediv_of_nonneg (by omega), Int.pow_succ]
    dsimp only
    rw [e1]
    refine rn_t (by simp) (rn_call (by rw [e2]; exact hx_at (hxD_bd d j)) (rn_call (ix_at hil) (rn_some ⟨e3, by simpa using h2, ?_, fun t ht h5 => ?_⟩)))
    · show IntKind.i64.wrap ((i : Int) - 1) = _
      rw [wr64 (by omega) (by omega)]; omega
    · simp only [Int.toNat_natCast, List.getElem_set]
      split
      · rename_i e; subst e
        have : 15 - i = j := by omega
        rw [this]
      · exact h4 t (by simpa using ht) (by omega)
  · rintro ⟨a, l, c⟩ ⟨rfl, h2, rfl, h4⟩
    simp only at h2 h4
    refine ⟨.out l, rfl, ?_⟩
    refine List.ext_getElem (by simp [hxL, h2]) fun i h5 h6 => ?_
    rw [h4 i h5 (by omega)]
    simp [hxL]
theorem and15 {x : Int} (hx : 0 ≤ x ∧ x ≤ 9223372036854775807) : IntKind.i64.wrap (BitVec.ofInt IntKind.i64.bits x &&& BitVec.ofInt IntKind.i64.bits 15).toNat = x % 16 := by
  obtain ⟨n, rfl⟩ := Int.eq_ofNat_of_zero_le hx.1
  have h1 : (BitVec.ofInt IntKind.i64.bits ((n : Nat) : Int) &&& BitVec.ofInt IntKind.i64.bits 15).toNat = n % 16 := by
    rw [BitVec.toNat_and]
    have a1 : (BitVec.ofInt IntKind.i64.bits (n : Int)).toNat = n := by
      rw [BitVec.toNat_ofInt]
      have : IntKind.i64.bits = 64 := rfl
      rw [this]
      omega
    have a2 : (BitVec.ofInt IntKind.i64.bits 15).toNat = 2 ^ 4 - 1 := by decide
    rw [a1, a2, Nat.and_two_pow_sub_one_eq_mod]
  rw [h1, wr64 (by omega) (by omega)]
  omega
theorem n_textI {d : Int} (h : digB d = true) : F_impl_DigestText d = some (hxT d, true) := by
  have hd := digB_t.1 h
  unfold F_impl_DigestText
  rw [n_isDigest, h, Option.bind_some]
  simp only [Bool.not_true, Bool.false_eq_true, if_false]
  refine eq_of_rn (rn_then (ψ := fun l => l = hxL d) (rn_cloop 16 (fun j p => p = ((List.range j).map fun i => hxC (hxD d (15 - i)), 15 - (j : Int))) rfl ?_ ?_) ?_)
  · rintro j p hj rfl
    obtain ⟨i, hi, e1⟩ : ∃ i : Nat, i < 16 ∧ 15 - (j : Int) = (i : Int) := ⟨15 - j, by omega, by omega⟩
    have ei : 15 - j = i := by omega
    have e4 : (IntKind.u64.wrap (IntKind.i64.wrap (4 * (i : Int)))) = ((4 * i : Nat) : Int) := by
      rw [wr64 (by omega) (by omega), wrU (by omega) (by omega)]; omega
    have hm : min (4 * i) IntKind.i64.bits = 4 * i := Nat.min_eq_left (by show 4 * i ≤ 64; omega)
    have e16 : (2 : Int) ^ (4 * i) = 16 ^ i := by rw [Int.pow_mul]; rfl
    have hp : (0 : Int) < 16 ^ i := Int.pow_pos (by omega)
    have h0 : 0 ≤ d / 16 ^ i := Int.ediv_nonneg hd.1 (by omega)
    have h1 : d / 16 ^ i ≤ d := Int.ediv_le_self _ hd.1
    have ed : d.fdiv (16 ^ i) = d / 16 ^ i := Int.fdiv_eq_ediv_of_nonneg _ (by omega)
    rw [e1]
    refine rn_t (by simp) ?_
    dsimp only
    rw [e4, Int.toNat_natCast, hm, e16, ed, and15 (by omega)]
    refine rn_gd (by omega) (rn_call (hx_at (hxD_bd d i)) (rn_gd (by simp; omega) (rn_some ?_)))
    show (_, _) = _
    rw [List.range_succ, List.map_append, wr64 (by omega) (by omega)]
    have e5 : (i : Int) - 1 = 15 - ((j + 1 : Nat) : Int) := by omega
    rw [e5, ← ei]; rfl
  · rintro p rfl
    exact rn_f rfl (rn_some rfl)
  · rintro l rfl; exact rn_some rfl
theorem n_oText {d : Int} (h : digB d = true) : F_spec_oText d = some (hxT d) := by
  unfold F_spec_oText
  rw [n_textS h]; rfl
theorem n_signLabel {s : ByteArray} {d : Int} (hs : s.size ≤ 1000) (h : digB d = true) : F_impl_signLabel s d = some (s ++ hxT d) := by
  unfold F_impl_signLabel
  rw [n_textI h, Option.bind_some, gd_t (by rw [hxT_size]; omega)]
theorem n_allDig (l : List Int) : F_impl_areAll__impl_isDigest l = some (l.all digB) := areAll_gen (f := F_impl_areAll_1__impl_isDigest) fun x _ => by
  unfold F_impl_areAll_1__impl_isDigest
  rw [n_isDigest]; rfl
theorem n_allDigS (l : List Int) : F_spec_l1All l 0 4611686018427387903 = some (l.all digB) := n_l1All l _ _
def plaB (kind author : Int) (data : List Int) : Bool := inB 1 9 kind && (inB 0 39 author && (decide ((data.length : Int) ≤ 380) && data.all digB))
abbrev entS : ByteArray := ⟨#[101, 110, 116, 114, 121]⟩
abbrev entS' : ByteArray := ⟨#[101, 110, 116, 114, 121, 32]⟩
def eD (kind author at_ : Int) (data : List Int) : Int := hshL entS ([kind, author, at_] ++ data)
theorem n_oPlain (e : Entry) : F_spec_oPlain e = some (plaB e.Kind e.Author e.Data) := by
  unfold F_spec_oPlain plaB
  simp only [n_inB, n_allDigS, Option.bind_some, ite_and]
theorem n_plainI (kind author : Int) (data : List Int) : F_impl_isPlainEntry kind author data = some (plaB kind author data) := by
  unfold F_impl_isPlainEntry plaB
  simp only [n_winB, n_allDig, Option.bind_some, ite_and]
theorem pla_dig {kind author : Int} {data : List Int} (h : plaB kind author data = true) {i : Int} (hi : 0 ≤ i ∧ i ≤ 63) : ([kind, author, i] ++ data).all digB = true ∧ data.length ≤ 380 := by
  simp only [plaB, Bool.and_eq_true, decide_eq_true_eq, inB_t] at h
  obtain ⟨h1, h2, h3, h4⟩ := h
  refine ⟨?_, by omega⟩
  rw [List.all_append, h4, Bool.and_true]
  simp only [List.all_cons, List.all_nil, Bool.and_true, Bool.and_eq_true]
  exact ⟨digB_t.2 (by omega), digB_t.2 (by omega), digB_t.2 (by omega)⟩
theorem n_oDigest {e : Entry} {i : Int} (h : plaB e.Kind e.Author e.Data = true) (hi : 0 ≤ i ∧ i ≤ 63) : F_spec_oDigest e i = some (eD e.Kind e.Author i e.Data) := by
  obtain ⟨h1, h2⟩ := pla_dig h hi
  unfold F_spec_oDigest
  rw [gd_t (by simp only [List.length_cons, List.length_nil]; omega), n_hLabelled (s := entS) (by decide) (by simp only [List.length_append, List.length_cons, List.length_nil]; omega) h1]
  rfl
theorem n_EntryDigest (kind author i : Int) {data : List Int} (hl : data.length ≤ 1048576) : F_impl_EntryDigest kind author i data = some (if (plaB kind author data && inB 0 63 i) = true then (eD kind author i data, true) else (0, false)) := by
  unfold F_impl_EntryDigest
  simp only [n_plainI, n_winB, Option.bind_some, ite_or]
  cases hp : plaB kind author data with
  | false => rfl
  | true =>
    cases hi : inB 0 63 i with
    | false => rfl
    | true =>
      obtain ⟨h1, h2⟩ := pla_dig hp (inB_t.1 hi)
      simp only [Bool.not_true, Bool.or_self, Bool.false_eq_true, if_false, Bool.and_self, if_true]
      rw [gd_t (by simp only [List.length_cons, List.length_nil]; omega), n_HashLabelled, if_pos]
      · rfl
      · simp only [labB, h1, Bool.and_true, Bool.and_eq_true, decide_eq_true_eq, List.length_append, List.length_cons, List.length_nil]
        exact ⟨by decide, by show 1 + 5 + _ ≤ 400; omega⟩
def accB (gr : Group) (key i : Int) (e : Entry) : Bool := plaB e.Kind e.Author e.Data && sgnB gr (entS' ++ hxT (eD e.Kind e.Author i e.Data)) key e.Sign
def lensP (p : Proof) : Prop := p.Commits.length ≤ 1048576 ∧ p.Challenges.length ≤ 1048576 ∧ p.Responses.length ≤ 1048576
def lensE (e : Entry) : Prop := e.Data.length ≤ 1048576 ∧ lensP e.Sign
def lensB (b : Board) : Prop := b.Keys.length ≤ 1048576 ∧ b.Entries.length ≤ 1048576 ∧ ∀ e ∈ b.Entries, lensE e
theorem lab_size (s : ByteArray) (d : Int) : (s ++ hxT d).size = s.size + 16 := by rw [ByteArray.size_append, hxT_size]
theorem n_accepts {gr : Group} (k : OkG gr) {key i : Int} (hk : hasB gr key = true) (hi : 0 ≤ i ∧ i ≤ 63) {e : Entry} (hl : lensE e) : F_spec_oAccepts gr key i e = some (accB gr key i e) ∧ F_impl_Group_isEntry gr key i e = some (accB gr key i e) := by
  unfold F_spec_oAccepts F_impl_Group_isEntry F_spec_oLabel
  rw [n_oPlain, n_EntryDigest _ _ _ hl.1]
  cases hp : plaB e.Kind e.Author e.Data with
  | false => simp [accB, hp]
  | true =>
    have hd : digB (eD e.Kind e.Author i e.Data) = true := hshL_dig _ _
    have hs : (entS' ++ hxT (eD e.Kind e.Author i e.Data)).size ≤ 40 := by rw [lab_size]; decide
    obtain ⟨s1, s2⟩ := n_signed k hs hk hl.2.1
    rw [inB_t.2 hi, n_oDigest hp hi]
    simp only [Bool.and_self, if_true, Option.bind_some]
    rw [n_oText hd, Option.bind_some, gd_t (by rw [hxT_size]; decide), Option.bind_some, show F_impl_signLabel (⟨#[101, 110, 116, 114, 121, 32]⟩ : ByteArray) (eD e.Kind e.Author i e.Data) = some (entS' ++ hxT (eD e.Kind e.Author i e.Data)) from n_signLabel (by decide) hd]
    simp only [Option.bind_some]
    rw [show F_spec_oSigned gr ((⟨#[101, 110, 116, 114, 121, 32]⟩ : ByteArray) ++ hxT (eD e.Kind e.Author i e.Data)) key e.Sign = _ from s1, s2]
    simp [accB, hp]
noncomputable def brdB (gr : Group) (b : Board) : Bool :=
  !(decide (40 < (b.Keys.length : Int)) || (!b.Keys.all (hasB gr) || decide (64 < (b.Entries.length : Int)))) &&
  (List.range b.Entries.length).all fun i => !(!inB 0 ((b.Keys.length : Int) - 1) (b.Entries.getD i ⟨0, 0, [], ⟨[], [], []⟩⟩).Author || !accB gr (b.Keys.getD (b.Entries.getD i ⟨0, 0, [], ⟨[], [], []⟩⟩).Author.toNat 0) i (b.Entries.getD i ⟨0, 0, [], ⟨[], [], []⟩⟩))
theorem ix_to {α : Type} {l : List α} {i : Int} (h0 : 0 ≤ i) (h : i < l.length) : ix l i = some (l[i.toNat]'(by omega)) := by
  obtain ⟨k, rfl⟩ := Int.eq_ofNat_of_zero_le h0
  exact ix_at (by omega)
theorem n_board {gr : Group} (k : OkG gr) {b : Board} (hl : lensB b) : F_spec_oBoard gr b = some (brdB gr b) ∧ F_impl_Group_isBoard gr b = some (brdB gr b) := by
  obtain ⟨l1, l2, l3⟩ := hl
  have ek : F_impl_Group_areKeys gr b.Keys = some (!(decide (40 < (b.Keys.length : Int)) || !b.Keys.all (hasB gr))) := by
    unfold F_impl_Group_areKeys
    rw [n_hasAll k, Option.bind_some, ite_and, Option.bind_some]
    by_cases h : (b.Keys.length : Int) ≤ 40
    · have : ¬ 40 < (b.Keys.length : Int) := by omega
      simp [h, this]
    · have : 40 < (b.Keys.length : Int) := by omega
      simp [h, this]
  unfold F_spec_oBoard F_impl_Group_isBoard brdB
  simp only [n_gIs k, ek, Option.bind_some, ite_or]
  rw [show (!(!(decide (40 < (b.Keys.length : Int)) || !b.Keys.all (hasB gr))) || decide (64 < (b.Entries.length : Int))) = (decide (40 < (b.Keys.length : Int)) || (!b.Keys.all (hasB gr) || decide (64 < (b.Entries.length : Int)))) by rw [Bool.not_not, Bool.or_assoc]]
  cases hg : (decide (40 < (b.Keys.length : Int)) || (!b.Keys.all (hasB gr) || decide (64 < (b.Entries.length : Int)))) with
  | true => exact ⟨rfl, rfl⟩
  | false =>
    simp only [Bool.or_eq_false_iff, decide_eq_false_iff_not, Bool.not_eq_false'] at hg
    obtain ⟨g1, g2, g3⟩ := hg
    simp only [Bool.false_eq_true, if_false, Bool.not_false, Bool.true_and]
    have w : IntKind.i64.wrap ((b.Keys.length : Int) - 1) = (b.Keys.length : Int) - 1 := wr64 (by omega) (by omega)
    constructor
    all_goals
      rw [n_allN (fun i => !(!inB 0 ((b.Keys.length : Int) - 1) (b.Entries.getD i ⟨0, 0, [], ⟨[], [], []⟩⟩).Author || !accB gr (b.Keys.getD (b.Entries.getD i ⟨0, 0, [], ⟨[], [], []⟩⟩).Author.toNat 0) i (b.Entries.getD i ⟨0, 0, [], ⟨[], [], []⟩⟩))) false true]
      · simp only [Bool.if_true_left, Bool.if_false_right, Bool.and_true, Bool.decide_eq_true, Bool.or_false]
      · intro i hi
        have he : b.Entries.getD i ⟨0, 0, [], ⟨[], [], []⟩⟩ = b.Entries[i] := by simp [hi]
        rw [ix_at hi, Option.bind_some, he, w]
        simp only [n_inB, n_winB, Option.bind_some]
        cases ha : inB 0 ((b.Keys.length : Int) - 1) b.Entries[i].Author with
        | false => rfl
        | true =>
          have ha := inB_t.1 ha
          have hal : b.Entries[i].Author.toNat < b.Keys.length := by omega
          have hx := List.all_eq_true.1 g2 _ (List.getElem_mem hal)
          have ha2 := n_accepts k hx (i := (i : Int)) (by omega) (l3 _ (List.getElem_mem hi))
          have hk : b.Keys.getD b.Entries[i].Author.toNat 0 = b.Keys[b.Entries[i].Author.toNat] := by simp [hal]
          rw [ix_to ha.1 (by omega), hk]
          simp only [Bool.not_true, Bool.false_eq_true, if_false, Option.bind_some, ha2.1, ha2.2, Bool.false_or, Bool.not_not]
          cases accB gr (b.Keys[b.Entries[i].Author.toNat]) (i : Int) b.Entries[i] <;> rfl
theorem n_areBoard (gr : Group) {b : Board} (hl : lensB b) : F_impl_areBoard gr b = some (okG gr && (okG gr && brdB gr b)) := by
  unfold F_impl_areBoard
  rw [n_validG]
  cases hg : okG gr with
  | false => rfl
  | true => simp only [Option.bind_some, if_true, (n_board (okG_t.1 hg) hl).2, Bool.true_and]
def Szs (e : Option Int) : Prop := ∃ z, z ≤ 1048576 ∧ e = some z
theorem szs_bind {e : Option Int} {f : Int → Option Int} (h : Szs e) (hf : ∀ z, 0 ≤ z → z ≤ 1048576 → Szs (f z)) : Szs (e.bind fun z => if decide (z < 0) = true then some (-1) else f z) := by
  obtain ⟨z, h1, rfl⟩ := h
  rw [Option.bind_some]
  by_cases h : z < 0
  · rw [if_pos (by simpa using h)]; exact ⟨-1, by omega, rfl⟩
  · rw [if_neg (by simpa using h)]; exact hf z (by omega) h1
theorem szs_some {z : Int} (h : z ≤ 1048576) : Szs (some z) := ⟨z, h, rfl⟩
theorem szs_i {l : List Int} {n : Int} (h0 : 0 ≤ n) (h1 : n ≤ 1048576) (hl : l.length ≤ 1048576) : Szs (F_laws_szIntS l n) := by
  obtain ⟨z, h, h2⟩ := p_szIntS h0 h1 hl
  exact ⟨z, h2, h⟩
theorem szs_p {p : Proof} (hl : lensP p) {n : Int} (h0 : 0 ≤ n) (h1 : n ≤ 1048576) : Szs (F_laws_szProof p n) :=
  szs_bind (szs_i h0 h1 hl.1) fun z a b => szs_bind (szs_i a b hl.2.1) fun z a b => szs_bind (szs_i a b hl.2.2) fun z a b => szs_some b
theorem szs_e {e : Entry} (hl : lensE e) {n : Int} (h0 : 0 ≤ n) (h1 : n ≤ 1048576) : Szs (F_laws_szEntry e n) :=
  szs_bind (szs_i h0 h1 hl.1) fun z a b => szs_bind (szs_p hl.2 a b) fun z a b => szs_some b
theorem szs_list {α : Type} {l : List α} {f : α → Int → Option Int} {n : Int} (h0 : 0 ≤ n) (h1 : n ≤ 1048576) (hl : l.length ≤ 1048576) (hf : ∀ x ∈ l, ∀ z, 0 ≤ z → z ≤ 1048576 → Szs (f x z)) :
    Szs (if decide ((IntKind.i64.wrap (n - (l.length : Int))) < 0) = true then (some (-1)) else (
      ((wloop (σ := Int × Int) (fun s5 =>
      if decide (s5.2 < (l.length : Int)) = true then (
      (ix l s5.2).bind fun x11 =>
      (f x11 s5.1).bind fun z12 =>
      if decide (z12 < 0) = true then (
      some (.out (.inr (-1)))) else (
      some (.go (z12, IntKind.i64.wrap (s5.2 + 1))))) else (
      some (.out (.inl s5.1)))) (IntKind.i64.wrap (n - (l.length : Int)), 0) : Option (Int ⊕ Int)).bind (Sum.elim (fun x4 =>
      some x4) some)))) := by
  rw [wr64 (by omega) (by omega)]
  by_cases h : n - (l.length : Int) < 0
  · rw [if_pos (by simpa using h)]; exact ⟨-1, by omega, rfl⟩
  · rw [if_neg (by simpa using h)]
    obtain ⟨z, e, hz⟩ := sz_loop (step := fun s5 : Int × Int =>
      if decide (s5.2 < (l.length : Int)) = true then (
      (ix l s5.2).bind fun x11 =>
      (f x11 s5.1).bind fun z12 =>
      if decide (z12 < 0) = true then (
      some (Stp.out (.inr (-1)))) else (
      some (.go (z12, IntKind.i64.wrap (s5.2 + 1))))) else (
      some (.out (.inl s5.1)))) (a0 := n - (l.length : Int)) l.length (by omega) (fun k a hk a0 a1 => by
        obtain ⟨z, hz, e⟩ := hf _ (List.getElem_mem hk) a a0 a1
        refine ⟨z, hz, ?_⟩
        rw [if_pos (by simpa using hk), ix_at hk, Option.bind_some, e, Option.bind_some, inc (by omega)]) (fun a => by simp)
    exact ⟨z, hz, e⟩
theorem szs_b {b : Board} (hl : lensB b) {n : Int} (h0 : 0 ≤ n) (h1 : n ≤ 1048576) : Szs (F_laws_szBoard b n) :=
  szs_bind (szs_i h0 h1 hl.1) fun z a c => szs_bind (szs_list a c hl.2.1 fun e he z a b => szs_e (hl.2.2 e he) a b) fun z a b => szs_some b
-- copies
theorem to_p {p : Proof} (hl : lensP p) : F_laws_toProof p = some p := by
  unfold F_laws_toProof
  rw [p_toIntS hl.1, p_toIntS hl.2.1, p_toIntS hl.2.2]; rfl
theorem to_e {e : Entry} (hl : lensE e) : F_laws_toEntry e = some e := by
  unfold F_laws_toEntry
  rw [p_toIntS hl.1, to_p hl.2]; rfl
theorem to_list {α : Type} {l : List α} {d : α} {f : α → Option α} {c : Int} (hc : 1 ≤ c ∧ c ≤ 1000) (hl : l.length ≤ 1048576) (hf : ∀ x ∈ l, f x = some x) :
    (gd (0 ≤ (l.length : Int) ∧ (l.length : Int) ≤ (l.length : Int) ∧ c * (l.length : Int) ≤ 140737488355328 ∧ (l.length : Int) ≤ 4611686018427387904) <|
    (some (List.replicate l.length d)).bind fun x1 =>
    ((wloop (σ := (List α) × Int) (fun s16 =>
    if decide (s16.2 < (l.length : Int)) = true then (
    (ix l s16.2).bind fun x22 =>
    (f x22).bind fun z23 =>
    (ix s16.1 s16.2).bind fun x24 =>
    some (.go (s16.1.set s16.2.toNat z23, IntKind.i64.wrap (s16.2 + 1)))) else (
    some (.out s16.1))) (x1, 0) : Option ((List α))).bind fun x6 =>
    some x6)) = some l := by
  have h : c * (l.length : Int) ≤ 1000 * 1048576 := Int.mul_le_mul hc.2 (by omega) (by omega) (by omega)
  rw [gd_t (by omega), Option.bind_some, wl_copy, Option.bind_some]
  · intro k hk r hr
    have h2 : k < r.length := by omega
    rw [if_pos (by simpa using hk), ix_at hk, Option.bind_some, hf _ (List.getElem_mem hk), Option.bind_some, ix_at h2, Option.bind_some, inc (by omega)]
    rfl
  · intro r; simp
theorem to_es {l : List Entry} (hl : l.length ≤ 1048576) (hw : ∀ e ∈ l, lensE e) : F_laws_toEntryS l = some l := to_list (c := 112) (by omega) hl fun e he => to_e (hw e he)
theorem to_b {b : Board} (hl : lensB b) : F_laws_toBoard b = some b := by
  unfold F_laws_toBoard
  rw [p_toIntS hl.1, to_es hl.2.1 hl.2.2]; rfl
-- comparisons
theorem eq_p {p : Proof} (hl : lensP p) : F_laws_eqProof p p = some true := by
  unfold F_laws_eqProof
  rw [p_eqIntS hl.1, p_eqIntS hl.2.1, p_eqIntS hl.2.2]; rfl
theorem eq_e {e : Entry} (hl : lensE e) : F_laws_eqEntry e e = some true := by
  unfold F_laws_eqEntry
  rw [if_neg (by simp), if_neg (by simp), p_eqIntS hl.1, eq_p hl.2]; rfl
theorem eq_list {α : Type} {l : List α} {f : α → α → Option Bool} (hl : l.length ≤ 1048576) (hf : ∀ x ∈ l, f x x = some true) :
    (if ((l.length : Int) != (l.length : Int)) = true then (
    some false) else (
    ((wloop (σ := Int) (fun s5 =>
    if decide (s5 < (l.length : Int)) = true then (
    (ix l s5).bind fun x11 =>
    (ix l s5).bind fun x12 =>
    (f x11 x12).bind fun z13 =>
    if (!z13) = true then (
    some (.out (.inr false))) else (
    some (.go (IntKind.i64.wrap (s5 + 1))))) else (
    some (.out (.inl ())))) 0 : Option (Unit ⊕ Bool)).bind (Sum.elim (fun x4 =>
    some true) some)))) = some true := by
  rw [if_neg (by simp), wl_all l.length]
  · rfl
  · intro k hk
    rw [if_pos (by simpa using hk), ix_at hk, Option.bind_some, Option.bind_some, hf _ (List.getElem_mem hk), inc (by omega)]
    rfl
  · simp
theorem eq_b {b : Board} (hl : lensB b) : F_laws_eqBoard b b = some true := by
  unfold F_laws_eqBoard
  rw [p_eqIntS hl.1, show F_laws_eqEntryS b.Entries b.Entries = some true from eq_list hl.2.1 fun e he => eq_e (hl.2.2 e he)]; rfl
-- marks
theorem mk_es {l : List Entry} {a : Int} (ha : 1 ≤ a ∧ a ≤ 1000000000000) (hl : l.length ≤ 1048576) (hw : ∀ e ∈ l, lensE e) : ∃ z, F_laws_markEntryS__io0 l a = some z ∧ 1 ≤ z.1 ∧ z.1 ≤ 1000000000000000 := by
  unfold F_laws_markEntryS__io0
  have key := mk_loop (l := l) (a0 := a) (K := 10000000) (step := fun s15 =>
    if decide (s15.2.2 < (s15.1.length : Int)) = true then (
    (ix s15.1 s15.2.2).bind fun x21 =>
    (F_laws_markIntS__io0 x21.Data (IntKind.i64.wrap ((IntKind.i64.wrap (s15.2.1 + 1)) + 1))).bind fun z22 =>
    (F_laws_markIntS__io0 x21.Sign.Commits z22.1).bind fun z23 =>
    (F_laws_markIntS__io0 x21.Sign.Challenges z23.1).bind fun z24 =>
    (F_laws_markIntS__io0 x21.Sign.Responses z24.1).bind fun z25 =>
    some (.go ((((((s15.1.set s15.2.2.toNat (Entry.mk s15.2.1 x21.Author x21.Data x21.Sign)).set s15.2.2.toNat (Entry.mk s15.2.1 (IntKind.i64.wrap (s15.2.1 + 1)) x21.Data x21.Sign)).set s15.2.2.toNat (Entry.mk s15.2.1 (IntKind.i64.wrap (s15.2.1 + 1)) z22.2 x21.Sign)).set s15.2.2.toNat (Entry.mk s15.2.1 (IntKind.i64.wrap (s15.2.1 + 1)) z22.2 (Proof.mk z23.2 x21.Sign.Challenges x21.Sign.Responses))).set s15.2.2.toNat (Entry.mk s15.2.1 (IntKind.i64.wrap (s15.2.1 + 1)) z22.2 (Proof.mk z23.2 z24.2 x21.Sign.Responses))).set s15.2.2.toNat (Entry.mk s15.2.1 (IntKind.i64.wrap (s15.2.1 + 1)) z22.2 (Proof.mk z23.2 z24.2 z25.2)), z25.1, IntKind.i64.wrap (s15.2.2 + 1)))) else (
    some (.out (s15.1, s15.2.1)))) lensE hw (by omega) ha.1 ?_ ?_
  · obtain ⟨z, h1, h2, h3, _⟩ := key
    rw [h1, Option.bind_some]
    have h4 : (l.length : Int) * 10000000 ≤ 1048576 * 10000000 := Int.mul_le_mul (by omega) (Int.le_refl _) (by omega) (by omega)
    exact ⟨_, rfl, h2, by show z.2 ≤ _; omega⟩
  · intro k r a' hk hr hP h1 h2
    have hk2 : (k : Int) * 10000000 ≤ 1048576 * 10000000 := Int.mul_le_mul (by omega) (Int.le_refl _) (by omega) (by omega)
    obtain ⟨c0, c1, c2, c3⟩ := hP
    obtain ⟨m, m1, m2, _⟩ := p_markI r[k].Data (a' + 1 + 1) (by omega) (by omega) c0
    obtain ⟨n, n1, n2, _⟩ := p_markI r[k].Sign.Commits (a' + 1 + 1 + r[k].Data.length) (by omega) (by omega) c1
    obtain ⟨o, o1, o2, _⟩ := p_markI r[k].Sign.Challenges (a' + 1 + 1 + r[k].Data.length + r[k].Sign.Commits.length) (by omega) (by omega) c2
    obtain ⟨p, p1, p2, _⟩ := p_markI r[k].Sign.Responses (a' + 1 + 1 + r[k].Data.length + r[k].Sign.Commits.length + r[k].Sign.Challenges.length) (by omega) (by omega) c3
    refine ⟨⟨a', a' + 1, m, ⟨n, o, p⟩⟩, a' + 1 + 1 + r[k].Data.length + r[k].Sign.Commits.length + r[k].Sign.Challenges.length + r[k].Sign.Responses.length, ?_, ⟨by show m.length ≤ _; omega, by show n.length ≤ _; omega, by show o.length ≤ _; omega, by show p.length ≤ _; omega⟩, ?_, ?_⟩
    · dsimp only
      rw [if_pos (by simpa using hk), ix_at hk, Option.bind_some, wr64 (n := a' + 1) (by omega) (by omega), wr64 (n := a' + 1 + 1) (by omega) (by omega), m1, Option.bind_some, n1, Option.bind_some, o1, Option.bind_some, p1, Option.bind_some, inc (by omega)]
      simp
    · omega
    · omega
  · intro r a hr; simp [hr]
theorem mk_b {b : Board} (hl : lensB b) : ∃ z, F_laws_markBoard__mv0 b 1 = some z ∧ 1 ≤ z ∧ z ≤ 1000000000000000 := by
  obtain ⟨c1, c2, c3⟩ := hl
  unfold F_laws_markBoard__mv0
  obtain ⟨n, n1, n2, _⟩ := p_markI b.Keys 1 (by omega) (by omega) c1
  obtain ⟨z, e, h1, h2⟩ := mk_es (a := 1 + b.Keys.length) (by omega) c2 c3
  rw [n1, Option.bind_some, e, Option.bind_some]
  exact ⟨_, rfl, h1, h2⟩
theorem szs_law {e : Option Int} {f : Int → Option Bool} (h : Szs e) (hf : ∀ z, 0 ≤ z → z ≤ 1048576 → f z = some true) : (e.bind fun z => if decide (z < 0) = true then some true else f z) = some true := by
  obtain ⟨z, h1, rfl⟩ := h
  rw [Option.bind_some]
  by_cases h : z < 0
  · rw [if_pos (by simpa using h)]
  · rw [if_neg (by simpa using h)]; exact hf z (by omega) h1
theorem n_DecodeContest (a b c d e : Int) : F_impl_DecodeContest [a, b, c, d, e] = some (if okC ⟨a, b, c, d, e⟩ = true then (⟨a, b, c, d, e⟩, true) else (⟨0, 0, 0, 0, 0⟩, false)) ∧ F_spec_vContestOf [a, b, c, d, e] = some (if okC ⟨a, b, c, d, e⟩ = true then (⟨a, b, c, d, e⟩, true) else (⟨0, 0, 0, 0, 0⟩, false)) := by
  unfold F_impl_DecodeContest F_spec_vContestOf
  simp only [show ((([a, b, c, d, e] : List Int).length : Int) != 5) = false from rfl, Bool.false_eq_true, if_false, show ix [a, b, c, d, e] 0 = some a from rfl, show ix [a, b, c, d, e] 1 = some b from rfl, show ix [a, b, c, d, e] 2 = some c from rfl, show ix [a, b, c, d, e] 3 = some d from rfl, show ix [a, b, c, d, e] 4 = some e from rfl, Option.bind_some, n_IsValidContest, n_vContest]
  cases okC ⟨a, b, c, d, e⟩ <;> exact ⟨rfl, rfl⟩
theorem vContestOf_len {l : List Int} (h : l.length ≠ 5) : F_spec_vContestOf l = some (⟨0, 0, 0, 0, 0⟩, false) := by
  unfold F_spec_vContestOf
  rw [if_pos (by simp; omega)]
theorem nine {l : List Int} (h : l.length = 9) : ∃ a b c d e f g i j, l = [a, b, c, d, e, f, g, i, j] := by
  match l, h with
  | [a, b, c, d, e, f, g, i, j], _ => exact ⟨a, b, c, d, e, f, g, i, j, rfl⟩
theorem plan_authors (p : Plan) : F_impl_Plan_authors p = F_spec_nAuthors p := rfl
theorem n_uOpen {gr : Group} (hg : okG gr = true) {b : Board} (hl : lensB b) (hb : brdB gr b = true) : ∃ p t o, F_spec_uOpen gr b = some (p, t) ∧ F_impl_Group_opening gr b = some (o, t) ∧ (t = true → o.Threshold = p.Threshold ∧ o.Trustees = p.Trustees ∧ p.Gr = gr ∧ 1 ≤ p.Threshold ∧ p.Threshold ≤ p.Trustees ∧ p.Trustees ≤ 4) := by
  have k := okG_t.1 hg
  unfold F_spec_uOpen F_impl_Group_opening
  simp only [n_l2Good, hg, (n_board k hl).1, hb, Option.bind_some, Bool.not_true, Bool.false_eq_true, if_false]
  cases he : ((b.Entries.length : Int) == 0) with
  | true => exact ⟨_, false, _, rfl, rfl, fun h => by cases h⟩
  | false =>
    have h0 : 0 < b.Entries.length := by simp at he; exact List.length_pos_iff.2 he
    have hd := (hl.2.2 _ (List.getElem_mem h0)).1
    simp only [Bool.false_eq_true, if_false, ix_at h0, show ((0 : Nat) : Int) = 0 from rfl, show ix b.Entries 0 = some b.Entries[0] from ix_at h0, Option.bind_some, ite_or]
    generalize b.Entries[0] = e at hd ⊢
    cases h1 : (e.Kind != 1) with
    | true => exact ⟨_, false, _, rfl, rfl, fun h => by cases h⟩
    | false =>
      cases h2 : (e.Author != 0) with
      | true => exact ⟨_, false, _, rfl, rfl, fun h => by cases h⟩
      | false =>
        simp only [Bool.false_or]
        by_cases h9 : e.Data.length = 9
        · obtain ⟨a, b', c, d, e', f, g, i, j, hd9⟩ := nine h9
          rw [hd9]
          obtain ⟨c1, c2⟩ := n_DecodeContest a b' c d e'
          have w : IntKind.i64.wrap (((([a, b', c, d, e', f, g, i, j] : List Int).length : Nat) : Int) - 4) = 5 := rfl
          simp only [w]
          simp only [show ((([a, b', c, d, e', f, g, i, j] : List Int).length : Int) != 9) = false from rfl, show decide ((5 : Int) < 0) = false from rfl, Bool.false_eq_true, if_false, gd_t (show (0 : Int) ≤ 5 by omega), gd_t (show 0 ≤ (5 : Int).toNat ∧ (5 : Int).toNat ≤ ([a, b', c, d, e', f, g, i, j] : List Int).length by simp), gd_t (show 0 ≤ 5 ∧ 5 ≤ ([a, b', c, d, e', f, g, i, j] : List Int).length by simp),
            gd_t (show (5 : Int).toNat ≤ ([a, b', c, d, e', f, g, i, j] : List Int).length ∧ ([a, b', c, d, e', f, g, i, j] : List Int).length ≤ ([a, b', c, d, e', f, g, i, j] : List Int).length by simp),
            show (List.take (5 : Int).toNat [a, b', c, d, e', f, g, i, j]).drop 0 = [a, b', c, d, e'] from rfl, show (List.take 5 [a, b', c, d, e', f, g, i, j]).drop 0 = [a, b', c, d, e'] from rfl, show (List.take ([a, b', c, d, e', f, g, i, j] : List Int).length [a, b', c, d, e', f, g, i, j]).drop (5 : Int).toNat = [f, g, i, j] from rfl,
            show ix [f, g, i, j] 0 = some f from rfl, show ix [f, g, i, j] 1 = some g from rfl, show ix [f, g, i, j] 2 = some i from rfl, show ix [f, g, i, j] 3 = some j from rfl,
            show ix [a, b', c, d, e', f, g, i, j] 5 = some f from rfl, show ix [a, b', c, d, e', f, g, i, j] 6 = some g from rfl, show ix [a, b', c, d, e', f, g, i, j] 7 = some i from rfl, show ix [a, b', c, d, e', f, g, i, j] 8 = some j from rfl, c1, c2, Option.bind_some, plan_authors]
          cases hc : okC ⟨a, b', c, d, e'⟩ with
          | false => exact ⟨_, false, _, rfl, rfl, fun h => by cases h⟩
          | true =>
            obtain ⟨t, p1, p2, p3⟩ := n_plan ⟨gr, ⟨a, b', c, d, e'⟩, f, g, i, j, 0⟩
            simp only [if_true, Bool.not_true, Bool.false_eq_true, if_false, p1, show F_impl_planOf gr ⟨⟨a, b', c, d, e'⟩, f, g, i, j⟩ = some ⟨gr, ⟨a, b', c, d, e'⟩, f, g, i, j, 0⟩ from rfl, p2, Option.bind_some]
            cases t with
            | false => exact ⟨_, false, _, rfl, rfl, fun h => by cases h⟩
            | true =>
              unfold F_spec_nAuthors
              simp only [if_true, Bool.not_true, Bool.false_eq_true, if_false, Option.bind_some]
              generalize IntKind.i64.wrap (IntKind.i64.wrap (IntKind.i64.wrap (1 + g) + i) + j) = n
              obtain ⟨_, _, _, q, _⟩ := p3 rfl
              by_cases hn : n = (b.Keys.length : Int)
              · subst hn
                exact ⟨⟨gr, ⟨a, b', c, d, e'⟩, f, g, i, j, 0⟩, true, ⟨⟨a, b', c, d, e'⟩, f, g, i, j⟩, by simp, by simp, fun _ => ⟨rfl, rfl, rfl, q.1, q.2.1, q.2.2⟩⟩
              · have hn' : ¬ (b.Keys.length : Int) = n := fun h => hn h.symm
                exact ⟨⟨gr, ⟨a, b', c, d, e'⟩, f, g, i, j, 0⟩, false, ⟨⟨0, 0, 0, 0, 0⟩, 0, 0, 0, 0⟩, by simp [hn], by simp [hn'], fun h => by cases h⟩
        · have h9' : ((e.Data.length : Int) != 9) = true := by simp; omega
          simp only [h9', if_true]
          by_cases h4 : e.Data.length < 4
          · have : decide (IntKind.i64.wrap ((e.Data.length : Int) - 4) < 0) = true := by
              rw [wr64 (by omega) (by omega)]; simp; omega
            simp only [this, if_true, Option.bind_some]
            exact ⟨_, false, _, rfl, rfl, fun h => by cases h⟩
          · obtain ⟨n, hn⟩ : ∃ n : Nat, e.Data.length = n + 4 := ⟨e.Data.length - 4, by omega⟩
            have w : IntKind.i64.wrap ((e.Data.length : Int) - 4) = (n : Int) := ceq (by omega) (by omega)
            have hl2 : (e.Data.drop n).length = 4 := by simp; omega
            have hi : ∀ q : Nat, q < 4 → ∃ x, ix (e.Data.drop n) (q : Int) = some x := fun q hq => ⟨_, ix_at (by omega)⟩
            obtain ⟨x0, i0⟩ := hi 0 (by omega)
            obtain ⟨x1, i1⟩ := hi 1 (by omega)
            obtain ⟨x2, i2⟩ := hi 2 (by omega)
            obtain ⟨x3, i3⟩ := hi 3 (by omega)
            have v := vContestOf_len (l := (e.Data.take n).drop 0) (by simp; omega)
            simp only [w, show decide ((n : Int) < 0) = false by simp, Bool.false_eq_true, if_false, gd_t (show (0 : Int) ≤ (n : Int) by omega), Int.toNat_natCast, gd_t (show 0 ≤ n ∧ n ≤ e.Data.length by omega), gd_t (show n ≤ e.Data.length ∧ e.Data.length ≤ e.Data.length by omega), v, List.take_length, show ix (e.Data.drop n) 0 = some x0 from i0, show ix (e.Data.drop n) 1 = some x1 from i1, show ix (e.Data.drop n) 2 = some x2 from i2, show ix (e.Data.drop n) 3 = some x3 from i3, Option.bind_some]
            exact ⟨_, false, _, rfl, rfl, fun h => by cases h⟩
def mulV (gr : Group) (o l : List Int) : List Int := List.zipWith (fun x y => mulG gr [x, y]) o l
theorem mulG_comm (gr : Group) (z x y : Int) : mulG gr [mulG gr [z, x], y] = mulG gr [mulG gr [z, y], x] := by
  have e : ∀ a b : Int, a % gr.P * b % gr.P = a * b % gr.P := fun a b => by rw [Int.mul_emod, Int.emod_emod_of_dvd _ (Int.dvd_refl _), ← Int.mul_emod]
  have h : ∀ a b : Int, mulG gr [a, b] = a * b % gr.P := fun a b => by
    show 1 * a % gr.P * b % gr.P = a * b % gr.P
    rw [e, Int.one_mul]
  rw [h, h, h, h, e, e, Int.mul_assoc, Int.mul_comm x y, ← Int.mul_assoc]
theorem mulV_comm (gr : Group) : ∀ z x y : List Int, mulV gr (mulV gr z x) y = mulV gr (mulV gr z y) x := by
  intro z
  induction z with
  | nil => intro x y; cases x <;> cases y <;> rfl
  | cons a z ih =>
    intro x y
    cases x with
    | nil => cases y <;> rfl
    | cons b x =>
      cases y with
      | nil => rfl
      | cons c y =>
        show mulG gr [mulG gr [a, b], c] :: mulV gr (mulV gr z x) y = mulG gr [mulG gr [a, c], b] :: mulV gr (mulV gr z y) x
        rw [mulG_comm, ih]
theorem foldl_perm {α β : Type} {f : β → α → β} (hf : ∀ z x y, f (f z x) y = f (f z y) x) {l l' : List α} (h : l.Perm l') : ∀ z, l.foldl f z = l'.foldl f z := by
  induction h with
  | nil => intro z; rfl
  | cons x _ ih => intro z; exact ih _
  | swap x y l => intro z; simp only [List.foldl_cons]; rw [hf]
  | trans _ _ h1 h2 => intro z; rw [h1, h2]
def parts {α : Type} (f : α → Int) (L : List α) (T : Nat) : List α := (List.range T).flatMap fun i => L.filter fun e => f e == ((i + 1 : Nat) : Int)
theorem parts_perm {α : Type} (f : α → Int) : ∀ (T : Nat) (L : List α), (∀ e ∈ L, 1 ≤ f e ∧ f e ≤ (T : Int)) → L.Perm (parts f L T) := by
  intro T
  induction T with
  | zero =>
    intro L h
    cases L with
    | nil => exact .refl _
    | cons e L => have := h e (by simp); omega
  | succ T ih =>
    intro L h
    have h1 := (List.filter_append_perm (fun e => decide (f e ≤ (T : Int))) L).symm
    refine h1.trans ?_
    unfold parts
    rw [List.range_succ, List.flatMap_append]
    refine List.Perm.append ?_ ?_
    · refine (ih _ fun e he => ?_).trans (List.Perm.of_eq ?_)
      · have h2 := List.mem_filter.1 he
        have := h e h2.1
        exact ⟨this.1, by simpa using h2.2⟩
      · unfold parts
        rw [List.flatMap_def, List.flatMap_def]
        congr 1
        refine List.map_congr_left fun i hi => ?_
        have hi' := List.mem_range.1 hi
        rw [List.filter_filter]
        refine List.filter_congr fun e he => ?_
        by_cases h3 : f e = ((i + 1 : Nat) : Int)
        · simp [h3]; omega
        · simp [h3]; omega
    · refine List.Perm.of_eq ?_
      simp only [List.flatMap_cons, List.flatMap_nil, List.append_nil]
      refine List.filter_congr fun e he => ?_
      have h3 := h e he
      by_cases h4 : f e = ((T + 1 : Nat) : Int)
      · simp [h4]; omega
      · have : f e ≤ (T : Int) := by omega
        simp [this]; omega
theorem parts_one {α : Type} (f : α → Int) (L : List α) : ∀ (T : Nat), (∀ i, i < T → (L.filter fun e => f e == ((i + 1 : Nat) : Int)).length ≤ 1) → (parts f L T).length ≤ T ∧ ((parts f L T).length = T → ∀ i, i < T → (L.filter fun e => f e == ((i + 1 : Nat) : Int)).length = 1) := by
  intro T
  induction T with
  | zero => intro _; exact ⟨Nat.le_refl _, fun _ i hi => absurd hi (by omega)⟩
  | succ T ih =>
    intro h
    obtain ⟨h1, h2⟩ := ih fun i hi => h i (by omega)
    have e : (parts f L (T + 1)).length = (parts f L T).length + (L.filter fun e => f e == ((T + 1 : Nat) : Int)).length := by
      unfold parts
      rw [List.range_succ, List.flatMap_append, List.length_append]
      simp
    have h3 := h T (by omega)
    refine ⟨by omega, fun h4 i hi => ?_⟩
    rcases Nat.lt_or_ge i T with h5 | h5
    · exact h2 (by omega) i h5
    · have : i = T := by omega
      subst this; omega
theorem nodup_one {α : Type} (f : α → Int) (t : Int) : ∀ (L : List α), (L.map f).Nodup → (L.filter fun e => f e == t).length ≤ 1 := by
  intro L
  induction L with
  | nil => intro _; simp
  | cons a L ih =>
    intro h
    rw [List.map_cons, List.nodup_cons] at h
    by_cases h1 : f a = t
    · have : (L.filter fun e => f e == t) = [] := by
        rw [List.filter_eq_nil_iff]
        intro e he h2
        have h2 : f e = t := by simpa using h2
        exact h.1 (by rw [h1, ← h2]; exact List.mem_map_of_mem he)
      simp [List.filter_cons, h1, this]
    · simpa [List.filter_cons, h1] using ih h.2
theorem n_row {gr : Group} (k : OkG gr) {τ : Type} (q : List Int → τ) {o l : List Int} (hlen : o.length = l.length) (ho : ∀ x ∈ o, 0 ≤ x ∧ x ≤ 2000000000) (hl : ∀ x ∈ l, 0 ≤ x ∧ x ≤ 2000000000) :
    rloop (σ := List Int) (fun i s => (ix l i).bind fun x => (ix s i).bind fun y => (F_impl_Group_mul gr [y, x]).bind fun z => some (.go (s.set i.toNat z))) q l.length 0 o = some (q (mulV gr o l)) := by
  refine eq_of_rn (rn_rloop (fun k s => s.length = l.length ∧ ∀ j, s[j]? = if j < k then (mulV gr o l)[j]? else o[j]?) ⟨hlen, fun j => by simp⟩ ?_ ?_)
  · rintro i s hi ⟨h1, h2⟩
    have h3 : i < s.length := by omega
    have h5 : i < o.length := by omega
    have h4 : s[i] = o[i] := by
      have := h2 i
      rw [if_neg (Nat.lt_irrefl _), List.getElem?_eq_getElem h3, List.getElem?_eq_getElem h5] at this
      injection this
    rw [ix_at hi, Option.bind_some, ix_at h3, Option.bind_some, n_mul k (by
      intro x hx
      rcases List.mem_cons.1 hx with rfl | hx
      · rw [h4]; exact ho _ (List.getElem_mem h5)
      · rw [List.mem_singleton.1 hx]; exact hl _ (List.getElem_mem hi)), Option.bind_some]
    refine ⟨_, rfl, by simp [h1], fun j => ?_⟩
    rw [Int.toNat_natCast, List.getElem?_set]
    by_cases e : i = j
    · subst e
      rw [if_pos rfl, if_pos h3, if_pos (Nat.lt_succ_self _), h4]
      unfold mulV
      rw [List.getElem?_zipWith, List.getElem?_eq_getElem h5, List.getElem?_eq_getElem hi]
    · rw [if_neg e, h2 j]
      by_cases h6 : j < i
      · rw [if_pos h6, if_pos (by omega)]
      · rw [if_neg h6, if_neg (by omega)]
  · rintro s ⟨h1, h2⟩
    congr 1
    apply List.ext_getElem?
    intro j
    rw [h2 j]
    split
    · rfl
    · rename_i h3
      rw [List.getElem?_eq_none (by omega), List.getElem?_eq_none (by unfold mulV; simp; omega)]
def pick (kd t : Int) (e : Entry) : Bool := e.Kind == kd && e.Author == t
theorem n_uFind {b : Board} (hb : b.Entries.length ≤ 1000000000) (kd t : Int) (ht : 0 ≤ t) : ∃ s, F_spec_uFind b kd t = some s ∧ s.map (ix b.Entries) = (b.Entries.filter (pick kd t)).map some := by
  unfold F_spec_uFind
  have hr : Rn (rloop (σ := (List Int)) (fun i5 s4 => (((ix b.Entries i5).bind fun x14 => ((if (x14.Kind == kd) = true then (if decide (t < 0) = true then (some true) else (some (x14.Author == t))) else (some false) : Option (Bool)).bind fun x17 => if x17 = true then (gd ((s4.length + 1) * 8 ≤ 140737488355328 ∧ s4.length + 1 ≤ 4611686018427387904) <| some (s4 ++ [i5])) else (some s4)) : Option ((List Int))).bind fun x13 => some (.go x13))) (fun s4 => s4) (b.Entries.length) 0 []) (fun s => s.map (ix b.Entries) = (b.Entries.filter (pick kd t)).map some) := by
    refine rn_rloop (fun k s => s.map (ix b.Entries) = ((b.Entries.take k).filter (pick kd t)).map some) (by simp) ?_ ?_
    · intro i s hi hI
      have hlen : s.length ≤ i := by
        have h1 := congrArg List.length hI
        rw [List.length_map, List.length_map] at h1
        have h2 := List.length_filter_le (pick kd t) (b.Entries.take i)
        rw [List.length_take] at h2
        omega
      have ht' : decide (t < 0) = false := by simp; omega
      have hif : (if (b.Entries[i].Kind == kd) = true then (if decide (t < 0) = true then (some true) else (some (b.Entries[i].Author == t))) else (some false) : Option Bool) = some (pick kd t b.Entries[i]) := by
        rw [ht']
        unfold pick
        cases (b.Entries[i].Kind == kd) <;> rfl
      rw [ix_at hi, Option.bind_some, hif, Option.bind_some]
      have htk : (b.Entries.take (i + 1)).filter (pick kd t) = (b.Entries.take i).filter (pick kd t) ++ [b.Entries[i]].filter (pick kd t) := by
        rw [List.take_succ_eq_append_getElem hi, List.filter_append]
      cases hp : pick kd t b.Entries[i] with
      | true =>
        rw [if_pos rfl, gd_t (by omega), Option.bind_some]
        refine ⟨_, rfl, ?_⟩
        show (s ++ [(i : Int)]).map (ix b.Entries) = ((b.Entries.take (i + 1)).filter (pick kd t)).map some
        rw [htk, List.map_append, List.map_append, hI]
        simp [hp, ix_at hi]
      | false =>
        refine ⟨_, rfl, ?_⟩
        show s.map (ix b.Entries) = ((b.Entries.take (i + 1)).filter (pick kd t)).map some
        rw [htk, hI]
        simp [hp]
    · intro s hs
      rwa [List.take_length] at hs
  obtain ⟨s, h1, h2⟩ := hr
  exact ⟨s, by rw [h1]; rfl, h2⟩
theorem n_rowS {gr : Group} (k : OkG gr) {τ : Type} (q : List Int → τ) {o l : List Int} (hlen : o.length = l.length) (ho : ∀ x ∈ o, 0 ≤ x ∧ x ≤ 2000000000) (hl : ∀ x ∈ l, 0 ≤ x ∧ x ≤ 2000000000) :
    rloop (σ := List Int) (fun i s => (ix l i).bind fun x => (ix s i).bind fun y => (F_spec_gMul gr [y, x]).bind fun z => some (.go (s.set i.toNat z))) q l.length 0 o = some (q (mulV gr o l)) := n_row k q hlen ho hl
def gdE (gr : Group) (h : Int) (e : Entry) : Bool := ((e.Data.length : Int) == h) && e.Data.all (hasB gr)
theorem gdE_bd {gr : Group} (k : OkG gr) {h : Int} {e : Entry} (hg : gdE gr h e = true) : (e.Data.length : Int) = h ∧ ∀ x ∈ e.Data, 0 ≤ x ∧ x ≤ 2000000000 := by
  simp only [gdE, Bool.and_eq_true, beq_iff_eq] at hg
  refine ⟨hg.1, fun x hx => ?_⟩
  have h1 := List.all_eq_true.1 hg.2 x hx
  simp only [hasB, Bool.and_eq_true, decide_eq_true_eq] at h1
  have := k.p
  omega
theorem mulV_bd {gr : Group} (k : OkG gr) {o l : List Int} (hlen : o.length = l.length) (ho : ∀ x ∈ o, 0 ≤ x ∧ x ≤ 2000000000) (hl : ∀ x ∈ l, 0 ≤ x ∧ x ≤ 2000000000) : (mulV gr o l).length = o.length ∧ ∀ x ∈ mulV gr o l, 0 ≤ x ∧ x ≤ 2000000000 := by
  refine ⟨by unfold mulV; simp; omega, fun x hx => ?_⟩
  obtain ⟨i, hi, rfl⟩ := List.getElem_of_mem hx
  unfold mulV at hi ⊢
  rw [List.getElem_zipWith]
  simp at hi
  have := mulG_bd k (l := [o[i], l[i]]) (by
    intro y hy
    rcases List.mem_cons.1 hy with rfl | hy
    · exact ho _ (List.getElem_mem _)
    · rw [List.mem_singleton.1 hy]; exact hl _ (List.getElem_mem _))
  have := k.p
  omega
theorem nok_E {gr : Group} (k : OkG gr) (h : Int) (e : Entry) : (if ((e.Data.length : Int) != h) = true then some true else (F_spec_gIs gr e.Data).bind fun z => some (!z)) = some (!gdE gr h e) := by
  rw [n_gIs k]
  unfold gdE
  by_cases h1 : (e.Data.length : Int) = h
  · simp [h1]
  · simp [h1]
def stepE (gr : Group) (o : List Int) (e : Entry) : List Int := mulV gr o e.Data
def AllOne (gr : Group) (h : Int) (fl : Nat → List Entry) (j : Nat) : Prop := ∀ i, i < j → ∃ e, fl i = [e] ∧ gdE gr h e = true
theorem n_uKeys {p : Plan} {b : Board} {T h : Nat} (k : OkG p.Gr) (hb : b.Entries.length ≤ 1048576) (hT : p.Trustees = (T : Int)) (hh : p.Threshold = (h : Int)) (hT4 : T ≤ 4) (hh4 : h ≤ 4) :
    ∃ r, F_spec_uKeys p b = some r ∧ ((AllOne p.Gr h (fun i => b.Entries.filter (pick 2 ((i + 1 : Nat) : Int))) T ∧ r = (((List.range T).flatMap fun i => b.Entries.filter (pick 2 ((i + 1 : Nat) : Int))).foldl (stepE p.Gr) (List.replicate h 1), true)) ∨
      (¬ AllOne p.Gr h (fun i => b.Entries.filter (pick 2 ((i + 1 : Nat) : Int))) T ∧ r = ([], false))) := by
  unfold F_spec_uKeys
  refine rn_bind (rn_cloop h (fun k s => s = (List.replicate k 1, (k : Int)) ∧ k ≤ h) ⟨rfl, by omega⟩ ?_ ?_)
  · rintro j s hj ⟨rfl, _⟩
    rw [if_pos (by simp [hh]; omega), gd_t (by simp; omega)]
    refine ⟨_, rfl, ?_, hj⟩
    rw [wr64 (by omega) (by omega)]
    simp [List.replicate_succ']
  · rintro s ⟨rfl, _⟩
    rw [if_neg (by simp [hh])]
    refine ⟨_, rfl, ?_⟩
    show Rn _ _
    refine rn_bind (rn_cloop T (fun j s => s = (((List.range j).flatMap fun i => b.Entries.filter (pick 2 ((i + 1 : Nat) : Int))).foldl (stepE p.Gr) (List.replicate h 1), ((j + 1 : Nat) : Int)) ∧ AllOne p.Gr h (fun i => b.Entries.filter (pick 2 ((i + 1 : Nat) : Int))) j ∧ s.1.length = h ∧ (∀ x ∈ s.1, 0 ≤ x ∧ x ≤ 2000000000) ∧ j ≤ T) ?_ ?_ ?_)
    · refine ⟨rfl, fun i hi => absurd hi (by omega), by simp, fun x hx => ?_, by omega⟩
      have := List.eq_of_mem_replicate hx
      omega
    · rintro j s hj ⟨hs, ha, hl, hbd, _⟩
      subst hs
      dsimp only at hl hbd ⊢
      generalize ho : ((List.range j).flatMap fun i => b.Entries.filter (pick 2 ((i + 1 : Nat) : Int))).foldl (stepE p.Gr) (List.replicate h 1) = o at hl hbd ⊢
      rw [if_pos (by simp [hT]; omega)]
      obtain ⟨z, h1, h2⟩ := n_uFind (b := b) (by omega) 2 ((j + 1 : Nat) : Int) (by omega)
      rw [h1, Option.bind_some]
      have hzl : z.length = (b.Entries.filter (pick 2 ((j + 1 : Nat) : Int))).length := by
        have := congrArg List.length h2
        simpa using this
      have bad : ¬ (∃ e, b.Entries.filter (pick 2 ((j + 1 : Nat) : Int)) = [e] ∧ gdE p.Gr h e = true) → ¬ AllOne p.Gr h (fun i => b.Entries.filter (pick 2 ((i + 1 : Nat) : Int))) T := fun h3 h4 => h3 (h4 j hj)
      by_cases h3 : z.length = 1
      · obtain ⟨x, rfl⟩ := List.length_eq_one_iff.1 h3
        obtain ⟨e, he⟩ := List.length_eq_one_iff.1 (hzl.symm.trans h3)
        rw [he] at h2
        have hx : ix b.Entries x = some e := by simpa using h2
        rw [if_neg (by simp), show ix [x] 0 = some x from rfl, Option.bind_some, hx, Option.bind_some, hh, nok_E k, Option.bind_some]
        cases hg : gdE p.Gr h e with
        | false =>
          rw [if_pos (by simp)]
          refine ⟨_, rfl, ?_⟩
          show Rn _ _
          refine ⟨_, rfl, .inr ⟨bad ?_, rfl⟩⟩
          rintro ⟨e', h4, h5⟩
          rw [he] at h4
          cases h4
          rw [hg] at h5; cases h5
        | true =>
          obtain ⟨g1, g2⟩ := gdE_bd k hg
          rw [if_neg (by simp), n_rowS k _ (by omega) hbd g2, Option.bind_some]
          obtain ⟨m1, m2⟩ := mulV_bd k (by omega) hbd g2
          refine ⟨_, rfl, ?_, ?_, ?_, ?_, hj⟩
          · rw [wr64 (by omega) (by omega)]
            rw [List.range_succ, List.flatMap_append, List.foldl_append, ho]
            simp only [List.flatMap_cons, List.flatMap_nil, List.append_nil, he, List.foldl_cons, List.foldl_nil, stepE]
            exact congrArg (Prod.mk _) (by omega)
          · intro i hi
            by_cases e1 : i = j
            · subst e1; exact ⟨e, he, hg⟩
            · exact ha i (by omega)
          · show (mulV p.Gr o e.Data).length = h; omega
          · exact m2
      · rw [if_pos (by simp; omega)]
        refine ⟨_, rfl, ?_⟩
        show Rn _ _
        refine ⟨_, rfl, .inr ⟨bad ?_, rfl⟩⟩
        rintro ⟨e', h4, _⟩
        rw [h4] at hzl
        exact h3 hzl
    · rintro s ⟨hs, ha, _, _, _⟩
      subst hs
      rw [if_neg (by simp [hT]; omega)]
      exact ⟨_, rfl, _, rfl, .inl ⟨ha, rfl⟩⟩
def pickT (T : Int) (e : Entry) : Bool := e.Kind == 2 && inB 1 T e.Author
theorem nok_I {gr : Group} (k : OkG gr) (h : Int) (l : List Int) (e : Entry) : ((F_slices_Contains_int_int l e.Author).bind fun z => if z = true then some true else if ((e.Data.length : Int) != h) = true then some true else (F_impl_Group_hasAll gr e.Data).bind fun z => some (!z)) = some (l.contains e.Author || !gdE gr h e) := by
  rw [n_contains, Option.bind_some, n_hasAll k]
  unfold gdE
  by_cases h1 : (e.Data.length : Int) = h
  · cases l.contains e.Author <;> simp [h1]
  · cases l.contains e.Author <;> simp [h1]
def OneEach (gr : Group) (h : Int) (T : Nat) (L : List Entry) : Prop := (L.map (·.Author)).Nodup ∧ (∀ e ∈ L, gdE gr h e = true) ∧ L.length = T
theorem n_implC {gr : Group} {b : Board} {o : Opening} {T h : Nat} (k : OkG gr) (hb : b.Entries.length ≤ 1048576) (hop : F_impl_OpeningOf gr b = some (o, true)) (hT : o.Trustees = (T : Int)) (hh : o.Threshold = (h : Int)) (h1 : 1 ≤ h) (hh4 : h ≤ 4) :
    ∃ r, F_impl_BoardCommits gr b = some r ∧ ((OneEach gr h T (b.Entries.filter (pickT T)) ∧ r = ((b.Entries.filter (pickT T)).foldl (stepE gr) (List.replicate h 1), true)) ∨ (¬ OneEach gr h T (b.Entries.filter (pickT T)) ∧ r = ([], false))) := by
  unfold F_impl_BoardCommits
  rw [hop, Option.bind_some, if_neg (by simp)]
  have hrep : F_slices_Repeat_int_int [1] o.Threshold = some (List.replicate h 1) := by
    unfold F_slices_Repeat_int_int
    rw [gd_t (by simp [hh]; omega), hh]; rfl
  rw [hrep, Option.bind_some]
  refine rn_bind (rn_rloop (fun j s => s = (((b.Entries.take j).filter (pickT T)).foldl (stepE gr) (List.replicate h 1), ((b.Entries.take j).filter (pickT T)).map (·.Author)) ∧ (((b.Entries.take j).filter (pickT T)).map (·.Author)).Nodup ∧ (∀ e ∈ (b.Entries.take j).filter (pickT T), gdE gr h e = true) ∧ s.1.length = h ∧ (∀ x ∈ s.1, 0 ≤ x ∧ x ≤ 2000000000)) ?_ ?_ ?_)
  · refine ⟨by simp, by simp, by simp, by simp, fun x hx => ?_⟩
    have := List.eq_of_mem_replicate hx
    omega
  · rintro j s hj ⟨hs, hn, hg, hl, hbd⟩
    subst hs
    dsimp only at hl hbd ⊢
    have hlen : (((b.Entries.take j).filter (pickT T)).map (·.Author)).length ≤ j := by
      have h2 := List.length_filter_le (pickT T) (b.Entries.take j)
      rw [List.length_take] at h2
      rw [List.length_map]; omega
    have htk : (b.Entries.take (j + 1)).filter (pickT T) = (b.Entries.take j).filter (pickT T) ++ [b.Entries[j]].filter (pickT T) := by
      rw [List.take_succ_eq_append_getElem hj, List.filter_append]
    have hsp : b.Entries.filter (pickT T) = (b.Entries.take (j + 1)).filter (pickT T) ++ (b.Entries.drop (j + 1)).filter (pickT T) := by
      rw [← List.filter_append, List.take_append_drop]
    generalize hL : (b.Entries.take j).filter (pickT T) = L at hn hg hl hbd hlen htk ⊢
    generalize ho : L.foldl (stepE gr) (List.replicate h 1) = w at hl hbd ⊢
    generalize hee : b.Entries[j] = e at htk ⊢
    rw [ix_at hj, Option.bind_some, hee, hT]
    have hif : (if (e.Kind != 2) = true then some true else (F_impl_within e.Author 1 (T : Int)).bind fun z => some (!z)) = some (!pickT T e) := by
      rw [n_winB]
      unfold pickT
      cases hk : (e.Kind == 2) <;> simp [bne, hk]
    rw [hif, Option.bind_some]
    cases hp : pickT T e with
    | false =>
      rw [if_pos (by rfl)]
      have e1 : [e].filter (pickT T) = [] := by simp [hp]
      rw [e1, List.append_nil] at htk
      refine ⟨_, rfl, ?_⟩
      show _ = _ ∧ _
      rw [htk]
      exact ⟨by rw [ho], hn, hg, hl, hbd⟩
    | true =>
      rw [if_neg (by simp), hh, nok_I k, Option.bind_some]
      have e1 : [e].filter (pickT T) = [e] := by simp [hp]
      rw [e1] at htk
      cases hc : ((L.map (·.Author)).contains e.Author || !gdE gr h e) with
      | true =>
        rw [if_pos rfl]
        refine ⟨_, rfl, ?_⟩
        show Rn _ _
        refine ⟨_, rfl, .inr ⟨?_, rfl⟩⟩
        rintro ⟨q1, q2, _⟩
        rw [hsp, htk] at q1 q2
        rcases Bool.or_eq_true_iff.1 hc with c1 | c1
        · have c2 : e.Author ∈ L.map (·.Author) := by simpa using c1
          rw [List.map_append, List.map_append, List.append_assoc, List.nodup_append] at q1
          exact q1.2.2 _ c2 e.Author (by simp) rfl
        · have := q2 e (by simp)
          rw [this] at c1; cases c1
      | false =>
        have hc' := Bool.or_eq_false_iff.1 hc
        have hge : gdE gr h e = true := by simpa using hc'.2
        have hna : e.Author ∉ L.map (·.Author) := by
          intro hm
          have : (L.map (·.Author)).contains e.Author = true := by simpa using hm
          rw [this] at hc'; cases hc'.1
        obtain ⟨g1, g2⟩ := gdE_bd k hge
        rw [if_neg (by simp), gd_t (by omega), n_row k _ (by omega) hbd g2, Option.bind_some]
        obtain ⟨m1, m2⟩ := mulV_bd k (by omega) hbd g2
        refine ⟨_, rfl, ?_⟩
        show _ = _ ∧ _
        rw [htk]
        refine ⟨by rw [List.foldl_append, ho, List.map_append]; rfl, ?_, ?_, by show (mulV gr w e.Data).length = h; omega, m2⟩
        · rw [List.map_append, List.nodup_append]
          refine ⟨hn, by simp, fun x hx y hy e2 => ?_⟩
          simp at hy
          subst hy; subst e2
          exact hna hx
        · intro e' he'
          rcases List.mem_append.1 he' with h5 | h5
          · exact hg e' h5
          · rw [List.mem_singleton.1 h5]; exact hge
  · rintro s ⟨hs, hn, hg, _, _⟩
    rw [List.take_length] at hs hn hg
    subst hs
    show Rn _ _
    dsimp only
    rw [hT]
    by_cases hc : (b.Entries.filter (pickT T)).length = T
    · refine ⟨_, by rw [Sum.elim_inl, if_neg (by simp [hc])], .inl ⟨⟨hn, hg, hc⟩, rfl⟩⟩
    · refine ⟨_, by rw [Sum.elim_inl, if_pos (by simp; omega)], .inr ⟨fun h5 => hc h5.2.2, rfl⟩⟩
theorem foldE_len (gr : Group) : ∀ (L : List Entry) (o : List Int), (L.foldl (stepE gr) o).length ≤ o.length := by
  intro L
  induction L with
  | nil => intro o; exact Nat.le_refl _
  | cons e L ih =>
    intro o
    have h1 := ih (stepE gr o e)
    have h2 : (stepE gr o e).length ≤ o.length := by unfold stepE mulV; simp; omega
    exact Nat.le_trans h1 h2
theorem flat_auth {fl : Nat → List Entry} : ∀ (T : Nat), (∀ i, i < T → ∃ e, fl i = [e] ∧ e.Author = ((i + 1 : Nat) : Int)) → ((List.range T).flatMap fl).map (·.Author) = (List.range T).map fun i => ((i + 1 : Nat) : Int) := by
  intro T
  induction T with
  | zero => intro _; rfl
  | succ T ih =>
    intro h
    obtain ⟨e, h1, h2⟩ := h T (by omega)
    rw [List.range_succ, List.flatMap_append, List.map_append, List.map_append, ih fun i hi => h i (by omega)]
    simp [h1, h2]
theorem each_iff (gr : Group) (h : Int) (E : List Entry) (T : Nat) :
    (E.filter (pickT T)).Perm ((List.range T).flatMap fun i => E.filter (pick 2 ((i + 1 : Nat) : Int))) ∧ (AllOne gr h (fun i => E.filter (pick 2 ((i + 1 : Nat) : Int))) T ↔ OneEach gr h T (E.filter (pickT T))) := by
  have hfl : ∀ i, i < T → ((E.filter (pickT T)).filter fun e => e.Author == ((i + 1 : Nat) : Int)) = E.filter (pick 2 ((i + 1 : Nat) : Int)) := fun i hi => by
    rw [List.filter_filter]
    refine List.filter_congr fun e _ => ?_
    unfold pickT pick inB
    by_cases h1 : e.Author = ((i + 1 : Nat) : Int)
    · rw [h1]
      have a1 : decide ((1 : Int) ≤ ((i + 1 : Nat) : Int)) = true := by simp; omega
      have a2 : decide ((((i + 1 : Nat) : Int)) ≤ (T : Int)) = true := by simp; omega
      rw [a1, a2]; simp
    · have : (e.Author == ((i + 1 : Nat) : Int)) = false := by simpa using h1
      rw [this]; simp
  have hp := parts_perm (fun e : Entry => e.Author) T (E.filter (pickT T)) fun e he => by
    have := (List.mem_filter.1 he).2
    unfold pickT at this
    exact inB_t.1 (Bool.and_eq_true_iff.1 this).2
  have hparts : parts (fun e : Entry => e.Author) (E.filter (pickT T)) T = (List.range T).flatMap fun i => E.filter (pick 2 ((i + 1 : Nat) : Int)) := by
    unfold parts
    rw [List.flatMap_def, List.flatMap_def]
    congr 1
    exact List.map_congr_left fun i hi => hfl i (List.mem_range.1 hi)
  rw [hparts] at hp
  refine ⟨hp, fun ha => ?_, fun ho => ?_⟩
  · have hm := flat_auth (fl := fun i => E.filter (pick 2 ((i + 1 : Nat) : Int))) T fun i hi => by
      obtain ⟨e, h1, _⟩ := ha i hi
      refine ⟨e, h1, ?_⟩
      have h2 : e ∈ E.filter (pick 2 ((i + 1 : Nat) : Int)) := by
        have h1 : E.filter (pick 2 ((i + 1 : Nat) : Int)) = [e] := h1
        rw [h1]; simp
      have h3 := (List.mem_filter.1 h2).2
      unfold pick at h3
      simpa using (Bool.and_eq_true_iff.1 h3).2
    have hpm := hp.map (·.Author)
    rw [hm] at hpm
    refine ⟨hpm.nodup_iff.2 ?_, fun e he => ?_, ?_⟩
    · refine List.pairwise_map.2 (List.nodup_range.imp fun h => ?_)
      omega
    · obtain ⟨i, hi, h2⟩ := List.mem_flatMap.1 (hp.mem_iff.1 he)
      obtain ⟨e', h3, h4⟩ := ha i (List.mem_range.1 hi)
      have h3 : E.filter (pick 2 ((i + 1 : Nat) : Int)) = [e'] := h3
      rw [h3] at h2
      rw [List.mem_singleton.1 h2]; exact h4
    · have := hpm.length_eq
      simpa using this
  · obtain ⟨h1, h2, h3⟩ := ho
    have hq := parts_one (fun e : Entry => e.Author) (E.filter (pickT T)) T fun i _ => nodup_one (fun e : Entry => e.Author) _ _ h1
    rw [hparts] at hq
    intro i hi
    have h4 := hq.2 (by rw [← hp.length_eq]; exact h3) i hi
    rw [hfl i hi] at h4
    obtain ⟨e, he⟩ := List.length_eq_one_iff.1 h4
    refine ⟨e, he, h2 e ?_⟩
    have h5 : e ∈ (E.filter (pickT T)).filter fun e => e.Author == ((i + 1 : Nat) : Int) := by rw [hfl i hi, he]; simp
    exact (List.mem_filter.1 h5).1
theorem n_commits (gr : Group) {b : Board} (hl : lensB b) : ∃ l t, F_spec_BoardCommits gr b = some (l, t) ∧ F_impl_BoardCommits gr b = some (l, t) ∧ l.length ≤ 4 := by
  have bad : ∀ {o : Opening}, F_impl_OpeningOf gr b = some (o, false) → F_impl_BoardCommits gr b = some ([], false) := fun h => by
    unfold F_impl_BoardCommits
    rw [h]; rfl
  have badS : ∀ {p : Plan}, F_spec_uOpen gr b = some (p, false) → F_spec_BoardCommits gr b = some ([], false) := fun h => by
    unfold F_spec_BoardCommits F_spec_uReady
    rw [h]; rfl
  have hO : F_impl_OpeningOf gr b = (F_impl_areBoard gr b).bind fun z1 => if (!z1) = true then some (Opening.mk (Contest.mk 0 0 0 0 0) 0 0 0 0, false) else (F_impl_Group_opening gr b).bind fun z3 => some (z3.1, z3.2) := by
    unfold F_impl_OpeningOf; rfl
  rw [n_areBoard gr hl, Option.bind_some] at hO
  cases hg : okG gr with
  | false =>
    rw [hg] at hO
    refine ⟨[], false, badS (p := ⟨⟨0, 0, 0⟩, ⟨0, 0, 0, 0, 0⟩, 0, 0, 0, 0, 0⟩) ?_, bad (o := ⟨⟨0, 0, 0, 0, 0⟩, 0, 0, 0, 0⟩) hO, by simp⟩
    unfold F_spec_uOpen
    rw [n_l2Good, hg]; rfl
  | true =>
    have k := okG_t.1 hg
    cases hb : brdB gr b with
    | false =>
      rw [hg, hb] at hO
      refine ⟨[], false, badS (p := ⟨⟨0, 0, 0⟩, ⟨0, 0, 0, 0, 0⟩, 0, 0, 0, 0, 0⟩) ?_, bad (o := ⟨⟨0, 0, 0, 0, 0⟩, 0, 0, 0, 0⟩) hO, by simp⟩
      unfold F_spec_uOpen
      rw [n_l2Good, hg, Option.bind_some, (n_board k hl).1, hb]; rfl
    | true =>
      obtain ⟨p, t, o, s1, s2, s3⟩ := n_uOpen hg hl hb
      rw [hg, hb, s2] at hO
      have hO' : F_impl_OpeningOf gr b = some (o, t) := hO
      cases t with
      | false => exact ⟨[], false, badS s1, bad hO', by simp⟩
      | true =>
        obtain ⟨q1, q2, q3, q4, q5, q6⟩ := s3 rfl
        obtain ⟨T, hT⟩ := Int.eq_ofNat_of_zero_le (show 0 ≤ p.Trustees by omega)
        obtain ⟨h, hh⟩ := Int.eq_ofNat_of_zero_le (show 0 ≤ p.Threshold by omega)
        subst q3
        obtain ⟨r, r1, r2⟩ := n_uKeys (p := p) (b := b) (T := T) (h := h) k hl.2.1 hT hh (by omega) (by omega)
        obtain ⟨r', u1, u2⟩ := n_implC (o := o) (T := T) (h := h) k hl.2.1 hO' (q2.trans hT) (q1.trans hh) (by omega) (by omega)
        obtain ⟨e1, e2⟩ := each_iff p.Gr h b.Entries T
        have hS : F_spec_BoardCommits p.Gr b = some (if r.2 = true then (r.1, true) else ([], false)) := by
          unfold F_spec_BoardCommits F_spec_uReady
          rw [s1, Option.bind_some, if_neg (by simp), r1]
          cases hr : r.2 <;> simp [hr]
        rcases r2 with ⟨a1, rfl⟩ | ⟨a1, rfl⟩
        · rcases u2 with ⟨b1, rfl⟩ | ⟨b1, rfl⟩
          · refine ⟨_, true, hS, ?_, ?_⟩
            · rw [u1, foldl_perm (fun z x y => mulV_comm p.Gr z x.Data y.Data) e1]
            · exact Nat.le_trans (foldE_len _ _ _) (by simp; omega)
          · exact absurd (e2.1 a1) b1
        · rcases u2 with ⟨b1, rfl⟩ | ⟨b1, rfl⟩
          · exact absurd (e2.2 b1) a1
          · exact ⟨[], false, hS, u1, by simp⟩
theorem law28 (gr : Group) (b : Board) (hb : lensB b) : F_laws_FnExactBoardCommits gr b = some true := by
  obtain ⟨l, t, s1, s2, s3⟩ := n_commits gr hb
  obtain ⟨z, z1, z2, z3⟩ := mk_b hb
  obtain ⟨r, r1, r2, r3⟩ := p_markI l 1 (by omega) (by omega) (by omega)
  have h1 := p_heldI r 1 (by omega) (by omega) (by omega) r3
  have e1 : F_laws_eqIntS l l = some true := p_eqIntS (by omega)
  have tg : F_laws_toGroup gr = some gr := rfl
  unfold F_laws_FnExactBoardCommits
  refine szs_law (szs_b hb (by omega) (by omega)) fun n1 a1 b1 => ?_
  have g1 : ¬ z < 0 := by omega
  have g2 : ¬ 1 + (l.length : Int) < 0 := by omega
  simp only [tg, to_b hb, s1, s2, e1, eq_b hb, z1, r1, h1, r2, Option.bind_some]
  simp [g1, g2]
end Go.Pm
