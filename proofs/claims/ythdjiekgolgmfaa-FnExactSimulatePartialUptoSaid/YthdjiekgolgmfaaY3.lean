/-
  FnExactSimulatePartial: plain laws.
  No condition.
-/
import Derived.Test.YthdjiekgolgmfaaM3
import Derived.Test.YthdjiekgolgmfaaPmZ
namespace Go.Pm
open Go.Am
set_option linter.unusedVariables false
set_option linter.unusedSimpArgs false
theorem set_step {α : Type} {l r : List α} {k : Nat} (hk : k < l.length) (hr : r.length = l.length) (h : r.take k = l.take k) : (r.set k l[k]).take (k + 1) = l.take (k + 1) := by
  rw [List.take_succ_eq_append_getElem (by simpa [hr] using hk), List.take_succ_eq_append_getElem hk]
  simp [List.take_set_of_le, h]
theorem p_toIntS {l : List Int} (hl : l.length ≤ 1048576) : F_laws_toIntS l = some l := by
  unfold F_laws_toIntS
  rw [gd_t (by omega), Option.bind_some]
  obtain ⟨b, hb, hp⟩ := cloop_post (β := List Int) (σ := List Int × Int) (step := fun s42 =>
    if decide (s42.2 < (l.length : Int)) = true then (
    (ix l s42.2).bind fun x53 =>
    (ix s42.1 s42.2).bind fun x60 =>
    some (.go (s42.1.set s42.2.toNat x53, IntKind.i64.wrap (s42.2 + 1)))) else (
    some (.out s42.1))) (s0 := (List.replicate l.length 0, 0)) l.length (fun k s => s.2 = (k : Int) ∧ s.1.length = l.length ∧ s.1.take k = l.take k)
    (fun b => b = l) ⟨rfl, by simp, by simp⟩
    (by
      rintro k ⟨a, b⟩ hk ⟨e, h2, h3⟩
      simp only at e h2 h3
      subst e
      have hd : decide ((k : Int) < (l.length : Int)) = true := by simpa using hk
      refine .inl ⟨(a.set k l[k], (k : Int) + 1), ?_, by simp, by simp [h2], set_step hk h2 h3⟩
      simp only [hd, if_true, ix_at hk, Option.bind_some, ix_at (l := a) (k := k) (by omega)]
      rw [wr64 (by omega) (by omega)]
      simp)
    (by
      rintro ⟨a, b⟩ ⟨e, h2, h3⟩
      simp only at e h2 h3
      subst e
      refine ⟨a, by simp, ?_⟩
      rw [List.take_of_length_le (by omega), List.take_of_length_le (Nat.le_refl _)] at h3
      exact h3)
  rw [hb, Option.bind_some, hp]
theorem p_eqIntS {l : List Int} (hl : l.length ≤ 1048576) : F_laws_eqIntS l l = some true := by
  unfold F_laws_eqIntS
  simp only [bne_self_eq_false, Bool.false_eq_true, if_false]
  obtain ⟨b, hb, hp⟩ := cloop_post (β := Unit ⊕ Bool) (σ := Int) (step := fun s52 =>
    if decide (s52 < (l.length : Int)) = true then (
    (ix l s52).bind fun x63 =>
    (ix l s52).bind fun x70 =>
    if (x63 != x70) = true then (
    some (.out (.inr false))) else (
    some (.go (IntKind.i64.wrap (s52 + 1))))) else (
    some (.out (.inl ())))) (s0 := 0) l.length (fun k s => s = (k : Int)) (fun b => b = .inl ()) rfl
    (by
      rintro k a hk e
      subst e
      have hd : decide ((k : Int) < (l.length : Int)) = true := by simpa using hk
      refine .inl ⟨(k : Int) + 1, ?_, by simp⟩
      simp only [hd, if_true, ix_at hk, Option.bind_some, bne_self_eq_false, Bool.false_eq_true, if_false]
      rw [wr64 (by omega) (by omega)])
    (by
      rintro a e
      subst e
      exact ⟨_, by simp, rfl⟩)
  rw [hb, Option.bind_some, hp]; rfl
theorem n_within (a b c : Int) : F_impl_within a b c = some (decide (b ≤ a) && decide (a ≤ c)) := by
  unfold F_impl_within
  by_cases h : b ≤ a <;> simp [h]
theorem n_l1In (a b c : Int) : F_spec_l1In a b c = some (decide (b ≤ a) && decide (a ≤ c)) := by
  unfold F_spec_l1In
  by_cases h : b ≤ a <;> simp [h]
theorem n_isModulus (a : Int) : F_impl_isModulus a = some (decide (2 ≤ a) && decide (a ≤ 2000000000)) := by
  unfold F_impl_isModulus
  rw [n_within]; rfl
theorem tmod_cast (a b : Nat) : (a : Int).tmod (b : Int) = ((a % b : Nat) : Int) := by rw [Int.tmod_eq_emod_of_nonneg (by omega)]; exact (Int.natCast_emod _ _).symm
theorem tdiv_cast (a b : Nat) : (a : Int).tdiv (b : Int) = ((a / b : Nat) : Int) := by rw [Int.tdiv_eq_ediv_of_nonneg (by omega)]; exact (Int.natCast_ediv _ _).symm
theorem mul_cast (a b : Nat) : (a : Int) * (b : Int) = ((a * b : Nat) : Int) := (Int.natCast_mul _ _).symm
theorem and_one {e : Nat} (he : e ≤ 9223372036854775807) : IntKind.i64.wrap (BitVec.ofInt IntKind.i64.bits (e : Int) &&& BitVec.ofInt IntKind.i64.bits 1).toNat = ((e % 2 : Nat) : Int) := by
  have h1 : (BitVec.ofInt IntKind.i64.bits (e : Int) &&& BitVec.ofInt IntKind.i64.bits 1).toNat = e % 2 := by
    rw [BitVec.toNat_and]
    have a1 : (BitVec.ofInt IntKind.i64.bits (e : Int)).toNat = e := by
      rw [BitVec.toNat_ofInt]
      have : IntKind.i64.bits = 64 := rfl
      rw [this]
      omega
    have a2 : (BitVec.ofInt IntKind.i64.bits 1).toNat = 1 := by decide
    rw [a1, a2, Nat.and_one_is_mod]
  rw [h1, wr64 (by omega) (by omega)]
-- powers
theorem n_power {a e m : Nat} (ha : a ≤ 2000000000) (hm : 1 ≤ m) (hm2 : m ≤ 2000000000) (he : e ≤ 9223372036854775807) : F_impl_power (a : Int) (e : Int) (m : Int) = some ((a ^ e % m : Nat) : Int) := by
  unfold F_impl_power
  refine eq_of_rn (rn_gd (by omega) (rn_then (φ := (· = ((a ^ e % m : Nat) : Int))) (rn_wloop (φ := (· = ((a ^ e % m : Nat) : Int))) (fun s => ∃ x y o : Nat, s = ((x : Int), (y : Int), (o : Int)) ∧ x ≤ 2000000000 ∧ y ≤ e ∧ o < m ∧ o * x ^ y % m = a ^ e % m) (fun s => s.2.1.toNat)
    ⟨a, e, 1 % m, by rw [show (1 : Int) = ((1 : Nat) : Int) from rfl, tmod_cast], ha, Nat.le_refl _, Nat.mod_lt _ (by omega), by rw [Nat.mod_mul_mod, Nat.one_mul]⟩ ?_) fun x hx => rn_some hx))
  rintro s ⟨x, y, o, rfl, hx, hy, ho, hi⟩
  refine rn_if (fun h0 => ?_) fun h0 => ?_
  · have h0 : 0 < y := by simpa using h0
    have hox : o * x ≤ 4000000000000000000 := Nat.le_trans (Nat.mul_le_mul (show o ≤ 2000000000 by omega) hx) (by decide)
    have hxx : x * x ≤ 4000000000000000000 := Nat.le_trans (Nat.mul_le_mul hx hx) (by decide)
    refine rn_then (ψ := fun o' => ∃ k : Nat, o' = (k : Int) ∧ k < m ∧ k * (x * x) ^ (y / 2) % m = a ^ e % m) ?_ ?_
    · simp only [and_one (show y ≤ 9223372036854775807 by omega)]
      refine rn_if (fun h1 => rn_gd (by omega) (rn_some ⟨o * x % m, ?_, Nat.mod_lt _ (by omega), ?_⟩)) fun h1 => rn_some ⟨o, rfl, ho, ?_⟩
      · rw [mul_cast, wr64 (by omega) (by omega), tmod_cast]
      · have h1 : y % 2 = 1 := by
          have : ((y % 2 : Nat) : Int) = 1 := by simpa using h1
          omega
        rw [Nat.mod_mul_mod, ← hi, ← Nat.pow_two, ← Nat.pow_mul, Nat.mul_assoc, ← Nat.pow_succ']
        congr 3; omega
      · have h1 : y % 2 = 0 := by
          have : ¬ ((y % 2 : Nat) : Int) = 1 := by simpa using h1
          omega
        rw [← hi, ← Nat.pow_two, ← Nat.pow_mul]
        congr 3; omega
    · rintro o' ⟨k, rfl, hk, hk2⟩
      refine rn_gd (by omega) (rn_some ⟨⟨x * x % m, y / 2, k, ?_, by have := Nat.mod_lt (x * x) (show 0 < m by omega); omega, by omega, hk, ?_⟩, ?_⟩)
      · rw [mul_cast, wr64 (by omega) (by omega), tmod_cast]
        have e3 : (y : Int).fdiv 2 = ((y / 2 : Nat) : Int) := by rw [Int.fdiv_eq_ediv_of_nonneg _ (by omega)]; rfl
        show (_, (y : Int).fdiv 2, _) = _
        rw [e3]
      · rw [Nat.mul_mod, ← Nat.pow_mod, ← Nat.mul_mod]
        exact hk2
      · show ((y : Int).fdiv 2).toNat < (y : Int).toNat
        rw [Int.fdiv_eq_ediv_of_nonneg _ (by omega)]
        omega
  · have h0 : y = 0 := by
      have : ¬ (0 < y) := by simpa using h0
      omega
    subst h0
    refine rn_some ?_
    show (o : Int) = _
    rw [Nat.pow_zero, Nat.mul_one, Nat.mod_eq_of_lt ho] at hi
    rw [hi]
theorem n_nPower {a e m : Nat} (ha : a ≤ 2000000000) (hm : 1 ≤ m) (hm2 : m ≤ 2000000000) (he : e ≤ 9223372036854775807) : F_spec_nPower (a : Int) (e : Int) (m : Int) = some ((a ^ e % m : Nat) : Int) := by
  unfold F_spec_nPower
  refine eq_of_rn (rn_gd (by omega) (rn_then (φ := (· = ((a ^ e % m : Nat) : Int))) (rn_wloop (φ := (· = ((a ^ e % m : Nat) : Int))) (fun s => ∃ x y o : Nat, s = ((x : Int), (y : Int), (o : Int)) ∧ x ≤ 2000000000 ∧ y ≤ e ∧ o < m ∧ o * x ^ y % m = a ^ e % m) (fun s => s.2.1.toNat)
    ⟨a, e, 1 % m, by rw [show (1 : Int) = ((1 : Nat) : Int) from rfl, tmod_cast], ha, Nat.le_refl _, Nat.mod_lt _ (by omega), by rw [Nat.mod_mul_mod, Nat.one_mul]⟩ ?_) fun x hx => rn_some hx))
  rintro s ⟨x, y, o, rfl, hx, hy, ho, hi⟩
  refine rn_if (fun h0 => ?_) fun h0 => ?_
  · have h0 : 0 < y := by simpa using h0
    have hox : o * x ≤ 4000000000000000000 := Nat.le_trans (Nat.mul_le_mul (show o ≤ 2000000000 by omega) hx) (by decide)
    have hxx : x * x ≤ 4000000000000000000 := Nat.le_trans (Nat.mul_le_mul hx hx) (by decide)
    have e2 : (y : Int).tmod 2 = ((y % 2 : Nat) : Int) := tmod_cast y 2
    refine rn_then (ψ := fun o' => ∃ k : Nat, o' = (k : Int) ∧ k < m ∧ k * (x * x) ^ (y / 2) % m = a ^ e % m) ?_ ?_
    · simp only [e2]
      refine rn_if (fun h1 => rn_gd (by omega) (rn_some ⟨o * x % m, ?_, Nat.mod_lt _ (by omega), ?_⟩)) fun h1 => rn_some ⟨o, rfl, ho, ?_⟩
      · rw [mul_cast, wr64 (by omega) (by omega), tmod_cast]
      · have h1 : y % 2 = 1 := by
          have : ((y % 2 : Nat) : Int) = 1 := by simpa using h1
          omega
        rw [Nat.mod_mul_mod, ← hi, ← Nat.pow_two, ← Nat.pow_mul, Nat.mul_assoc, ← Nat.pow_succ']
        congr 3; omega
      · have h1 : y % 2 = 0 := by
          have : ¬ ((y % 2 : Nat) : Int) = 1 := by simpa using h1
          omega
        rw [← hi, ← Nat.pow_two, ← Nat.pow_mul]
        congr 3; omega
    · rintro o' ⟨k, rfl, hk, hk2⟩
      have e3 : (y : Int).tdiv 2 = ((y / 2 : Nat) : Int) := tdiv_cast y 2
      refine rn_gd (by omega) (rn_some ⟨⟨x * x % m, y / 2, k, ?_, by have := Nat.mod_lt (x * x) (show 0 < m by omega); omega, by omega, hk, ?_⟩, ?_⟩)
      · simp only [e3]
        rw [mul_cast, wr64 (n := ((x * x : Nat) : Int)) (by omega) (by omega), tmod_cast, wr64 (n := ((y / 2 : Nat) : Int)) (by omega) (by omega)]
      · rw [Nat.mul_mod, ← Nat.pow_mod, ← Nat.mul_mod]
        exact hk2
      · show (IntKind.i64.wrap ((y : Int).tdiv 2)).toNat < (y : Int).toNat
        rw [e3, wr64 (by omega) (by omega)]
        omega
  · have h0 : y = 0 := by
      have : ¬ (0 < y) := by simpa using h0
      omega
    subst h0
    refine rn_some ?_
    show (o : Int) = _
    rw [Nat.pow_zero, Nat.mul_one, Nat.mod_eq_of_lt ho] at hi
    rw [hi]
-- residues
theorem n_mod {a q : Int} (h0 : 0 < q) (h1 : q ≤ 2000000000) : F_impl_mod a q = some (a % q) := by
  unfold F_impl_mod
  rw [gd_t (by omega), gd_t (by omega)]
  have b1 : a.tmod q < q := Int.tmod_lt_of_pos a h0
  have b2 : -q < a.tmod q := by
    have := Int.lt_tmod_of_pos a h0
    omega
  rw [wr64 (by omega) (by omega), Int.tmod_eq_emod_of_nonneg (by omega)]
  congr 1
  rw [Int.add_emod_right]
  rw [Int.tmod_def, Int.sub_emod, Int.mul_emod_right, Int.sub_zero, Int.emod_emod]
theorem n_nMod {a q : Int} (h0 : 0 < q) (h1 : q ≤ 2000000000) : F_spec_nMod a q = some (a % q) := n_mod h0 h1
-- primes
def Pr (n : Nat) : Prop := 2 ≤ n ∧ ∀ d, 2 ≤ d → d * d ≤ n → n % d ≠ 0
open Classical in
noncomputable def prB (n : Int) : Bool := decide (Pr n.toNat)
theorem prB_t {n : Nat} : prB (n : Int) = true ↔ Pr n := by simp [prB]
theorem n_nPrime (n : Int) (h : n ≤ 2000000000) : F_spec_nPrime n = some (prB n) := by
  unfold F_spec_nPrime
  refine eq_of_rn (rn_if (fun h0 => rn_some ?_) fun h0 => ?_)
  · have h0 : n < 2 := by simpa using h0
    symm
    unfold prB
    rw [decide_eq_false_iff_not]
    intro hp
    have := hp.1
    omega
  · have h0 : ¬ n < 2 := by simpa using h0
    obtain ⟨n, rfl⟩ := Int.eq_ofNat_of_zero_le (show 0 ≤ n by omega)
    refine rn_then (ψ := fun b => (b = .inl () ∧ Pr n) ∨ (b = .inr false ∧ ¬ Pr n)) (rn_wloop (fun s => ∃ d : Nat, s = (d : Int) ∧ 2 ≤ d ∧ d ≤ 44723 ∧ ∀ k, 2 ≤ k → k < d → k * k ≤ n → n % k ≠ 0) (fun s => 50000 - s.toNat) ⟨2, rfl, by omega, by omega, fun k h1 h2 => by omega⟩ ?_) ?_
    · rintro s ⟨d, rfl, hd, hd2, hi⟩
      have hdd : d * d ≤ 2000146729 := Nat.le_trans (Nat.mul_le_mul hd2 hd2) (by decide)
      rw [mul_cast, wr64 (by omega) (by omega)]
      refine rn_if (fun h1 => rn_gd (by omega) (rn_if (fun h2 => rn_some (.inr ⟨rfl, ?_⟩)) fun h2 => rn_some ?_)) fun h1 => rn_some (.inl ⟨rfl, by omega, fun k hk hkn => ?_⟩)
      · have h1 : d * d ≤ n := by have := of_decide_eq_true h1; omega
        rw [tmod_cast] at h2
        have h2 : n % d = 0 := by have : ((n % d : Nat) : Int) = 0 := by simpa using h2
                                  omega
        exact fun hp => hp.2 d hd h1 h2
      · have h1 : d * d ≤ n := by have := of_decide_eq_true h1; omega
        rw [tmod_cast] at h2
        have h2 : n % d ≠ 0 := by have : ¬ ((n % d : Nat) : Int) = 0 := by simpa using h2
                                  omega
        have hd3 : d ≤ 44722 := by
          rcases Nat.lt_or_ge d 44723 with h | h
          · omega
          · have : 44723 * 44723 ≤ d * d := Nat.mul_le_mul h h
            omega
        rw [wr64 (by omega) (by omega)]
        refine ⟨⟨d + 1, rfl, by omega, by omega, fun k h3 h4 h5 => ?_⟩, by omega⟩
        rcases Nat.lt_or_ge k d with h | h
        · exact hi k h3 h h5
        · have : k = d := by omega
          subst this
          exact h2
      · have h1 : n < d * d := by have := of_decide_eq_false h1; omega
        rcases Nat.lt_or_ge k d with h | h
        · exact hi k hk h hkn
        · have := Nat.mul_le_mul h h
          omega
    · rintro b (⟨rfl, hp⟩ | ⟨rfl, hp⟩)
      · exact rn_some (prB_t.2 hp).symm
      · refine rn_some ?_
        symm
        unfold prB
        rw [decide_eq_false_iff_not]
        exact hp
theorem n_isPrime (n : Int) : F_impl_isPrime n = some (decide (n ≤ 2000000000) && prB n) := by
  unfold F_impl_isPrime
  by_cases h : 2 ≤ n ∧ n ≤ 2000000000
  · obtain ⟨n, rfl⟩ := Int.eq_ofNat_of_zero_le (show 0 ≤ n by omega)
    have e2 : ((n : Int)).tmod 2 = ((n % 2 : Nat) : Int) := tmod_cast n 2
    have em : (decide (2 ≤ (n : Int)) && decide ((n : Int) ≤ 2000000000)) = true := by simp only [Bool.and_eq_true, decide_eq_true_eq]; exact h
    rw [show (decide ((n : Int) ≤ 2000000000) && prB (n : Int)) = prB (n : Int) by simp [h.2]]
    refine eq_of_rn (rn_then (ψ := fun b => b = decide (n % 2 = 0 ∧ n ≠ 2)) (rn_call (n_isModulus _) ?_) ?_)
    · rw [em]
      refine rn_f rfl ?_
      rw [e2]
      refine rn_if (fun h1 => rn_some ?_) fun h1 => rn_some ?_
      · have h1 : n % 2 = 0 := by have : ((n % 2 : Nat) : Int) = 0 := by simpa using h1
                                  omega
        have : ((n : Int) != 2) = decide (n ≠ 2) := by
          by_cases hn : n = 2
          · subst hn; rfl
          · have hn' : ¬ (n : Int) = 2 := by omega
            simp [hn, hn']
        rw [this]; simp [h1]
      · have h1 : n % 2 ≠ 0 := by have : ¬ ((n % 2 : Nat) : Int) = 0 := by simpa using h1
                                  omega
        simp [h1]
    · rintro b rfl
      refine rn_if (fun h1 => rn_some ?_) fun h1 => ?_
      · have h1 := of_decide_eq_true h1
        symm
        unfold prB
        rw [decide_eq_false_iff_not]
        intro hp
        have hn : 4 ≤ n := by omega
        exact hp.2 2 (by omega) hn h1.1
      · have h1 := of_decide_eq_false h1
        refine rn_then (ψ := fun b => (b = .inl () ∧ Pr n) ∨ (b = .inr false ∧ ¬ Pr n)) (rn_wloop (fun s => ∃ d : Nat, s = (d : Int) ∧ 3 ≤ d ∧ d % 2 = 1 ∧ d ≤ 44725 ∧ ∀ k, 2 ≤ k → k < d → k * k ≤ n → n % k ≠ 0) (fun s => 50000 - s.toNat) ⟨3, rfl, by omega, by omega, by omega, fun k h2 h3 h4 => ?_⟩ ?_) ?_
        · have : k = 2 := by omega
          subst this
          intro h5
          exact h1 ⟨h5, by omega⟩
        · rintro s ⟨d, rfl, hd, hodd, hd2, hi⟩
          have hdd : d * d ≤ 2000325625 := Nat.le_trans (Nat.mul_le_mul hd2 hd2) (by decide)
          rw [mul_cast, wr64 (by omega) (by omega)]
          refine rn_if (fun h1 => rn_gd (by omega) (rn_if (fun h2 => rn_some (.inr ⟨rfl, ?_⟩)) fun h2 => rn_some ?_)) fun h1 => rn_some (.inl ⟨rfl, by omega, fun k hk hkn => ?_⟩)
          · have h1 : d * d ≤ n := by have := of_decide_eq_true h1; omega
            rw [tmod_cast] at h2
            have h2 : n % d = 0 := by have : ((n % d : Nat) : Int) = 0 := by simpa using h2
                                      omega
            exact fun hp => hp.2 d (by omega) h1 h2
          · have h3 : d * d ≤ n := by have := of_decide_eq_true h1; omega
            rw [tmod_cast] at h2
            have h2 : n % d ≠ 0 := by have : ¬ ((n % d : Nat) : Int) = 0 := by simpa using h2
                                      omega
            have hd3 : d ≤ 44722 := by
              rcases Nat.lt_or_ge d 44723 with h | h
              · omega
              · have : 44723 * 44723 ≤ d * d := Nat.mul_le_mul h h
                omega
            rw [wr64 (by omega) (by omega)]
            refine ⟨⟨d + 2, rfl, by omega, by omega, by omega, fun k h4 h5 h6 h7 => ?_⟩, by omega⟩
            rcases Nat.lt_or_ge k d with h | h
            · exact hi k h4 h h6 h7
            · rcases (show k = d ∨ k = d + 1 by omega) with e | e
              · subst e; exact h2 h7
              · -- an even divisor
                have h8 : n % 2 = 0 := by
                  have a1 : k ∣ n := Nat.dvd_of_mod_eq_zero h7
                  have a2 : 2 ∣ k := Nat.dvd_of_mod_eq_zero (by omega)
                  exact Nat.mod_eq_zero_of_dvd (Nat.dvd_trans a2 a1)
                have h9 : 2 * 2 ≤ n := by
                  have := Nat.mul_le_mul h4 h4
                  omega
                exact hi 2 (by omega) (by omega) h9 h8
          · have h1 : n < d * d := by have := of_decide_eq_false h1; omega
            rcases Nat.lt_or_ge k d with h | h
            · exact hi k hk h hkn
            · have := Nat.mul_le_mul h h
              omega
        · rintro b (⟨rfl, hp⟩ | ⟨rfl, hp⟩)
          · exact rn_some (prB_t.2 hp).symm
          · refine rn_some ?_
            symm
            unfold prB
            rw [decide_eq_false_iff_not]
            exact hp
  · have em : (decide (2 ≤ n) && decide (n ≤ 2000000000)) = false := by
      rw [Bool.and_eq_false_iff, decide_eq_false_iff_not, decide_eq_false_iff_not]; omega
    rw [n_isModulus, em]
    simp only [Option.bind_some, Bool.not_false, if_true]
    congr 1
    symm
    rw [Bool.and_eq_false_iff, decide_eq_false_iff_not]
    by_cases hn : n ≤ 2000000000
    · right
      unfold prB
      rw [decide_eq_false_iff_not]
      intro hp
      have := hp.1
      omega
    · exact .inl hn
structure OkG (gr : Group) : Prop where
  p : 3 ≤ gr.P ∧ gr.P ≤ 2000000000
  q : 2 ≤ gr.Q ∧ gr.Q ≤ gr.P - 1
  d : (gr.P.toNat - 1) % gr.Q.toNat = 0
  g : 2 ≤ gr.G ∧ gr.G ≤ gr.P - 1
  pp : Pr gr.P.toNat
  pq : Pr gr.Q.toNat
  o : gr.G.toNat ^ gr.Q.toNat % gr.P.toNat = 1
open Classical in
noncomputable def okG (gr : Group) : Bool := decide (OkG gr)
theorem okG_t {gr : Group} : okG gr = true ↔ OkG gr := by simp [okG]
theorem okG_f {gr : Group} (h : ¬ OkG gr) : okG gr = false := by simp [okG, h]
theorem okG_of {gr : Group} {b : Bool} (h1 : b = true → OkG gr) (h2 : OkG gr → b = true) : b = okG gr := by
  cases hb : b with
  | true => exact (okG_t.2 (h1 hb)).symm
  | false => exact (okG_f fun h => by rw [h2 h] at hb; cases hb).symm
theorem cast_eq {a : Int} (h : 0 ≤ a) : a = ((a.toNat : Nat) : Int) := by omega
theorem n_powI {a e m : Int} (ha : 0 ≤ a) (ha2 : a ≤ 2000000000) (hm : 1 ≤ m) (hm2 : m ≤ 2000000000) (he : 0 ≤ e) (he2 : e ≤ 9223372036854775807) : F_impl_power a e m = some ((a.toNat ^ e.toNat % m.toNat : Nat) : Int) ∧ F_spec_nPower a e m = some ((a.toNat ^ e.toNat % m.toNat : Nat) : Int) := by
  have h1 := n_power (a := a.toNat) (e := e.toNat) (m := m.toNat) (by omega) (by omega) (by omega) (by omega)
  have h2 := n_nPower (a := a.toNat) (e := e.toNat) (m := m.toNat) (by omega) (by omega) (by omega) (by omega)
  rw [← cast_eq ha, ← cast_eq he, ← cast_eq (show 0 ≤ m by omega)] at h1 h2
  exact ⟨h1, h2⟩
theorem and_iff_t {a b : Bool} : (a && b) = true ↔ a = true ∧ b = true := by simp
theorem n_validG (gr : Group) : F_impl_IsValidGroup gr = some (okG gr) := by
  unfold F_impl_IsValidGroup
  refine eq_of_rn (rn_then (ψ := fun b => b = okG gr) ?_ fun b hb => rn_some hb)
  refine rn_call (n_within _ _ _) (rn_if (fun h => ?_) fun h => ?_)
  · have hp : 3 ≤ gr.P ∧ gr.P ≤ 2000000000 := by simpa using h
    rw [wr64 (n := gr.P - 1) (by omega) (by omega)]
    refine rn_call (n_within _ _ _) (rn_if (fun h => ?_) fun h => ?_)
    · have hq : 2 ≤ gr.Q ∧ gr.Q ≤ gr.P - 1 := by simpa using h
      have ed : (gr.P - 1).tmod gr.Q = (((gr.P.toNat - 1) % gr.Q.toNat : Nat) : Int) := by
        rw [cast_eq (show 0 ≤ gr.P - 1 by omega), cast_eq (show 0 ≤ gr.Q by omega), tmod_cast]
        simp only [Int.toNat_natCast]
        congr 2; omega
      refine rn_gd (by omega) ?_
      rw [ed]
      refine rn_if (fun h => ?_) fun h => ?_
      · have hd : (gr.P.toNat - 1) % gr.Q.toNat = 0 := by
          have : (((gr.P.toNat - 1) % gr.Q.toNat : Nat) : Int) = 0 := by simpa using h
          omega
        refine rn_call (n_within _ _ _) (rn_if (fun h => ?_) fun h => ?_)
        · have hg : 2 ≤ gr.G ∧ gr.G ≤ gr.P - 1 := by simpa using h
          refine rn_call (n_isPrime _) (rn_if (fun h => ?_) fun h => ?_)
          · have hpp : Pr gr.P.toNat := by
              rw [and_iff_t, cast_eq (show 0 ≤ gr.P by omega), prB_t] at h
              exact h.2
            refine rn_call (n_isPrime _) (rn_if (fun h => ?_) fun h => ?_)
            · have hpq : Pr gr.Q.toNat := by
                rw [and_iff_t, cast_eq (show 0 ≤ gr.Q by omega), prB_t] at h
                exact h.2
              refine rn_call (n_powI (a := gr.G) (e := gr.Q) (m := gr.P) (by omega) (by omega) (by omega) (by omega) (by omega) (by omega)).1 (rn_some (okG_of (fun h => ⟨hp, hq, hd, hg, hpp, hpq, ?_⟩) fun h => ?_))
              · have : ((gr.G.toNat ^ gr.Q.toNat % gr.P.toNat : Nat) : Int) = 1 := by simpa using h
                omega
              · rw [h.o]; rfl
            · refine rn_some (okG_f fun hk => ?_).symm
              have : (decide (gr.Q ≤ 2000000000) && prB gr.Q) = true := by
                rw [and_iff_t, cast_eq (show 0 ≤ gr.Q by omega), prB_t]
                exact ⟨by simp; omega, hk.pq⟩
              rw [this] at h; cases h
          · refine rn_some (okG_f fun hk => ?_).symm
            have : (decide (gr.P ≤ 2000000000) && prB gr.P) = true := by
              rw [and_iff_t, cast_eq (show 0 ≤ gr.P by omega), prB_t]
              exact ⟨by simp; omega, hk.pp⟩
            rw [this] at h; cases h
        · refine rn_some (okG_f fun hk => ?_).symm
          have := hk.g
          simp at h; omega
      · refine rn_some (okG_f fun hk => ?_).symm
        rw [hk.d] at h; cases h
    · refine rn_some (okG_f fun hk => ?_).symm
      have := hk.q
      simp at h; omega
  · refine rn_some (okG_f fun hk => ?_).symm
    have := hk.p
    simp at h; omega
theorem n_l2Good (gr : Group) : F_spec_l2Good gr = some (okG gr) := by
  unfold F_spec_l2Good
  refine eq_of_rn (rn_then (ψ := fun b => b = okG gr) ?_ fun b hb => rn_some hb)
  refine rn_call (n_l1In _ _ _) (rn_if (fun h => ?_) fun h => ?_)
  · have hp : 3 ≤ gr.P ∧ gr.P ≤ 2000000000 := by simpa using h
    rw [wr64 (n := gr.P - 1) (by omega) (by omega)]
    refine rn_call (n_l1In _ _ _) (rn_if (fun h => ?_) fun h => ?_)
    · have hq : 2 ≤ gr.Q ∧ gr.Q ≤ gr.P - 1 := by simpa using h
      have ed : (gr.P - 1).tmod gr.Q = (((gr.P.toNat - 1) % gr.Q.toNat : Nat) : Int) := by
        rw [cast_eq (show 0 ≤ gr.P - 1 by omega), cast_eq (show 0 ≤ gr.Q by omega), tmod_cast]
        simp only [Int.toNat_natCast]
        congr 2; omega
      refine rn_gd (by omega) ?_
      rw [ed]
      refine rn_if (fun h => ?_) fun h => ?_
      · have hd : (gr.P.toNat - 1) % gr.Q.toNat = 0 := by
          have : (((gr.P.toNat - 1) % gr.Q.toNat : Nat) : Int) = 0 := by simpa using h
          omega
        refine rn_call (n_l1In _ _ _) (rn_if (fun h => ?_) fun h => ?_)
        · have hg : 2 ≤ gr.G ∧ gr.G ≤ gr.P - 1 := by simpa using h
          refine rn_call (n_powI (a := gr.G) (e := gr.Q) (m := gr.P) (by omega) (by omega) (by omega) (by omega) (by omega) (by omega)).2 (rn_if (fun h => ?_) fun h => ?_)
          · have ho : gr.G.toNat ^ gr.Q.toNat % gr.P.toNat = 1 := by
              have : ((gr.G.toNat ^ gr.Q.toNat % gr.P.toNat : Nat) : Int) = 1 := by simpa using h
              omega
            refine rn_call (n_nPrime _ (by omega)) (rn_if (fun h => ?_) fun h => ?_)
            · have hpq : Pr gr.Q.toNat := by
                rw [cast_eq (show 0 ≤ gr.Q by omega), prB_t] at h
                exact h
              refine rn_call (n_nPrime _ (by omega)) (rn_some (okG_of (fun h => ⟨hp, hq, hd, hg, ?_, hpq, ho⟩) fun h => ?_))
              · rw [cast_eq (show 0 ≤ gr.P by omega), prB_t] at h
                exact h
              · rw [cast_eq (show 0 ≤ gr.P by omega), prB_t]
                exact h.pp
            · refine rn_some (okG_f fun hk => ?_).symm
              have : prB gr.Q = true := by
                rw [cast_eq (show 0 ≤ gr.Q by omega), prB_t]
                exact hk.pq
              rw [this] at h; cases h
          · refine rn_some (okG_f fun hk => ?_).symm
            rw [hk.o] at h; cases h
        · refine rn_some (okG_f fun hk => ?_).symm
          have := hk.g
          simp at h; omega
      · refine rn_some (okG_f fun hk => ?_).symm
        rw [hk.d] at h; cases h
    · refine rn_some (okG_f fun hk => ?_).symm
      have := hk.q
      simp at h; omega
  · refine rn_some (okG_f fun hk => ?_).symm
    have := hk.p
    simp at h; omega
-- elements
def hasB (gr : Group) (x : Int) : Bool := decide (1 ≤ x) && decide (x ≤ gr.P - 1) && decide (x.toNat ^ gr.Q.toNat % gr.P.toNat = 1)
def expB (gr : Group) (x : Int) : Bool := decide (0 ≤ x) && decide (x ≤ gr.Q - 1)
theorem n_has {gr : Group} (k : OkG gr) (x : Int) : F_impl_Group_has gr x = some (hasB gr x) := by
  have hp := k.p
  have hq := k.q
  unfold F_impl_Group_has hasB
  rw [wr64 (n := gr.P - 1) (by omega) (by omega), n_within]
  refine eq_of_rn (rn_then (ψ := fun b => b = _) ?_ fun b hb => rn_some hb)
  refine rn_call rfl (rn_if (fun h => ?_) fun h => ?_)
  · have hx : 1 ≤ x ∧ x ≤ gr.P - 1 := by simpa using h
    refine rn_call (n_powI (a := x) (e := gr.Q) (m := gr.P) (by omega) (by omega) (by omega) (by omega) (by omega) (by omega)).1 (rn_some ?_)
    rw [h, Bool.true_and]
    by_cases h1 : x.toNat ^ gr.Q.toNat % gr.P.toNat = 1
    · simp [h1]
    · have : ¬ ((x.toNat ^ gr.Q.toNat % gr.P.toNat : Nat) : Int) = 1 := by omega
      rw [beq_false_of_ne this, decide_eq_false h1]
  · rw [h]; exact rn_some rfl
theorem n_gIs {gr : Group} (k : OkG gr) (l : List Int) : F_spec_gIs gr l = some (l.all (hasB gr)) := by
  have hp := k.p
  have hq := k.q
  unfold F_spec_gIs
  rw [wr64 (n := gr.P - 1) (by omega) (by omega)]
  refine eq_of_rn (rn_then (ψ := fun b => (b = .inl () ∧ l.all (hasB gr) = true) ∨ (b = .inr false ∧ l.all (hasB gr) = false)) (rn_rloop (fun i s => (l.take i).all (hasB gr) = true) rfl ?_ ?_) ?_)
  · rintro i s hi hI
    refine rn_ix hi (rn_then (ψ := fun b => b = !hasB gr l[i]) ?_ ?_)
    · refine rn_call (n_l1In _ _ _) (rn_if (fun h => rn_some ?_) fun h => ?_)
      · have h : (decide (1 ≤ l[i]) && decide (l[i] ≤ gr.P - 1)) = false := by rwa [Bool.not_eq_true'] at h
        simp [hasB, h]
      · have h : (decide (1 ≤ l[i]) && decide (l[i] ≤ gr.P - 1)) = true := by simpa using h
        have hx : 1 ≤ l[i] ∧ l[i] ≤ gr.P - 1 := by simpa using h
        refine rn_call (n_powI (a := l[i]) (e := gr.Q) (m := gr.P) (by omega) (by omega) (by omega) (by omega) (by omega) (by omega)).2 (rn_some ?_)
        simp only [hasB, h, Bool.true_and]
        by_cases h1 : l[i].toNat ^ gr.Q.toNat % gr.P.toNat = 1
        · simp [h1]
        · have : ¬ ((l[i].toNat ^ gr.Q.toNat % gr.P.toNat : Nat) : Int) = 1 := by omega
          simp only [bne, beq_false_of_ne this, decide_eq_false h1]
    · rintro b rfl
      refine rn_if (fun h => rn_some (.inr ⟨rfl, ?_⟩)) fun h => rn_some ?_
      · have h : hasB gr l[i] = false := by simpa using h
        rw [List.all_eq_false]
        exact ⟨l[i], List.getElem_mem hi, by simp [h]⟩
      · have h : hasB gr l[i] = true := by simpa using h
        show (l.take (i + 1)).all (hasB gr) = true
        rw [List.take_succ_eq_append_getElem hi, List.all_append, hI]
        simp [h]
  · rintro s hI
    rw [List.take_length] at hI
    exact .inl ⟨rfl, hI⟩
  · rintro b (⟨rfl, h⟩ | ⟨rfl, h⟩)
    · exact rn_some h.symm
    · exact rn_some h.symm
theorem n_l1All (l : List Int) (a b : Int) : F_spec_l1All l a b = some (l.all fun x => decide (a ≤ x) && decide (x ≤ b)) := by
  unfold F_spec_l1All
  refine eq_of_rn (rn_then (ψ := fun c => (c = .inl () ∧ (l.all fun x => decide (a ≤ x) && decide (x ≤ b)) = true) ∨ (c = .inr false ∧ (l.all fun x => decide (a ≤ x) && decide (x ≤ b)) = false)) (rn_rloop (fun i s => ((l.take i).all fun x => decide (a ≤ x) && decide (x ≤ b)) = true) rfl ?_ ?_) ?_)
  · rintro i s hi hI
    refine rn_ix hi (rn_call (n_l1In _ _ _) (rn_if (fun h => rn_some (.inr ⟨rfl, ?_⟩)) fun h => rn_some ?_))
    · rw [List.all_eq_false]
      exact ⟨l[i], List.getElem_mem hi, by rw [Bool.not_eq_true'] at h; rw [h]; simp⟩
    · show ((l.take (i + 1)).all fun x => decide (a ≤ x) && decide (x ≤ b)) = true
      rw [List.take_succ_eq_append_getElem hi, List.all_append, hI]
      simpa using h
  · rintro s hI
    rw [List.take_length] at hI
    exact .inl ⟨rfl, hI⟩
  · rintro c (⟨rfl, h⟩ | ⟨rfl, h⟩)
    · exact rn_some h.symm
    · exact rn_some h.symm
theorem n_gExps {gr : Group} (h : 0 ≤ gr.Q) (h2 : gr.Q ≤ 2000000000) (l : List Int) : F_spec_gExps gr l = some (l.all (expB gr)) := by
  unfold F_spec_gExps
  rw [wr64 (by omega) (by omega), n_l1All]; rfl
theorem n_isExp {gr : Group} (h : 0 ≤ gr.Q) (h2 : gr.Q ≤ 2000000000) (x : Int) : F_impl_Group_isExp gr x = some (expB gr x) := by
  unfold F_impl_Group_isExp
  rw [wr64 (by omega) (by omega), n_within]; rfl
-- powers and products
def powG (gr : Group) (x e : Int) : Int := ((x.toNat ^ (e % gr.Q).toNat % gr.P.toNat : Nat) : Int)
theorem powG_bd {gr : Group} (k : OkG gr) (x e : Int) : 0 ≤ powG gr x e ∧ powG gr x e ≤ gr.P - 1 := by
  have hp := k.p
  unfold powG
  have := Nat.mod_lt (x.toNat ^ (e % gr.Q).toNat) (y := gr.P.toNat) (by omega)
  omega
theorem n_pow {gr : Group} (k : OkG gr) {x : Int} (h0 : 0 ≤ x) (h1 : x ≤ 2000000000) (e : Int) : F_impl_Group_pow gr x e = some (powG gr x e) ∧ F_spec_gExp gr x e = some (powG gr x e) := by
  have hp := k.p
  have hq := k.q
  have b1 : 0 ≤ e % gr.Q := Int.emod_nonneg _ (by omega)
  have b2 : e % gr.Q < gr.Q := Int.emod_lt_of_pos _ (by omega)
  have hw := n_powI (a := x) (e := e % gr.Q) (m := gr.P) (by omega) (by omega) (by omega) (by omega) b1 (by omega)
  unfold F_impl_Group_pow F_spec_gExp
  rw [n_mod (by omega) (by omega), n_nMod (by omega) (by omega), Option.bind_some, Option.bind_some, hw.1, hw.2]
  exact ⟨rfl, rfl⟩
def mulG (gr : Group) (l : List Int) : Int := l.foldl (fun o x => o * x % gr.P) 1
theorem foldG_bd {gr : Group} (h : 1 ≤ gr.P) : ∀ (l : List Int) (o : Int), 0 ≤ o → o ≤ gr.P → (∀ x ∈ l, 0 ≤ x) → 0 ≤ l.foldl (fun o x => o * x % gr.P) o ∧ l.foldl (fun o x => o * x % gr.P) o ≤ gr.P := by
  intro l
  induction l with
  | nil => intro o h0 h1 _; exact ⟨h0, h1⟩
  | cons x l ih =>
    intro o h0 h1 h2
    exact ih _ (Int.emod_nonneg _ (by omega)) (Int.le_of_lt (Int.emod_lt_of_pos (o * x) (show 0 < gr.P by omega))) fun y hy => h2 y (List.mem_cons_of_mem _ hy)
theorem mul_eq (gr : Group) (l : List Int) : F_spec_gMul gr l = F_impl_Group_mul gr l := rfl
theorem n_mul {gr : Group} (k : OkG gr) {l : List Int} (hl : ∀ x ∈ l, 0 ≤ x ∧ x ≤ 2000000000) : F_impl_Group_mul gr l = some (mulG gr l) := by
  have hp := k.p
  unfold F_impl_Group_mul
  refine eq_of_rn (rn_then (ψ := fun b => b = mulG gr l) (rn_rloop (fun i s => s = (l.take i).foldl (fun o x => o * x % gr.P) 1) rfl ?_ ?_) fun b hb => rn_some hb)
  · rintro i s hi rfl
    have hb := foldG_bd (gr := gr) (by omega) (l.take i) 1 (by omega) (by omega) fun x hx => (hl x (List.mem_of_mem_take hx)).1
    have hx := hl l[i] (List.getElem_mem hi)
    refine rn_ix hi (rn_gd (by omega) (rn_some ?_))
    show _ = (l.take (i + 1)).foldl _ _
    rw [List.take_succ_eq_append_getElem hi, List.foldl_append]
    generalize (l.take i).foldl (fun o x => o * x % gr.P) 1 = o at hb ⊢
    have b1 : 0 ≤ o * l[i] := Int.mul_nonneg hb.1 hx.1
    have b2 : o * l[i] ≤ 2000000000 * 2000000000 := Int.mul_le_mul (by omega) hx.2 hx.1 (by omega)
    show (IntKind.i64.wrap (o * l[i])).tmod gr.P = o * l[i] % gr.P
    rw [wr64 (by omega) (by omega), Int.tmod_eq_emod_of_nonneg b1]
  · rintro s rfl
    rw [List.take_length]; rfl
theorem n_gMul {gr : Group} (k : OkG gr) {l : List Int} (hl : ∀ x ∈ l, 0 ≤ x ∧ x ≤ 2000000000) : F_spec_gMul gr l = some (mulG gr l) := by rw [mul_eq]; exact n_mul k hl
theorem mulG_bd {gr : Group} (k : OkG gr) {l : List Int} (hl : ∀ x ∈ l, 0 ≤ x ∧ x ≤ 2000000000) : 0 ≤ mulG gr l ∧ mulG gr l ≤ gr.P := by
  have hp := k.p
  exact foldG_bd (by omega) l 1 (by omega) (by omega) fun x hx => (hl x hx).1
theorem ite_n {α : Type} (b : Bool) (u v : α) : (if b = true then some u else some v) = some (if (!b) = true then v else u) := by cases b <;> rfl
theorem ite_m {α : Type} (b : Bool) (u v : α) : (if (!b) = true then some u else some v) = some (if b = true then v else u) := by cases b <;> rfl
theorem n_first {β : Type} {body : Int → Unit → Option (Stp Unit (Unit ⊕ β))} (m : Nat) (p : Nat → Bool) (val : Nat → β) (h : ∀ k, k < m → body (k : Int) () = some (if p k = true then .go () else .out (.inr (val k)))) :
    (rloop body (fun _ => .inl ()) m 0 () = some (.inl ()) ∧ ∀ k, k < m → p k = true) ∨ ∃ k, k < m ∧ p k = false ∧ (∀ j, j < k → p j = true) ∧ rloop body (fun _ => .inl ()) m 0 () = some (.inr (val k)) := by
  have key : Rn (rloop body (fun _ => Sum.inl ()) m 0 ()) (fun b => (b = .inl () ∧ ∀ k, k < m → p k = true) ∨ ∃ k, k < m ∧ p k = false ∧ (∀ j, j < k → p j = true) ∧ b = .inr (val k)) := by
    refine rn_rloop (fun k _ => ∀ j, j < k → p j = true) (fun j hj => by omega) ?_ fun s hs => .inl ⟨rfl, hs⟩
    intro k s hk hI
    refine ⟨_, h k hk, ?_⟩
    cases hp : p k with
    | true =>
      intro j hj
      rcases Nat.lt_or_ge j k with h | h
      · exact hI j h
      · have : j = k := by omega
        rw [this]; exact hp
    | false => exact .inr ⟨k, hk, hp, hI, rfl⟩
  obtain ⟨b, e, h1 | ⟨k, h1, h2, h3, h4⟩⟩ := key
  · exact .inl ⟨by rw [e, h1.1], h1.2⟩
  · exact .inr ⟨k, h1, h2, h3, by rw [e, h4]⟩
theorem n_all {α : Type} (l : List α) (p : α → Bool) (c : Bool) {body : Int → Unit → Option (Stp Unit (Unit ⊕ Bool))} (h : ∀ k (hk : k < l.length), body (k : Int) () = some (if p l[k] = true then .go () else .out (.inr c))) :
    (rloop body (fun _ => .inl ()) l.length 0 ()).bind (Sum.elim (fun _ => some (!c)) some) = some (if l.all p = true then !c else c) := by
  rcases n_first (body := body) l.length (fun k => (l[k]?).any p) (fun _ => c) (fun k hk => by rw [h k hk, List.getElem?_eq_getElem hk]; rfl) with ⟨e, h1⟩ | ⟨k, h1, h2, h3, e⟩
  · rw [e]
    have : l.all p = true := by
      rw [List.all_eq_true]
      intro x hx
      obtain ⟨k, hk, rfl⟩ := List.mem_iff_getElem.1 hx
      have := h1 k hk
      rw [List.getElem?_eq_getElem hk] at this
      exact this
    rw [this]; rfl
  · rw [e]
    have : l.all p = false := by
      rw [List.all_eq_false]
      refine ⟨l[k], List.getElem_mem h1, ?_⟩
      rw [List.getElem?_eq_getElem h1] at h2
      simpa using h2
    rw [this]; rfl
theorem n_l1Has (l : List Int) (x : Int) : F_spec_l1Has l x = some (l.contains x) := by
  unfold F_spec_l1Has
  have := n_all l (fun y => !(y == x)) true (body := fun i8 s7 => (ix l i8).bind fun x17 => if (x17 == x) = true then some (.out (.inr true)) else some (.go ())) fun k hk => by
    rw [ix_at hk, Option.bind_some]
    exact ite_n _ _ _
  rw [show (!true) = false from rfl] at this
  refine this.trans ?_
  congr 1
  cases hc : l.contains x with
  | true =>
    have hm : x ∈ l := by simpa using hc
    have : (l.all fun y => !(y == x)) = false := by
      rw [List.all_eq_false]
      exact ⟨x, hm, by simp⟩
    rw [this]; rfl
  | false =>
    have hm : ¬ x ∈ l := by simpa using hc
    have : (l.all fun y => !(y == x)) = true := by
      rw [List.all_eq_true]
      intro y hy
      have : y ≠ x := fun e => hm (e ▸ hy)
      simp [this]
    rw [this]; rfl
theorem n_index (l : List Int) (x : Int) : (F_slices_Index_int_int l x = some (-1) ∧ ¬ x ∈ l) ∨ ∃ k, ∃ h : k < l.length, F_slices_Index_int_int l x = some (k : Int) ∧ l[k] = x ∧ ∀ j (hj : j < k), l[j]'(by omega) ≠ x := by
  unfold F_slices_Index_int_int
  rcases n_first l.length (fun k => (l[k]?).any fun y => !(x == y)) (fun k => (k : Int)) (body := fun i8 s7 => (ix l i8).bind fun x17 => if (x == x17) = true then some (.out (.inr i8)) else some (.go ())) (fun k hk => by
    rw [ix_at hk, Option.bind_some, List.getElem?_eq_getElem hk]
    exact ite_n _ _ _) with ⟨e, h1⟩ | ⟨k, h1, h2, h3, e⟩
  · refine .inl ⟨by rw [e]; rfl, fun hx => ?_⟩
    obtain ⟨k, hk, rfl⟩ := List.mem_iff_getElem.1 hx
    have := h1 k hk
    rw [List.getElem?_eq_getElem hk] at this
    simp at this
  · refine .inr ⟨k, h1, by rw [e]; rfl, ?_, fun j hj => ?_⟩
    · rw [List.getElem?_eq_getElem h1] at h2
      simp at h2
      exact h2.symm
    · have := h3 j hj
      rw [List.getElem?_eq_getElem (by omega)] at this
      simp at this
      exact fun e => this e.symm
theorem n_contains (l : List Int) (x : Int) : F_slices_Contains_int_int l x = some (l.contains x) := by
  unfold F_slices_Contains_int_int
  rcases n_index l x with ⟨e, h⟩ | ⟨k, hk, e, h, _⟩
  · rw [e]
    have : l.contains x = false := by simpa using h
    rw [this]; rfl
  · rw [e]
    have : l.contains x = true := by
      have := List.getElem_mem hk
      rw [h] at this
      simpa using this
    rw [this]
    simp
theorem diff_eq (l : List Int) : F_spec_yPoints l = F_impl_areDifferent l := by
  unfold F_spec_yPoints F_impl_areDifferent
  simp only [n_l1Has, n_contains]
open Classical in
noncomputable def difB (l : List Int) : Bool := decide l.Nodup
theorem n_diff (l : List Int) (hl : l.length ≤ 1000000000000) : F_impl_areDifferent l = some (difB l) := by
  unfold F_impl_areDifferent
  rcases n_first l.length (fun k => (l[k]?).any fun y => !(l.take k).contains y) (fun _ => false) (body := fun i8 s7 =>
    (ix l i8).bind fun x17 =>
    gd (0 ≤ i8) <|
    gd (0 ≤ i8.toNat ∧ i8.toNat ≤ l.length) <|
    (F_slices_Contains_int_int ((l.take i8.toNat).drop 0) x17).bind fun z26 =>
    if z26 = true then (
    some (.out (.inr false))) else (
    some (.go ()))) (fun k hk => by
      rw [ix_at hk, Option.bind_some, gd_t (by omega), gd_t (by simp; omega), n_contains, List.getElem?_eq_getElem hk, Option.bind_some, Int.toNat_natCast, List.drop_zero]
      exact ite_n _ _ _) with ⟨e, h1⟩ | ⟨k, h1, h2, h3, e⟩
  · rw [e]
    have : difB l = true := by
      unfold difB
      rw [decide_eq_true_eq, List.nodup_iff_pairwise_ne, List.pairwise_iff_getElem]
      intro i j hi hj hij e
      have := h1 j hj
      rw [List.getElem?_eq_getElem hj] at this
      have hm : l[j] ∈ l.take j := by
        rw [← e]
        exact List.mem_iff_getElem.2 ⟨i, by simp; omega, by simp⟩
      have hc : (l.take j).contains l[j] = true := by simpa using hm
      simp only [Option.any_some, hc] at this
      cases this
    rw [this]; rfl
  · rw [e]
    have : difB l = false := by
      unfold difB
      rw [decide_eq_false_iff_not, List.nodup_iff_pairwise_ne, List.pairwise_iff_getElem]
      intro hd
      rw [List.getElem?_eq_getElem h1] at h2
      have hc : (l.take k).contains l[k] = true := by simpa using h2
      have hm : l[k] ∈ l.take k := by simpa using hc
      obtain ⟨i, hi, e⟩ := List.mem_iff_getElem.1 hm
      simp at hi e
      exact hd i k (by omega) h1 (by omega) e
    rw [this]; rfl
theorem n_yPoints (l : List Int) (hl : l.length ≤ 1000000000000) : F_spec_yPoints l = some (difB l) := by rw [diff_eq, n_diff l hl]
theorem areAll_gen {l : List Int} {p : Int → Bool} {f : Int → Option Bool} (hf : ∀ x ∈ l, f x = some (!p x)) :
    ((((rloop (σ := Unit) (β := Unit ⊕ Int) (fun i8 s7 => (ix l i8).bind fun x17 => (f x17).bind fun z20 => if z20 = true then (some (.out (.inr i8))) else (some (.go ()))) (fun s7 => .inl ()) (l.length) 0 () : Option (Unit ⊕ Int)).bind (Sum.elim (fun (x5 : Unit) => some (-1)) some)).bind fun z1 => some (decide (0 ≤ z1))).bind fun z1 => some (!z1)) = some (l.all p) := by
  rcases n_first l.length (fun k => (l[k]?).any p) (fun k => (k : Int)) (body := fun i8 s7 => (ix l i8).bind fun x17 => (f x17).bind fun z20 => if z20 = true then (some (.out (.inr i8))) else (some (.go ()))) (fun k hk => by
    rw [ix_at hk, Option.bind_some, hf _ (List.getElem_mem hk), Option.bind_some, List.getElem?_eq_getElem hk]
    exact ite_m _ _ _) with ⟨e, h1⟩ | ⟨k, h1, h2, h3, e⟩
  · rw [e]
    have : l.all p = true := by
      rw [List.all_eq_true]
      intro x hx
      obtain ⟨k, hk, rfl⟩ := List.mem_iff_getElem.1 hx
      have := h1 k hk
      rw [List.getElem?_eq_getElem hk] at this
      exact this
    rw [this]; rfl
  · rw [e]
    have : l.all p = false := by
      rw [List.all_eq_false]
      refine ⟨l[k], List.getElem_mem h1, ?_⟩
      rw [List.getElem?_eq_getElem h1] at h2
      simpa using h2
    rw [this]
    simp
def trB (x : Int) : Bool := decide (1 ≤ x) && decide (x ≤ 7)
theorem n_isTrustee (x : Int) : F_impl_isTrustee x = some (trB x) := by
  unfold F_impl_isTrustee
  rw [n_within]; rfl
theorem n_areTrustees (l : List Int) (hl : l.length ≤ 1000000000000) : F_impl_areTrustees l = some (l.all trB && difB l) := by
  have h1 : F_impl_areAll__impl_isTrustee l = some (l.all trB) := areAll_gen (f := F_impl_areAll_1__impl_isTrustee) fun x _ => by
    unfold F_impl_areAll_1__impl_isTrustee
    rw [n_isTrustee]; rfl
  unfold F_impl_areTrustees
  rw [h1, n_diff l hl]
  cases l.all trB <;> rfl
theorem n_wTrustees (l : List Int) (hl : l.length ≤ 1000000000000) : F_spec_wTrustees l = some (l.all trB && difB l) := by
  unfold F_spec_wTrustees
  rw [n_l1All, n_yPoints l hl]
  have : (l.all fun x => decide (1 ≤ x) && decide (x ≤ 7)) = l.all trB := rfl
  rw [this]
  cases l.all trB <;> rfl
theorem n_sGroup (gr : Group) : F_spec_sGroup gr = some (okG gr && decide (7 < gr.Q)) := by
  unfold F_spec_sGroup
  rw [n_l2Good]
  cases okG gr <;> simp
-- values of polynomials
def polyV (q : Int) (f : List Int) (x : Int) : Int := f.foldr (fun c a => (a * x + c) % q) 0
theorem polyV_bd {q : Int} (hq : 0 < q) (f : List Int) (x : Int) : 0 ≤ polyV q f x ∧ polyV q f x < q := by
  cases f with
  | nil => exact ⟨Int.le_refl _, hq⟩
  | cons c f => exact ⟨Int.emod_nonneg _ (by omega), Int.emod_lt_of_pos _ hq⟩
theorem n_evalPoly {q x : Int} {f : List Int} (hq : 0 < q) (hq2 : q ≤ 2000000000) (hx : 0 ≤ x) (hx2 : x ≤ 2000000000) (hf : ∀ c ∈ f, 0 ≤ c ∧ c ≤ 2000000000) (hl : f.length ≤ 1000000000000) : F_impl_evalPoly q f x = some (polyV q f x) := by
  unfold F_impl_evalPoly
  rw [wr64 (by omega) (by omega)]
  refine eq_of_rn (rn_then (ψ := fun r => r = polyV q f x) (rn_cloop f.length (fun k s => s = (polyV q (f.drop (f.length - k)) x, (f.length : Int) - k - 1)) ?_ ?_ ?_) fun r hr => rn_some hr)
  · simp [polyV]
  · rintro k s hk rfl
    have hi : (f.length : Int) - (k : Int) - 1 = ((f.length - k - 1 : Nat) : Int) := by omega
    have hlt : f.length - k - 1 < f.length := by omega
    have hd : f.drop (f.length - (k + 1)) = f[f.length - k - 1] :: f.drop (f.length - k) := by
      have e := List.drop_eq_getElem_cons (l := f) (i := f.length - k - 1) hlt
      rw [show f.length - (k + 1) = f.length - k - 1 by omega, e, show f.length - k - 1 + 1 = f.length - k by omega]
    have hb := polyV_bd hq (f.drop (f.length - k)) x
    have hc := hf _ (List.getElem_mem hlt)
    refine rn_t (by simp only [decide_eq_true_eq]; omega) (rn_gd (by omega) ?_)
    simp only [hi]
    refine rn_ix hlt (rn_gd (by omega) (rn_some ?_))
    show (_, _) = (_, _)
    rw [hd]
    show (_, _) = ((polyV q (f.drop (f.length - k)) x * x + f[f.length - k - 1]) % q, _)
    generalize polyV q (f.drop (f.length - k)) x = a at hb ⊢
    have b1 : 0 ≤ a * x := Int.mul_nonneg hb.1 hx
    have b2 : a * x ≤ 2000000000 * 2000000000 := Int.mul_le_mul (by omega) hx2 hx (by omega)
    have b3 : 0 ≤ a * x % q := Int.emod_nonneg _ (by omega)
    have b4 : a * x % q < q := Int.emod_lt_of_pos _ hq
    rw [wr64 (n := a * x) (by omega) (by omega), Int.tmod_eq_emod_of_nonneg b1, wr64 (n := a * x % q + _) (by omega) (by omega), Int.tmod_eq_emod_of_nonneg (by omega), Int.emod_add_emod, wr64 (by omega) (by omega)]
    congr 1
    omega
  · rintro s rfl
    refine rn_f (by simp only [decide_eq_false_iff_not]; omega) (rn_some ?_)
    show polyV q (f.drop (f.length - f.length)) x = _
    rw [Nat.sub_self, List.drop_zero]
def evI (f : List Int) (x : Int) : Int := f.foldr (fun c a => a * x + c) 0
theorem evI_cons (c : Int) (f : List Int) (x : Int) : evI (c :: f) x = evI f x * x + c := rfl
theorem mul_cg {q a b c d : Int} (h : a % q = b % q) (h' : c % q = d % q) : (a * c) % q = (b * d) % q := by rw [Int.mul_emod, h, h', ← Int.mul_emod]
theorem add_cg {q a b c d : Int} (h : a % q = b % q) (h' : c % q = d % q) : (a + c) % q = (b + d) % q := by rw [Int.add_emod, h, h', ← Int.add_emod]
theorem mod_cg (q a : Int) : (a % q) % q = a % q := Int.emod_emod_of_dvd a (Int.dvd_refl q)
theorem polyV_ev (q : Int) (f : List Int) (x : Int) : polyV q f x = evI f x % q := by
  induction f with
  | nil => simp [polyV, evI]
  | cons c f ih =>
    show (polyV q f x * x + c) % q = (evI f x * x + c) % q
    rw [ih]
    exact add_cg (mul_cg (mod_cg _ _) rfl) rfl
theorem evI_set (x v : Int) : ∀ (l : List Int) (k : Nat) (hk : k < l.length), evI (l.set k v) x = evI l x + (v - l[k]) * x ^ k
  | [], k, hk => absurd hk (by simp)
  | c :: l, 0, hk => by
    show evI l x * x + v = evI l x * x + c + (v - c) * x ^ 0
    rw [Int.pow_zero]; omega
  | c :: l, k + 1, hk => by
    show evI (l.set k v) x * x + c = evI l x * x + c + (v - l[k]'(by simpa using hk)) * x ^ (k + 1)
    rw [evI_set x v l k (by simpa using hk), Int.pow_succ]
    grind
theorem evI_snoc (l : List Int) (c x : Int) : evI (l ++ [c]) x = evI l x + c * x ^ l.length := by
  induction l with
  | nil => simp [evI]
  | cons d l ih =>
    rw [List.cons_append, evI_cons, evI_cons, ih, List.length_cons, Int.pow_succ]
    grind
theorem evI_take {l : List Int} {k : Nat} (hk : k < l.length) (x : Int) : evI (l.take (k + 1)) x = evI (l.take k) x + l[k] * x ^ k := by
  rw [List.take_succ_eq_append_getElem hk, evI_snoc, List.length_take, Nat.min_eq_left (by omega)]
theorem evI_zero (n : Nat) (x : Int) : evI (List.replicate n 0) x = 0 := by
  induction n with
  | zero => rfl
  | succ n ih => rw [List.replicate_succ, evI_cons, ih]; simp
def Rg (q : Int) (f : List Int) : Prop := ∀ c ∈ f, 0 ≤ c ∧ c < q
theorem emod_rg {q : Int} (hq : 0 < q) (a : Int) : 0 ≤ a % q ∧ a % q < q := ⟨Int.emod_nonneg _ (by omega), Int.emod_lt_of_pos _ hq⟩
theorem mul_bd {q a b : Int} (hq2 : q ≤ 2000000000) (ha : 0 ≤ a ∧ a < q) (hb : 0 ≤ b ∧ b < q) : 0 ≤ a * b ∧ a * b ≤ 2000000000 * 2000000000 := ⟨Int.mul_nonneg ha.1 hb.1, Int.mul_le_mul (by omega) (by omega) hb.1 (by omega)⟩
theorem n_mulPolys {q : Int} {a b : List Int} (hq : 0 < q) (hq2 : q ≤ 2000000000) (ha : Rg q a) (hb : Rg q b) (la : 1 ≤ a.length ∧ a.length ≤ 1000000000) (lb : 1 ≤ b.length ∧ b.length ≤ 1000000000) :
    Rn (F_impl_mulPolys q a b) (fun r => r.length = a.length + b.length - 1 ∧ Rg q r ∧ ∀ x, evI r x % q = (evI a x * evI b x) % q) := by
  unfold F_impl_mulPolys
  have hw : IntKind.i64.wrap (IntKind.i64.wrap ((a.length : Int) + (b.length : Int)) - 1) = ((a.length + b.length - 1 : Nat) : Int) := by
    rw [wr64 (n := (a.length : Int) + (b.length : Int)) (by omega) (by omega), wr64 (by omega) (by omega)]; omega
  simp only [hw]
  refine rn_then (ψ := fun v => v = false) (rn_f (by rw [beq_eq_false_iff_ne]; omega) (rn_some (by rw [beq_eq_false_iff_ne]; omega))) ?_
  rintro _ rfl
  refine rn_f rfl (rn_gd (by omega) (rn_call rfl ?_))
  rw [Int.toNat_natCast]
  refine rn_then (ψ := fun r => r.length = a.length + b.length - 1 ∧ Rg q r ∧ ∀ x, evI r x % q = (evI a x * evI b x) % q) (rn_rloop (fun k s => s.length = a.length + b.length - 1 ∧ Rg q s ∧ ∀ x, evI s x % q = (evI (a.take k) x * evI b x) % q) ?_ ?_ ?_) fun r h => rn_some h
  · refine ⟨by simp, fun c hc => ?_, fun x => ?_⟩
    · rw [List.eq_of_mem_replicate hc]; omega
    · rw [evI_zero, List.take_zero]; simp [evI]
  · rintro k s hk ⟨h1, h2, h3⟩
    have hak := ha _ (List.getElem_mem hk)
    refine rn_then (ψ := fun s' => s'.length = a.length + b.length - 1 ∧ Rg q s' ∧ ∀ x, evI s' x % q = (evI s x + a[k] * x ^ k * evI b x) % q) (rn_ix hk (rn_rloop (fun j s' => s'.length = a.length + b.length - 1 ∧ Rg q s' ∧ ∀ x, evI s' x % q = (evI s x + a[k] * x ^ k * evI (b.take j) x) % q) ⟨h1, h2, fun x => by simp [evI]⟩ ?_ ?_)) ?_
    · rintro j s' hj ⟨g1, g2, g3⟩
      have hbj := hb _ (List.getElem_mem hj)
      have hlt : k + j < s'.length := by omega
      have hsj := g2 _ (List.getElem_mem hlt)
      have e : IntKind.i64.wrap ((k : Int) + (j : Int)) = ((k + j : Nat) : Int) := by rw [wr64 (by omega) (by omega)]; omega
      refine rn_ix hj ?_
      simp only [e]
      refine rn_ix hlt (rn_gd (by omega) (rn_gd (by omega) (rn_some ?_)))
      obtain ⟨b1, b2⟩ := mul_bd hq2 hak hbj
      obtain ⟨b3, b4⟩ := emod_rg hq (a[k] * b[j])
      have hv : (IntKind.i64.wrap (s'[k + j] + (IntKind.i64.wrap (a[k] * b[j])).tmod q)).tmod q = (s'[k + j] + a[k] * b[j]) % q := by
        rw [wr64 (n := a[k] * b[j]) (by omega) (by omega), Int.tmod_eq_emod_of_nonneg b1, wr64 (by omega) (by omega), Int.tmod_eq_emod_of_nonneg (by omega)]
        exact add_cg rfl (mod_cg _ _)
      rw [hv, Int.toNat_natCast]
      refine ⟨by simp [g1], fun c hc => ?_, fun x => ?_⟩
      · rcases List.mem_or_eq_of_mem_set hc with h | h
        · exact g2 c h
        · rw [h]; exact emod_rg hq _
      · rw [evI_set x _ _ _ hlt, evI_take hj]
        have e2 : evI s' x + ((s'[k + j] + a[k] * b[j]) % q - s'[k + j]) * x ^ (k + j) = evI s' x + a[k] * b[j] * x ^ (k + j) + q * (-((s'[k + j] + a[k] * b[j]) / q) * x ^ (k + j)) := by
          rw [Int.emod_def]; grind
        rw [e2, Int.add_mul_emod_self_left, add_cg (g3 x) rfl, Int.pow_add]
        congr 1
        grind
    · rintro s' ⟨g1, g2, g3⟩
      rw [List.take_length] at g3
      exact ⟨g1, g2, g3⟩
    · rintro s' ⟨g1, g2, g3⟩
      refine rn_some ⟨g1, g2, fun x => ?_⟩
      rw [g3, evI_take hk, add_cg (h3 x) rfl]
      congr 1
      grind
  · rintro s ⟨h1, h2, h3⟩
    rw [List.take_length] at h3
    exact ⟨h1, h2, h3⟩
def dF (x : Int) (l : List Int) : Int := l.foldr (fun p a => a * (x - p)) 1
theorem dF_cons (x p : Int) (l : List Int) : dF x (p :: l) = dF x l * (x - p) := rfl
theorem dF_snoc (x : Int) (l : List Int) (p : Int) : dF x (l ++ [p]) = dF x l * (x - p) := by
  induction l with
  | nil => rfl
  | cons c l ih => rw [List.cons_append, dF_cons, dF_cons, ih]; grind
theorem n_fromRoots {q : Int} {l : List Int} (hq : 2 ≤ q) (hq2 : q ≤ 2000000000) (hl : ∀ p ∈ l, 0 ≤ p ∧ p ≤ 7) (hn : l.length ≤ 100000000) :
    Rn (F_impl_fromRoots q l) (fun r => r.length = l.length + 1 ∧ Rg q r ∧ ∀ x, evI r x % q = dF x l % q) := by
  unfold F_impl_fromRoots
  refine rn_then (ψ := fun r => r.length = l.length + 1 ∧ Rg q r ∧ ∀ x, evI r x % q = dF x l % q) (rn_rloop (fun k s => s.length = k + 1 ∧ Rg q s ∧ ∀ x, evI s x % q = dF x (l.take k) % q) ?_ ?_ ?_) fun r h => rn_some h
  · refine ⟨rfl, fun c hc => ?_, fun x => ?_⟩
    · rw [List.mem_singleton.1 hc]; omega
    · simp [evI, dF]
  · rintro k s hk ⟨h1, h2, h3⟩
    have hp := hl _ (List.getElem_mem hk)
    refine rn_ix hk ?_
    rw [wr64 (by omega) (by omega)]
    refine rn_call (n_mod (by omega) hq2) ?_
    have hr := emod_rg (q := q) (by omega) (0 - l[k])
    refine rn_then (n_mulPolys (by omega) hq2 h2 (fun c hc => ?_) (by omega) (by simp)) ?_
    · rcases List.mem_cons.1 hc with h | h
      · rw [h]; exact hr
      · rw [List.mem_singleton.1 h]; omega
    · rintro r ⟨g1, g2, g3⟩
      refine rn_some ⟨by simp at g1; omega, g2, fun x => ?_⟩
      rw [g3, List.take_succ_eq_append_getElem hk, dF_snoc]
      refine mul_cg (h3 x) ?_
      show ((0 * x + 1) * x + (0 - l[k]) % q) % q = _
      rw [show (0 * x + 1) * x = x by grind, show x - l[k] = x + (0 - l[k]) by omega]
      exact add_cg rfl (mod_cg _ _)
  · rintro s ⟨h1, h2, h3⟩
    rw [List.take_length] at h3
    exact ⟨h1, h2, h3⟩
def eucB (s7 : Int × Int × Int × Int) : Option (Stp (Int × Int × Int × Int) (Int × Int)) :=
  if (s7.2.1 != 0) = true then (
  gd (s7.2.1 ≠ 0) <|
  some (.go (s7.2.1, IntKind.i64.wrap (s7.1 - (IntKind.i64.wrap ((IntKind.i64.wrap (s7.1.tdiv s7.2.1)) * s7.2.1))), s7.2.2.2, IntKind.i64.wrap (s7.2.2.1 - (IntKind.i64.wrap ((IntKind.i64.wrap (s7.1.tdiv s7.2.1)) * s7.2.2.2)))))) else (
  some (.out (s7.1, s7.2.2.1)))
theorem euc_snd {a b : Nat} (h1 : a ≤ 2000000000) (h2 : b ≤ 2000000000) : IntKind.i64.wrap ((a : Int) - (IntKind.i64.wrap ((IntKind.i64.wrap ((a : Int).tdiv (b : Int))) * (b : Int)))) = ((a % b : Nat) : Int) := by
  have h3 : a / b ≤ a := Nat.div_le_self a b
  have h4 : a / b * b ≤ a := Nat.div_mul_le_self a b
  have h5 : b * (a / b) + a % b = a := Nat.div_add_mod a b
  have h6 : b * (a / b) = a / b * b := Nat.mul_comm _ _
  rw [tdiv_cast]
  generalize a / b = d at h3 h4 h5 h6 ⊢
  rw [wr64 (n := (d : Int)) (by omega) (by omega), mul_cast]
  generalize d * b = f at h4 h6 ⊢
  rw [h6] at h5
  rw [wr64 (n := (f : Int)) (by omega) (by omega), wr64 (by omega) (by omega)]
  omega
theorem euc {a b : Nat} {x y : Int} (ha : a ≤ 2000000000) (hb : b ≤ 2000000000) (hg : Nat.gcd a b = 1) : Rn (wloop eucB ((a : Int), (b : Int), x, y)) (fun r => r.1 = 1) := by
  refine rn_wloop (fun s => ∃ a b : Nat, ∃ x y : Int, s = ((a : Int), (b : Int), x, y) ∧ a ≤ 2000000000 ∧ b ≤ 2000000000 ∧ Nat.gcd a b = 1) (fun s => s.2.1.toNat) ⟨a, b, x, y, rfl, ha, hb, hg⟩ ?_
  rintro _ ⟨a, b, x, y, rfl, h1, h2, h3⟩
  unfold eucB
  by_cases hb0 : b = 0
  · subst hb0
    refine rn_f (by simp) (rn_some ?_)
    show (a : Int) = 1
    rw [Nat.gcd_zero_right] at h3
    omega
  · refine rn_t (by simpa using hb0) (rn_gd (by simpa using hb0) (rn_some ?_))
    have hlt : a % b < b := Nat.mod_lt _ (by omega)
    refine ⟨⟨b, a % b, y, IntKind.i64.wrap (x - (IntKind.i64.wrap ((IntKind.i64.wrap ((a : Int).tdiv (b : Int))) * y))), ?_, h2, by omega, ?_⟩, ?_⟩
    · show (_, _, _, _) = _
      rw [euc_snd h1 h2]
    · rw [Nat.gcd_comm, ← Nat.gcd_rec, Nat.gcd_comm]; exact h3
    · show (IntKind.i64.wrap _).toNat < (b : Int).toNat
      rw [euc_snd h1 h2]; omega
noncomputable def ivV (q b : Int) : Int := ((F_spec_nInverse b q).getD (0, false)).1
theorem n_inverse {q v : Nat} (hq : 2 ≤ q) (hq2 : q ≤ 2000000000) (hv : v < q) (hg : Nat.gcd q v = 1) : F_impl_inverse (v : Int) (q : Int) = some (ivV q v) ∧ F_spec_nInverse (v : Int) (q : Int) = some (ivV q v, true) ∧ 0 ≤ ivV q v ∧ ivV q v < q := by
  obtain ⟨⟨u, c⟩, h1, h2⟩ := euc (x := 0) (y := 1) hq2 (by omega : v ≤ 2000000000) hg
  have h2 : u = 1 := h2
  subst h2
  have hs : F_spec_nInverse (v : Int) (q : Int) = some (c % (q : Int), true) := by
    unfold F_spec_nInverse
    rw [n_nMod (by omega) (by omega), Option.bind_some, show (v : Int) % (q : Int) = (v : Int) from Int.emod_eq_of_lt (by omega) (by omega)]
    have e : wloop eucB ((v : Int), (q : Int), 1, 0) = some (1, c) := by
      rw [wloop_eq]
      have : eucB ((v : Int), (q : Int), 1, 0) = some (.go ((q : Int), (v : Int), 0, 1)) := by
        unfold eucB
        rw [if_pos (by simp; omega), gd_t (by simp; omega)]
        simp only [euc_snd (by omega : v ≤ 2000000000) hq2, Nat.mod_eq_of_lt hv, Int.mul_zero]
        rfl
      rw [this]
      exact h1
    have e2 := congrArg (fun o : Option (Int × Int) => o.bind fun (x7 : Int × Int) => (F_spec_nMod x7.2 (q : Int)).bind fun z23 => some (z23, (x7.1 == 1))) e
    refine e2.trans ?_
    show (F_spec_nMod c (q : Int)).bind _ = _
    rw [n_nMod (by omega) (by omega)]; rfl
  have hi : ivV q v = c % (q : Int) := by unfold ivV; rw [hs]; rfl
  rw [hi]
  refine ⟨?_, hs, emod_rg (by omega) _⟩
  unfold F_impl_inverse
  have e2 := congrArg (fun o : Option (Int × Int) => o.bind fun (x5 : Int × Int) => if (x5.1 != 1) = true then (some 0) else ((F_impl_mod x5.2 (q : Int)).bind fun z23 => some z23)) h1
  refine e2.trans ?_
  show (F_impl_mod c (q : Int)).bind _ = _
  rw [n_mod (by omega) (by omega)]; rfl
theorem Pr_cop {n d : Nat} (h : Pr n) (hd : 0 < d) (hdn : d < n) : Nat.gcd n d = 1 := by
  obtain ⟨k, hk⟩ := Nat.gcd_dvd_left n d
  have h1 : Nat.gcd n d ≤ d := Nat.le_of_dvd hd (Nat.gcd_dvd_right n d)
  have h0 : 0 < Nat.gcd n d := Nat.gcd_pos_of_pos_right n hd
  generalize Nat.gcd n d = g at hk h1 h0
  apply Classical.byContradiction
  intro hg
  have hg2 : 2 ≤ g := by omega
  have hk2 : 2 ≤ k := by
    rcases Nat.lt_or_ge k 2 with h | h
    · have : k = 0 ∨ k = 1 := by omega
      rcases this with rfl | rfl <;> omega
    · exact h
  rcases Nat.le_total g k with h' | h'
  · exact h.2 g hg2 (by rw [hk]; exact Nat.mul_le_mul_left g h') (by rw [hk]; exact Nat.mul_mod_right g k)
  · exact h.2 k hk2 (by rw [hk]; exact Nat.mul_le_mul_right k h') (by rw [hk]; exact Nat.mul_mod_left g k)
theorem dF_cop {q x : Int} : ∀ {l : List Int}, (∀ p ∈ l, Int.gcd q (x - p) = 1) → Int.gcd q (dF x l) = 1
  | [], _ => by simp [dF]
  | p :: l, h => by
    rw [dF_cons, Int.gcd_mul_right_right_of_gcd_eq_one (dF_cop fun p hp => h p (List.mem_cons_of_mem _ hp))]
    exact h p (List.mem_cons_self ..)
structure LgOk (q : Int) (pts : List Int) : Prop where
  q8 : 7 < q
  q2 : q ≤ 2000000000
  pr : Pr q.toNat
  bd : ∀ p ∈ pts, 0 ≤ p ∧ p ≤ 7
  nd : pts.Nodup
  ln : pts.length ≤ 10000000
theorem lg_cop {q : Int} {pts : List Int} (h : LgOk q pts) {k : Nat} (hk : k < pts.length) : Nat.gcd q.toNat (dF pts[k] (pts.eraseIdx k) % q).toNat = 1 := by
  have h8 := h.q8
  have h1 : Int.gcd q (dF pts[k] (pts.eraseIdx k)) = 1 := by
    refine dF_cop fun p hp => ?_
    obtain ⟨i, hi, hne, rfl⟩ := List.mem_eraseIdx_iff_getElem.1 hp
    have hn : pts[k] ≠ pts[i] := fun e => hne ((List.getElem_inj h.nd).1 e).symm
    have b1 := h.bd _ (List.getElem_mem hk)
    have b2 := h.bd _ (List.getElem_mem hi)
    rw [Int.gcd_eq_natAbs_gcd_natAbs, show q.natAbs = q.toNat by omega]
    exact Pr_cop h.pr (by omega) (by omega)
  have h2 : Int.gcd q (dF pts[k] (pts.eraseIdx k) % q) = 1 := by
    rw [Int.gcd_comm, Int.emod_def, Int.mul_comm q, Int.gcd_sub_mul_right_left, Int.gcd_comm]; exact h1
  have := emod_rg (q := q) (by omega) (dF pts[k] (pts.eraseIdx k))
  rw [Int.gcd_eq_natAbs_gcd_natAbs] at h2
  rw [show q.toNat = q.natAbs by omega, show ∀ z : Int, 0 ≤ z → z.toNat = z.natAbs from fun z hz => by omega, h2]
  exact this.1
noncomputable def lamV (q : Int) (pts : List Int) (x : Int) (k : Nat) : Int := (dF x (pts.eraseIdx k) * ivV q (dF (pts.getD k 0) (pts.eraseIdx k) % q)) % q
theorem lg_inv {q : Int} {pts : List Int} (h : LgOk q pts) {k : Nat} (hk : k < pts.length) {d : Int} (hd : d = dF pts[k] (pts.eraseIdx k) % q) : F_impl_inverse d q = some (ivV q d) ∧ F_spec_nInverse d q = some (ivV q d, true) ∧ 0 ≤ ivV q d ∧ ivV q d < q := by
  have h8 := h.q8
  have h2 := h.q2
  have hb := emod_rg (q := q) (by omega) (dF pts[k] (pts.eraseIdx k))
  have := n_inverse (q := q.toNat) (v := d.toNat) (by omega) (by omega) (by omega) (by rw [hd]; exact lg_cop h hk)
  rw [show ((q.toNat : Nat) : Int) = q by omega, show ((d.toNat : Nat) : Int) = d by omega] at this
  exact this
theorem erase_take {pts : List Int} {k j : Nat} (hj : j < pts.length) : (pts.take (j + 1)).eraseIdx k = if j = k then (pts.take j).eraseIdx k else (pts.take j).eraseIdx k ++ [pts[j]] := by
  rw [List.take_succ_eq_append_getElem hj]
  have hl : (pts.take j).length = j := by simp; omega
  by_cases h1 : j = k
  · subst h1
    rw [if_pos rfl, List.eraseIdx_append_of_length_le (by omega), hl, Nat.sub_self]
    rw [List.eraseIdx_of_length_le (l := pts.take j) (by omega)]
    simp
  · rw [if_neg h1]
    rcases Nat.lt_or_ge k j with h | h
    · rw [List.eraseIdx_append_of_lt_length (by omega)]
    · rw [List.eraseIdx_append_of_length_le (by omega), List.eraseIdx_of_length_le (l := pts.take j) (by omega), List.eraseIdx_of_length_le (by simp; omega)]
theorem dF_step {q x p a : Int} (h : 7 < q) (hq2 : q ≤ 2000000000) (hx : 0 ≤ x ∧ x ≤ 7) (hp : 0 ≤ p ∧ p ≤ 7) : (IntKind.i64.wrap ((a % q) * ((x - p) % q))).tmod q = (a * (x - p)) % q := by
  obtain ⟨b1, b2⟩ := mul_bd hq2 (emod_rg (q := q) (by omega) a) (emod_rg (q := q) (by omega) (x - p))
  rw [wr64 (by omega) (by omega), Int.tmod_eq_emod_of_nonneg b1]
  exact mul_cg (mod_cg _ _) (mod_cg _ _)
theorem n_yLagrange {q x : Int} {pts : List Int} (h : LgOk q pts) (hx : 0 ≤ x ∧ x ≤ 7) : F_spec_yLagrange q pts x = some ((List.range pts.length).map (lamV q pts x)) := by
  have h8 := h.q8
  have h2 := h.q2
  have hln := h.ln
  unfold F_spec_yLagrange
  refine eq_of_rn (rn_then (ψ := fun r => r = (List.range pts.length).map (lamV q pts x)) (rn_rloop (fun k s => s = (List.range k).map (lamV q pts x)) rfl ?_ ?_) fun r hr => rn_some hr)
  · rintro k s hk rfl
    have bk := h.bd _ (List.getElem_mem hk)
    refine rn_ix hk ?_
    refine rn_then (ψ := fun r => r = (dF x (pts.eraseIdx k) % q, dF pts[k] (pts.eraseIdx k) % q)) (rn_rloop (fun j s => s = (dF x ((pts.take j).eraseIdx k) % q, dF pts[k] ((pts.take j).eraseIdx k) % q)) ?_ ?_ ?_) ?_
    · simp only [List.take_zero, List.eraseIdx_nil]
      show _ = ((1 : Int) % q, (1 : Int) % q)
      rw [Int.emod_eq_of_lt (by omega) (by omega)]
    · rintro j s hj rfl
      have bj := h.bd _ (List.getElem_mem hj)
      refine rn_then (ψ := fun r => r = (dF x ((pts.take (j + 1)).eraseIdx k) % q, dF pts[k] ((pts.take (j + 1)).eraseIdx k) % q)) (rn_ix hj (rn_if (fun hv => ?_) fun hv => ?_)) fun r hr => rn_some hr
      · have hne : ¬ j = k := by simp at hv; omega
        rw [wr64 (n := x - pts[j]) (by omega) (by omega), wr64 (n := pts[k] - pts[j]) (by omega) (by omega)]
        refine rn_call (n_nMod (by omega) h2) (rn_gd (by omega) (rn_call (n_nMod (by omega) h2) (rn_gd (by omega) (rn_some ?_))))
        rw [erase_take hj, if_neg hne, dF_snoc, dF_snoc, dF_step h8 h2 hx bj, dF_step h8 h2 bk bj]
      · have hne : j = k := by simp at hv; omega
        refine rn_some ?_
        rw [erase_take hj, if_pos hne]
    · rintro s rfl
      rw [List.take_length]
    · rintro r rfl
      obtain ⟨-, i2, i3, i4⟩ := lg_inv h hk rfl
      refine rn_call i2 (rn_gd (by omega) (rn_gd (by simp; omega) (rn_some ?_)))
      show _ = (List.range (k + 1)).map _
      obtain ⟨b1, b2⟩ := mul_bd h2 (emod_rg (q := q) (by omega) (dF x (pts.eraseIdx k))) ⟨i3, i4⟩
      dsimp only
      rw [List.range_succ, List.map_append, wr64 (by omega) (by omega), Int.tmod_eq_emod_of_nonneg b1]
      congr 1
      simp only [List.map_cons, List.map_nil, lamV, List.getD_eq_getElem?_getD, List.getElem?_eq_getElem hk, Option.getD_some]
      rw [mul_cg (mod_cg q (dF x (pts.eraseIdx k))) rfl]
  · rintro s rfl; rfl
theorem n_lagrange {q x : Int} {pts : List Int} (h : LgOk q pts) (hx : 0 ≤ x ∧ x ≤ 7) : F_impl_lagrange q pts x = some ((List.range pts.length).map (lamV q pts x)) := by
  have h8 := h.q8
  have h2 := h.q2
  have hln := h.ln
  unfold F_impl_lagrange
  refine eq_of_rn (rn_then (ψ := fun r => r = (List.range pts.length).map (lamV q pts x)) (rn_rloop (fun k s => s = (List.range k).map (lamV q pts x)) rfl ?_ ?_) fun r hr => rn_some hr)
  · rintro k s hk rfl
    have bk := h.bd _ (List.getElem_mem hk)
    refine rn_then (ψ := fun r => Rg q r ∧ r.length ≤ 100000000 ∧ evI r x % q = lamV q pts x k) ?_ ?_
    · unfold F_impl_basisAt F_slices_Clone_int_int F_slices_Delete_int_int__mv0
      rw [wr64 (by omega) (by omega)]
      refine rn_call (gd_t (by omega)) (rn_call (gd_t (by omega)) ?_)
      rw [Int.toNat_natCast, show ((k : Int) + 1).toNat = k + 1 by omega, ← List.eraseIdx_eq_take_drop_succ]
      have hel : (pts.eraseIdx k).length ≤ pts.length := List.length_eraseIdx_le ..
      refine rn_then (n_fromRoots (by omega) h2 (fun p hp => h.bd p (List.mem_of_mem_eraseIdx hp)) (by omega)) ?_
      rintro z5 ⟨g1, g2, g3⟩
      refine rn_ix hk ?_
      refine rn_call (n_evalPoly (by omega) h2 bk.1 (by omega) (fun c hc => by have := g2 c hc; omega) (by omega)) ?_
      rw [polyV_ev, g3]
      obtain ⟨i1, -, i3, i4⟩ := lg_inv h hk rfl
      refine rn_call i1 (rn_then (n_mulPolys (by omega) h2 g2 (fun c hc => by rw [List.mem_singleton.1 hc]; exact ⟨i3, i4⟩) (by omega) (by simp)) ?_)
      rintro z14 ⟨k1, k2, k3⟩
      refine rn_some ⟨k2, by simp at k1; omega, ?_⟩
      rw [k3]
      simp only [lamV, List.getD_eq_getElem?_getD, List.getElem?_eq_getElem hk, Option.getD_some]
      exact mul_cg (g3 x) (by simp [evI])
    · rintro z17 ⟨k1, k2, k3⟩
      refine rn_call (n_evalPoly (by omega) h2 hx.1 (by omega) (fun c hc => by have := k1 c hc; omega) (by omega)) (rn_gd (by simp; omega) (rn_some ?_))
      show _ = (List.range (k + 1)).map _
      rw [List.range_succ, List.map_append, polyV_ev, k3]; rfl
  · rintro s rfl; rfl
theorem n_isSharing (gr : Group) : F_impl_isSharing gr = some (okG gr && decide (7 < gr.Q)) := by
  unfold F_impl_isSharing
  rw [n_validG]
  by_cases h : 7 < gr.Q <;> simp [h]
theorem n_hasCipher {gr : Group} (k : OkG gr) (c : Cipher) : F_impl_Group_hasCipher gr c = some (hasB gr c.A && hasB gr c.B) := by
  unfold F_impl_Group_hasCipher
  rw [n_has k, n_has k]
  cases hasB gr c.A <;> simp
theorem n_eGood1 {gr : Group} (k : OkG gr) (c : Cipher) : F_spec_eGood gr [c] = some (hasB gr c.A && hasB gr c.B) := by
  unfold F_spec_eGood
  rw [if_neg (by simp)]
  refine (n_all [c] (fun c => hasB gr c.A && hasB gr c.B) false (body := fun i10 s9 => (ix [c] i10).bind fun x19 => (F_spec_gIs gr [x19.A, x19.B]).bind fun z22 => if (!z22) = true then some (.out (.inr false)) else some (.go ())) fun k' hk => ?_).trans ?_
  · rw [ix_at hk, Option.bind_some, n_gIs k, Option.bind_some]
    refine (ite_m _ _ _).trans ?_
    simp
  · simp
theorem n_gIs1 {gr : Group} (k : OkG gr) (m : Int) : F_spec_gIs gr [m] = some (hasB gr m) := by
  rw [n_gIs k]; simp
theorem n_areExps {gr : Group} (h : 0 ≤ gr.Q) (h2 : gr.Q ≤ 2000000000) (l : List Int) : F_impl_Group_areExps gr l = some (l.all (expB gr)) := by
  have h1 : F_impl_areAll__impl_Group_isExp l gr = some (l.all (expB gr)) := areAll_gen (f := fun x => F_impl_areAll_1__impl_Group_isExp x gr) fun x _ => by
    unfold F_impl_areAll_1__impl_Group_isExp
    rw [n_isExp h h2]; rfl
  unfold F_impl_Group_areExps
  rw [h1]; rfl
theorem pow_per {a n p e : Nat} (h : a ^ n % p = 1) : a ^ (e % n) % p = a ^ e % p := by
  have hp : 1 % p = 1 := by rw [← h, Nat.mod_mod]
  conv => rhs; rw [← Nat.div_add_mod e n]
  rw [Nat.pow_add, Nat.pow_mul, Nat.mul_mod, Nat.pow_mod (a ^ n), h, Nat.one_pow, hp, Nat.one_mul, Nat.mod_mod]
theorem has_pow {gr : Group} {x : Int} (h : hasB gr x = true) : 1 ≤ x ∧ x ≤ gr.P - 1 ∧ x.toNat ^ gr.Q.toNat % gr.P.toNat = 1 := by
  unfold hasB at h
  simp only [Bool.and_eq_true, decide_eq_true_eq] at h
  exact ⟨h.1.1, h.1.2, h.2⟩
theorem powG_mul {gr : Group} (k : OkG gr) {x : Int} (h : hasB gr x = true) {s l : Int} (hs : 0 ≤ s) (hl : 0 ≤ l) : powG gr (powG gr x s) l = powG gr x (s * l) := by
  obtain ⟨_, _, h3⟩ := has_pow h
  have hq := k.q
  obtain ⟨a, rfl⟩ := Int.eq_ofNat_of_zero_le hs
  obtain ⟨b, rfl⟩ := Int.eq_ofNat_of_zero_le hl
  obtain ⟨n, hn⟩ := Int.eq_ofNat_of_zero_le (show 0 ≤ gr.Q by omega)
  unfold powG
  rw [hn] at h3 ⊢
  rw [Int.toNat_natCast] at h3
  have e : ∀ c : Nat, ((c : Int) % (n : Int)).toNat = c % n := fun c => by rw [← Int.natCast_emod, Int.toNat_natCast]
  rw [mul_cast, e, e, e, Int.toNat_natCast, pow_per h3, pow_per h3, ← Nat.pow_mod, ← Nat.pow_mul]
  congr 1
  rw [Nat.pow_mul, Nat.pow_mod, pow_per (n := n) (e := b)]
  · rw [← Nat.pow_mod, ← Nat.pow_mul]
  · rw [← Nat.pow_mod, ← Nat.pow_mul, Nat.mul_comm, Nat.pow_mul, Nat.pow_mod, h3, Nat.one_pow, ← h3, Nat.mod_mod]
theorem n_gInv {gr : Group} (k : OkG gr) {x : Int} (h0 : 0 ≤ x) (h1 : x ≤ 2000000000) : F_spec_gInv gr x = some (powG gr x (-1)) := by
  have hq := k.q
  have hp := k.p
  have e : (-1 : Int) % gr.Q = gr.Q - 1 := by
    have := Int.add_mul_emod_self_left (-1) gr.Q 1
    rw [← this, Int.mul_one]
    rw [Int.emod_eq_of_lt (by omega) (by omega)]; omega
  unfold F_spec_gInv
  rw [wr64 (by omega) (by omega), (n_powI h0 h1 (by omega) hp.2 (by omega) (by omega)).2]
  unfold powG
  rw [e]; rfl
theorem n_over {gr : Group} (k : OkG gr) {b x : Int} (hb : 0 ≤ b) (hb2 : b ≤ 2000000000) (h0 : 0 ≤ x) (h1 : x ≤ 2000000000) : F_impl_Group_over gr b x = some (mulG gr [b, powG gr x (-1)]) := by
  have hp := k.p
  obtain ⟨p1, p2⟩ := powG_bd k x (-1)
  unfold F_impl_Group_over F_impl_Group_inv
  rw [(n_pow k h0 h1 _).1]
  simp only [Option.bind_some]
  rw [n_mul k]; rfl
  intro y hy
  simp only [List.mem_cons, List.not_mem_nil, or_false] at hy
  rcases hy with rfl | rfl <;> omega
theorem rn_ch {v c : Bool} {e : Option Bool} (h : v = false → Rn e (· = !c)) : Rn (if v = true then some true else e) (· = !(!v && c)) := by
  cases v
  · exact rn_f rfl (by simpa using h rfl)
  · exact rn_t rfl (rn_some rfl)
theorem lam_ix {α : Type} {n k : Nat} {f : Nat → α} (hk : k < n) : ix ((List.range n).map f) (k : Int) = some (f k) := by
  rw [ix_at (by simpa using hk)]; simp
noncomputable def simG (gr : Group) (A z : Int) (sh : List Int) (lam : Nat → Int) : Nat → Int
  | 0 => z
  | k + 1 => mulG gr [simG gr A z sh lam k, powG gr A (sh.getD k 0 * lam (k + 1))]
theorem simG_bd {gr : Group} (k : OkG gr) {A z : Int} (hz : 0 ≤ z ∧ z ≤ gr.P) {sh : List Int} {lam : Nat → Int} : ∀ n, 0 ≤ simG gr A z sh lam n ∧ simG gr A z sh lam n ≤ gr.P
  | 0 => hz
  | n + 1 => by
    have h1 := simG_bd k hz (sh := sh) (lam := lam) (A := A) n
    have hp := k.p
    refine mulG_bd k fun y hy => ?_
    obtain ⟨p1, p2⟩ := powG_bd k A (sh.getD n 0 * lam (n + 1))
    simp only [List.mem_cons, List.not_mem_nil, or_false] at hy
    rcases hy with rfl | rfl <;> omega
noncomputable def simV (gr : Group) (c : Cipher) (m : Int) (who sh : List Int) (i : Int) : Int :=
  simG gr c.A (powG gr (mulG gr [c.B, powG gr m (-1)]) (lamV gr.Q ([0] ++ who) i 0)) sh (lamV gr.Q ([0] ++ who) i) sh.length
structure SimOk (gr : Group) (c : Cipher) (m : Int) (who sh : List Int) (i : Int) : Prop where
  k : OkG gr
  q : 7 < gr.Q
  a : hasB gr c.A = true
  b : hasB gr c.B = true
  m : hasB gr m = true
  w : who.all trB = true
  d : difB who = true
  l : sh.length = who.length
  e : sh.all (expB gr) = true
  i : trB i = true
theorem SimOk.lg {gr : Group} {c : Cipher} {m : Int} {who sh : List Int} {i : Int} (h : SimOk gr c m who sh i) (hl : who.length ≤ 1048576) : LgOk gr.Q ([0] ++ who) := by
  have hq := h.k.q
  have hp := h.k.p
  have hw : ∀ x ∈ who, 1 ≤ x ∧ x ≤ 7 := fun x hx => by
    have := List.all_eq_true.1 h.w x hx
    simpa [trB] using this
  have hd : who.Nodup := by simpa [difB] using h.d
  refine ⟨h.q, by omega, h.k.pq, fun p hp => ?_, ?_, by simp; omega⟩
  · rcases List.mem_append.1 hp with h1 | h1
    · rw [List.mem_singleton.1 h1]; omega
    · have := hw p h1; omega
  · show (0 :: who).Nodup
    refine List.nodup_cons.2 ⟨fun h0 => ?_, hd⟩
    have := hw 0 h0
    omega
theorem lam_bd {q : Int} (hq : 0 < q) (pts : List Int) (x : Int) (k : Nat) : 0 ≤ lamV q pts x k ∧ lamV q pts x k < q := emod_rg hq _
theorem simOk_of {gr : Group} {c : Cipher} {m : Int} {who sh : List Int} {i : Int} (h : (!(!(okG gr && decide (7 < gr.Q))) && (!(!(hasB gr c.A && hasB gr c.B)) && (!(!(hasB gr m)) && (!(!(who.all trB && difB who)) && (!((sh.length : Int) != (who.length : Int)) && (!(!(sh.all (expB gr))) && (!(!(trB i)) && !(who.contains i)))))))) = true) : SimOk gr c m who sh i := by
  simp only [Bool.and_eq_true, Bool.not_not, decide_eq_true_eq, Bool.not_eq_true', bne_eq_false_iff_eq] at h
  obtain ⟨⟨h1, h2⟩, ⟨h3, h4⟩, h5, ⟨h6, h7⟩, h8, h9, h10, -⟩ := h
  exact ⟨okG_t.1 h1, h2, h3, h4, h5, h6, h7, by omega, h9, h10⟩
noncomputable def simC (gr : Group) (c : Cipher) (m : Int) (who sh : List Int) (i : Int) : Bool := !(!(okG gr && decide (7 < gr.Q))) && (!(!(hasB gr c.A && hasB gr c.B)) && (!(!(hasB gr m)) && (!(!(who.all trB && difB who)) && (!((sh.length : Int) != (who.length : Int)) && (!(!(sh.all (expB gr))) && (!(!(trB i)) && !(who.contains i)))))))
theorem bools8 : ∀ a b c d e f g h : Bool, (!(!a) && (!(!b) && (!(!c) && (!(!d) && (!e && (!(!f) && (!(!g) && !h))))))) = (!(!a) && (!(!b) && (!(!c) && (!(!d) && (!(!g) && (!h && (!e && f))))))) := by decide
theorem n_simS (gr : Group) (c : Cipher) (m : Int) (who sh : List Int) (i : Int) (hl : who.length ≤ 1048576) : F_spec_SimulatePartial gr c m who sh i = some (if simC gr c m who sh i = true then (simV gr c m who sh i, true) else (0, false)) := by
  unfold F_spec_SimulatePartial
  refine eq_of_rn (rn_then (ψ := fun b => b = !simC gr c m who sh i) ?_ ?_)
  · refine rn_call (n_sGroup gr) (rn_ch fun h1 => ?_)
    have k : OkG gr := okG_t.1 (by simp at h1; exact h1.1)
    have hq := k.q
    have hp := k.p
    refine rn_call (n_eGood1 k c) (rn_ch fun h2 => rn_call (n_gIs1 k m) (rn_ch fun h3 => rn_call (n_wTrustees who (by omega)) (rn_ch fun h4 => rn_ch fun h5 => rn_call (n_gExps (by omega) (by omega) sh) (rn_ch fun h6 => rn_call (n_l1In i 1 7) (rn_ch fun h7 => rn_call (n_l1Has who i) (rn_some ?_))))))
    simp
  · rintro _ rfl
    cases hc : simC gr c m who sh i
    · exact rn_t rfl (rn_some rfl)
    refine rn_f rfl ?_
    have h := simOk_of hc
    have k := h.k
    have hq := k.q
    have hp := k.p
    have lg := h.lg hl
    have hi : 0 ≤ i ∧ i ≤ 7 := by have := h.i; simp [trB] at this; omega
    have hA := has_pow h.a
    have hB := has_pow h.b
    have hm := has_pow h.m
    refine rn_gd (by simp; omega) (rn_call (n_yLagrange lg hi) ?_)
    refine rn_call (lam_ix (k := 0) (by simp)) (rn_call (n_gInv k (by omega) (by omega)) ?_)
    have b1 := powG_bd k m (-1)
    have l2 : ∀ x ∈ [c.B, powG gr m (-1)], 0 ≤ x ∧ x ≤ 2000000000 := fun x hx => by
      simp only [List.mem_cons, List.not_mem_nil, or_false] at hx
      rcases hx with rfl | rfl <;> omega
    have b2 := mulG_bd k l2
    refine rn_call (n_gMul k l2) (rn_call (n_pow k b2.1 (by omega) _).2 ?_)
    refine rn_then (ψ := fun r => r = simV gr c m who sh i) (rn_rloop (fun n s => s = simG gr c.A (powG gr (mulG gr [c.B, powG gr m (-1)]) (lamV gr.Q ([0] ++ who) i 0)) sh (lamV gr.Q ([0] ++ who) i) n) rfl ?_ ?_) fun r hr => rn_some (by rw [hr]; rfl)
    · rintro n s hn rfl
      have hls := h.l
      have e : IntKind.i64.wrap ((n : Int) + 1) = ((n + 1 : Nat) : Int) := by rw [wr64 (by omega) (by omega)]; omega
      refine rn_ix hn ?_
      rw [e]
      refine rn_call (lam_ix (by simp; omega)) ?_
      have bs : 0 ≤ sh[n] ∧ sh[n] < gr.Q := by
        have := List.all_eq_true.1 h.e _ (List.getElem_mem hn)
        simp [expB] at this; omega
      obtain ⟨c1, c2⟩ := mul_bd (q := gr.Q) (by omega) bs (lam_bd (q := gr.Q) (by omega) ([0] ++ who) i (n + 1))
      rw [wr64 (by omega) (by omega)]
      refine rn_call (n_pow k (by omega) (by omega) _).2 ?_
      have bz := powG_bd k (mulG gr [c.B, powG gr m (-1)]) (lamV gr.Q ([0] ++ who) i 0)
      have bG := simG_bd k (A := c.A) (z := powG gr (mulG gr [c.B, powG gr m (-1)]) (lamV gr.Q ([0] ++ who) i 0)) (by omega) (sh := sh) (lam := lamV gr.Q ([0] ++ who) i) n
      have bp := powG_bd k c.A (sh[n] * lamV gr.Q ([0] ++ who) i (n + 1))
      refine rn_call (n_gMul k fun x hx => ?_) (rn_some ?_)
      · simp only [List.mem_cons, List.not_mem_nil, or_false] at hx
        rcases hx with rfl | rfl <;> omega
      · show _ = simG _ _ _ _ _ (n + 1)
        simp only [simG, List.getD_eq_getElem?_getD, List.getElem?_eq_getElem hn, Option.getD_some]
    · rintro s rfl; rfl
theorem n_simI (gr : Group) (c : Cipher) (m : Int) (who sh : List Int) (i : Int) (hl : who.length ≤ 1048576) : F_impl_SimulatePartial gr c m who sh i = some (if simC gr c m who sh i = true then (simV gr c m who sh i, true) else (0, false)) := by
  unfold F_impl_SimulatePartial
  refine eq_of_rn (rn_then (ψ := fun b => b = !simC gr c m who sh i) ?_ ?_)
  · unfold simC
    rw [bools8]
    refine rn_call (n_isSharing gr) (rn_ch fun h1 => ?_)
    have k : OkG gr := okG_t.1 (by simp at h1; exact h1.1)
    have hq := k.q
    have hp := k.p
    refine rn_call (n_hasCipher k c) (rn_ch fun h2 => rn_call (n_has k m) (rn_ch fun h3 => rn_call (n_areTrustees who (by omega)) (rn_ch fun h4 => rn_call (n_isTrustee i) (rn_ch fun h7 => rn_call (n_contains who i) (rn_ch fun h5 => rn_ch fun h6 => rn_call (n_areExps (by omega) (by omega) sh) (rn_some rfl))))))
  · rintro _ rfl
    cases hc : simC gr c m who sh i
    · exact rn_t rfl (rn_some rfl)
    refine rn_f rfl ?_
    have h := simOk_of hc
    have k := h.k
    have hq := k.q
    have hp := k.p
    have lg := h.lg hl
    have hi : 0 ≤ i ∧ i ≤ 7 := by have := h.i; simp [trB] at this; omega
    have hA := has_pow h.a
    have hB := has_pow h.b
    have hm := has_pow h.m
    refine rn_gd (by simp; omega) (rn_call (n_lagrange lg hi) ?_)
    refine rn_call (lam_ix (k := 0) (by simp)) (rn_call (n_over k (by omega) (by omega) (by omega) (by omega)) ?_)
    have b1 := powG_bd k m (-1)
    have l2 : ∀ x ∈ [c.B, powG gr m (-1)], 0 ≤ x ∧ x ≤ 2000000000 := fun x hx => by
      simp only [List.mem_cons, List.not_mem_nil, or_false] at hx
      rcases hx with rfl | rfl <;> omega
    have b2 := mulG_bd k l2
    refine rn_call (n_pow k b2.1 (by omega) _).1 ?_
    refine rn_then (ψ := fun r => r = simV gr c m who sh i) (rn_rloop (fun n s => s = simG gr c.A (powG gr (mulG gr [c.B, powG gr m (-1)]) (lamV gr.Q ([0] ++ who) i 0)) sh (lamV gr.Q ([0] ++ who) i) n) rfl ?_ ?_) fun r hr => rn_some (by rw [hr]; rfl)
    · rintro n s hn rfl
      have hls := h.l
      have e : IntKind.i64.wrap ((n : Int) + 1) = ((n + 1 : Nat) : Int) := by rw [wr64 (by omega) (by omega)]; omega
      refine rn_ix hn ?_
      rw [e]
      refine rn_call (lam_ix (by simp; omega)) ?_
      have bs : 0 ≤ sh[n] ∧ sh[n] < gr.Q := by
        have := List.all_eq_true.1 h.e _ (List.getElem_mem hn)
        simp [expB] at this; omega
      have bl := lam_bd (q := gr.Q) (by omega) ([0] ++ who) i (n + 1)
      have bq := powG_bd k c.A sh[n]
      refine rn_call (n_pow k (by omega) (by omega) _).1 (rn_call (n_pow k bq.1 (by omega) _).1 ?_)
      rw [powG_mul k h.a bs.1 bl.1]
      have bz := powG_bd k (mulG gr [c.B, powG gr m (-1)]) (lamV gr.Q ([0] ++ who) i 0)
      have bG := simG_bd k (A := c.A) (z := powG gr (mulG gr [c.B, powG gr m (-1)]) (lamV gr.Q ([0] ++ who) i 0)) (by omega) (sh := sh) (lam := lamV gr.Q ([0] ++ who) i) n
      have bp := powG_bd k c.A (sh[n] * lamV gr.Q ([0] ++ who) i (n + 1))
      refine rn_call (n_mul k fun x hx => ?_) (rn_some ?_)
      · simp only [List.mem_cons, List.not_mem_nil, or_false] at hx
        rcases hx with rfl | rfl <;> omega
      · show _ = simG _ _ _ _ _ (n + 1)
        simp only [simG, List.getD_eq_getElem?_getD, List.getElem?_eq_getElem hn, Option.getD_some]
    · rintro s rfl; rfl
theorem law3 (gr : Group) (c : Cipher) (m : Int) (who sh : List Int) (i : Int) : F_laws_FnExactSimulatePartial gr c m who sh i = some true := by
  unfold F_laws_FnExactSimulatePartial
  by_cases h1 : 1048576 < (who.length : Int)
  · rw [if_pos (by simpa using h1)]
  rw [if_neg (by simpa using h1)]
  by_cases h2 : 1048576 < (sh.length : Int)
  · rw [if_pos (by simpa using h2)]
  rw [if_neg (by simpa using h2)]
  have h3 : who.length ≤ 1048576 := by omega
  have h4 : sh.length ≤ 1048576 := by omega
  simp only [show F_laws_toGroup gr = some gr from rfl, show F_laws_toCipher c = some c from rfl, Option.bind_some, p_toIntS h3, p_toIntS h4, n_simS gr c m who sh i h3, n_simI gr c m who sh i h3, p_eqIntS h3, p_eqIntS h4]
  simp
end Go.Pm
