/-
  FnShares: plain laws.
  No condition.
-/
import Derived.Test.YtpiihmmnhgnnjaaGreatM20b
import Derived.Test.YtpiihmmnhgnnjaaGreatPmZ
namespace Go.Pm
open Go.Am
set_option linter.unusedVariables false
set_option linter.unusedSimpArgs false
theorem n_within (a b c : Int) : F_impl_within a b c = some (decide (b ≤ a) && decide (a ≤ c)) := by
  unfold F_impl_within
  by_cases h : b ≤ a <;> simp [h]
theorem n_l1In (a b c : Int) : F_spec_l1In a b c = some (decide (b ≤ a) && decide (a ≤ c)) := by
  unfold F_spec_l1In
  by_cases h : b ≤ a <;> simp [h]
theorem n_isModulus (a : Int) : F_impl_isModulus a = some (decide (2 ≤ a) && decide (a ≤ 2000000000)) := by
  unfold F_impl_isModulus
  rw [n_within]; rfl
theorem tmod_cast (a b : Nat) : (a : Int).tmod (b : Int) = ((a % b : Nat) : Int) := by rw [Int.tmod_eq_emod_of_nonneg (by omega)]; exact (Int.natCast_emod _ _).symm
theorem tdiv_cast (a b : Nat) : (a : Int).tdiv (b : Int) = ((a / b : Nat) : Int) := by rw [Int.tdiv_eq_ediv_of_nonneg (by omega)]; exact (Int.natCast_ediv _ _).symm
theorem mul_cast (a b : Nat) : (a : Int) * (b : Int) = ((a * b : Nat) : Int) := (Int.natCast_mul _ _).symm
theorem and_one {e : Nat} (he : e ≤ 9223372036854775807) : IntKind.i64.wrap (BitVec.ofInt IntKind.i64.bits (e : Int) &&& BitVec.ofInt IntKind.i64.bits 1).toNat = ((e % 2 : Nat) : Int) := by
  have h1 : (BitVec.ofInt IntKind.i64.bits (e : Int) &&& BitVec.ofInt IntKind.i64.bits 1).toNat = e % 2 := by
    rw [BitVec.toNat_and]
    have a1 : (BitVec.ofInt IntKind.i64.bits (e : Int)).toNat = e := by
      rw [BitVec.toNat_ofInt]
      have : IntKind.i64.bits = 64 := rfl
      rw [this]
      omega
    have a2 : (BitVec.ofInt IntKind.i64.bits 1).toNat = 1 := by decide
    rw [a1, a2, Nat.and_one_is_mod]
  rw [h1, wr64 (by omega) (by omega)]
-- powers
theorem n_power {a e m : Nat} (ha : a ≤ 2000000000) (hm : 1 ≤ m) (hm2 : m ≤ 2000000000) (he : e ≤ 9223372036854775807) : F_impl_power (a : Int) (e : Int) (m : Int) = some ((a ^ e % m : Nat) : Int) := by
  unfold F_impl_power
  refine eq_of_rn (rn_gd (by omega) (rn_then (φ := (· = ((a ^ e % m : Nat) : Int))) (rn_wloop (φ := (· = ((a ^ e % m : Nat) : Int))) (fun s => ∃ x y o : Nat, s = ((x : Int), (y : Int), (o : Int)) ∧ x ≤ 2000000000 ∧ y ≤ e ∧ o < m ∧ o * x ^ y % m = a ^ e % m) (fun s => s.2.1.toNat)
    ⟨a, e, 1 % m, by rw [show (1 : Int) = ((1 : Nat) : Int) from rfl, tmod_cast], ha, Nat.le_refl _, Nat.mod_lt _ (by omega), by rw [Nat.mod_mul_mod, Nat.one_mul]⟩ ?_) fun x hx => rn_some hx))
  rintro s ⟨x, y, o, rfl, hx, hy, ho, hi⟩
  refine rn_if (fun h0 => ?_) fun h0 => ?_
  · have h0 : 0 < y := by simpa using h0
    have hox : o * x ≤ 4000000000000000000 := Nat.le_trans (Nat.mul_le_mul (show o ≤ 2000000000 by omega) hx) (by decide)
    have hxx : x * x ≤ 4000000000000000000 := Nat.le_trans (Nat.mul_le_mul hx hx) (by decide)
    refine rn_then (ψ := fun o' => ∃ k : Nat, o' = (k : Int) ∧ k < m ∧ k * (x * x) ^ (y / 2) % m = a ^ e % m) ?_ ?_
    · simp only [and_one (show y ≤ 9223372036854775807 by omega)]
      refine rn_if (fun h1 => rn_gd (by omega) (rn_some ⟨o * x % m, ?_, Nat.mod_lt _ (by omega), ?_⟩)) fun h1 => rn_some ⟨o, rfl, ho, ?_⟩
      · rw [mul_cast, wr64 (by omega) (by omega), tmod_cast]
      · have h1 : y % 2 = 1 := by
          have : ((y % 2 : Nat) : Int) = 1 := by simpa using h1
          omega
        rw [Nat.mod_mul_mod, ← hi, ← Nat.pow_two, ← Nat.pow_mul, Nat.mul_assoc, ← Nat.pow_succ']
        congr 3; omega
      · have h1 : y % 2 = 0 := by
          have : ¬ ((y % 2 : Nat) : Int) = 1 := by simpa using h1
          omega
        rw [← hi, ← Nat.pow_two, ← Nat.pow_mul]
        congr 3; omega
    · rintro o' ⟨k, rfl, hk, hk2⟩
      refine rn_gd (by omega) (rn_some ⟨⟨x * x % m, y / 2, k, ?_, by have := Nat.mod_lt (x * x) (show 0 < m by omega); omega, by omega, hk, ?_⟩, ?_⟩)
      · rw [mul_cast, wr64 (by omega) (by omega), tmod_cast]
        have e3 : (y : Int).fdiv 2 = ((y / 2 : Nat) : Int) := by rw [Int.fdiv_eq_ediv_of_nonneg _ (by omega)]; rfl
        show (_, (y : Int).fdiv 2, _) = _
        rw [e3]
      · rw [Nat.mul_mod, ← Nat.pow_mod, ← Nat.mul_mod]
        exact hk2
      · show ((y : Int).fdiv 2).toNat < (y : Int).toNat
        rw [Int.fdiv_eq_ediv_of_nonneg _ (by omega)]
        omega
  · have h0 : y = 0 := by
      have : ¬ (0 < y) := by simpa using h0
      omega
    subst h0
    refine rn_some ?_
    show (o : Int) = _
    rw [Nat.pow_zero, Nat.mul_one, Nat.mod_eq_of_lt ho] at hi
    rw [hi]
theorem n_nPower {a e m : Nat} (ha : a ≤ 2000000000) (hm : 1 ≤ m) (hm2 : m ≤ 2000000000) (he : e ≤ 9223372036854775807) : F_spec_nPower (a : Int) (e : Int) (m : Int) = some ((a ^ e % m : Nat) : Int) := by
  unfold F_spec_nPower
  refine eq_of_rn (rn_gd (by omega) (rn_then (φ := (· = ((a ^ e % m : Nat) : Int))) (rn_wloop (φ := (· = ((a ^ e % m : Nat) : Int))) (fun s => ∃ x y o : Nat, s = ((x : Int), (y : Int), (o : Int)) ∧ x ≤ 2000000000 ∧ y ≤ e ∧ o < m ∧ o * x ^ y % m = a ^ e % m) (fun s => s.2.1.toNat)
    ⟨a, e, 1 % m, by rw [show (1 : Int) = ((1 : Nat) : Int) from rfl, tmod_cast], ha, Nat.le_refl _, Nat.mod_lt _ (by omega), by rw [Nat.mod_mul_mod, Nat.one_mul]⟩ ?_) fun x hx => rn_some hx))
  rintro s ⟨x, y, o, rfl, hx, hy, ho, hi⟩
  refine rn_if (fun h0 => ?_) fun h0 => ?_
  · have h0 : 0 < y := by simpa using h0
    have hox : o * x ≤ 4000000000000000000 := Nat.le_trans (Nat.mul_le_mul (show o ≤ 2000000000 by omega) hx) (by decide)
    have hxx : x * x ≤ 4000000000000000000 := Nat.le_trans (Nat.mul_le_mul hx hx) (by decide)
    have e2 : (y : Int).tmod 2 = ((y % 2 : Nat) : Int) := tmod_cast y 2
    refine rn_then (ψ := fun o' => ∃ k : Nat, o' = (k : Int) ∧ k < m ∧ k * (x * x) ^ (y / 2) % m = a ^ e % m) ?_ ?_
    · simp only [e2]
      refine rn_if (fun h1 => rn_gd (by omega) (rn_some ⟨o * x % m, ?_, Nat.mod_lt _ (by omega), ?_⟩)) fun h1 => rn_some ⟨o, rfl, ho, ?_⟩
      · rw [mul_cast, wr64 (by omega) (by omega), tmod_cast]
      · have h1 : y % 2 = 1 := by
          have : ((y % 2 : Nat) : Int) = 1 := by simpa using h1
          omega
        rw [Nat.mod_mul_mod, ← hi, ← Nat.pow_two, ← Nat.pow_mul, Nat.mul_assoc, ← Nat.pow_succ']
        congr 3; omega
      · have h1 : y % 2 = 0 := by
          have : ¬ ((y % 2 : Nat) : Int) = 1 := by simpa using h1
          omega
        rw [← hi, ← Nat.pow_two, ← Nat.pow_mul]
        congr 3; omega
    · rintro o' ⟨k, rfl, hk, hk2⟩
      have e3 : (y : Int).tdiv 2 = ((y / 2 : Nat) : Int) := tdiv_cast y 2
      refine rn_gd (by omega) (rn_some ⟨⟨x * x % m, y / 2, k, ?_, by have := Nat.mod_lt (x * x) (show 0 < m by omega); omega, by omega, hk, ?_⟩, ?_⟩)
      · simp only [e3]
        rw [mul_cast, wr64 (n := ((x * x : Nat) : Int)) (by omega) (by omega), tmod_cast, wr64 (n := ((y / 2 : Nat) : Int)) (by omega) (by omega)]
      · rw [Nat.mul_mod, ← Nat.pow_mod, ← Nat.mul_mod]
        exact hk2
      · show (IntKind.i64.wrap ((y : Int).tdiv 2)).toNat < (y : Int).toNat
        rw [e3, wr64 (by omega) (by omega)]
        omega
  · have h0 : y = 0 := by
      have : ¬ (0 < y) := by simpa using h0
      omega
    subst h0
    refine rn_some ?_
    show (o : Int) = _
    rw [Nat.pow_zero, Nat.mul_one, Nat.mod_eq_of_lt ho] at hi
    rw [hi]
-- residues
theorem n_mod {a q : Int} (h0 : 0 < q) (h1 : q ≤ 2000000000) : F_impl_mod a q = some (a % q) := by
  unfold F_impl_mod
  rw [gd_t (by omega), gd_t (by omega)]
  have b1 : a.tmod q < q := Int.tmod_lt_of_pos a h0
  have b2 : -q < a.tmod q := by
    have := Int.lt_tmod_of_pos a h0
    omega
  rw [wr64 (by omega) (by omega), Int.tmod_eq_emod_of_nonneg (by omega)]
  congr 1
  rw [Int.add_emod_right]
  rw [Int.tmod_def, Int.sub_emod, Int.mul_emod_right, Int.sub_zero, Int.emod_emod]
theorem n_nMod {a q : Int} (h0 : 0 < q) (h1 : q ≤ 2000000000) : F_spec_nMod a q = some (a % q) := by
  unfold F_spec_nMod
  rw [gd_t (by omega), gd_t (by omega)]
  have b1 : a.tmod q < q := Int.tmod_lt_of_pos a h0
  have b2 : -q < a.tmod q := by
    have := Int.lt_tmod_of_pos a h0
    omega
  rw [wr64 (by omega) (by omega), Int.tmod_eq_emod_of_nonneg (by omega)]
  congr 1
  rw [Int.add_emod_right]
  rw [Int.tmod_def, Int.sub_emod, Int.mul_emod_right, Int.sub_zero, Int.emod_emod]
-- primes
def Pr (n : Nat) : Prop := 2 ≤ n ∧ ∀ d, 2 ≤ d → d * d ≤ n → n % d ≠ 0
open Classical in
noncomputable def prB (n : Int) : Bool := decide (Pr n.toNat)
theorem prB_t {n : Nat} : prB (n : Int) = true ↔ Pr n := by simp [prB]
theorem n_nPrime (n : Int) (h : n ≤ 2000000000) : F_spec_nPrime n = some (prB n) := by
  unfold F_spec_nPrime
  refine eq_of_rn (rn_if (fun h0 => rn_some ?_) fun h0 => ?_)
  · have h0 : n < 2 := by simpa using h0
    symm
    unfold prB
    rw [decide_eq_false_iff_not]
    intro hp
    have := hp.1
    omega
  · have h0 : ¬ n < 2 := by simpa using h0
    obtain ⟨n, rfl⟩ := Int.eq_ofNat_of_zero_le (show 0 ≤ n by omega)
    refine rn_then (ψ := fun b => (b = .inl () ∧ Pr n) ∨ (b = .inr false ∧ ¬ Pr n)) (rn_wloop (fun s => ∃ d : Nat, s = (d : Int) ∧ 2 ≤ d ∧ d ≤ 44723 ∧ ∀ k, 2 ≤ k → k < d → k * k ≤ n → n % k ≠ 0) (fun s => 50000 - s.toNat) ⟨2, rfl, by omega, by omega, fun k h1 h2 => by omega⟩ ?_) ?_
    · rintro s ⟨d, rfl, hd, hd2, hi⟩
      have hdd : d * d ≤ 2000146729 := Nat.le_trans (Nat.mul_le_mul hd2 hd2) (by decide)
      rw [mul_cast, wr64 (by omega) (by omega)]
      refine rn_if (fun h1 => rn_gd (by omega) (rn_if (fun h2 => rn_some (.inr ⟨rfl, ?_⟩)) fun h2 => rn_some ?_)) fun h1 => rn_some (.inl ⟨rfl, by omega, fun k hk hkn => ?_⟩)
      · have h1 : d * d ≤ n := by have := of_decide_eq_true h1; omega
        rw [tmod_cast] at h2
        have h2 : n % d = 0 := by have : ((n % d : Nat) : Int) = 0 := by simpa using h2
                                  omega
        exact fun hp => hp.2 d hd h1 h2
      · have h1 : d * d ≤ n := by have := of_decide_eq_true h1; omega
        rw [tmod_cast] at h2
        have h2 : n % d ≠ 0 := by have : ¬ ((n % d : Nat) : Int) = 0 := by simpa using h2
                                  omega
        have hd3 : d ≤ 44722 := by
          rcases Nat.lt_or_ge d 44723 with h | h
          · omega
          · have : 44723 * 44723 ≤ d * d := Nat.mul_le_mul h h
            omega
        rw [wr64 (by omega) (by omega)]
        refine ⟨⟨d + 1, rfl, by omega, by omega, fun k h3 h4 h5 => ?_⟩, by omega⟩
        rcases Nat.lt_or_ge k d with h | h
        · exact hi k h3 h h5
        · have : k = d := by omega
          subst this
          exact h2
      · have h1 : n < d * d := by have := of_decide_eq_false h1; omega
        rcases Nat.lt_or_ge k d with h | h
        · exact hi k hk h hkn
        · have := Nat.mul_le_mul h h
          omega
    · rintro b (⟨rfl, hp⟩ | ⟨rfl, hp⟩)
      · exact rn_some (prB_t.2 hp).symm
      · refine rn_some ?_
        symm
        unfold prB
        rw [decide_eq_false_iff_not]
        exact hp
theorem n_isPrime (n : Int) : F_impl_isPrime n = some (decide (n ≤ 2000000000) && prB n) := by
  unfold F_impl_isPrime
  by_cases h : 2 ≤ n ∧ n ≤ 2000000000
  · obtain ⟨n, rfl⟩ := Int.eq_ofNat_of_zero_le (show 0 ≤ n by omega)
    have e2 : ((n : Int)).tmod 2 = ((n % 2 : Nat) : Int) := tmod_cast n 2
    have em : (decide (2 ≤ (n : Int)) && decide ((n : Int) ≤ 2000000000)) = true := by simp only [Bool.and_eq_true, decide_eq_true_eq]; exact h
    rw [show (decide ((n : Int) ≤ 2000000000) && prB (n : Int)) = prB (n : Int) by simp [h.2]]
    refine eq_of_rn (rn_then (ψ := fun b => b = decide (n % 2 = 0 ∧ n ≠ 2)) (rn_call (n_isModulus _) ?_) ?_)
    · rw [em]
      refine rn_f rfl ?_
      rw [e2]
      refine rn_if (fun h1 => rn_some ?_) fun h1 => rn_some ?_
      · have h1 : n % 2 = 0 := by have : ((n % 2 : Nat) : Int) = 0 := by simpa using h1
                                  omega
        have : ((n : Int) != 2) = decide (n ≠ 2) := by
          by_cases hn : n = 2
          · subst hn; rfl
          · have hn' : ¬ (n : Int) = 2 := by omega
            simp [hn, hn']
        rw [this]; simp [h1]
      · have h1 : n % 2 ≠ 0 := by have : ¬ ((n % 2 : Nat) : Int) = 0 := by simpa using h1
                                  omega
        simp [h1]
    · rintro b rfl
      refine rn_if (fun h1 => rn_some ?_) fun h1 => ?_
      · have h1 := of_decide_eq_true h1
        symm
        unfold prB
        rw [decide_eq_false_iff_not]
        intro hp
        have hn : 4 ≤ n := by omega
        exact hp.2 2 (by omega) hn h1.1
      · have h1 := of_decide_eq_false h1
        refine rn_then (ψ := fun b => (b = .inl () ∧ Pr n) ∨ (b = .inr false ∧ ¬ Pr n)) (rn_wloop (fun s => ∃ d : Nat, s = (d : Int) ∧ 3 ≤ d ∧ d % 2 = 1 ∧ d ≤ 44725 ∧ ∀ k, 2 ≤ k → k < d → k * k ≤ n → n % k ≠ 0) (fun s => 50000 - s.toNat) ⟨3, rfl, by omega, by omega, by omega, fun k h2 h3 h4 => ?_⟩ ?_) ?_
        · have : k = 2 := by omega
          subst this
          intro h5
          exact h1 ⟨h5, by omega⟩
        · rintro s ⟨d, rfl, hd, hodd, hd2, hi⟩
          have hdd : d * d ≤ 2000325625 := Nat.le_trans (Nat.mul_le_mul hd2 hd2) (by decide)
          rw [mul_cast, wr64 (by omega) (by omega)]
          refine rn_if (fun h1 => rn_gd (by omega) (rn_if (fun h2 => rn_some (.inr ⟨rfl, ?_⟩)) fun h2 => rn_some ?_)) fun h1 => rn_some (.inl ⟨rfl, by omega, fun k hk hkn => ?_⟩)
          · have h1 : d * d ≤ n := by have := of_decide_eq_true h1; omega
            rw [tmod_cast] at h2
            have h2 : n % d = 0 := by have : ((n % d : Nat) : Int) = 0 := by simpa using h2
                                      omega
            exact fun hp => hp.2 d (by omega) h1 h2
          · have h3 : d * d ≤ n := by have := of_decide_eq_true h1; omega
            rw [tmod_cast] at h2
            have h2 : n % d ≠ 0 := by have : ¬ ((n % d : Nat) : Int) = 0 := by simpa using h2
                                      omega
            have hd3 : d ≤ 44722 := by
              rcases Nat.lt_or_ge d 44723 with h | h
              · omega
              · have : 44723 * 44723 ≤ d * d := Nat.mul_le_mul h h
                omega
            rw [wr64 (by omega) (by omega)]
            refine ⟨⟨d + 2, rfl, by omega, by omega, by omega, fun k h4 h5 h6 h7 => ?_⟩, by omega⟩
            rcases Nat.lt_or_ge k d with h | h
            · exact hi k h4 h h6 h7
            · rcases (show k = d ∨ k = d + 1 by omega) with e | e
              · subst e; exact h2 h7
              · -- an even divisor
                have h8 : n % 2 = 0 := by
                  have a1 : k ∣ n := Nat.dvd_of_mod_eq_zero h7
                  have a2 : 2 ∣ k := Nat.dvd_of_mod_eq_zero (by omega)
                  exact Nat.mod_eq_zero_of_dvd (Nat.dvd_trans a2 a1)
                have h9 : 2 * 2 ≤ n := by
                  have := Nat.mul_le_mul h4 h4
                  omega
                exact hi 2 (by omega) (by omega) h9 h8
          · have h1 : n < d * d := by have := of_decide_eq_false h1; omega
            rcases Nat.lt_or_ge k d with h | h
            · exact hi k hk h hkn
            · have := Nat.mul_le_mul h h
              omega
        · rintro b (⟨rfl, hp⟩ | ⟨rfl, hp⟩)
          · exact rn_some (prB_t.2 hp).symm
          · refine rn_some ?_
            symm
            unfold prB
            rw [decide_eq_false_iff_not]
            exact hp
  · have em : (decide (2 ≤ n) && decide (n ≤ 2000000000)) = false := by
      rw [Bool.and_eq_false_iff, decide_eq_false_iff_not, decide_eq_false_iff_not]; omega
    rw [n_isModulus, em]
    simp only [Option.bind_some, Bool.not_false, if_true]
    congr 1
    symm
    rw [Bool.and_eq_false_iff, decide_eq_false_iff_not]
    by_cases hn : n ≤ 2000000000
    · right
      unfold prB
      rw [decide_eq_false_iff_not]
      intro hp
      have := hp.1
      omega
    · exact .inl hn
structure OkG (gr : Group) : Prop where
  p : 3 ≤ gr.P ∧ gr.P ≤ 2000000000
  q : 2 ≤ gr.Q ∧ gr.Q ≤ gr.P - 1
  d : (gr.P.toNat - 1) % gr.Q.toNat = 0
  g : 2 ≤ gr.G ∧ gr.G ≤ gr.P - 1
  pp : Pr gr.P.toNat
  pq : Pr gr.Q.toNat
  o : gr.G.toNat ^ gr.Q.toNat % gr.P.toNat = 1
open Classical in
noncomputable def okG (gr : Group) : Bool := decide (OkG gr)
theorem okG_t {gr : Group} : okG gr = true ↔ OkG gr := by simp [okG]
theorem okG_f {gr : Group} (h : ¬ OkG gr) : okG gr = false := by simp [okG, h]
theorem okG_of {gr : Group} {b : Bool} (h1 : b = true → OkG gr) (h2 : OkG gr → b = true) : b = okG gr := by
  cases hb : b with
  | true => exact (okG_t.2 (h1 hb)).symm
  | false => exact (okG_f fun h => by rw [h2 h] at hb; cases hb).symm
theorem cast_eq {a : Int} (h : 0 ≤ a) : a = ((a.toNat : Nat) : Int) := by omega
theorem n_powI {a e m : Int} (ha : 0 ≤ a) (ha2 : a ≤ 2000000000) (hm : 1 ≤ m) (hm2 : m ≤ 2000000000) (he : 0 ≤ e) (he2 : e ≤ 9223372036854775807) : F_impl_power a e m = some ((a.toNat ^ e.toNat % m.toNat : Nat) : Int) ∧ F_spec_nPower a e m = some ((a.toNat ^ e.toNat % m.toNat : Nat) : Int) := by
  have h1 := n_power (a := a.toNat) (e := e.toNat) (m := m.toNat) (by omega) (by omega) (by omega) (by omega)
  have h2 := n_nPower (a := a.toNat) (e := e.toNat) (m := m.toNat) (by omega) (by omega) (by omega) (by omega)
  rw [← cast_eq ha, ← cast_eq he, ← cast_eq (show 0 ≤ m by omega)] at h1 h2
  exact ⟨h1, h2⟩
theorem and_iff_t {a b : Bool} : (a && b) = true ↔ a = true ∧ b = true := by simp
theorem n_validG (gr : Group) : F_impl_IsValidGroup gr = some (okG gr) := by
  unfold F_impl_IsValidGroup
  refine eq_of_rn (rn_then (ψ := fun b => b = okG gr) ?_ fun b hb => rn_some hb)
  refine rn_call (n_within _ _ _) (rn_if (fun h => ?_) fun h => ?_)
  · have hp : 3 ≤ gr.P ∧ gr.P ≤ 2000000000 := by simpa using h
    rw [wr64 (n := gr.P - 1) (by omega) (by omega)]
    refine rn_call (n_within _ _ _) (rn_if (fun h => ?_) fun h => ?_)
    · have hq : 2 ≤ gr.Q ∧ gr.Q ≤ gr.P - 1 := by simpa using h
      have ed : (gr.P - 1).tmod gr.Q = (((gr.P.toNat - 1) % gr.Q.toNat : Nat) : Int) := by
        rw [cast_eq (show 0 ≤ gr.P - 1 by omega), cast_eq (show 0 ≤ gr.Q by omega), tmod_cast]
        simp only [Int.toNat_natCast]
        congr 2; omega
      refine rn_gd (by omega) ?_
      rw [ed]
      refine rn_if (fun h => ?_) fun h => ?_
      · have hd : (gr.P.toNat - 1) % gr.Q.toNat = 0 := by
          have : (((gr.P.toNat - 1) % gr.Q.toNat : Nat) : Int) = 0 := by simpa using h
          omega
        refine rn_call (n_within _ _ _) (rn_if (fun h => ?_) fun h => ?_)
        · have hg : 2 ≤ gr.G ∧ gr.G ≤ gr.P - 1 := by simpa using h
          refine rn_call (n_isPrime _) (rn_if (fun h => ?_) fun h => ?_)
          · have hpp : Pr gr.P.toNat := by
              rw [and_iff_t, cast_eq (show 0 ≤ gr.P by omega), prB_t] at h
              exact h.2
            refine rn_call (n_isPrime _) (rn_if (fun h => ?_) fun h => ?_)
            · have hpq : Pr gr.Q.toNat := by
                rw [and_iff_t, cast_eq (show 0 ≤ gr.Q by omega), prB_t] at h
                exact h.2
              refine rn_call (n_powI (a := gr.G) (e := gr.Q) (m := gr.P) (by omega) (by omega) (by omega) (by omega) (by omega) (by omega)).1 (rn_some (okG_of (fun h => ⟨hp, hq, hd, hg, hpp, hpq, ?_⟩) fun h => ?_))
              · have : ((gr.G.toNat ^ gr.Q.toNat % gr.P.toNat : Nat) : Int) = 1 := by simpa using h
                omega
              · rw [h.o]; rfl
            · refine rn_some (okG_f fun hk => ?_).symm
              have : (decide (gr.Q ≤ 2000000000) && prB gr.Q) = true := by
                rw [and_iff_t, cast_eq (show 0 ≤ gr.Q by omega), prB_t]
                exact ⟨by simp; omega, hk.pq⟩
              rw [this] at h; cases h
          · refine rn_some (okG_f fun hk => ?_).symm
            have : (decide (gr.P ≤ 2000000000) && prB gr.P) = true := by
              rw [and_iff_t, cast_eq (show 0 ≤ gr.P by omega), prB_t]
              exact ⟨by simp; omega, hk.pp⟩
            rw [this] at h; cases h
        · refine rn_some (okG_f fun hk => ?_).symm
          have := hk.g
          simp at h; omega
      · refine rn_some (okG_f fun hk => ?_).symm
        rw [hk.d] at h; cases h
    · refine rn_some (okG_f fun hk => ?_).symm
      have := hk.q
      simp at h; omega
  · refine rn_some (okG_f fun hk => ?_).symm
    have := hk.p
    simp at h; omega
theorem n_l2Good (gr : Group) : F_spec_l2Good gr = some (okG gr) := by
  unfold F_spec_l2Good
  refine eq_of_rn (rn_then (ψ := fun b => b = okG gr) ?_ fun b hb => rn_some hb)
  refine rn_call (n_l1In _ _ _) (rn_if (fun h => ?_) fun h => ?_)
  · have hp : 3 ≤ gr.P ∧ gr.P ≤ 2000000000 := by simpa using h
    rw [wr64 (n := gr.P - 1) (by omega) (by omega)]
    refine rn_call (n_l1In _ _ _) (rn_if (fun h => ?_) fun h => ?_)
    · have hq : 2 ≤ gr.Q ∧ gr.Q ≤ gr.P - 1 := by simpa using h
      have ed : (gr.P - 1).tmod gr.Q = (((gr.P.toNat - 1) % gr.Q.toNat : Nat) : Int) := by
        rw [cast_eq (show 0 ≤ gr.P - 1 by omega), cast_eq (show 0 ≤ gr.Q by omega), tmod_cast]
        simp only [Int.toNat_natCast]
        congr 2; omega
      refine rn_gd (by omega) ?_
      rw [ed]
      refine rn_if (fun h => ?_) fun h => ?_
      · have hd : (gr.P.toNat - 1) % gr.Q.toNat = 0 := by
          have : (((gr.P.toNat - 1) % gr.Q.toNat : Nat) : Int) = 0 := by simpa using h
          omega
        refine rn_call (n_l1In _ _ _) (rn_if (fun h => ?_) fun h => ?_)
        · have hg : 2 ≤ gr.G ∧ gr.G ≤ gr.P - 1 := by simpa using h
          refine rn_call (n_powI (a := gr.G) (e := gr.Q) (m := gr.P) (by omega) (by omega) (by omega) (by omega) (by omega) (by omega)).2 (rn_if (fun h => ?_) fun h => ?_)
          · have ho : gr.G.toNat ^ gr.Q.toNat % gr.P.toNat = 1 := by
              have : ((gr.G.toNat ^ gr.Q.toNat % gr.P.toNat : Nat) : Int) = 1 := by simpa using h
              omega
            refine rn_call (n_nPrime _ (by omega)) (rn_if (fun h => ?_) fun h => ?_)
            · have hpq : Pr gr.Q.toNat := by
                rw [cast_eq (show 0 ≤ gr.Q by omega), prB_t] at h
                exact h
              refine rn_call (n_nPrime _ (by omega)) (rn_some (okG_of (fun h => ⟨hp, hq, hd, hg, ?_, hpq, ho⟩) fun h => ?_))
              · rw [cast_eq (show 0 ≤ gr.P by omega), prB_t] at h
                exact h
              · rw [cast_eq (show 0 ≤ gr.P by omega), prB_t]
                exact h.pp
            · refine rn_some (okG_f fun hk => ?_).symm
              have : prB gr.Q = true := by
                rw [cast_eq (show 0 ≤ gr.Q by omega), prB_t]
                exact hk.pq
              rw [this] at h; cases h
          · refine rn_some (okG_f fun hk => ?_).symm
            rw [hk.o] at h; cases h
        · refine rn_some (okG_f fun hk => ?_).symm
          have := hk.g
          simp at h; omega
      · refine rn_some (okG_f fun hk => ?_).symm
        rw [hk.d] at h; cases h
    · refine rn_some (okG_f fun hk => ?_).symm
      have := hk.q
      simp at h; omega
  · refine rn_some (okG_f fun hk => ?_).symm
    have := hk.p
    simp at h; omega
-- elements
def hasB (gr : Group) (x : Int) : Bool := decide (1 ≤ x) && decide (x ≤ gr.P - 1) && decide (x.toNat ^ gr.Q.toNat % gr.P.toNat = 1)
def expB (gr : Group) (x : Int) : Bool := decide (0 ≤ x) && decide (x ≤ gr.Q - 1)
theorem n_gIs {gr : Group} (k : OkG gr) (l : List Int) : F_spec_gIs gr l = some (l.all (hasB gr)) := by
  have hp := k.p
  have hq := k.q
  unfold F_spec_gIs
  rw [wr64 (n := gr.P - 1) (by omega) (by omega)]
  refine eq_of_rn (rn_then (ψ := fun b => (b = .inl () ∧ l.all (hasB gr) = true) ∨ (b = .inr false ∧ l.all (hasB gr) = false)) (rn_rloop (fun i s => (l.take i).all (hasB gr) = true) rfl ?_ ?_) ?_)
  · rintro i s hi hI
    refine rn_ix hi (rn_then (ψ := fun b => b = !hasB gr l[i]) ?_ ?_)
    · refine rn_call (n_l1In _ _ _) (rn_if (fun h => rn_some ?_) fun h => ?_)
      · have h : (decide (1 ≤ l[i]) && decide (l[i] ≤ gr.P - 1)) = false := by rwa [Bool.not_eq_true'] at h
        simp [hasB, h]
      · have h : (decide (1 ≤ l[i]) && decide (l[i] ≤ gr.P - 1)) = true := by simpa using h
        have hx : 1 ≤ l[i] ∧ l[i] ≤ gr.P - 1 := by simpa using h
        refine rn_call (n_powI (a := l[i]) (e := gr.Q) (m := gr.P) (by omega) (by omega) (by omega) (by omega) (by omega) (by omega)).2 (rn_some ?_)
        simp only [hasB, h, Bool.true_and]
        by_cases h1 : l[i].toNat ^ gr.Q.toNat % gr.P.toNat = 1
        · simp [h1]
        · have : ¬ ((l[i].toNat ^ gr.Q.toNat % gr.P.toNat : Nat) : Int) = 1 := by omega
          simp only [bne, beq_false_of_ne this, decide_eq_false h1]
    · rintro b rfl
      refine rn_if (fun h => rn_some (.inr ⟨rfl, ?_⟩)) fun h => rn_some ?_
      · have h : hasB gr l[i] = false := by simpa using h
        rw [List.all_eq_false]
        exact ⟨l[i], List.getElem_mem hi, by simp [h]⟩
      · have h : hasB gr l[i] = true := by simpa using h
        show (l.take (i + 1)).all (hasB gr) = true
        rw [List.take_succ_eq_append_getElem hi, List.all_append, hI]
        simp [h]
  · rintro s hI
    rw [List.take_length] at hI
    exact .inl ⟨rfl, hI⟩
  · rintro b (⟨rfl, h⟩ | ⟨rfl, h⟩)
    · exact rn_some h.symm
    · exact rn_some h.symm
theorem n_l1All (l : List Int) (a b : Int) : F_spec_l1All l a b = some (l.all fun x => decide (a ≤ x) && decide (x ≤ b)) := by
  unfold F_spec_l1All
  refine eq_of_rn (rn_then (ψ := fun c => (c = .inl () ∧ (l.all fun x => decide (a ≤ x) && decide (x ≤ b)) = true) ∨ (c = .inr false ∧ (l.all fun x => decide (a ≤ x) && decide (x ≤ b)) = false)) (rn_rloop (fun i s => ((l.take i).all fun x => decide (a ≤ x) && decide (x ≤ b)) = true) rfl ?_ ?_) ?_)
  · rintro i s hi hI
    refine rn_ix hi (rn_call (n_l1In _ _ _) (rn_if (fun h => rn_some (.inr ⟨rfl, ?_⟩)) fun h => rn_some ?_))
    · rw [List.all_eq_false]
      exact ⟨l[i], List.getElem_mem hi, by rw [Bool.not_eq_true'] at h; rw [h]; simp⟩
    · show ((l.take (i + 1)).all fun x => decide (a ≤ x) && decide (x ≤ b)) = true
      rw [List.take_succ_eq_append_getElem hi, List.all_append, hI]
      simpa using h
  · rintro s hI
    rw [List.take_length] at hI
    exact .inl ⟨rfl, hI⟩
  · rintro c (⟨rfl, h⟩ | ⟨rfl, h⟩)
    · exact rn_some h.symm
    · exact rn_some h.symm
theorem n_gExps {gr : Group} (h : 0 ≤ gr.Q) (h2 : gr.Q ≤ 2000000000) (l : List Int) : F_spec_gExps gr l = some (l.all (expB gr)) := by
  unfold F_spec_gExps
  rw [wr64 (by omega) (by omega), n_l1All]; rfl
-- powers and products
def powG (gr : Group) (x e : Int) : Int := ((x.toNat ^ (e % gr.Q).toNat % gr.P.toNat : Nat) : Int)
theorem powG_bd {gr : Group} (k : OkG gr) (x e : Int) : 0 ≤ powG gr x e ∧ powG gr x e ≤ gr.P - 1 := by
  have hp := k.p
  unfold powG
  have := Nat.mod_lt (x.toNat ^ (e % gr.Q).toNat) (y := gr.P.toNat) (by omega)
  omega
theorem n_pow {gr : Group} (k : OkG gr) {x : Int} (h0 : 0 ≤ x) (h1 : x ≤ 2000000000) (e : Int) : F_impl_Group_pow gr x e = some (powG gr x e) ∧ F_spec_gExp gr x e = some (powG gr x e) := by
  have hp := k.p
  have hq := k.q
  have b1 : 0 ≤ e % gr.Q := Int.emod_nonneg _ (by omega)
  have b2 : e % gr.Q < gr.Q := Int.emod_lt_of_pos _ (by omega)
  have hw := n_powI (a := x) (e := e % gr.Q) (m := gr.P) (by omega) (by omega) (by omega) (by omega) b1 (by omega)
  unfold F_impl_Group_pow F_spec_gExp
  rw [n_mod (by omega) (by omega), n_nMod (by omega) (by omega), Option.bind_some, Option.bind_some, hw.1, hw.2]
  exact ⟨rfl, rfl⟩
theorem n_gExp {gr : Group} (k : OkG gr) {x : Int} (h0 : 0 ≤ x) (h1 : x ≤ 2000000000) (e : Int) : F_spec_gExp gr x e = some (powG gr x e) := by
  have hp := k.p
  have hq := k.q
  have b1 : 0 ≤ e % gr.Q := Int.emod_nonneg _ (by omega)
  have b2 : e % gr.Q < gr.Q := Int.emod_lt_of_pos _ (by omega)
  have hw := n_powI (a := x) (e := e % gr.Q) (m := gr.P) (by omega) (by omega) (by omega) (by omega) b1 (by omega)
  unfold F_spec_gExp
  rw [n_nMod (by omega) (by omega), Option.bind_some, hw.2]
  rfl
def mulG (gr : Group) (l : List Int) : Int := l.foldl (fun o x => o * x % gr.P) 1
theorem foldG_bd {gr : Group} (h : 1 ≤ gr.P) : ∀ (l : List Int) (o : Int), 0 ≤ o → o ≤ gr.P → (∀ x ∈ l, 0 ≤ x) → 0 ≤ l.foldl (fun o x => o * x % gr.P) o ∧ l.foldl (fun o x => o * x % gr.P) o ≤ gr.P := by
  intro l
  induction l with
  | nil => intro o h0 h1 _; exact ⟨h0, h1⟩
  | cons x l ih =>
    intro o h0 h1 h2
    exact ih _ (Int.emod_nonneg _ (by omega)) (Int.le_of_lt (Int.emod_lt_of_pos (o * x) (show 0 < gr.P by omega))) fun y hy => h2 y (List.mem_cons_of_mem _ hy)
theorem mul_eq (gr : Group) (l : List Int) : F_spec_gMul gr l = F_impl_Group_mul gr l := rfl
theorem n_mul {gr : Group} (k : OkG gr) {l : List Int} (hl : ∀ x ∈ l, 0 ≤ x ∧ x ≤ 2000000000) : F_impl_Group_mul gr l = some (mulG gr l) := by
  have hp := k.p
  unfold F_impl_Group_mul
  refine eq_of_rn (rn_then (ψ := fun b => b = mulG gr l) (rn_rloop (fun i s => s = (l.take i).foldl (fun o x => o * x % gr.P) 1) rfl ?_ ?_) fun b hb => rn_some hb)
  · rintro i s hi rfl
    have hb := foldG_bd (gr := gr) (by omega) (l.take i) 1 (by omega) (by omega) fun x hx => (hl x (List.mem_of_mem_take hx)).1
    have hx := hl l[i] (List.getElem_mem hi)
    refine rn_ix hi (rn_gd (by omega) (rn_some ?_))
    show _ = (l.take (i + 1)).foldl _ _
    rw [List.take_succ_eq_append_getElem hi, List.foldl_append]
    generalize (l.take i).foldl (fun o x => o * x % gr.P) 1 = o at hb ⊢
    have b1 : 0 ≤ o * l[i] := Int.mul_nonneg hb.1 hx.1
    have b2 : o * l[i] ≤ 2000000000 * 2000000000 := Int.mul_le_mul (by omega) hx.2 hx.1 (by omega)
    show (IntKind.i64.wrap (o * l[i])).tmod gr.P = o * l[i] % gr.P
    rw [wr64 (by omega) (by omega), Int.tmod_eq_emod_of_nonneg b1]
  · rintro s rfl
    rw [List.take_length]; rfl
theorem n_gMul {gr : Group} (k : OkG gr) {l : List Int} (hl : ∀ x ∈ l, 0 ≤ x ∧ x ≤ 2000000000) : F_spec_gMul gr l = some (mulG gr l) := by rw [mul_eq]; exact n_mul k hl
theorem mulG_bd {gr : Group} (k : OkG gr) {l : List Int} (hl : ∀ x ∈ l, 0 ≤ x ∧ x ≤ 2000000000) : 0 ≤ mulG gr l ∧ mulG gr l ≤ gr.P := by
  have hp := k.p
  exact foldG_bd (by omega) l 1 (by omega) (by omega) fun x hx => (hl x hx).1
theorem ite_m {α : Type} (b : Bool) (u v : α) : (if (!b) = true then some u else some v) = some (if b = true then v else u) := by cases b <;> rfl
theorem n_first {β : Type} {body : Int → Unit → Option (Stp Unit (Unit ⊕ β))} (m : Nat) (p : Nat → Bool) (val : Nat → β) (h : ∀ k, k < m → body (k : Int) () = some (if p k = true then .go () else .out (.inr (val k)))) :
    (rloop body (fun _ => .inl ()) m 0 () = some (.inl ()) ∧ ∀ k, k < m → p k = true) ∨ ∃ k, k < m ∧ p k = false ∧ (∀ j, j < k → p j = true) ∧ rloop body (fun _ => .inl ()) m 0 () = some (.inr (val k)) := by
  have key : Rn (rloop body (fun _ => Sum.inl ()) m 0 ()) (fun b => (b = .inl () ∧ ∀ k, k < m → p k = true) ∨ ∃ k, k < m ∧ p k = false ∧ (∀ j, j < k → p j = true) ∧ b = .inr (val k)) := by
    refine rn_rloop (fun k _ => ∀ j, j < k → p j = true) (fun j hj => by omega) ?_ fun s hs => .inl ⟨rfl, hs⟩
    intro k s hk hI
    refine ⟨_, h k hk, ?_⟩
    cases hp : p k with
    | true =>
      intro j hj
      rcases Nat.lt_or_ge j k with h | h
      · exact hI j h
      · have : j = k := by omega
        rw [this]; exact hp
    | false => exact .inr ⟨k, hk, hp, hI, rfl⟩
  obtain ⟨b, e, h1 | ⟨k, h1, h2, h3, h4⟩⟩ := key
  · exact .inl ⟨by rw [e, h1.1], h1.2⟩
  · exact .inr ⟨k, h1, h2, h3, by rw [e, h4]⟩
theorem areAll_gen {l : List Int} {p : Int → Bool} {f : Int → Option Bool} (hf : ∀ x ∈ l, f x = some (!p x)) :
    ((((rloop (σ := Unit) (β := Unit ⊕ Int) (fun i8 s7 => (ix l i8).bind fun x17 => (f x17).bind fun z20 => if z20 = true then (some (.out (.inr i8))) else (some (.go ()))) (fun s7 => .inl ()) (l.length) 0 () : Option (Unit ⊕ Int)).bind (Sum.elim (fun (x5 : Unit) => some (-1)) some)).bind fun z1 => some (decide (0 ≤ z1))).bind fun z1 => some (!z1)) = some (l.all p) := by
  rcases n_first l.length (fun k => (l[k]?).any p) (fun k => (k : Int)) (body := fun i8 s7 => (ix l i8).bind fun x17 => (f x17).bind fun z20 => if z20 = true then (some (.out (.inr i8))) else (some (.go ()))) (fun k hk => by
    rw [ix_at hk, Option.bind_some, hf _ (List.getElem_mem hk), Option.bind_some, List.getElem?_eq_getElem hk]
    exact ite_m _ _ _) with ⟨e, h1⟩ | ⟨k, h1, h2, h3, e⟩
  · rw [e]
    have : l.all p = true := by
      rw [List.all_eq_true]
      intro x hx
      obtain ⟨k, hk, rfl⟩ := List.mem_iff_getElem.1 hx
      have := h1 k hk
      rw [List.getElem?_eq_getElem hk] at this
      exact this
    rw [this]; rfl
  · rw [e]
    have : l.all p = false := by
      rw [List.all_eq_false]
      refine ⟨l[k], List.getElem_mem h1, ?_⟩
      rw [List.getElem?_eq_getElem h1] at h2
      simpa using h2
    rw [this]
    simp
theorem n_sGroup (gr : Group) : F_spec_sGroup gr = some (okG gr && decide (7 < gr.Q)) := by
  unfold F_spec_sGroup
  rw [n_l2Good]
  cases okG gr <;> simp
-- values of polynomials
def polyV (q : Int) (f : List Int) (x : Int) : Int := f.foldr (fun c a => (a * x + c) % q) 0
theorem polyV_bd {q : Int} (hq : 0 < q) (f : List Int) (x : Int) : 0 ≤ polyV q f x ∧ polyV q f x < q := by
  cases f with
  | nil => exact ⟨Int.le_refl _, hq⟩
  | cons c f => exact ⟨Int.emod_nonneg _ (by omega), Int.emod_lt_of_pos _ hq⟩
theorem n_evalPoly {q x : Int} {f : List Int} (hq : 0 < q) (hq2 : q ≤ 2000000000) (hx : 0 ≤ x) (hx2 : x ≤ 2000000000) (hf : ∀ c ∈ f, 0 ≤ c ∧ c ≤ 2000000000) (hl : f.length ≤ 1000000000000) : F_impl_evalPoly q f x = some (polyV q f x) := by
  unfold F_impl_evalPoly
  rw [wr64 (by omega) (by omega)]
  refine eq_of_rn (rn_then (ψ := fun r => r = polyV q f x) (rn_cloop f.length (fun k s => s = (polyV q (f.drop (f.length - k)) x, (f.length : Int) - k - 1)) ?_ ?_ ?_) fun r hr => rn_some hr)
  · simp [polyV]
  · rintro k s hk rfl
    have hi : (f.length : Int) - (k : Int) - 1 = ((f.length - k - 1 : Nat) : Int) := by omega
    have hlt : f.length - k - 1 < f.length := by omega
    have hd : f.drop (f.length - (k + 1)) = f[f.length - k - 1] :: f.drop (f.length - k) := by
      have e := List.drop_eq_getElem_cons (l := f) (i := f.length - k - 1) hlt
      rw [show f.length - (k + 1) = f.length - k - 1 by omega, e, show f.length - k - 1 + 1 = f.length - k by omega]
    have hb := polyV_bd hq (f.drop (f.length - k)) x
    have hc := hf _ (List.getElem_mem hlt)
    refine rn_t (by simp only [decide_eq_true_eq]; omega) (rn_gd (by omega) ?_)
    simp only [hi]
    refine rn_ix hlt (rn_gd (by omega) (rn_some ?_))
    show (_, _) = (_, _)
    rw [hd]
    show (_, _) = ((polyV q (f.drop (f.length - k)) x * x + f[f.length - k - 1]) % q, _)
    generalize polyV q (f.drop (f.length - k)) x = a at hb ⊢
    have b1 : 0 ≤ a * x := Int.mul_nonneg hb.1 hx
    have b2 : a * x ≤ 2000000000 * 2000000000 := Int.mul_le_mul (by omega) hx2 hx (by omega)
    have b3 : 0 ≤ a * x % q := Int.emod_nonneg _ (by omega)
    have b4 : a * x % q < q := Int.emod_lt_of_pos _ hq
    rw [wr64 (n := a * x) (by omega) (by omega), Int.tmod_eq_emod_of_nonneg b1, wr64 (n := a * x % q + _) (by omega) (by omega), Int.tmod_eq_emod_of_nonneg (by omega), Int.emod_add_emod, wr64 (by omega) (by omega)]
    congr 1
    omega
  · rintro s rfl
    refine rn_f (by simp only [decide_eq_false_iff_not]; omega) (rn_some ?_)
    show polyV q (f.drop (f.length - f.length)) x = _
    rw [Nat.sub_self, List.drop_zero]
def dg (q : Nat) : Nat → Nat → List Int
  | 0, _ => []
  | k + 1, n => ((n % q : Nat) : Int) :: dg q k (n / q)
def evI (f : List Int) (x : Int) : Int := f.foldr (fun c a => a * x + c) 0
theorem evI_cons (c : Int) (f : List Int) (x : Int) : evI (c :: f) x = evI f x * x + c := rfl
theorem mul_cg {q a b c d : Int} (h : a % q = b % q) (h' : c % q = d % q) : (a * c) % q = (b * d) % q := by rw [Int.mul_emod, h, h', ← Int.mul_emod]
theorem add_cg {q a b c d : Int} (h : a % q = b % q) (h' : c % q = d % q) : (a + c) % q = (b + d) % q := by rw [Int.add_emod, h, h', ← Int.add_emod]
theorem mod_cg (q a : Int) : (a % q) % q = a % q := Int.emod_emod_of_dvd a (Int.dvd_refl q)
theorem polyV_ev (q : Int) (f : List Int) (x : Int) : polyV q f x = evI f x % q := by
  induction f with
  | nil => simp [polyV, evI]
  | cons c f ih =>
    show (polyV q f x * x + c) % q = (evI f x * x + c) % q
    rw [ih]
    exact add_cg (mul_cg (mod_cg _ _) rfl) rfl
theorem evI_zero (n : Nat) (x : Int) : evI (List.replicate n 0) x = 0 := by
  induction n with
  | zero => rfl
  | succ n ih => rw [List.replicate_succ, evI_cons, ih]; simp
theorem pow_per {a n p e : Nat} (h : a ^ n % p = 1) : a ^ (e % n) % p = a ^ e % p := by
  have hp : 1 % p = 1 := by rw [← h, Nat.mod_mod]
  conv => rhs; rw [← Nat.div_add_mod e n]
  rw [Nat.pow_add, Nat.pow_mul, Nat.mul_mod, Nat.pow_mod (a ^ n), h, Nat.one_pow, hp, Nat.one_mul, Nat.mod_mod]
theorem has_pow {gr : Group} {x : Int} (h : hasB gr x = true) : 1 ≤ x ∧ x ≤ gr.P - 1 ∧ x.toNat ^ gr.Q.toNat % gr.P.toNat = 1 := by
  unfold hasB at h
  simp only [Bool.and_eq_true, decide_eq_true_eq] at h
  exact ⟨h.1.1, h.1.2, h.2⟩
theorem powG_mul {gr : Group} (k : OkG gr) {x : Int} (h : hasB gr x = true) {s l : Int} (hs : 0 ≤ s) (hl : 0 ≤ l) : powG gr (powG gr x s) l = powG gr x (s * l) := by
  obtain ⟨_, _, h3⟩ := has_pow h
  have hq := k.q
  obtain ⟨a, rfl⟩ := Int.eq_ofNat_of_zero_le hs
  obtain ⟨b, rfl⟩ := Int.eq_ofNat_of_zero_le hl
  obtain ⟨n, hn⟩ := Int.eq_ofNat_of_zero_le (show 0 ≤ gr.Q by omega)
  unfold powG
  rw [hn] at h3 ⊢
  rw [Int.toNat_natCast] at h3
  have e : ∀ c : Nat, ((c : Int) % (n : Int)).toNat = c % n := fun c => by rw [← Int.natCast_emod, Int.toNat_natCast]
  rw [mul_cast, e, e, e, Int.toNat_natCast, pow_per h3, pow_per h3, ← Nat.pow_mod, ← Nat.pow_mul]
  congr 1
  rw [Nat.pow_mul, Nat.pow_mod, pow_per (n := n) (e := b)]
  · rw [← Nat.pow_mod, ← Nat.pow_mul]
  · rw [← Nat.pow_mod, ← Nat.pow_mul, Nat.mul_comm, Nat.pow_mul, Nat.pow_mod, h3, Nat.one_pow, ← h3, Nat.mod_mod]
structure Bt (code : List Int) : Prop where
  b : ∀ x ∈ code, 0 ≤ x ∧ x ≤ 255
  l : code.length ≤ 1048576
structure Cu (code : List Int) (n : Int) (c : List Int × Int × Int) : Prop where
  e : c.1 = code
  lo : 0 ≤ c.2.1
  hi : c.2.1 ≤ n
theorem Cu.mono {code : List Int} {n m : Int} {c : List Int × Int × Int} (h : Cu code n c) (hn : n ≤ m) : Cu code m c := ⟨h.e, h.lo, Int.le_trans h.hi hn⟩
theorem low8 (x : BitVec IntKind.u64.bits) : 0 ≤ IntKind.i64.wrap (IntKind.u64.wrap ((x &&& BitVec.ofInt IntKind.u64.bits 255).toNat : Int)) ∧ IntKind.i64.wrap (IntKind.u64.wrap ((x &&& BitVec.ofInt IntKind.u64.bits 255).toNat : Int)) ≤ 255 := by
  have hy : (x &&& BitVec.ofInt IntKind.u64.bits 255).toNat ≤ 255 := by
    rw [BitVec.toNat_and]
    exact Nat.le_trans Nat.and_le_right (by decide)
  generalize (x &&& BitVec.ofInt IntKind.u64.bits 255).toNat = y at hy ⊢
  rw [wrU (by omega) (by omega), wr64 (by omega) (by omega)]
  omega
theorem n_next {code c0 : List Int} {at_ seed n : Int} (hb : Bt code) (h : Cu code n (c0, at_, seed)) (hn : n ≤ 9000000000000000) : Rn (F_spec_l1Cur_next__io0 c0 at_ seed) (fun z => 0 ≤ z.1 ∧ z.1 ≤ 255 ∧ Cu code (n + 1) z.2) := by
  obtain ⟨h1, h2, h3⟩ := h
  have h1 : c0 = code := h1
  have h2 : 0 ≤ at_ := h2
  have h3 : at_ ≤ n := h3
  subst h1
  have hw : IntKind.i64.wrap (at_ + 1) = at_ + 1 := wr64 (by omega) (by omega)
  unfold F_spec_l1Cur_next__io0
  refine rn_then (ψ := fun v => 0 ≤ v ∧ v ≤ 255) ?_ fun v hv => ?_
  · refine rn_if (fun g => ?_) fun g => rn_some (by omega)
    obtain ⟨k, rfl⟩ := Int.eq_ofNat_of_zero_le h2
    have hk : k < c0.length := by simp at g; omega
    have := hb.b _ (List.getElem_mem hk)
    exact rn_ix hk (rn_some (by rw [wr64 (by omega) (by omega)]; exact this))
  · simp only [hw]
    refine rn_if (fun g => rn_some ⟨hv.1, hv.2, rfl, by show 0 ≤ at_ + 1; omega, by show at_ + 1 ≤ n + 1; omega⟩) fun g => rn_some ?_
    exact ⟨(low8 _).1, (low8 _).2, rfl, by show 0 ≤ at_ + 1; omega, by show at_ + 1 ≤ n + 1; omega⟩
theorem n_pick {code c0 : List Int} {at_ seed n m : Int} (hb : Bt code) (h : Cu code n (c0, at_, seed)) (hn : n ≤ 8000000000000000) : Rn (F_spec_l1Cur_pick__io0 c0 at_ seed m) (fun z => 0 ≤ z.1 ∧ (m ≤ 1 → z.1 = 0) ∧ (1 < m → z.1 < m) ∧ z.1 ≤ 65535 ∧ Cu code (n + 2) z.2) := by
  unfold F_spec_l1Cur_pick__io0
  refine rn_if (fun g => rn_some ⟨Int.le_refl 0, fun _ => rfl, fun h => by simp at g; omega, by show (0 : Int) ≤ _; omega, h.mono (by omega)⟩) fun g => ?_
  have g : 1 < m := by simpa using g
  refine rn_then (n_next hb h (by omega)) fun z ⟨z1, z2, z3⟩ => ?_
  refine rn_then (ψ := fun x => 0 ≤ x.2 ∧ x.2 ≤ 65535 ∧ Cu code (n + 2) x.1) ?_ fun x ⟨x1, x2, x3⟩ => ?_
  · refine rn_if (fun _ => rn_then (n_next hb z3 (by omega)) fun y ⟨y1, y2, y3⟩ => rn_some ?_) fun _ => rn_some ⟨z1, by show z.1 ≤ _; omega, z3.mono (by omega)⟩
    rw [wr64 (n := z.1 * 256) (by omega) (by omega), wr64 (by omega) (by omega)]
    exact ⟨by show 0 ≤ z.1 * 256 + y.1; omega, by show z.1 * 256 + y.1 ≤ _; omega, y3.mono (by omega)⟩
  · refine rn_gd (by omega) (rn_some ?_)
    rw [Int.tmod_eq_emod_of_nonneg x1]
    have b1 := Int.emod_nonneg x.2 (show m ≠ 0 by omega)
    have b2 := Int.emod_lt_of_pos x.2 (show 0 < m by omega)
    have b3 : x.2 % m ≤ x.2 := by
      rcases Int.lt_or_le x.2 m with h | h
      · rw [Int.emod_eq_of_lt x1 h]; exact Int.le_refl _
      · omega
    exact ⟨b1, fun h => by omega, fun _ => b2, by show x.2 % m ≤ _; omega, x3⟩
theorem n_one {code c0 : List Int} {at_ seed n m : Int} (hb : Bt code) (h : Cu code n (c0, at_, seed)) (hn : n ≤ 8000000000000000) : Rn (F_spec_l1Cur_one__io0 c0 at_ seed m) (fun z => Cu code (n + 2) z.2) := by
  unfold F_spec_l1Cur_one__io0
  exact rn_then (n_pick hb h hn) fun z hz => rn_some hz.2.2.2.2
theorem n_amongM {code c0 : List Int} {at_ seed n : Int} {l : List Int} (hb : Bt code) (h : Cu code n (c0, at_, seed)) (hn : n ≤ 8000000000000000) (hl : l ≠ []) : Rn (F_spec_l1Cur_among__io0_mv1 c0 at_ seed l) (fun z => z.1 ∈ l ∧ Cu code (n + 2) z.2) := by
  unfold F_spec_l1Cur_among__io0_mv1
  refine rn_then (n_pick hb h hn) fun z ⟨z1, z2, z3, z4, z5⟩ => ?_
  have h0 : 0 < l.length := List.length_pos_iff.2 hl
  obtain ⟨k, hk⟩ := Int.eq_ofNat_of_zero_le z1
  have hlt : k < l.length := by
    rcases Nat.lt_or_ge 1 l.length with h | h
    · have := z3 (by omega); omega
    · have := z2 (by omega); omega
  rw [hk]
  exact rn_ix hlt (rn_some ⟨List.getElem_mem hlt, z5⟩)
theorem Pr_gcd {n d : Nat} (h : Pr n) (hd : d % n ≠ 0) : Nat.gcd n d = 1 := by
  obtain ⟨k, hk⟩ := Nat.gcd_dvd_left n d
  have hn := h.1
  have h0 : 0 < Nat.gcd n d := Nat.gcd_pos_of_pos_left d (by omega)
  have hdv := Nat.gcd_dvd_right n d
  generalize Nat.gcd n d = g at hk h0 hdv
  apply Classical.byContradiction
  intro hg
  have hg2 : 2 ≤ g := by omega
  have hk2 : 2 ≤ k := by
    rcases Nat.lt_or_ge k 2 with h | h
    · have : k = 0 ∨ k = 1 := by omega
      rcases this with rfl | rfl
      · omega
      · rw [Nat.mul_one] at hk
        rw [← hk] at hdv
        exact absurd (Nat.mod_eq_zero_of_dvd hdv) hd
    · exact h
  rcases Nat.le_total g k with h' | h'
  · exact h.2 g hg2 (by rw [hk]; exact Nat.mul_le_mul_left g h') (by rw [hk]; exact Nat.mul_mod_right g k)
  · exact h.2 k hk2 (by rw [hk]; exact Nat.mul_le_mul_right k h') (by rw [hk]; exact Nat.mul_mod_left g k)
theorem Pr_mul {n : Nat} (h : Pr n) {a b : Int} (hab : (a * b) % (n : Int) = 0) : a % (n : Int) = 0 ∨ b % (n : Int) = 0 := by
  have h1 : n ∣ a.natAbs * b.natAbs := by
    rw [← Int.natAbs_mul]
    exact Int.ofNat_dvd_left.1 (Int.dvd_of_emod_eq_zero hab)
  by_cases ha : a.natAbs % n = 0
  · exact .inl (Int.emod_eq_zero_of_dvd (Int.ofNat_dvd_left.2 (Nat.dvd_of_mod_eq_zero ha)))
  · exact .inr (Int.emod_eq_zero_of_dvd (Int.ofNat_dvd_left.2 (Nat.Coprime.dvd_of_dvd_mul_left (Pr_gcd h ha) h1)))
def evP (f : List Int) (x : Int) : Int := f.foldr (fun c a => a * x + c) 0
theorem evP_cons (c : Int) (f : List Int) (x : Int) : evP (c :: f) x = evP f x * x + c := rfl
def dvP (r : Int) : List Int → List Int
  | [] => []
  | [_] => []
  | _ :: c :: f => evP (c :: f) r :: dvP r (c :: f)
theorem dvP_len (r : Int) : ∀ f : List Int, (dvP r f).length = f.length - 1
  | [] => rfl
  | [_] => rfl
  | _ :: c :: f => by
    show (dvP r (c :: f)).length + 1 = _
    rw [dvP_len r (c :: f)]; simp
theorem dvP_ev (r x : Int) : ∀ f : List Int, evP f x = evP (dvP r f) x * (x - r) + evP f r
  | [] => by simp [dvP, evP]
  | [c] => by simp [dvP, evP]
  | d :: c :: f => by
    have ih := dvP_ev r x (c :: f)
    show evP (c :: f) x * x + d = (evP (dvP r (c :: f)) x * x + evP (c :: f) r) * (x - r) + (evP (c :: f) r * r + d)
    rw [ih]
    grind
theorem dvP_last (r : Int) : ∀ f : List Int, 2 ≤ f.length → (dvP r f).getLastD 0 = f.getLastD 0
  | [], h => absurd h (by simp)
  | [_], h => absurd h (by simp)
  | [d, c], _ => by simp [dvP, evP]
  | e :: d :: c :: f, _ => by
    have ih := dvP_last r (d :: c :: f) (by simp)
    show (evP (d :: c :: f) r :: evP (c :: f) r :: dvP r (c :: f)).getLastD 0 = _
    have : dvP r (d :: c :: f) = evP (c :: f) r :: dvP r (c :: f) := rfl
    rw [this] at ih
    simpa [List.getLastD] using ih
theorem rootsP {p : Nat} (hp : Pr p) : ∀ (n : Nat) (f : List Int), f.length = n + 1 → f.getLastD 0 % (p : Int) ≠ 0 → ∀ rs : List Int, rs.Pairwise (fun a b => (b - a) % (p : Int) ≠ 0) → (∀ r ∈ rs, evP f r % (p : Int) = 0) → rs.length ≤ n
  | 0, f, hl, hf, rs, hd, hr => by
    match f, hl with
    | [c], _ =>
      cases rs with
      | nil => simp
      | cons r rs =>
        have := hr r (List.mem_cons_self ..)
        simp [evP] at this
        exact absurd (by first | exact this | exact Int.emod_eq_zero_of_dvd this) (by simpa [List.getLastD] using hf)
  | n + 1, f, hl, hf, rs, hd, hr => by
    cases rs with
    | nil => simp
    | cons r rs =>
      have h1 := List.pairwise_cons.1 hd
      have := rootsP hp n (dvP r f) (by rw [dvP_len]; omega) (by rw [dvP_last r f (by omega)]; exact hf) rs h1.2 fun s hs => by
        have e := dvP_ev r s f
        have hs0 := hr s (List.mem_cons_of_mem _ hs)
        have hr0 := hr r (List.mem_cons_self ..)
        have hm : (evP (dvP r f) s * (s - r)) % (p : Int) = 0 := by
          rw [show evP (dvP r f) s * (s - r) = evP f s - evP f r by omega, Int.sub_emod, hs0, hr0]; simp
        rcases Pr_mul hp hm with h | h
        · exact h
        · exact absurd h (h1.1 s hs)
      simpa using this
theorem evP_mono (k : Nat) (x : Int) : evP (List.replicate k 0 ++ [1]) x = x ^ k := by
  induction k with
  | zero => simp [evP]
  | succ k ih => rw [List.replicate_succ, List.cons_append, evP_cons, ih, Int.pow_succ]; omega
theorem unity_roots {p n : Nat} (hp : Pr p) (hn : 1 ≤ n) (rs : List Int) (hd : rs.Pairwise (fun a b => (b - a) % (p : Int) ≠ 0)) (hr : ∀ r ∈ rs, r ^ n % (p : Int) = 1) : rs.length ≤ n := by
  have h2 := hp.1
  have hone : (1 : Int) % (p : Int) = 1 := Int.emod_eq_of_lt (by omega) (by omega)
  obtain ⟨k, rfl⟩ : ∃ k, n = k + 1 := ⟨n - 1, by omega⟩
  refine rootsP hp (k + 1) (-1 :: (List.replicate k 0 ++ [1])) (by simp) ?_ rs hd fun r hr' => ?_
  · have : (-1 :: (List.replicate k (0 : Int) ++ [1])).getLastD 0 = 1 := by
      rw [← List.cons_append, List.getLastD_concat]
    rw [this, hone]; omega
  · rw [evP_cons, evP_mono, ← Int.pow_succ, Int.add_emod, hr r hr']
    have : ((-1 : Int) % (p : Int)) = p - 1 := by
      have := Int.add_mul_emod_self_left (-1) (p : Int) 1
      rw [← this, Int.mul_one, Int.emod_eq_of_lt (by omega) (by omega)]; omega
    rw [this, show 1 + ((p : Int) - 1) = p by omega, Int.emod_self]
theorem not_unity {p n : Nat} (hp : Pr p) (hn : 1 ≤ n) (hnp : n < p - 1) : ∃ h : Nat, 2 ≤ h ∧ h < p ∧ h ^ n % p ≠ 1 := by
  apply Classical.byContradiction
  intro hc
  have h2 := hp.1
  have h1 : ∀ h : Nat, 1 ≤ h → h < p → h ^ n % p = 1 := fun h a b => by
    rcases Nat.lt_or_ge h 2 with c | c
    · have : h = 1 := by omega
      subst this
      rw [Nat.one_pow, Nat.mod_eq_of_lt (by omega)]
    · exact Classical.byContradiction fun d => hc ⟨h, c, b, d⟩
  have := unity_roots hp hn ((List.range (p - 1)).map fun k => ((k + 1 : Nat) : Int)) ?_ ?_
  · simp at this; omega
  · rw [List.pairwise_map]
    refine List.Pairwise.imp_of_mem ?_ List.pairwise_lt_range
    intro a b ha hb hab
    have hb := List.mem_range.1 hb
    rw [show ((b + 1 : Nat) : Int) - ((a + 1 : Nat) : Int) = ((b - a : Nat) : Int) by omega, ← Int.natCast_emod, Nat.mod_eq_of_lt (by omega)]
    omega
  · intro r hr
    obtain ⟨k, hk, rfl⟩ := List.mem_map.1 hr
    have hk := List.mem_range.1 hk
    rw [← Int.natCast_pow, ← Int.natCast_emod, h1 (k + 1) (by omega) (by omega)]; rfl
structure Gs (gr : Group) : Prop where
  p : 0 ≤ gr.P ∧ gr.P ≤ 2000000000
  q : 0 ≤ gr.Q ∧ gr.Q ≤ 1000000000
  g : 0 ≤ gr.G ∧ gr.G ≤ 2000000000
theorem mg_dvd {q k : Nat} (hq : 2 ≤ q) : ((1 + (k : Int) * (q : Int)) - 1).tdiv (q : Int) = (k : Int) := by
  rw [show (1 + (k : Int) * (q : Int)) - 1 = (k : Int) * (q : Int) by omega, Int.mul_tdiv_cancel _ (by omega)]
theorem n_MakeGroup {q : Nat} (hq2 : q ≤ 1000000) : Rn (F_spec_MakeGroup (q : Int)) (fun z => Gs z.1 ∧ (z.2 = true → z.1.Q = q ∧ 3 ≤ z.1.P) ∧ (∀ k : Nat, 1 ≤ k → Pr (1 + k * q) → 1 + k * q ≤ 2000000000 → Pr q → z.2 = true)) := by
  unfold F_spec_MakeGroup
  refine rn_then (ψ := fun b => b = !(decide (2 ≤ q) && prB (q : Int))) ?_ ?_
  · refine rn_call (n_l1In _ _ _) ?_
    by_cases h : 2 ≤ q
    · refine rn_f (by simp; omega) (rn_call (n_nPrime _ (by omega)) (rn_some ?_))
      simp [h]
    · refine rn_t (by simp; omega) (rn_some ?_)
      simp [h]
  · rintro _ rfl
    cases hc : (decide (2 ≤ q) && prB (q : Int))
    · refine rn_t rfl (rn_some ⟨⟨⟨by decide, by decide⟩, ⟨by decide, by decide⟩, by decide, by decide⟩, fun h => (by cases h), fun k h1 h2 h3 h4 => ?_⟩)
      rw [prB_t.2 h4] at hc
      have := h4.1
      simp at hc; omega
    · have hq : 2 ≤ q := by simp at hc; exact hc.1
      have hpq : Pr q := by simp at hc; exact prB_t.1 hc.2
      refine rn_f rfl ?_
      refine rn_then (ψ := fun b => (b = .inl () ∧ ∀ k : Nat, 1 ≤ k → Pr (1 + k * q) → ¬ 1 + k * q ≤ 2000000000) ∨ ∃ z : Group × Bool, b = .inr z ∧ Gs z.1 ∧ z.2 = true ∧ z.1.Q = q ∧ 3 ≤ z.1.P) ?_ ?_
      · rw [wr64 (by omega) (by omega)]
        refine rn_wloop (fun s => ∃ k : Nat, 1 ≤ k ∧ s = 1 + (k : Int) * (q : Int) ∧ s ≤ 2001000001 ∧ ∀ j : Nat, 1 ≤ j → j < k → ¬ Pr (1 + j * q)) (fun s => (2001000001 - s).toNat) ⟨1, by omega, by omega, by omega, fun j h1 h2 => by omega⟩ ?_
        rintro s ⟨k, hk, rfl, hs, hn⟩
        have hkq : k * 2 ≤ k * q := Nat.mul_le_mul_left k hq
        have hkc : (k : Int) * (q : Int) = ((k * q : Nat) : Int) := mul_cast k q
        refine rn_if (fun g => ?_) fun g => ?_
        · have g : 1 + (k : Int) * (q : Int) ≤ 2000000000 := by simpa using g
          refine rn_call (n_nPrime _ (by omega)) ?_
          have hcast : 1 + (k : Int) * (q : Int) = ((1 + k * q : Nat) : Int) := by omega
          cases hp : prB (1 + (k : Int) * (q : Int))
          · refine rn_t rfl (rn_some ?_)
            have e : IntKind.i64.wrap (1 + (k : Int) * (q : Int) + (q : Int)) = 1 + ((k + 1 : Nat) : Int) * (q : Int) := by
              rw [wr64 (by omega) (by omega)]; grind
            refine ⟨⟨k + 1, by omega, e, by rw [wr64 (by omega) (by omega)]; omega, fun j h1 h2 => ?_⟩, ?_⟩
            · rcases Nat.lt_or_ge j k with h | h
              · exact hn j h1 h
              · have : j = k := by omega
                subst this
                intro hpr
                rw [hcast, prB_t.2 hpr] at hp
                cases hp
            · rw [wr64 (by omega) (by omega)]; omega
          · refine rn_f rfl ?_
            have hpr : Pr (1 + k * q) := by rw [hcast] at hp; exact prB_t.1 hp
            obtain ⟨h0, a1, a2, a3⟩ := not_unity hpr hk (by omega)
            have hdv : IntKind.i64.wrap ((IntKind.i64.wrap (1 + (k : Int) * (q : Int) - 1)).tdiv (q : Int)) = (k : Int) := by
              rw [wr64 (n := 1 + (k : Int) * (q : Int) - 1) (by omega) (by omega), mg_dvd hq, wr64 (by omega) (by omega)]
            simp only [hdv]
            simp only [hcast]
            refine rn_then (ψ := fun h => 2 ≤ h ∧ h ≤ (h0 : Int)) (rn_wloop (fun s => 2 ≤ s ∧ s ≤ (h0 : Int)) (fun s => (h0 - s).toNat) (by omega) ?_) ?_
            · rintro s ⟨s1, s2⟩
              have hpw := (n_powI (a := s) (e := (k : Int)) (m := ((1 + k * q : Nat) : Int)) (by omega) (by omega) (by omega) (by omega) (by omega) (by omega)).2
              refine rn_gd (by omega) (rn_call hpw ?_)
              refine rn_if (fun g => rn_some ?_) fun g => rn_some ⟨s1, s2⟩
              rw [wr64 (by omega) (by omega)]
              have hne : s ≠ (h0 : Int) := fun e => by
                subst e
                apply a3
                have g : ((((h0 : Int).toNat ^ (k : Int).toNat % ((1 + k * q : Nat) : Int).toNat : Nat)) : Int) = 1 := by simpa only [beq_iff_eq] using g
                rw [Int.toNat_natCast, Int.toNat_natCast, Int.toNat_natCast] at g
                omega
              refine ⟨⟨by omega, by omega⟩, ?_⟩
              omega
            · rintro h ⟨s1, s2⟩
              have hpw := (n_powI (a := h) (e := (k : Int)) (m := ((1 + k * q : Nat) : Int)) (by omega) (by omega) (by omega) (by omega) (by omega) (by omega)).2
              refine rn_gd (by omega) (rn_call hpw (rn_some ?_))
              have hlt : h.toNat ^ (k : Int).toNat % ((1 + k * q : Nat) : Int).toNat < 1 + k * q := by
                rw [Int.toNat_natCast (1 + k * q)]
                exact Nat.mod_lt _ (by omega)
              refine .inr ⟨_, rfl, ⟨⟨by show (0 : Int) ≤ ((1 + k * q : Nat) : Int); omega, by show ((1 + k * q : Nat) : Int) ≤ _; omega⟩, ⟨by show (0 : Int) ≤ (q : Int); omega, by show (q : Int) ≤ _; omega⟩, ?_, ?_⟩, rfl, rfl, by show (3 : Int) ≤ ((1 + k * q : Nat) : Int); omega⟩
              · show (0 : Int) ≤ ((_ : Nat) : Int); omega
              · show ((_ : Nat) : Int) ≤ 2000000000; omega
        · refine rn_some (.inl ⟨rfl, fun j h1 h2 h3 => ?_⟩)
          have g : ¬ 1 + (k : Int) * (q : Int) ≤ 2000000000 := by simpa using g
          rcases Nat.lt_or_ge j k with h | h
          · exact hn j h1 h h2
          · have : k * q ≤ j * q := Nat.mul_le_mul_right q h
            omega
      · rintro b (⟨rfl, h⟩ | ⟨z, rfl, h1, h2, h3, h4⟩)
        · exact rn_some ⟨⟨⟨by decide, by decide⟩, ⟨by decide, by decide⟩, by decide, by decide⟩, fun h => (by cases h), fun k h1 h2 h3 h4 => absurd h3 (h k h1 h2)⟩
        · exact rn_some ⟨h1, fun _ => ⟨h3, h4⟩, fun _ _ _ _ _ => h2⟩
theorem Pr64 {n : Nat} (hn : n < 64) (h2 : 2 ≤ n) (h : ∀ d, d < 8 → 2 ≤ d → d * d ≤ n → n % d ≠ 0) : Pr n := by
  refine ⟨h2, fun d h1 h3 => ?_⟩
  rcases Nat.lt_or_ge d 8 with h8 | h8
  · exact h d h8 h1 h3
  · have : 8 * 8 ≤ d * d := Nat.mul_le_mul h8 h8
    omega
structure Gw (gr : Group) : Prop where
  p : -10 ≤ gr.P ∧ gr.P ≤ 2100000000
  q : -10 ≤ gr.Q ∧ gr.Q ≤ 2100000000
  g : -10 ≤ gr.G ∧ gr.G ≤ 2100000000
theorem Gs.w {gr : Group} (h : Gs gr) : Gw gr := ⟨by have := h.p; omega, by have := h.q; omega, by have := h.g; omega⟩
theorem tiny_q {x : Int} (hx : x ∈ [(3 : Int), 5, 5, 7, 11, 11, 13, 23]) : ∃ q k : Nat, x = (q : Int) ∧ 3 ≤ q ∧ q ≤ 23 ∧ 1 ≤ k ∧ Pr (1 + k * q) ∧ 1 + k * q ≤ 2000000000 ∧ Pr q := by
  simp only [List.mem_cons, List.not_mem_nil, or_false] at hx
  rcases hx with rfl | rfl | rfl | rfl | rfl | rfl | rfl | rfl
  · exact ⟨3, 2, rfl, by decide, by decide, by decide, Pr64 (by decide) (by decide) (by decide), by decide, Pr64 (by decide) (by decide) (by decide)⟩
  · exact ⟨5, 2, rfl, by decide, by decide, by decide, Pr64 (by decide) (by decide) (by decide), by decide, Pr64 (by decide) (by decide) (by decide)⟩
  · exact ⟨5, 2, rfl, by decide, by decide, by decide, Pr64 (by decide) (by decide) (by decide), by decide, Pr64 (by decide) (by decide) (by decide)⟩
  · exact ⟨7, 4, rfl, by decide, by decide, by decide, Pr64 (by decide) (by decide) (by decide), by decide, Pr64 (by decide) (by decide) (by decide)⟩
  · exact ⟨11, 2, rfl, by decide, by decide, by decide, Pr64 (by decide) (by decide) (by decide), by decide, Pr64 (by decide) (by decide) (by decide)⟩
  · exact ⟨11, 2, rfl, by decide, by decide, by decide, Pr64 (by decide) (by decide) (by decide), by decide, Pr64 (by decide) (by decide) (by decide)⟩
  · exact ⟨13, 4, rfl, by decide, by decide, by decide, Pr64 (by decide) (by decide) (by decide), by decide, Pr64 (by decide) (by decide) (by decide)⟩
  · exact ⟨23, 2, rfl, by decide, by decide, by decide, Pr64 (by decide) (by decide) (by decide), by decide, Pr64 (by decide) (by decide) (by decide)⟩
theorem n_tiny {code c0 : List Int} {at_ seed n : Int} (hb : Bt code) (h : Cu code n (c0, at_, seed)) (hn : n ≤ 7000000000000000) : Rn (F_spec_l1Cur_tiny__io0 c0 at_ seed) (fun z => Gs z.1 ∧ 3 ≤ z.1.Q ∧ z.1.Q ≤ 23 ∧ 3 ≤ z.1.P ∧ Cu code (n + 2) z.2) := by
  unfold F_spec_l1Cur_tiny__io0
  refine rn_then (n_amongM hb h (by omega) (by simp)) fun z ⟨z1, z2⟩ => ?_
  obtain ⟨q, k, e, q1, q2, k1, k2, k3, k4⟩ := tiny_q z1
  rw [e]
  refine rn_then (n_MakeGroup (by omega)) fun y ⟨y1, y2, y3⟩ => rn_some ?_
  have y4 := y2 (y3 k k1 k2 k3 k4)
  exact ⟨y1, by show 3 ≤ y.1.Q; omega, by show y.1.Q ≤ 23; omega, y4.2, z2⟩
theorem n_gExpT {gr : Group} (h : Gs gr) (hq : 1 ≤ gr.Q) (hp : 1 ≤ gr.P) {x : Int} (hx : 0 ≤ x ∧ x ≤ 2000000000) (e : Int) : Rn (F_spec_gExp gr x e) (fun v => 0 ≤ v ∧ v ≤ 2000000000) := by
  have h1 := h.p
  have h2 := h.q
  have b1 : 0 ≤ e % gr.Q := Int.emod_nonneg _ (by omega)
  have b2 : e % gr.Q < gr.Q := Int.emod_lt_of_pos _ (by omega)
  have hw := (n_powI (a := x) (e := e % gr.Q) (m := gr.P) (by omega) (by omega) (by omega) (by omega) b1 (by omega)).2
  unfold F_spec_gExp
  refine rn_call (n_nMod (by omega) (by omega)) (rn_call hw (rn_some ?_))
  have hlt : x.toNat ^ (e % gr.Q).toNat % gr.P.toNat < gr.P.toNat := Nat.mod_lt _ (by omega)
  omega
theorem big_q {x : Int} (hx : x ∈ [(101 : Int), 1009, 1019, 65537, 999983]) : ∃ q : Nat, x = (q : Int) ∧ q ≤ 1000000 := by
  simp only [List.mem_cons, List.not_mem_nil, or_false] at hx
  rcases hx with rfl | rfl | rfl | rfl | rfl
  · exact ⟨101, rfl, by decide⟩
  · exact ⟨1009, rfl, by decide⟩
  · exact ⟨1019, rfl, by decide⟩
  · exact ⟨65537, rfl, by decide⟩
  · exact ⟨999983, rfl, by decide⟩
theorem gs_big : Gs (Group.mk 1000000007 500000003 4) := ⟨⟨by decide, by decide⟩, ⟨by decide, by decide⟩, by decide, by decide⟩
theorem cu0 (code : List Int) : Cu code 0 (code, 0, 0) := ⟨rfl, Int.le_refl 0, Int.le_refl 0⟩
theorem n_group {code c0 : List Int} {at_ seed n : Int} (hb : Bt code) (h : Cu code n (c0, at_, seed)) (hn : n ≤ 6000000000000000) : Rn (F_spec_l1Cur_group__io0 c0 at_ seed) (fun z => Gs z.1 ∧ Cu code (n + 6) z.2) := by
  unfold F_spec_l1Cur_group__io0
  refine rn_then (n_pick hb h (by omega)) fun z ⟨z1, z2, z3, z4, z5⟩ => ?_
  refine rn_if (fun _ => rn_some ⟨gs_big, z5.mono (by omega)⟩) fun _ => rn_if (fun _ => ?_) fun _ => ?_
  · refine rn_then (n_amongM hb z5 (by omega) (by simp)) fun y ⟨y1, y2⟩ => ?_
    obtain ⟨q, e, hq⟩ := big_q y1
    rw [e]
    exact rn_then (n_MakeGroup hq) fun x ⟨x1, _, _⟩ => rn_some ⟨x1, y2.mono (by omega)⟩
  · refine rn_then (n_tiny hb z5 (by omega)) fun y ⟨y1, y2, y3, y4, y5⟩ => ?_
    refine rn_then (n_pick hb y5 (by omega)) fun x ⟨x1, x2, x3, x4, x5⟩ => ?_
    have hg := y1.g
    refine rn_then (n_gExpT y1 (by omega) (by omega) hg _) fun v hv => rn_some ⟨⟨y1.p, y1.q, hv⟩, x5.mono (by omega)⟩
theorem n_anyGroup {code c0 : List Int} {at_ seed n : Int} (hb : Bt code) (h : Cu code n (c0, at_, seed)) (hn : n ≤ 5000000000000000) : Rn (F_spec_l1Cur_anyGroup__io0 c0 at_ seed) (fun z => Gw z.1 ∧ Cu code (n + 10) z.2) := by
  unfold F_spec_l1Cur_anyGroup__io0
  refine rn_then (n_group hb h (by omega)) fun z ⟨z1, z2⟩ => ?_
  have g1 := z1.p
  have g2 := z1.q
  have g3 := z1.g
  refine rn_then (n_pick hb z2 (by omega)) fun y ⟨_, _, _, _, y5⟩ => ?_
  rw [wr64 (n := z.1.P + 2) (by omega) (by omega), wr64 (n := z.1.Q + 1) (by omega) (by omega), wr64 (n := z.1.P - 1) (by omega) (by omega), wr64 (n := z.1.G + 1) (by omega) (by omega)]
  refine rn_then (ψ := fun x => Gw (Group.mk x.2.1 x.2.2.1 x.2.2.2) ∧ Cu code (n + 10) x.1) ?_ fun x hx => rn_some hx
  refine rn_if (fun _ => ?_) fun _ => rn_if (fun _ => ?_) fun _ => rn_if (fun _ => ?_) fun _ => rn_some ⟨z1.w, y5.mono (by omega)⟩
  · refine rn_then (n_amongM hb y5 (by omega) (by simp)) fun x ⟨x1, x2⟩ => rn_some ⟨?_, x2.mono (by omega)⟩
    simp only [List.mem_cons, List.not_mem_nil, or_false] at x1
    exact ⟨by show -10 ≤ x.1 ∧ x.1 ≤ _; omega, by show -10 ≤ z.1.Q ∧ z.1.Q ≤ _; omega, by show -10 ≤ z.1.G ∧ z.1.G ≤ _; omega⟩
  · refine rn_then (n_amongM hb y5 (by omega) (by simp)) fun x ⟨x1, x2⟩ => rn_some ⟨?_, x2.mono (by omega)⟩
    simp only [List.mem_cons, List.not_mem_nil, or_false] at x1
    exact ⟨by show -10 ≤ z.1.P ∧ z.1.P ≤ _; omega, by show -10 ≤ x.1 ∧ x.1 ≤ _; omega, by show -10 ≤ z.1.G ∧ z.1.G ≤ _; omega⟩
  · refine rn_then (n_amongM hb y5 (by omega) (by simp)) fun x ⟨x1, x2⟩ => rn_some ⟨?_, x2.mono (by omega)⟩
    simp only [List.mem_cons, List.not_mem_nil, or_false] at x1
    exact ⟨by show -10 ≤ z.1.P ∧ z.1.P ≤ _; omega, by show -10 ≤ z.1.Q ∧ z.1.Q ≤ _; omega, by show -10 ≤ x.1 ∧ x.1 ≤ _; omega⟩
theorem n_expo {code c0 : List Int} {at_ seed n : Int} {gr : Group} (hb : Bt code) (h : Cu code n (c0, at_, seed)) (hn : n ≤ 7000000000000000) (hg : gr.Q ≤ 2100000000) : Rn (F_spec_l1Cur_expo__io0 c0 at_ seed gr) (fun z => 0 ≤ z.1 ∧ z.1 ≤ 2100000000 ∧ (2 ≤ gr.Q → z.1 < gr.Q) ∧ Cu code (n + 4) z.2) := by
  unfold F_spec_l1Cur_expo__io0
  refine rn_if (fun g => rn_some ⟨Int.le_refl 0, by show (0 : Int) ≤ _; omega, fun h => by simp at g; omega, h.mono (by omega)⟩) fun g => ?_
  have g : 2 ≤ gr.Q := by simp at g; omega
  refine rn_then (n_pick hb h (by omega)) fun z ⟨z1, z2, z3, z4, z5⟩ => ?_
  refine rn_then (n_pick hb z5 (by omega)) fun y ⟨y1, y2, y3, y4, y5⟩ => rn_gd (by omega) (rn_some ?_)
  rw [wr64 (n := z.1 * 60000) (by omega) (by omega), wr64 (by omega) (by omega), Int.tmod_eq_emod_of_nonneg (by omega)]
  have b1 := Int.emod_nonneg (z.1 * 60000 + y.1) (show gr.Q ≠ 0 by omega)
  have b2 := Int.emod_lt_of_pos (z.1 * 60000 + y.1) (show 0 < gr.Q by omega)
  exact ⟨b1, by show _ % gr.Q ≤ _; omega, fun _ => b2, y5.mono (by omega)⟩
theorem n_nModW {a q : Int} (h0 : 0 < q) (h1 : q ≤ 4000000000000000000) : F_spec_nMod a q = some (a % q) := by
  unfold F_spec_nMod
  rw [gd_t (by omega), gd_t (by omega)]
  have b1 : a.tmod q < q := Int.tmod_lt_of_pos a h0
  have b2 : -q < a.tmod q := by
    have := Int.lt_tmod_of_pos a h0
    omega
  rw [wr64 (by omega) (by omega), Int.tmod_eq_emod_of_nonneg (by omega)]
  congr 1
  rw [Int.add_emod_right]
  rw [Int.tmod_def, Int.sub_emod, Int.mul_emod_right, Int.sub_zero, Int.emod_emod]
theorem tmod_bd (a : Int) {m : Int} (h : 0 < m) : -m < a.tmod m ∧ a.tmod m < m := by
  have h1 := Int.tmod_lt_of_pos a h
  have h2 := Int.lt_tmod_of_pos a h
  omega
theorem n_nPowerT (a : Int) {e m : Int} (h1 : 1 ≤ m) (h2 : 0 ≤ e) (h3 : e ≤ 4000000000000000000) : Rn (F_spec_nPower a e m) (fun v => -m < v ∧ v < m) := by
  unfold F_spec_nPower
  refine rn_gd (by omega) (rn_then (ψ := fun v => -m < v ∧ v < m) (rn_wloop (fun s => (-m < s.2.2 ∧ s.2.2 < m) ∧ 0 ≤ s.2.1 ∧ s.2.1 ≤ e) (fun s => s.2.1.toNat) ⟨tmod_bd _ (by omega), h2, Int.le_refl _⟩ ?_) fun x hx => rn_some hx)
  rintro s ⟨hs, h4, h5⟩
  refine rn_if (fun g => ?_) fun _ => rn_some hs
  have g : 0 < s.2.1 := by simpa using g
  refine rn_then (ψ := fun v => -m < v ∧ v < m) (rn_if (fun _ => rn_gd (by omega) (rn_some (tmod_bd _ (by omega)))) fun _ => rn_some hs) fun x hx => rn_gd (by omega) (rn_some ?_)
  have e1 : s.2.1.tdiv 2 = s.2.1 / 2 := Int.tdiv_eq_ediv_of_nonneg (by omega)
  have e2 : IntKind.i64.wrap (s.2.1.tdiv 2) = s.2.1 / 2 := by rw [e1, wr64 (by omega) (by omega)]
  exact ⟨⟨hx, by show 0 ≤ IntKind.i64.wrap _; rw [e2]; omega, by show IntKind.i64.wrap _ ≤ e; rw [e2]; omega⟩, by show (IntKind.i64.wrap _).toNat < _; rw [e2]; omega⟩
theorem n_gExpW {gr : Group} (hq : 1 ≤ gr.Q ∧ gr.Q ≤ 4000000000000000000) (hp : 1 ≤ gr.P) (x e : Int) : Rn (F_spec_gExp gr x e) (fun v => -gr.P < v ∧ v < gr.P) := by
  unfold F_spec_gExp
  refine rn_call (n_nModW (by omega) hq.2) (rn_then (n_nPowerT x hp (Int.emod_nonneg _ (by omega)) ?_) fun v hv => rn_some hv)
  have := Int.emod_lt_of_pos e (show 0 < gr.Q by omega)
  omega
theorem n_element {code c0 : List Int} {at_ seed n : Int} {gr : Group} (hb : Bt code) (h : Cu code n (c0, at_, seed)) (hn : n ≤ 6000000000000000) (hg : Gw gr) : Rn (F_spec_l1Cur_element__io0 c0 at_ seed gr) (fun z => -2200000000 ≤ z.1 ∧ z.1 ≤ 2200000000 ∧ Cu code (n + 4) z.2) := by
  have g1 := hg.p
  have g2 := hg.q
  unfold F_spec_l1Cur_element__io0
  refine rn_then (ψ := fun b => b = false → 3 ≤ gr.P ∧ 1 ≤ gr.Q) (rn_if (fun _ => rn_some fun h => by cases h) fun a => rn_some fun b => by simp at a b; omega) fun b hb' => rn_if (fun _ => rn_some ⟨by show -2200000000 ≤ (1 : Int); decide, by show (1 : Int) ≤ _; decide, h.mono (by omega)⟩) fun e => ?_
  obtain ⟨k1, k2⟩ := hb' e
  refine rn_call (n_nModW (by omega) (by omega)) (rn_then (n_expo hb h (by omega) (by omega)) fun z ⟨z1, z2, _, z3⟩ => rn_then (n_gExpW ⟨k2, by omega⟩ (by omega) _ _) fun v hv => rn_some ⟨by show _ ≤ v; omega, by show v ≤ _; omega, z3⟩)
def byL (s : ByteArray) : List Int := s.data.toList.map fun b => (b.toNat : Int)
theorem byL_len (s : ByteArray) : (byL s).length = s.size := by
  show (s.data.toList.map _).length = s.data.size
  rw [List.length_map, Array.length_toList]
theorem byL_bd (s : ByteArray) : ∀ x ∈ byL s, 0 ≤ x ∧ x ≤ 255 := by
  intro x hx
  obtain ⟨b, _, rfl⟩ := List.mem_map.1 hx
  have := b.toNat_lt
  omega
theorem ixs_at {s : ByteArray} {k : Nat} (h : k < s.size) : ixs s (k : Int) = some ((byL s)[k]'(by rw [byL_len]; exact h)) := by
  have h2 : k < s.data.size := h
  simp [ixs, byL, h]
  rfl
theorem n_with (s : ByteArray) (l : List Int) (hs : s.size ≤ 1000000) (hl : l.length ≤ 1000000000000) : F_spec_l3With s l = some ((s.size : Int) :: byL s ++ l) := by
  unfold F_spec_l3With
  refine eq_of_rn (rn_then (ψ := fun x => x = (s.size : Int) :: byL s) (rn_cloop s.size (fun n p => n ≤ s.size ∧ p = ((s.size : Int) :: (byL s).take n, (n : Int))) ⟨by omega, by simp⟩ ?_ ?_) ?_)
  · rintro n p hn ⟨_, rfl⟩
    have hn2 : n < (byL s).length := by rw [byL_len]; exact hn
    have hb := byL_bd s _ (List.getElem_mem hn2)
    refine rn_if (fun _ => ?_) fun h => absurd h (by simp; omega)
    refine rn_call (ixs_at hn) (rn_gd ?_ (rn_some ⟨by omega, ?_⟩))
    · simp only [List.length_cons, List.length_take, byL_len]; omega
    · show ((s.size : Int) :: (byL s).take n ++ [_], _) = _
      rw [wr64 (by omega) (by omega), wr64 (by omega) (by omega), List.cons_append, List.take_append_getElem hn2]
      rfl
  · rintro p ⟨_, rfl⟩
    refine rn_if (fun h => absurd h (by simp)) fun _ => rn_some ?_
    show (s.size : Int) :: (byL s).take s.size = _
    rw [List.take_of_length_le (by rw [byL_len]; omega)]
  · rintro _ rfl
    refine rn_gd ?_ (rn_some rfl)
    simp only [List.length_cons, byL_len]; omega
theorem n_labelled (s : ByteArray) (l : List Int) (hs : s.size ≤ 1000000) (hl : l.length ≤ 1000000000000) : F_impl_labelled s l = some ((s.size : Int) :: byL s ++ l) := n_with s l hs hl
def digB (x : Int) : Bool := decide (0 ≤ x) && decide (x ≤ 4611686018427387903)
theorem digB_t {x : Int} : digB x = true ↔ 0 ≤ x ∧ x ≤ 4611686018427387903 := by simp [digB]
theorem n_isDigest (x : Int) : F_impl_isDigest x = some (digB x) := by
  unfold F_impl_isDigest
  rw [n_within]; rfl
theorem n_l3Digest (x : Int) : F_spec_l3Digest x = some (digB x) := by
  unfold F_spec_l3Digest
  rw [n_l1In]; rfl
theorem byL_dig (s : ByteArray) : (byL s).all digB = true := by
  rw [List.all_eq_true]
  intro x hx
  have := byL_bd s x hx
  exact digB_t.2 ⟨by omega, by omega⟩
def hs1 (c s k : Int) : Int := (c * s + k + 1) % 2147483647
def absH (p : Int × Int) (x : Int) : Int × Int := (hs1 48271 (hs1 48271 p.1 (x % 2147483648)) (x / 2147483648), hs1 69621 (hs1 69621 p.2 (x % 2147483648)) (x / 2147483648))
def hashN (l : List Int) : Int := let p := (((l.length : Int) :: l).foldl absH (1, 2)); p.1 * 2147483648 + p.2
theorem hs1_bd (c s k : Int) : 0 ≤ hs1 c s k ∧ hs1 c s k ≤ 2147483646 := by unfold hs1; omega
theorem hs1_eq {c s k : Int} (hc : c = 48271 ∨ c = 69621) (hs : 0 ≤ s ∧ s ≤ 2147483646) (hk : 0 ≤ k ∧ k ≤ 2147483648) : (IntKind.i64.wrap ((IntKind.i64.wrap ((IntKind.i64.wrap (c * s)) + k)) + 1)).tmod 2147483647 = hs1 c s k := by
  rcases hc with rfl | rfl
  · rw [wr64 (n := 48271 * s) (by omega) (by omega), wr64 (n := 48271 * s + k) (by omega) (by omega), wr64 (by omega) (by omega), Int.tmod_eq_emod_of_nonneg (by omega)]; rfl
  · rw [wr64 (n := 69621 * s) (by omega) (by omega), wr64 (n := 69621 * s + k) (by omega) (by omega), wr64 (by omega) (by omega), Int.tmod_eq_emod_of_nonneg (by omega)]; rfl
def okP (p : Int × Int) : Prop := (0 ≤ p.1 ∧ p.1 ≤ 2147483646) ∧ (0 ≤ p.2 ∧ p.2 ≤ 2147483646)
theorem absH_ok (p : Int × Int) (x : Int) : okP (absH p x) := ⟨hs1_bd _ _ _, hs1_bd _ _ _⟩
theorem fold_ok : ∀ (l : List Int) (p : Int × Int), okP p → okP (l.foldl absH p)
  | [], _, h => h
  | x :: l, p, _ => fold_ok l _ (absH_ok p x)
theorem hashN_dig (l : List Int) : digB (hashN l) = true := by
  obtain ⟨h1, h2⟩ := fold_ok ((l.length : Int) :: l) (1, 2) ⟨by decide, by decide⟩
  refine digB_t.2 ?_
  unfold hashN
  dsimp only
  omega
theorem n_absorb {p : Int × Int} {x : Int} (hp : okP p) (hx : digB x = true) : F_spec_l3State_absorb__io0 p.1 p.2 x = some (absH p x) := by
  obtain ⟨h1, h2⟩ := hp
  have hx := digB_t.1 hx
  have e1 : x.tmod 2147483648 = x % 2147483648 := Int.tmod_eq_emod_of_nonneg hx.1
  have e2 : IntKind.i64.wrap (x.tdiv 2147483648) = x / 2147483648 := by
    rw [Int.tdiv_eq_ediv_of_nonneg hx.1, wr64 (by omega) (by omega)]
  have b1 : 0 ≤ x % 2147483648 ∧ x % 2147483648 ≤ 2147483648 := by omega
  have b2 : 0 ≤ x / 2147483648 ∧ x / 2147483648 ≤ 2147483648 := by omega
  have h0 : ix [x % 2147483648, x / 2147483648] 0 = some (x % 2147483648) := rfl
  have h1' : ix [x % 2147483648, x / 2147483648] 1 = some (x / 2147483648) := rfl
  unfold F_spec_l3State_absorb__io0
  rw [e1, e2, Option.bind_some, wloop_eq]
  simp only [List.length_cons, List.length_nil, show decide ((0 : Int) < ((0 + 1 + 1 : Nat) : Int)) = true from rfl, if_true, h0, Option.bind_some, hs1_eq (.inl rfl) h1 b1, hs1_eq (.inr rfl) h2 b1]
  rw [wloop_eq]
  simp only [show IntKind.i64.wrap (0 + 1) = 1 from rfl, show decide ((1 : Int) < ((0 + 1 + 1 : Nat) : Int)) = true from rfl, if_true, h1', Option.bind_some, hs1_eq (.inl rfl) (hs1_bd _ _ _) b2, hs1_eq (.inr rfl) (hs1_bd _ _ _) b2]
  rw [wloop_eq]
  simp only [show IntKind.i64.wrap (1 + 1) = 2 from rfl, show decide ((2 : Int) < ((0 + 1 + 1 : Nat) : Int)) = false from rfl, Bool.false_eq_true, if_false, Option.bind_some]
  rfl
theorem all_dig {l : List Int} (h : l.all digB = true) {k : Nat} (hk : k < l.length) : digB l[k] = true := List.all_eq_true.1 h _ (List.getElem_mem hk)
theorem n_hInts {l : List Int} (hl : l.length ≤ 1000000000000) (hd : l.all digB = true) : F_spec_hInts l = some (hashN l) := by
  unfold F_spec_hInts
  have e0 := n_absorb (p := (1, 2)) (x := (l.length : Int)) ⟨by decide, by decide⟩ (digB_t.2 ⟨by omega, by omega⟩)
  refine eq_of_rn (rn_call e0 (rn_then (ψ := fun p => p = ((l.length : Int) :: l).foldl absH (1, 2)) (rn_rloop (fun n p => p = ((l.length : Int) :: l.take n).foldl absH (1, 2)) rfl ?_ ?_) ?_))
  · rintro n p hn rfl
    refine rn_ix hn (rn_call (n_absorb (fold_ok _ _ ⟨by decide, by decide⟩) (all_dig hd hn)) (rn_some ?_))
    show absH _ _ = _
    rw [← List.take_append_getElem hn, ← List.cons_append, List.foldl_append]
    rfl
  · rintro p rfl
    show (((l.length : Int) :: l.take l.length).foldl absH (1, 2)) = _
    rw [List.take_length]
  · rintro p rfl
    obtain ⟨h1, h2⟩ := fold_ok ((l.length : Int) :: l) (1, 2) ⟨by decide, by decide⟩
    refine rn_some ?_
    rw [wr64 (n := _ * 2147483648) (by omega) (by omega), wr64 (by omega) (by omega)]
    rfl
theorem and_mask {x : Int} (hx : digB x = true) : IntKind.i64.wrap (BitVec.ofInt IntKind.i64.bits x &&& BitVec.ofInt IntKind.i64.bits 2147483647).toNat = x % 2147483648 := by
  have hx := digB_t.1 hx
  obtain ⟨n, rfl⟩ := Int.eq_ofNat_of_zero_le hx.1
  have h1 : (BitVec.ofInt IntKind.i64.bits ((n : Nat) : Int) &&& BitVec.ofInt IntKind.i64.bits 2147483647).toNat = n % 2147483648 := by
    rw [BitVec.toNat_and]
    have a1 : (BitVec.ofInt IntKind.i64.bits (n : Int)).toNat = n := by
      rw [BitVec.toNat_ofInt]
      have : IntKind.i64.bits = 64 := rfl
      rw [this]
      omega
    have a2 : (BitVec.ofInt IntKind.i64.bits 2147483647).toNat = 2 ^ 31 - 1 := by decide
    rw [a1, a2, Nat.and_two_pow_sub_one_eq_mod]
  rw [h1, wr64 (by omega) (by omega)]
  omega
theorem n_hash {l : List Int} (hl : l.length ≤ 1000000000000) (hd : l.all digB = true) : F_impl_hash l = some (hashN l) := by
  unfold F_impl_hash
  have hd2 : ((l.length : Int) :: l).all digB = true := by
    rw [List.all_cons, hd, Bool.and_true]
    exact digB_t.2 ⟨by omega, by omega⟩
  refine eq_of_rn (rn_gd (by simp only [List.length_cons, List.length_nil]; omega) (rn_call rfl (rn_then (ψ := fun p => p = ((l.length : Int) :: l).foldl absH (1, 2)) (rn_rloop (fun n p => p = (((l.length : Int) :: l).take n).foldl absH (1, 2)) rfl ?_ ?_) ?_)))
  · rintro n p hn rfl
    have ok := fold_ok ((((l.length : Int) :: l)).take n) (1, 2) ⟨by decide, by decide⟩
    have dg := all_dig hd2 hn
    have b := digB_t.1 dg
    have ef : (((l.length : Int) :: l)[n]).fdiv 2147483648 = ((l.length : Int) :: l)[n] / 2147483648 := Int.fdiv_eq_ediv_of_nonneg _ (by omega)
    have hn' : n < ((l.length : Int) :: l).length := hn
    refine rn_ix hn (rn_some ?_)
    show (_, _) = _
    simp only [List.singleton_append]
    rw [and_mask dg, ef, hs1_eq (.inl rfl) ok.1 (by omega), hs1_eq (.inr rfl) ok.2 (by omega), hs1_eq (.inl rfl) (hs1_bd _ _ _) (by omega), hs1_eq (.inr rfl) (hs1_bd _ _ _) (by omega),
      ← List.take_append_getElem hn', List.foldl_append]
    rfl
  · rintro p rfl
    show ((((l.length : Int) :: l).take ([(l.length : Int)] ++ l).length).foldl absH (1, 2)) = _
    rw [List.singleton_append, List.take_length]
  · rintro p rfl
    obtain ⟨h1, h2⟩ := fold_ok ((l.length : Int) :: l) (1, 2) ⟨by decide, by decide⟩
    refine rn_some ?_
    rw [wr64 (n := _ * 2147483648) (by omega) (by omega), wr64 (by omega) (by omega)]
    rfl
def hshL (s : ByteArray) (l : List Int) : Int := hashN ((s.size : Int) :: byL s ++ l)
theorem hshL_dig (s : ByteArray) (l : List Int) : digB (hshL s l) = true := hashN_dig _
def labB (s : ByteArray) (l : List Int) : Bool := decide (s.size ≤ 40) && decide (1 + s.size + l.length ≤ 400) && l.all digB
theorem lab_all {s : ByteArray} {l : List Int} (hs : s.size ≤ 1000000) : ((s.size : Int) :: byL s ++ l).all digB = l.all digB := by
  rw [List.cons_append, List.all_cons, List.all_append, byL_dig, digB_t.2 ⟨by omega, by omega⟩, Bool.true_and, Bool.true_and]
theorem n_hLabelled {s : ByteArray} {l : List Int} (hs : s.size ≤ 1000000) (hl : l.length ≤ 100000000000) (hd : l.all digB = true) : F_spec_hLabelled s l = some (hshL s l) := by
  unfold F_spec_hLabelled
  rw [n_with s l hs (by omega), Option.bind_some, n_hInts (by simp [byL_len]; omega) (by rw [lab_all hs]; exact hd)]
  rfl
theorem n_areDigests (l : List Int) : F_impl_areDigests l = some (decide (l.length ≤ 400) && l.all digB) := by
  unfold F_impl_areDigests
  have h1 : F_impl_areAll__impl_isDigest l = some (l.all digB) := areAll_gen (f := F_impl_areAll_1__impl_isDigest) fun x _ => by
    unfold F_impl_areAll_1__impl_isDigest
    rw [n_isDigest]; rfl
  rw [h1]
  by_cases h : l.length ≤ 400
  · rw [if_pos (by simp; omega)]; simp [h]
  · rw [if_neg (by simp; omega)]; simp [h]
theorem n_HashInts (l : List Int) : F_impl_HashInts l = some (if (decide (l.length ≤ 400) && l.all digB) = true then (hashN l, true) else (0, false)) := by
  unfold F_impl_HashInts
  rw [n_areDigests, Option.bind_some]
  cases h : (decide (l.length ≤ 400) && l.all digB) with
  | true =>
    simp only [Bool.and_eq_true, decide_eq_true_eq] at h
    rw [n_hash (by omega) h.2]; rfl
  | false => rfl
theorem n_HashLabelled (s : ByteArray) (l : List Int) : F_impl_HashLabelled s l = some (if labB s l = true then (hshL s l, true) else (0, false)) := by
  unfold F_impl_HashLabelled
  by_cases h1 : s.size ≤ 40
  · by_cases h2 : l.length ≤ 400
    · rw [if_neg (by simp; omega), Option.bind_some, if_neg (by simp; omega), n_labelled s l (by omega) (by omega), Option.bind_some, n_HashInts, lab_all (by omega)]
      have e : ((s.size : Int) :: byL s ++ l).length = 1 + s.size + l.length := by simp [byL_len]; omega
      rw [e]
      have e2 : labB s l = (decide (1 + s.size + l.length ≤ 400) && l.all digB) := by simp [labB, h1]
      rw [e2]
      cases decide (1 + s.size + l.length ≤ 400) <;> cases l.all digB <;> rfl
    · rw [if_neg (by simp; omega), Option.bind_some, if_pos (by simp; omega)]
      have : labB s l = false := by
        have : ¬ 1 + s.size + l.length ≤ 400 := by omega
        simp [labB, this]
      rw [this]; rfl
  · rw [if_pos (by simp; omega), Option.bind_some, if_pos rfl]
    have : labB s l = false := by simp [labB, h1]
    rw [this]; rfl
-- derived elements
theorem Pr_pow {p : Nat} (hp : Pr p) {b : Nat} (h1 : 1 ≤ b) (h2 : b < p) : ∀ e : Nat, b ^ e % p ≠ 0
  | 0 => by
    have := hp.1
    rw [Nat.pow_zero, Nat.mod_eq_of_lt (by omega)]; omega
  | e + 1 => fun h => by
    have hb : ((b ^ e : Nat) : Int) % (p : Int) = 0 ∨ (b : Int) % (p : Int) = 0 := Pr_mul hp (by
      rw [← Int.natCast_mul, ← Nat.pow_succ, ← Int.natCast_emod, h]; rfl)
    rcases hb with h3 | h3
    · exact Pr_pow hp h1 h2 e (by rw [← Int.natCast_emod] at h3; omega)
    · rw [← Int.natCast_emod, Nat.mod_eq_of_lt h2] at h3; omega
def drvX (gr : Group) (s : ByteArray) (k c : Int) : Int := 1 + hshL s [gr.P, gr.Q, gr.G, k, c] % (gr.P - 1)
def drvC (gr : Group) (s : ByteArray) (k c : Int) : Int := (((drvX gr s k c).toNat ^ ((gr.P - 1) / gr.Q).toNat % gr.P.toNat : Nat) : Int)
theorem drvX_bd {gr : Group} (k : OkG gr) (s : ByteArray) (i c : Int) : 1 ≤ drvX gr s i c ∧ drvX gr s i c ≤ gr.P - 1 := by
  have hp := k.p
  have h1 := Int.emod_nonneg (hshL s [gr.P, gr.Q, gr.G, i, c]) (show gr.P - 1 ≠ 0 by omega)
  have h2 := Int.emod_lt_of_pos (hshL s [gr.P, gr.Q, gr.G, i, c]) (show 0 < gr.P - 1 by omega)
  unfold drvX
  omega
theorem drvC_bd {gr : Group} (k : OkG gr) (s : ByteArray) (i c : Int) : 1 ≤ drvC gr s i c ∧ drvC gr s i c ≤ gr.P - 1 := by
  have hp := k.p
  have hx := drvX_bd k s i c
  have h1 := Pr_pow k.pp (b := (drvX gr s i c).toNat) (by omega) (by omega) ((gr.P - 1) / gr.Q).toNat
  have h2 := Nat.mod_lt ((drvX gr s i c).toNat ^ ((gr.P - 1) / gr.Q).toNat) (show 0 < gr.P.toNat by omega)
  unfold drvC
  omega
theorem drv_pow {gr : Group} (k : OkG gr) (s : ByteArray) (i c : Int) : 
    F_impl_power (IntKind.i64.wrap (1 + ((hshL s [gr.P, gr.Q, gr.G, i, c]).tmod (IntKind.i64.wrap (gr.P - 1))))) (IntKind.i64.wrap ((IntKind.i64.wrap (gr.P - 1)).tdiv gr.Q)) gr.P = some (drvC gr s i c) ∧
    F_spec_nPower (IntKind.i64.wrap (1 + ((hshL s [gr.P, gr.Q, gr.G, i, c]).tmod (IntKind.i64.wrap (gr.P - 1))))) (IntKind.i64.wrap ((IntKind.i64.wrap (gr.P - 1)).tdiv gr.Q)) gr.P = some (drvC gr s i c) := by
  have hp := k.p
  have hq := k.q
  have hd := digB_t.1 (hshL_dig s [gr.P, gr.Q, gr.G, i, c])
  have hx := drvX_bd k s i c
  have e1 : IntKind.i64.wrap (gr.P - 1) = gr.P - 1 := wr64 (by omega) (by omega)
  have e2 : IntKind.i64.wrap (1 + ((hshL s [gr.P, gr.Q, gr.G, i, c]).tmod (gr.P - 1))) = drvX gr s i c := by
    rw [Int.tmod_eq_emod_of_nonneg hd.1]
    unfold drvX at hx ⊢
    exact wr64 (by omega) (by omega)
  have h3 : (gr.P - 1) / gr.Q ≤ gr.P - 1 := Int.ediv_le_self _ (by omega)
  have h4 : 0 ≤ (gr.P - 1) / gr.Q := Int.ediv_nonneg (by omega) (by omega)
  have e3 : IntKind.i64.wrap ((gr.P - 1).tdiv gr.Q) = (gr.P - 1) / gr.Q := by
    rw [Int.tdiv_eq_ediv_of_nonneg (by omega), wr64 (by omega) (by omega)]
  rw [e1, e2, e3]
  exact n_powI (by omega) (by omega) (by omega) (by omega) h4 (by omega)
theorem drv_dig {gr : Group} (k : OkG gr) {i c : Int} (hi : digB i = true) (hc : 0 ≤ c ∧ c ≤ 1000) : [gr.P, gr.Q, gr.G, i, c].all digB = true := by
  have hp := k.p
  have hq := k.q
  have hg := k.g
  simp only [List.all_cons, List.all_nil, Bool.and_true, Bool.and_eq_true]
  exact ⟨digB_t.2 (by omega), digB_t.2 (by omega), digB_t.2 (by omega), hi, digB_t.2 (by omega)⟩
def DrvR (gr : Group) (s : ByteArray) (i y : Int) : Prop := (∃ c : Nat, c < 1000 ∧ y = drvC gr s i c ∧ drvC gr s i c ≠ 1 ∧ ∀ j : Nat, j < c → drvC gr s i j = 1) ∨ (y = 0 ∧ ∀ j : Nat, j < 1000 → drvC gr s i j = 1)
theorem DrvR_uniq {gr : Group} (k : OkG gr) {s : ByteArray} {i x y : Int} (h1 : DrvR gr s i x) (h2 : DrvR gr s i y) : x = y := by
  rcases h1 with ⟨c, hc, rfl, h3, h4⟩ | ⟨rfl, h4⟩ <;> rcases h2 with ⟨d, hd, rfl, h5, h6⟩ | ⟨rfl, h6⟩
  · rcases Nat.lt_trichotomy c d with h | h | h
    · exact absurd (h6 c h) h3
    · rw [h]
    · exact absurd (h4 d h) h5
  · exact absurd (h6 c hc) h3
  · exact absurd (h4 d hd) h5
  · rfl
theorem DrvR_bd {gr : Group} (k : OkG gr) {s : ByteArray} {i x : Int} (h1 : DrvR gr s i x) : 0 ≤ x ∧ x ≤ gr.P - 1 := by
  have hp := k.p
  rcases h1 with ⟨c, hc, rfl, h3, h4⟩ | ⟨rfl, h4⟩
  · have := drvC_bd k s i c; omega
  · omega
theorem n_hDerived {gr : Group} (k : OkG gr) {s : ByteArray} (hs : s.size ≤ 40) {i : Int} (hi : digB i = true) : Rn (F_spec_hDerived gr s i) (DrvR gr s i) := by
  have hp := k.p
  have hq := k.q
  unfold F_spec_hDerived
  refine rn_then (ψ := fun x => (x = .inl () ∧ ∀ j : Nat, j < 1000 → drvC gr s i j = 1) ∨ ∃ c : Nat, c < 1000 ∧ x = .inr (drvC gr s i c) ∧ drvC gr s i c ≠ 1 ∧ ∀ j : Nat, j < c → drvC gr s i j = 1)
    (rn_cloop 1000 (fun n p => p = (n : Int) ∧ n ≤ 1000 ∧ ∀ j : Nat, j < n → drvC gr s i j = 1) ⟨rfl, by omega, fun j hj => by omega⟩ ?_ ?_) ?_
  · rintro n p hn ⟨rfl, _, hI⟩
    refine rn_if (fun _ => ?_) fun h => absurd h (by simp; omega)
    refine rn_call (n_hLabelled (by omega) (by simp) (drv_dig k hi (by omega))) (rn_gd (by rw [wr64 (by omega) (by omega)]; omega) (rn_gd (by omega) (rn_call (drv_pow k s i n).2 (rn_if (fun h => rn_some (.inr ⟨n, hn, rfl, by simpa using h, hI⟩)) fun h => rn_some ⟨by rw [wr64 (by omega) (by omega)]; rfl, hn, fun j hj => ?_⟩))))
    rcases Nat.lt_or_ge j n with h1 | h1
    · exact hI j h1
    · have : j = n := by omega
      subst this
      simpa using h
  · rintro p ⟨rfl, _, hI⟩
    refine rn_if (fun h => absurd h (by simp)) fun _ => rn_some (.inl ⟨rfl, hI⟩)
  · rintro x (⟨rfl, h⟩ | ⟨c, hc, rfl, h⟩)
    · exact rn_some (.inr ⟨rfl, h⟩)
    · exact rn_some (.inl ⟨c, hc, rfl, h⟩)
theorem n_derive {gr : Group} (k : OkG gr) {s : ByteArray} (hs : s.size ≤ 40) {i : Int} (hi : digB i = true) : Rn (F_impl_Group_derive gr s i) (fun x => DrvR gr s i x.1 ∧ x.2 = decide (0 < x.1)) := by
  have hp := k.p
  have hq := k.q
  unfold F_impl_Group_derive
  refine rn_then (ψ := fun x => (x = .inl () ∧ ∀ j : Nat, j < 1000 → drvC gr s i j = 1) ∨ ∃ c : Nat, c < 1000 ∧ x = .inr (drvC gr s i c, true) ∧ drvC gr s i c ≠ 1 ∧ ∀ j : Nat, j < c → drvC gr s i j = 1)
    (rn_cloop 1000 (fun n p => p = (n : Int) ∧ n ≤ 1000 ∧ ∀ j : Nat, j < n → drvC gr s i j = 1) ⟨rfl, by omega, fun j hj => by omega⟩ ?_ ?_) ?_
  · rintro n p hn ⟨rfl, _, hI⟩
    refine rn_if (fun _ => ?_) fun h => absurd h (by simp; omega)
    have hl : labB s [gr.P, gr.Q, gr.G, i, (n : Int)] = true := by
      have := drv_dig k (i := i) (c := n) hi (by omega)
      simp only [labB, this, Bool.and_true, List.length_cons, List.length_nil, Bool.and_eq_true, decide_eq_true_eq]
      omega
    have eh : F_impl_HashLabelled s [gr.P, gr.Q, gr.G, i, (n : Int)] = some (hshL s [gr.P, gr.Q, gr.G, i, (n : Int)], true) := by rw [n_HashLabelled, if_pos hl]
    refine rn_call eh (rn_f rfl (rn_gd (by rw [wr64 (by omega) (by omega)]; omega) (rn_gd (by omega) (rn_call (drv_pow k s i n).1 (rn_if (fun h => rn_some (.inr ⟨n, hn, rfl, by simpa using h, hI⟩)) fun h => rn_some ⟨by rw [wr64 (by omega) (by omega)]; rfl, hn, fun j hj => ?_⟩)))))
    rcases Nat.lt_or_ge j n with h1 | h1
    · exact hI j h1
    · have : j = n := by omega
      subst this
      simpa using h
  · rintro p ⟨rfl, _, hI⟩
    refine rn_if (fun h => absurd h (by simp)) fun _ => rn_some (.inl ⟨rfl, hI⟩)
  · rintro x (⟨rfl, h⟩ | ⟨c, hc, rfl, h⟩)
    · exact rn_some ⟨.inr ⟨rfl, h⟩, rfl⟩
    · have := drvC_bd k s i c
      exact rn_some ⟨.inl ⟨c, hc, rfl, h⟩, by symm; simp; omega⟩
theorem n_drv {gr : Group} (k : OkG gr) {s : ByteArray} (hs : s.size ≤ 40) {i : Int} (hi : digB i = true) : ∃ y, F_spec_hDerived gr s i = some y ∧ F_impl_Group_derive gr s i = some (y, decide (0 < y)) ∧ DrvR gr s i y := by
  obtain ⟨y, h1, h2⟩ := n_hDerived k hs hi
  obtain ⟨⟨z, t⟩, h3, h4, h5⟩ := n_derive k hs hi
  refine ⟨y, h1, ?_, h2⟩
  simp only at h4 h5
  have : z = y := DrvR_uniq k h4 h2
  subst this
  rw [h3, h5]
theorem snoc_at {α : Type} {R : Nat → α → Prop} {l : List α} {n : Nat} {z : α} (hl : l.length = n) (h : ∀ j (h : j < l.length), R j l[j]) (hz : R n z) : ∀ j (h : j < (l ++ [z]).length), R j (l ++ [z])[j] := by
  intro j hj
  rw [List.getElem_append]
  split
  · exact h j _
  · have hj : j < n + 1 := by simpa [hl] using hj
    have e : j = n := by omega
    subst e
    simpa [hl] using hz
def Drvs (gr : Group) (n : Nat) (l : List Int) : Prop := l.length = n ∧ ∀ j (h : j < l.length), DrvR gr ⟨#[104, 115]⟩ j l[j]
theorem n_bases {gr : Group} (k : OkG gr) {n : Nat} (hn : n ≤ 24) : ∃ b t, F_spec_BasesOf gr (n : Int) = some (b, t) ∧ F_impl_Group_basesOf gr (n : Int) = some (b, t) ∧
    (t = true → DrvR gr ⟨#[104]⟩ 0 b.H ∧ 0 < b.H ∧ Drvs gr n b.Hs ∧ ∀ x ∈ b.Hs, 0 < x) := by
  have hp := k.p
  obtain ⟨y, hy1, hy2, hy3⟩ := n_drv k (s := ⟨#[104]⟩) (by decide) (i := 0) rfl
  have hok : okG gr = true := okG_t.2 k
  have D : ∀ m : Nat, m < 24 → ∃ z, F_spec_hDerived gr ⟨#[104, 115]⟩ m = some z ∧ F_impl_Group_derive gr ⟨#[104, 115]⟩ m = some (z, decide (0 < z)) ∧ DrvR gr ⟨#[104, 115]⟩ m z := fun m hm => n_drv k (by decide) (digB_t.2 ⟨by omega, by omega⟩)
  have S : Rn (F_spec_DeriveElements gr ⟨#[104, 115]⟩ (n : Int)) (fun x => (x.2 = true ∧ Drvs gr n x.1 ∧ ∀ z ∈ x.1, 0 < z) ∨ (x = ([], false) ∧ ∃ m : Nat, m < n ∧ DrvR gr ⟨#[104, 115]⟩ m 0)) := by
    unfold F_spec_DeriveElements
    refine rn_then (ψ := fun b => b = false) ?_ ?_
    · refine rn_call (n_l2Good gr) (rn_f (by rw [hok]; rfl) (rn_f rfl (rn_call (n_l1In _ _ _) (rn_some ?_))))
      simp; omega
    · rintro _ rfl
      refine rn_f rfl (rn_then (ψ := fun x => (∃ l, x = .inl l ∧ Drvs gr n l ∧ ∀ z ∈ l, 0 < z) ∨ (x = .inr ([], false) ∧ ∃ m : Nat, m < n ∧ DrvR gr ⟨#[104, 115]⟩ m 0)) (rn_cloop n (fun m p => p.2 = (m : Int) ∧ m ≤ n ∧ Drvs gr m p.1 ∧ ∀ z ∈ p.1, 0 < z) ⟨rfl, by omega, ⟨rfl, fun j hj => by simp at hj⟩, fun z hz => by simp at hz⟩ ?_ ?_) ?_)
      · rintro m ⟨l, c⟩ hm ⟨h1, _, hD, hpos⟩
        simp only at h1 hD hpos
        subst h1
        obtain ⟨z, z1, z2, z3⟩ := D m (by omega)
        have zb := DrvR_bd k z3
        refine rn_if (fun _ => ?_) fun h => absurd h (by simp; omega)
        refine rn_call z1 (rn_if (fun h => rn_some (.inr ⟨rfl, m, hm, ?_⟩)) fun h => rn_gd ?_ (rn_some ⟨?_, hm, ⟨by simp [hD.1], snoc_at hD.1 hD.2 z3⟩, fun w hw => ?_⟩))
        · have : z = 0 := by simpa using h
          rw [← this]; exact z3
        · have := hD.1; simp only; omega
        · show IntKind.i64.wrap _ = _
          rw [wr64 (by omega) (by omega)]; rfl
        · rcases List.mem_append.1 hw with h1 | h1
          · exact hpos w h1
          · have : w = z := by simpa using h1
            subst this
            have : ¬ w = 0 := by simpa using h
            omega
      · rintro ⟨l, _⟩ ⟨rfl, _, hD⟩
        exact rn_if (fun h => absurd h (by simp)) fun _ => rn_some (.inl ⟨l, rfl, hD⟩)
      · rintro x (⟨l, rfl, h⟩ | ⟨rfl, h⟩)
        · exact rn_some (.inl ⟨rfl, h⟩)
        · exact rn_some (.inr ⟨rfl, h⟩)
  have I : Rn (wloop (σ := Int × (List Int) × Bool × Int) (β := Int × (List Int) × Bool) (fun s16 =>
  if decide (s16.2.2.2 < (n : Int)) = true then (
  (F_impl_Group_derive gr (⟨#[104, 115]⟩ : ByteArray) s16.2.2.2).bind fun z22 =>
  ((if s16.2.2.1 = true then (
  some z22.2) else (
  some false) : Option (Bool)).bind fun x25 =>
  gd ((s16.2.1.length + 1) * 8 ≤ 140737488355328 ∧ s16.2.1.length + 1 ≤ 4611686018427387904) <|
  some (.go (s16.1, s16.2.1 ++ [z22.1], x25, IntKind.i64.wrap (s16.2.2.2 + 1))))) else (
  some (.out (s16.1, s16.2.1, s16.2.2.1)))) (y, [], true, 0)) (fun x => x.1 = y ∧ Drvs gr n x.2.1 ∧ x.2.2 = x.2.1.all (fun z => decide (0 < z))) := by
    refine rn_cloop n (fun m p => p.1 = y ∧ p.2.2.2 = (m : Int) ∧ m ≤ n ∧ Drvs gr m p.2.1 ∧ p.2.2.1 = p.2.1.all (fun z => decide (0 < z))) ⟨rfl, rfl, by omega, ⟨rfl, fun j hj => by simp at hj⟩, rfl⟩ ?_ ?_
    · rintro m ⟨w, l, t, c⟩ hm ⟨h1, h2, _, hD, h3⟩
      simp only at h1 h2 hD h3
      subst h1 h2 h3
      obtain ⟨z, z1, z2, z3⟩ := D m (by omega)
      refine rn_if (fun _ => ?_) fun h => absurd h (by simp; omega)
      refine rn_call z2 (rn_then (ψ := fun b => b = (l.all (fun z => decide (0 < z)) && decide (0 < z))) (rn_if (fun h => rn_some ?_) fun h => rn_some ?_) ?_)
      · simp only at h; rw [h]; rfl
      · simp only at h; rw [h]; rfl
      · rintro _ rfl
        refine rn_gd (by have := hD.1; dsimp only; omega) (rn_some ⟨rfl, ?_, hm, ⟨by simp [hD.1], snoc_at hD.1 hD.2 z3⟩, ?_⟩)
        · show IntKind.i64.wrap ((m : Int) + 1) = _
          rw [wr64 (by omega) (by omega)]; rfl
        · show _ = (l ++ [z]).all _
          simp
    · rintro ⟨w, l, t, c⟩ ⟨h1, h2, _, hD, h3⟩
      simp only at h1 h2 hD h3
      subst h1 h2 h3
      exact rn_if (fun h => absurd h (by simp)) fun _ => rn_some ⟨rfl, hD, rfl⟩
  obtain ⟨⟨b, l, t⟩, i1, i2, i3, i4⟩ := I
  simp only at i2 i3 i4
  subst i2
  obtain ⟨⟨l2, t2⟩, s1, s2⟩ := S
  have E : t2 = t ∧ (t = true → l2 = l ∧ ∀ z ∈ l, 0 < z) := by
    rcases s2 with ⟨h1, h2, h3⟩ | ⟨h1, m, hm, h3⟩
    · simp only at h1 h2 h3
      have e : l2 = l := List.ext_getElem (h2.1.trans i3.1.symm) fun j a c => DrvR_uniq k (h2.2 j a) (i3.2 j c)
      subst e
      have : l2.all (fun z => decide (0 < z)) = true := by simpa using h3
      rw [this] at i4
      exact ⟨by rw [h1, i4], fun _ => ⟨rfl, h3⟩⟩
    · cases h1
      have hml : m < l.length := by rw [i3.1]; exact hm
      have : l[m] = 0 := DrvR_uniq k (i3.2 m hml) h3
      have hf : l.all (fun z => decide (0 < z)) = false := by
        rw [List.all_eq_false]
        exact ⟨l[m], List.getElem_mem hml, by simp [this]⟩
      rw [hf] at i4
      exact ⟨i4.symm, fun h => by rw [i4] at h; cases h⟩
  have S0 : F_spec_BasesOf gr (n : Int) = some (if (decide (0 < b) && t2) = true then (⟨b, l2⟩, true) else (⟨0, []⟩, false)) := by
    have hD : F_spec_DeriveElement gr ⟨#[104]⟩ 0 = some (b, decide (0 < b)) := by
      unfold F_spec_DeriveElement
      rw [n_l2Good, hok]
      simp only [Option.bind_some, Bool.not_true, Bool.false_eq_true, if_false]
      rw [if_neg (show ¬ (decide (40 < (((⟨#[104]⟩ : ByteArray).size : Nat) : Int)) = true) by decide), n_l3Digest, Option.bind_some, Option.bind_some, if_neg (by decide), hy1, Option.bind_some]
    unfold F_spec_BasesOf
    rw [n_l2Good, hok]
    simp only [Option.bind_some, Bool.not_true, Bool.false_eq_true, if_false]
    rw [n_l1In, Option.bind_some, Option.bind_some, if_neg (by simp; omega), hD, Option.bind_some, s1, Option.bind_some]
    cases decide (0 < b) <;> cases t2 <;> rfl
  have I0 : F_impl_Group_basesOf gr (n : Int) = some (if (decide (0 < b) && t) = true then (⟨b, l⟩, true) else (⟨0, []⟩, false)) := by
    unfold F_impl_Group_basesOf
    rw [hy2, Option.bind_some, i1, Option.bind_some]
    cases decide (0 < b) <;> cases t <;> rfl
  obtain ⟨rfl, E2⟩ := E
  cases hb : (decide (0 < b) && t2) with
  | false =>
    rw [hb] at S0 I0
    exact ⟨_, _, S0, I0, fun h => by cases h⟩
  | true =>
    rw [hb] at S0 I0
    simp only [Bool.and_eq_true, decide_eq_true_eq] at hb
    obtain ⟨rfl, hpos⟩ := E2 hb.2
    exact ⟨_, _, S0, I0, fun _ => ⟨hy3, hb.1, i3, hpos⟩⟩
-- contests
structure OkC (ct : Contest) : Prop where
  lo : 0 ≤ ct.Least ∧ ct.Least ≤ ct.Most
  k : ((ct.Kind = 1 ∨ ct.Kind = 3) ∧ (1 ≤ ct.Options ∧ ct.Options ≤ 8) ∧ ct.Most ≤ ct.Options ∧ ct.Points = 0) ∨ (ct.Kind = 2 ∧ (1 ≤ ct.Options ∧ ct.Options ≤ 8) ∧ (1 ≤ ct.Points ∧ ct.Points ≤ 5) ∧ ct.Most ≤ ct.Options * ct.Points) ∨ (ct.Kind = 4 ∧ ct.Options = 0 ∧ ct.Most ≤ 5 ∧ ct.Points = 0)
open Classical in
noncomputable def okC (ct : Contest) : Bool := decide (OkC ct)
theorem okC_t {ct : Contest} : okC ct = true ↔ OkC ct := by simp [okC]
theorem mulb {a b : Int} (h : 1 ≤ a ∧ a ≤ 8) (h2 : 1 ≤ b ∧ b ≤ 5) : 1 ≤ a * b ∧ a * b ≤ 40 := by
  have h3 : a * b ≤ 8 * 5 := Int.mul_le_mul h.2 h2.2 (by omega) (by omega)
  have h4 : 1 * 1 ≤ a * b := Int.mul_le_mul h.1 h2.1 (by omega) (by omega)
  omega
theorem n_IsValidContest (ct : Contest) : F_impl_IsValidContest ct = some (okC ct) := by
  have e : ∀ b : Bool, (b = true ↔ OkC ct) → b = okC ct := fun b h => by
    rw [Bool.eq_iff_iff, h, okC_t]
  have f : ¬ OkC ct → okC ct = false := fun h => by simp [okC, h]
  unfold F_impl_IsValidContest
  simp only [n_within, Option.bind_some]
  by_cases l1 : ct.Least < 0
  · simp [l1]; exact f fun h => by have := h.lo; omega
  by_cases l2 : ct.Most < ct.Least
  · simp [l1, l2]; exact f fun h => by have := h.lo; omega
  simp only [l1, l2, decide_false, Bool.false_eq_true, if_false, Option.bind_some]
  by_cases k13 : ct.Kind = 1 ∨ ct.Kind = 3
  · have : (if (ct.Kind == 1) = true then some (ct.Kind == 1) else some (ct.Kind == 3)) = some true := by
      rcases k13 with h | h <;> simp [h]
    rw [this, Option.bind_some, if_pos rfl]
    by_cases o : 1 ≤ ct.Options ∧ ct.Options ≤ 8
    · by_cases m : ct.Most ≤ ct.Options
      · simp [o, m]
        refine e _ ⟨fun h => ⟨by omega, .inl ⟨k13, o, m, by simpa using h⟩⟩, fun h => ?_⟩
        rcases h.k with h | h | h
        · simp [h.2.2.2]
        · omega
        · omega
      · simp [o, m]
        exact f fun h => by rcases h.k with h | h | h <;> omega
    · have : (decide (1 ≤ ct.Options) && decide (ct.Options ≤ 8)) = false := by simp; omega
      rw [this]; simp
      exact f fun h => by rcases h.k with h | h | h <;> omega
  · have : (if (ct.Kind == 1) = true then some (ct.Kind == 1) else some (ct.Kind == 3)) = some false := by
      simp only [not_or] at k13; simp [k13]
    rw [this, Option.bind_some, if_neg (by simp)]
    by_cases k2 : ct.Kind = 2
    · simp only [k2]
      by_cases o : 1 ≤ ct.Options ∧ ct.Options ≤ 8
      · by_cases p : 1 ≤ ct.Points ∧ ct.Points ≤ 5
        · have b := mulb o p
          simp only [o, p]
          simp [wr64 (n := ct.Options * ct.Points) (by omega) (by omega)]
          refine e _ ⟨fun h => ⟨by omega, .inr (.inl ⟨k2, o, p, by simpa using h⟩)⟩, fun h => ?_⟩
          rcases h.k with h | h | h
          · omega
          · simpa using h.2.2.2
          · omega
        · have : (decide (1 ≤ ct.Points) && decide (ct.Points ≤ 5)) = false := by simp; omega
          rw [this]; simp [o]
          exact f fun h => by rcases h.k with h | h | h <;> omega
      · have : (decide (1 ≤ ct.Options) && decide (ct.Options ≤ 8)) = false := by simp; omega
        rw [this]; simp
        exact f fun h => by rcases h.k with h | h | h <;> omega
    · have k2' : (ct.Kind == 2) = false := by simpa using k2
      simp only [k2', Bool.false_eq_true, if_false]
      by_cases k4 : ct.Kind = 4
      · have k4' : (ct.Kind == 4) = true := by simpa using k4
        simp only [k4', if_true]
        by_cases o : ct.Options = 0
        · by_cases m : ct.Most ≤ 5
          · simp [o, m]
            refine e _ ⟨fun h => ⟨by omega, .inr (.inr ⟨k4, o, m, by simpa using h⟩)⟩, fun h => ?_⟩
            rcases h.k with h | h | h
            · omega
            · omega
            · simp [h.2.2.2]
          · simp [o, m]
            exact f fun h => by rcases h.k with h | h | h <;> omega
        · simp [o]
          exact f fun h => by rcases h.k with h | h | h <;> omega
      · have k4' : (ct.Kind == 4) = false := by simpa using k4
        simp only [k4', Bool.false_eq_true, if_false]
        rw [f fun h => by rcases h.k with h | h | h <;> omega]
theorem n_vContest (ct : Contest) : F_spec_vContest ct = some (okC ct) := by
  rw [← n_IsValidContest]
  unfold F_spec_vContest F_impl_IsValidContest
  simp only [n_within, n_l1In, Option.bind_some]
  cases h : ct.Kind == 4 <;> simp
def inB (a b x : Int) : Bool := decide (a ≤ x) && decide (x ≤ b)
theorem inB_t {a b x : Int} : inB a b x = true ↔ a ≤ x ∧ x ≤ b := by simp [inB]
-- votes
theorem ite_and (a b : Bool) : (if a = true then some b else some false) = some (a && b) := by cases a <;> rfl
theorem ite_or (a b : Bool) : (if a = true then some true else some b) = some (a || b) := by cases a <;> rfl
theorem n_inB (x a b : Int) : F_spec_l1In x a b = some (inB a b x) := n_l1In x a b
theorem n_winB (x a b : Int) : F_impl_within x a b = some (inB a b x) := n_within x a b
theorem all_mono {l : List Int} {a b a' b' : Int} (ha : a' ≤ a) (hb : b ≤ b') (h : l.all (inB a b) = true) : l.all (inB a' b') = true := by
  rw [List.all_eq_true] at h ⊢
  intro x hx
  have := inB_t.1 (h x hx)
  exact inB_t.2 (by omega)
-- numbers of digits
def num (b : Int) : List Int → Int
  | [] => 0
  | d :: l => num b l * b + d
theorem num_bd {b : Int} (hb : 0 ≤ b ∧ b ≤ 40) : ∀ {l : List Int}, l.all (inB 0 40) = true → 0 ≤ num b l ∧ num b l ≤ 64 ^ (l.length + 1)
  | [], _ => by simp [num]
  | d :: l, h => by
    rw [List.all_cons, Bool.and_eq_true] at h
    have h1 := inB_t.1 h.1
    have h2 := num_bd hb h.2
    have h3 : num b l * b ≤ 64 ^ (l.length + 1) * 40 := Int.mul_le_mul h2.2 hb.2 hb.1 (by omega)
    have h4 := Int.mul_nonneg h2.1 hb.1
    have h5 : (1 : Int) ≤ 64 ^ (l.length + 1) := Int.pow_pos (by omega)
    simp only [num, List.length_cons]
    rw [Int.pow_succ (64 : Int) (l.length + 1)]
    omega
theorem num_bd8 {b : Int} (hb : 0 ≤ b ∧ b ≤ 40) {l : List Int} (hl : l.length ≤ 8) (h : l.all (inB 0 40) = true) : 0 ≤ num b l ∧ num b l ≤ 18014398509481984 := by
  have := num_bd hb h
  have h2 : (64 : Nat) ^ (l.length + 1) ≤ 64 ^ 9 := Nat.pow_le_pow_right (by omega) (by omega)
  have h3 : ((64 ^ (l.length + 1) : Nat) : Int) = (64 : Int) ^ (l.length + 1) := Int.natCast_pow 64 _
  omega
theorem num_loop {l : List Int} {b m : Int} (hb : 0 ≤ b ∧ b ≤ 40) (hl : l.length ≤ 8) (h : (l.map (· + m)).all (inB 0 40) = true) {step : Int × Int → Option (Stp (Int × Int) Int)}
    (hs : ∀ (k : Nat) (h : k < l.length) (a : Int), 0 ≤ a → a ≤ 18014398509481984 → step (a, (k : Int)) = some (.go (a * b + (l[k] + m), (k : Int) - 1))) (he : ∀ a, step (a, -1) = some (.out a)) :
    wloop step (0, (l.length : Int) - 1) = some (num b (l.map (· + m))) := by
  refine eq_of_rn (rn_cloop l.length (fun j p => p = (num b ((l.drop (l.length - j)).map (· + m)), ((l.length - j : Nat) : Int) - 1) ∧ j ≤ l.length) ⟨by simp [num], by omega⟩ ?_ ?_)
  · rintro j p hj ⟨rfl, _⟩
    obtain ⟨k, hk, e1, e2⟩ : ∃ k : Nat, k < l.length ∧ l.length - j = k + 1 ∧ l.length - (j + 1) = k := ⟨l.length - j - 1, by omega, by omega, by omega⟩
    rw [e1]
    have hd : ((l.drop (k + 1)).map (· + m)).all (inB 0 40) = true := by
      rw [List.all_eq_true] at h ⊢
      intro x hx
      obtain ⟨y, hy, rfl⟩ := List.mem_map.1 hx
      exact h _ (List.mem_map.2 ⟨y, List.mem_of_mem_drop hy, rfl⟩)
    have bd := num_bd8 hb (by simp; omega) hd
    refine ⟨.go (num b ((l.drop (k + 1)).map (· + m)) * b + (l[k] + m), (k : Int) - 1), by rw [show ((k + 1 : Nat) : Int) - 1 = (k : Int) by omega]; exact hs k hk _ bd.1 bd.2, ?_, hj⟩
    rw [e2, List.drop_eq_getElem_cons hk]
    rfl
  · rintro p ⟨rfl, _⟩
    refine ⟨.out (num b (l.map (· + m))), ?_, rfl⟩
    rw [Nat.sub_self, List.drop_zero]
    exact he _
theorem at_all {l : List Int} {m a b : Int} (h : (l.map (· + m)).all (inB a b) = true) {k : Nat} (hk : k < l.length) : a ≤ l[k] + m ∧ l[k] + m ≤ b := by
  rw [List.all_eq_true] at h
  exact inB_t.1 (h _ (List.mem_map.2 ⟨l[k], List.getElem_mem hk, rfl⟩))
theorem n_vNumber {l : List Int} {b m : Int} (hb : 0 ≤ b ∧ b ≤ 40) (hm : 0 ≤ m ∧ m ≤ 1) (hl : l.length ≤ 8) (h : (l.map (· + m)).all (inB 0 40) = true) : F_spec_vNumber l b m = some (num b (l.map (· + m))) := by
  unfold F_spec_vNumber
  rw [wr64 (n := (l.length : Int) - 1) (by omega) (by omega), num_loop hb hl h, Option.bind_some]
  · intro k hk a h0 h1
    have h2 : a * b ≤ 18014398509481984 * 40 := Int.mul_le_mul h1 hb.2 hb.1 (by omega)
    have h3 := Int.mul_nonneg h0 hb.1
    have h4 := at_all h hk
    rw [if_pos (by simp), ix_at hk, Option.bind_some, wr64 (n := a * b) (by omega) (by omega), wr64 (n := a * b + l[k]) (by omega) (by omega), wr64 (n := a * b + l[k] + m) (by omega) (by omega), wr64 (n := (k : Int) - 1) (by omega) (by omega), Int.add_assoc]
  · intro a; rfl
theorem n_codeOf {l : List Int} {b : Int} (hb : 0 ≤ b ∧ b ≤ 40) (hl : l.length ≤ 8) (h : l.all (inB 0 40) = true) : F_impl_codeOf l b = some (num b l) := by
  have e : l.map (· + 0) = l := by simp
  unfold F_impl_codeOf
  rw [wr64 (n := (l.length : Int) - 1) (by omega) (by omega), num_loop (m := 0) hb hl (by rw [e]; exact h), Option.bind_some, e]
  · intro k hk a h0 h1
    have h2 : a * b ≤ 18014398509481984 * 40 := Int.mul_le_mul h1 hb.2 hb.1 (by omega)
    have h3 := Int.mul_nonneg h0 hb.1
    have h4 := at_all (m := 0) (by rw [e]; exact h) hk
    rw [if_pos (by simp), ix_at hk, Option.bind_some, wr64 (n := a * b) (by omega) (by omega), wr64 (n := a * b + l[k]) (by omega) (by omega), wr64 (n := (k : Int) - 1) (by omega) (by omega), Int.add_zero]
  · intro a; rfl
-- marks
def marks (n : Nat) (v : List Int) : List Int := (List.range n).map fun (i : Nat) => if v.contains (i : Int) = true then 1 else 0
theorem marks_len (n : Nat) (v : List Int) : (marks n v).length = n := by simp [marks]
theorem n_vMarks {ct : Contest} (ho : 0 ≤ ct.Options ∧ ct.Options ≤ 8) {v : List Int} (h : v.all (inB 0 (ct.Options - 1)) = true) : F_spec_vMarks ct v = some (marks ct.Options.toNat v) := by
  unfold F_spec_vMarks
  refine eq_of_rn (rn_gd (by omega) (rn_call rfl (rn_then (ψ := fun b => b = _) (rn_rloop (fun k s => s = marks ct.Options.toNat (v.take k)) ?_ ?_ ?_) fun b hb => rn_some hb)))
  · simp [marks, List.map_const']
  · rintro k s hk rfl
    have hv := inB_t.1 (List.all_eq_true.1 h _ (List.getElem_mem hk))
    obtain ⟨x, hx⟩ : ∃ x : Nat, v[k] = (x : Int) := ⟨v[k].toNat, by omega⟩
    refine rn_ix hk ?_
    rw [hx]
    refine rn_ix (by rw [marks_len]; omega) (rn_some ?_)
    show (marks _ (v.take k)).set x 1 = marks _ (v.take (k + 1))
    rw [List.take_succ_eq_append_getElem hk]
    apply List.ext_getElem (by simp [marks_len])
    intro i hi hi2
    rw [List.getElem_set]
    simp only [marks, List.getElem_map, List.getElem_range, List.contains_eq_mem, List.mem_append, List.mem_singleton, decide_eq_true_eq]
    by_cases e : x = i
    · subst e; simp [hx]
    · have : ¬ (i : Int) = v[k] := by omega
      simp [e, this]
  · rintro s rfl
    rw [List.take_length]
-- the greatest code
def rng (a : Int) (n : Nat) : List Int := (List.range n).map fun (i : Nat) => a + (i : Int)
theorem rng_len (a : Int) (n : Nat) : (rng a n).length = n := by simp [rng]
theorem rng_mem {a x : Int} {n : Nat} : x ∈ rng a n ↔ a ≤ x ∧ x < a + n := by
  simp only [rng, List.mem_map, List.mem_range]
  constructor
  · rintro ⟨i, hi, rfl⟩; omega
  · exact fun h => ⟨(x - a).toNat, by omega, by omega⟩
theorem rng_all {a b c : Int} {n : Nat} (h1 : b ≤ a) (h2 : a + n - 1 ≤ c) : (rng a n).all (inB b c) = true := by
  rw [List.all_eq_true]
  intro x hx
  have := rng_mem.1 hx
  exact inB_t.2 (by omega)
theorem wl_app {β : Type} {step : List Int × Int → Option (Stp (List Int × Int) β)} {f : Nat → Int} {out : List Int → β} {a : Int} (n : Nat) (hs : ∀ (k : Nat) (s : List Int), k < n → s.length = k → step (s, a + (k : Int)) = some (.go (s ++ [f k], a + (k : Int) + 1))) (he : ∀ s, step (s, a + (n : Int)) = some (.out (out s))) :
    wloop step ([], a) = some (out ((List.range n).map f)) := by
  refine eq_of_rn (rn_cloop n (fun k p => p = ((List.range k).map f, a + (k : Int))) (by simp) ?_ ?_)
  · rintro k p hk rfl
    refine ⟨_, hs k _ hk (by simp), ?_⟩
    show (_, _) = _
    rw [List.range_succ, List.map_append]
    have e : a + (k : Int) + 1 = a + ((k + 1 : Nat) : Int) := by omega
    rw [e]; rfl
  · rintro p rfl
    exact ⟨_, he _, rfl⟩
theorem wl_rep {step : List Int × Int × Int → Option (Stp (List Int × Int × Int) (List Int))} {n : Nat} {m : Int} (hn : n ≤ 8) (p : Int) (hp : 0 ≤ p ∧ p ≤ 5) (hm : 0 ≤ m)
    (hs : ∀ (k : Nat) (s : List Int) (r : Int), k < n → s.length = n → 0 ≤ r → r ≤ m → step (s, r, (k : Int)) = some (.go (s.set k (if p < r then p else r), r - (if p < r then p else r), (k : Int) - 1))) (he : ∀ s r, step (s, r, -1) = some (.out s)) :
    ∃ l, wloop step (List.replicate n 0, m, (n : Int) - 1) = some l ∧ l.length = n ∧ l.all (inB 0 5) = true := by
  refine rn_cloop n (fun j x => x.1.length = n ∧ x.1.all (inB 0 5) = true ∧ (0 ≤ x.2.1 ∧ x.2.1 ≤ m) ∧ x.2.2 = ((n - j : Nat) : Int) - 1 ∧ j ≤ n) ⟨by simp, ?_, ⟨hm, Int.le_refl _⟩, by simp, by omega⟩ ?_ ?_
  · rw [List.all_eq_true]
    intro x hx
    have : x = 0 := (List.mem_replicate.1 hx).2
    subst this; rfl
  · rintro j ⟨s, r, c⟩ hj ⟨h1, h2, h3, h4, _⟩
    simp only at h1 h2 h3 h4
    obtain ⟨k, hk, e1, e2⟩ : ∃ k : Nat, k < n ∧ n - j = k + 1 ∧ n - (j + 1) = k := ⟨n - j - 1, by omega, by omega, by omega⟩
    have : c = (k : Int) := by omega
    subst this
    have b : 0 ≤ (if p < r then p else r) ∧ (if p < r then p else r) ≤ 5 ∧ (if p < r then p else r) ≤ r := by split <;> omega
    refine ⟨.go (s.set k (if p < r then p else r), r - (if p < r then p else r), (k : Int) - 1), hs k s r hk h1 h3.1 h3.2, by simpa using h1, ?_, ⟨by dsimp only; omega, by dsimp only; omega⟩, by dsimp only; omega, hj⟩
    rw [List.all_eq_true] at h2 ⊢
    intro x hx
    rcases List.mem_or_eq_of_mem_set hx with h | rfl
    · exact h2 x h
    · exact inB_t.2 ⟨b.1, b.2.1⟩
  · rintro ⟨s, r, c⟩ ⟨h1, h2, h3, h4, _⟩
    simp only at h1 h2 h3 h4
    have : c = -1 := by omega
    subst this
    exact ⟨_, he s r, h1, h2⟩
theorem n_greatest {ct : Contest} (k : OkC ct) : ∃ n, F_spec_bGreatest ct = some n ∧ F_impl_Contest_greatest ct = some n := by
  have lo := k.lo
  unfold F_spec_bGreatest F_impl_Contest_greatest
  rcases k.k with ⟨k13, ho, hm, hp⟩ | ⟨k2, ho, hp, hm⟩ | ⟨k4, ho, hm, hp⟩
  · obtain ⟨o, eo⟩ : ∃ o : Nat, ct.Options = (o : Int) := ⟨ct.Options.toNat, by omega⟩
    obtain ⟨m, em⟩ : ∃ m : Nat, ct.Most = (m : Int) := ⟨ct.Most.toNat, by omega⟩
    have w : IntKind.i64.wrap (ct.Options - ct.Most) = ct.Options - ct.Most := wr64 (by omega) (by omega)
    have e1 : ∀ {β : Type} (out : List Int → β), wloop (fun s5 : List Int × Int => if decide (s5.2 < ct.Options) = true then (gd ((s5.1.length + 1) * 8 ≤ 140737488355328 ∧ s5.1.length + 1 ≤ 4611686018427387904) <| some (.go (s5.1 ++ [s5.2], IntKind.i64.wrap (s5.2 + 1)))) else (some (.out (out s5.1)))) ([], ct.Options - ct.Most) = some (out (rng (ct.Options - ct.Most) m)) := fun {β} out => by
      refine wl_app m ?_ ?_
      · intro c s hc hs
        rw [if_pos (by simp; omega), gd_t (by rw [hs]; omega), wr64 (by dsimp only; omega) (by dsimp only; omega)]
      · intro s
        rw [if_neg (by simp; omega)]
    have hall : (rng (ct.Options - ct.Most) m).all (inB 0 (ct.Options - 1)) = true := rng_all (by omega) (by omega)
    rcases k13 with k1 | k3
    · rw [k1]
      simp only [show ((1 : Int) == 1) = true from rfl, if_true, w]
      have e2 : wloop (σ := List Int × Int) (β := List Int) (fun s5 => if decide (s5.2 < ct.Options) = true then (((if decide (ct.Options - ct.Most ≤ s5.2) = true then (some 1) else (some 0) : Option (Int)).bind fun x13 =>
          gd ((s5.1.length + 1) * 8 ≤ 140737488355328 ∧ s5.1.length + 1 ≤ 4611686018427387904) <| some (.go (s5.1 ++ [x13], IntKind.i64.wrap (s5.2 + 1))))) else (some (.out s5.1))) ([], 0) = some ((List.range o).map fun (i : Nat) => if decide (ct.Options - ct.Most ≤ (i : Int)) = true then 1 else 0) := by
        refine wl_app (out := fun s => s) (a := 0) o ?_ ?_
        · intro c s hc hs
          have hg : ∀ x : Int, gd ((s.length + 1) * 8 ≤ 140737488355328 ∧ s.length + 1 ≤ 4611686018427387904) (some (Stp.go (β := List Int) (s ++ [x], IntKind.i64.wrap (0 + (c : Int) + 1)))) = some (.go (s ++ [x], 0 + (c : Int) + 1)) := fun x => by
            rw [gd_t (by rw [hs]; omega), wr64 (by omega) (by omega)]
          rw [if_pos (by simp; omega)]
          dsimp only
          by_cases h : ct.Options - ct.Most ≤ (c : Int)
          · rw [if_pos (by simpa using h), Option.bind_some, hg, if_pos (by simpa using h)]
          · rw [if_neg (by simpa using h), Option.bind_some, hg, if_neg (by simpa using h)]
        · intro s
          rw [if_neg (by simp; omega)]
      have em2 : marks ct.Options.toNat (rng (ct.Options - ct.Most) m) = (List.range o).map fun (i : Nat) => if decide (ct.Options - ct.Most ≤ (i : Int)) = true then 1 else 0 := by
        have : ct.Options.toNat = o := by omega
        rw [this]
        unfold marks
        refine List.map_congr_left fun i hi => ?_
        have hi := List.mem_range.1 hi
        congr 1
        rw [List.contains_eq_mem, decide_eq_true_eq, decide_eq_true_eq, rng_mem]
        exact propext ⟨fun h => h.1, fun h => ⟨h, by omega⟩⟩
      have ha : ((List.range o).map fun (i : Nat) => if decide (ct.Options - ct.Most ≤ (i : Int)) = true then (1 : Int) else 0).all (inB 0 40) = true := by
        rw [List.all_map, List.all_eq_true]
        intro i _
        show inB 0 40 (if _ then _ else _) = true
        split <;> rfl
      have hb : F_impl_Contest_base ct = some 2 := by unfold F_impl_Contest_base; rw [k1]; rfl
      refine ⟨?_, ?_, ?_⟩
      rotate_left 2
      · rw [e2, Option.bind_some, hb, Option.bind_some, n_codeOf (by omega) (by simp; omega) ha]; rfl
      · rw [e1 (fun s => s), Option.bind_some]
        unfold F_spec_vCode
        rw [k1, if_pos (show ((1 : Int) == 1) = true from rfl), n_vMarks (by omega) hall, Option.bind_some, em2, n_vNumber (by omega) (by omega) (by simp; omega) (by simpa using ha)]
        simp
        rfl
    · rw [k3]
      simp only [show ((3 : Int) == 1) = false from rfl, show ((3 : Int) == 2) = false from rfl, show ((3 : Int) == 3) = true from rfl, Bool.false_eq_true, if_false, if_true, w]
      have ee : (rng (ct.Options - ct.Most) m).map (· + 1) = rng (ct.Options - ct.Most + 1) m := by
        simp only [rng, List.map_map]
        refine List.map_congr_left fun i hi => ?_
        show ct.Options - ct.Most + (i : Int) + 1 = ct.Options - ct.Most + 1 + (i : Int); omega
      have e2 : wloop (σ := List Int × Int) (β := List Int) (fun s40 => if decide (s40.2 < ct.Most) = true then (gd ((s40.1.length + 1) * 8 ≤ 140737488355328 ∧ s40.1.length + 1 ≤ 4611686018427387904) <|
          some (.go (s40.1 ++ [IntKind.i64.wrap ((IntKind.i64.wrap (ct.Options - ct.Most + 1)) + s40.2)], IntKind.i64.wrap (s40.2 + 1)))) else (some (.out s40.1))) ([], 0) = some (rng (ct.Options - ct.Most + 1) m) := by
        refine wl_app (out := fun s => s) (a := 0) (f := fun i => ct.Options - ct.Most + 1 + (i : Int)) m ?_ ?_
        · intro c s hc hs
          rw [if_pos (by simp; omega), gd_t (by rw [hs]; omega), wr64 (n := ct.Options - ct.Most + 1) (by omega) (by omega), wr64 (n := 0 + (c : Int) + 1) (by omega) (by omega), wr64 (by dsimp only; omega) (by dsimp only; omega), Int.zero_add]
        · intro s
          rw [if_neg (by simp; omega)]
      have ha : (rng (ct.Options - ct.Most + 1) m).all (inB 0 40) = true := rng_all (by omega) (by omega)
      have hb : F_impl_Contest_base ct = some (ct.Options + 1) := by unfold F_impl_Contest_base; rw [k3, wr64 (n := ct.Options + 1) (by omega) (by omega)]; rfl
      refine ⟨?_, ?_, ?_⟩
      rotate_left 2
      · rw [e2, Option.bind_some, hb, Option.bind_some, n_codeOf (by omega) (by rw [rng_len]; omega) ha]; rfl
      · rw [e1 (fun s => s), Option.bind_some]
        unfold F_spec_vCode
        rw [k3, wr64 (n := ct.Options + 1) (by omega) (by omega)]
        simp only [show ((3 : Int) == 1) = false from rfl, show ((3 : Int) == 2) = false from rfl, show ((3 : Int) == 3) = true from rfl, Bool.false_eq_true, if_false, if_true]
        rw [n_vNumber (by omega) (by omega) (by rw [rng_len]; omega) (by rw [ee]; exact ha), ee]
        rfl
  · obtain ⟨o, eo⟩ : ∃ o : Nat, ct.Options = (o : Int) := ⟨ct.Options.toNat, by omega⟩
    have mb := mulb ho hp
    rw [k2]
    simp only [show ((2 : Int) == 1) = false from rfl, show ((2 : Int) == 2) = true from rfl, Bool.false_eq_true, if_false, if_true]
    rw [gd_t (by omega), gd_t (by omega), Option.bind_some, Option.bind_some, wr64 (n := ct.Options - 1) (by omega) (by omega)]
    have hl : ∀ a b : Int, F_spec_l1Least a b = some (if a < b then a else b) := fun a b => by unfold F_spec_l1Least; by_cases h : a < b <;> simp [h]
    have hmin : ∀ a b : Int, (if b < a then b else a) = (if a < b then a else b) := fun a b => by split <;> split <;> omega
    have eS := wl_rep (step := fun s26 : List Int × Int × Int =>
      if decide (0 ≤ s26.2.2) = true then (
      (F_spec_l1Least s26.2.1 ct.Points).bind fun z32 =>
      (ix s26.1 s26.2.2).bind fun x33 =>
      (ix (s26.1.set s26.2.2.toNat z32) s26.2.2).bind fun x34 =>
      some (.go (s26.1.set s26.2.2.toNat z32, IntKind.i64.wrap (s26.2.1 - x34), IntKind.i64.wrap (s26.2.2 - 1)))) else (
      some (.out s26.1))) (n := o) (m := ct.Most) (by omega) ct.Points (by omega) (by omega) ?_ (fun s r => rfl)
    · obtain ⟨l, h1, h2, h3⟩ := eS
      have e : (fun s26 : List Int × Int × Int =>
        if decide (0 ≤ s26.2.2) = true then (
        (F_spec_l1Least s26.2.1 ct.Points).bind fun z32 =>
        (ix s26.1 s26.2.2).bind fun x33 =>
        (ix (s26.1.set s26.2.2.toNat z32) s26.2.2).bind fun x34 =>
        some (.go (s26.1.set s26.2.2.toNat z32, IntKind.i64.wrap (s26.2.1 - x34), IntKind.i64.wrap (s26.2.2 - 1)))) else (
        some (.out s26.1))) = (fun s29 : List Int × Int × Int =>
        if decide (0 ≤ s29.2.2) = true then (
        (ix s29.1 s29.2.2).bind fun x35 =>
        (ix (s29.1.set s29.2.2.toNat (if ct.Points < s29.2.1 then ct.Points else s29.2.1)) s29.2.2).bind fun x36 =>
        some (Stp.go (s29.1.set s29.2.2.toNat (if ct.Points < s29.2.1 then ct.Points else s29.2.1), IntKind.i64.wrap (s29.2.1 - x36), IntKind.i64.wrap (s29.2.2 - 1)))) else (
        some (.out s29.1))) := by
        funext s
        simp only [hl, hmin, Option.bind_some]
      rw [← e]
      have : ct.Options.toNat = o := by omega
      rw [this, eo, h1, Option.bind_some, Option.bind_some]
      have hb : F_impl_Contest_base ct = some (ct.Points + 1) := by unfold F_impl_Contest_base; rw [k2, wr64 (by omega) (by omega)]; rfl
      have ha := all_mono (a := 0) (a' := 0) (b := 5) (b' := 40) (by omega) (by omega) h3
      refine ⟨?_, ?_, ?_⟩
      rotate_left 2
      · rw [hb, Option.bind_some, n_codeOf (by omega) (by omega) ha]; rfl
      · unfold F_spec_vCode
        rw [k2, wr64 (n := ct.Points + 1) (by omega) (by omega)]
        simp only [show ((2 : Int) == 1) = false from rfl, show ((2 : Int) == 2) = true from rfl, Bool.false_eq_true, if_false, if_true]
        rw [n_vNumber (by omega) (by omega) (by omega) (by simpa using ha)]
        simp
    · intro c s r hc hs h0 h1
      have hc2 : c < (s.set c (if ct.Points < r then ct.Points else r)).length := by simp; omega
      dsimp only
      rw [if_pos (by simp), hl, Option.bind_some, ix_at (by omega), Option.bind_some, ← hmin, Int.toNat_natCast, ix_at hc2, Option.bind_some]
      have b : 0 ≤ (if ct.Points < r then ct.Points else r) ∧ (if ct.Points < r then ct.Points else r) ≤ r := by split <;> omega
      rw [List.getElem_set_self, wr64 (by omega) (by omega), wr64 (by omega) (by omega)]
  · obtain ⟨m, em⟩ : ∃ m : Nat, ct.Most = (m : Int) := ⟨ct.Most.toNat, by omega⟩
    rw [k4]
    simp only [show ((4 : Int) == 1) = false from rfl, show ((4 : Int) == 2) = false from rfl, show ((4 : Int) == 3) = false from rfl, Bool.false_eq_true, if_false, if_true]
    have e1 : wloop (σ := List Int × Int) (β := List Int) (fun s46 => if decide (s46.2 < ct.Most) = true then (gd ((s46.1.length + 1) * 8 ≤ 140737488355328 ∧ s46.1.length + 1 ≤ 4611686018427387904) <|
        some (.go (s46.1 ++ [26], IntKind.i64.wrap (s46.2 + 1)))) else (some (.out s46.1))) ([], 0) = some ((List.range m).map fun _ => 26) := by
      refine wl_app (out := fun s => s) (a := 0) m ?_ ?_
      · intro c s hc hs
        rw [if_pos (by simp; omega), gd_t (by rw [hs]; omega), wr64 (by dsimp only; omega) (by dsimp only; omega)]
      · intro s
        rw [if_neg (by simp; omega)]
    have ha : ((List.range m).map fun _ => (26 : Int)).all (inB 0 40) = true := by
      rw [List.all_map, List.all_eq_true]; intro i _; rfl
    have hb : F_impl_Contest_base ct = some 27 := by unfold F_impl_Contest_base; rw [k4]; rfl
    rw [e1, Option.bind_some, Option.bind_some]
    refine ⟨?_, ?_, ?_⟩
    rotate_left 2
    · rw [hb, Option.bind_some, n_codeOf (by omega) (by simp; omega) ha]; rfl
    · unfold F_spec_vCode
      rw [k4]
      simp only [show ((4 : Int) == 1) = false from rfl, show ((4 : Int) == 2) = false from rfl, show ((4 : Int) == 3) = false from rfl, Bool.false_eq_true, if_false, if_true]
      rw [n_vNumber (by omega) (by omega) (by simp; omega) (by simpa using ha)]
      simp
      rfl
-- sealable contests
theorem n_formI (ct : Contest) : F_impl_Contest_isForm ct = some (ct.Kind == 1 || ct.Kind == 2) := by
  unfold F_impl_Contest_isForm
  rw [ite_or]; rfl
theorem n_bRows (ct : Contest) : F_spec_bRows ct = some (ct.Kind == 1 || ct.Kind == 2) := by
  unfold F_spec_bRows
  rw [ite_or]; rfl
theorem n_sealable (gr : Group) (ct : Contest) : ∃ b, F_spec_bGood gr ct = some b ∧ F_impl_IsSealable gr ct = some b ∧ (b = true → OkG gr ∧ OkC ct) := by
  unfold F_spec_bGood F_impl_IsSealable
  rw [n_l2Good, n_validG]
  simp only [n_vContest, n_IsValidContest, n_bRows, n_formI, Option.bind_some]
  cases hg : okG gr with
  | false => exact ⟨false, rfl, rfl, fun h => by cases h⟩
  | true =>
    cases hc : okC ct with
    | false => exact ⟨false, rfl, rfl, fun h => by cases h⟩
    | true =>
      obtain ⟨n, h1, h2⟩ := n_greatest (okC_t.1 hc)
      simp only [h1, h2, Bool.not_true, Bool.false_eq_true, if_false, Option.bind_some]
      have k := And.intro (okG_t.1 hg) (okC_t.1 hc)
      simp only [ite_or, ite_and, Option.bind_some]
      cases decide (100000 < n) || decide (gr.Q ≤ n) with
      | true => exact ⟨false, rfl, rfl, fun h => by cases h⟩
      | false => exact ⟨_, rfl, rfl, fun _ => k⟩
-- plans
theorem n_plan (p : Plan) : ∃ b, F_spec_nPlan p = some b ∧ F_impl_IsValidPlan p = some b ∧ (b = true → OkG p.Gr ∧ OkC p.Ct ∧ 7 < p.Gr.Q ∧ (1 ≤ p.Threshold ∧ p.Threshold ≤ p.Trustees ∧ p.Trustees ≤ 4) ∧ (0 ≤ p.Mixers ∧ p.Mixers ≤ 3) ∧ (1 ≤ p.Voters ∧ p.Voters ≤ 12) ∧ digB p.Seed = true) := by
  obtain ⟨b, s1, s2, s3⟩ := n_sealable p.Gr p.Ct
  unfold F_spec_nPlan F_impl_IsValidPlan
  simp only [s1, s2, n_inB, n_winB, n_isDigest, n_l3Digest, n_bRows, n_formI, Option.bind_some, ite_or]
  have e : (!b || (!inB 1 p.Trustees p.Threshold || (decide (4 < p.Trustees) || (decide (p.Gr.Q ≤ 7) || (!inB 0 3 p.Mixers || (!inB 1 12 p.Voters || !digB p.Seed)))))) = (!b || (decide (p.Gr.Q ≤ 7) || (!inB 1 4 p.Trustees || (!inB 1 p.Trustees p.Threshold || (!inB 0 3 p.Mixers || (!inB 1 12 p.Voters || !digB p.Seed)))))) := by
    rw [Bool.eq_iff_iff]
    generalize digB p.Seed = d
    simp only [Bool.or_eq_true, Bool.not_eq_true', decide_eq_true_eq, inB, Bool.and_eq_false_iff, decide_eq_false_iff_not]
    cases b <;> cases d <;> simp <;> omega
  rw [← e]
  cases hb : (!b || (!inB 1 p.Trustees p.Threshold || (decide (4 < p.Trustees) || (decide (p.Gr.Q ≤ 7) || (!inB 0 3 p.Mixers || (!inB 1 12 p.Voters || !digB p.Seed)))))) with
  | true => exact ⟨false, rfl, rfl, fun h => by cases h⟩
  | false =>
    simp only [Bool.or_eq_false_iff, Bool.not_eq_false', decide_eq_false_iff_not, inB_t] at hb
    obtain ⟨h1, h2, h3, h4, h5, h6, h7⟩ := hb
    obtain ⟨kg, kc⟩ := s3 h1
    obtain ⟨bs, t, n1, n2, _⟩ := n_bases kg (n := 12) (by omega)
    simp only [Bool.false_eq_true, if_false]
    have et : ∀ a, F_spec_bTop p.Ct = some a → (p.Ct.Kind == 1 || p.Ct.Kind == 2) = true → F_impl_Contest_most p.Ct = some a := by
      intro a ha hk
      unfold F_spec_bTop at ha
      unfold F_impl_Contest_most
      simp only [Bool.or_eq_true, beq_iff_eq] at hk
      rcases hk with h | h <;> simp [h] at ha ⊢ <;> exact ha
    obtain ⟨a, ha⟩ : ∃ a, F_spec_bTop p.Ct = some a := by unfold F_spec_bTop; split <;> exact ⟨_, rfl⟩
    have fin : OkG p.Gr ∧ OkC p.Ct ∧ 7 < p.Gr.Q ∧ (1 ≤ p.Threshold ∧ p.Threshold ≤ p.Trustees ∧ p.Trustees ≤ 4) ∧ (0 ≤ p.Mixers ∧ p.Mixers ≤ 3) ∧ (1 ≤ p.Voters ∧ p.Voters ≤ 12) ∧ digB p.Seed = true := ⟨kg, kc, by omega, by omega, h5, h6, h7⟩
    have n1' : F_spec_BasesOf p.Gr 12 = some (bs, t) := n1
    have n2' : F_impl_Group_basesOf p.Gr 12 = some (bs, t) := n2
    cases hk : (p.Ct.Kind == 1 || p.Ct.Kind == 2) with
    | false =>
      simp only [Bool.false_eq_true, if_false, Option.bind_some, n1', n2']
      exact ⟨t, rfl, rfl, fun _ => fin⟩
    | true =>
      simp only [if_true, ha, et a ha hk, Option.bind_some, n1', n2']
      cases decide (p.Gr.Q ≤ IntKind.i64.wrap (p.Voters * a)) with
      | true => exact ⟨false, rfl, rfl, fun h => by cases h⟩
      | false => exact ⟨t, rfl, rfl, fun _ => fin⟩
theorem mul_two {gr : Group} (k : OkG gr) {x y : Int} (hx : 0 ≤ x ∧ x < gr.P) (hy : 0 ≤ y) : mulG gr [x, y] = x * y % gr.P := by
  have hp := k.p
  simp only [mulG, List.foldl_cons, List.foldl_nil, Int.one_mul]
  rw [Int.emod_eq_of_lt hx.1 hx.2]
theorem gen_has {gr : Group} (k : OkG gr) : hasB gr gr.G = true := by
  have hg := k.g
  simp only [hasB, Bool.and_eq_true, decide_eq_true_eq]
  exact ⟨by omega, k.o⟩
def mulV (gr : Group) (o l : List Int) : List Int := List.zipWith (fun x y => mulG gr [x, y]) o l
theorem n_row {gr : Group} (k : OkG gr) {τ : Type} (q : List Int → τ) {o l : List Int} (hlen : o.length = l.length) (ho : ∀ x ∈ o, 0 ≤ x ∧ x ≤ 2000000000) (hl : ∀ x ∈ l, 0 ≤ x ∧ x ≤ 2000000000) :
    rloop (σ := List Int) (fun i s => (ix l i).bind fun x => (ix s i).bind fun y => (F_impl_Group_mul gr [y, x]).bind fun z => some (.go (s.set i.toNat z))) q l.length 0 o = some (q (mulV gr o l)) := by
  refine eq_of_rn (rn_rloop (fun k s => s.length = l.length ∧ ∀ j, s[j]? = if j < k then (mulV gr o l)[j]? else o[j]?) ⟨hlen, fun j => by simp⟩ ?_ ?_)
  · rintro i s hi ⟨h1, h2⟩
    have h3 : i < s.length := by omega
    have h5 : i < o.length := by omega
    have h4 : s[i] = o[i] := by
      have := h2 i
      rw [if_neg (Nat.lt_irrefl _), List.getElem?_eq_getElem h3, List.getElem?_eq_getElem h5] at this
      injection this
    rw [ix_at hi, Option.bind_some, ix_at h3, Option.bind_some, n_mul k (by
      intro x hx
      rcases List.mem_cons.1 hx with rfl | hx
      · rw [h4]; exact ho _ (List.getElem_mem h5)
      · rw [List.mem_singleton.1 hx]; exact hl _ (List.getElem_mem hi)), Option.bind_some]
    refine ⟨_, rfl, by simp [h1], fun j => ?_⟩
    rw [Int.toNat_natCast, List.getElem?_set]
    by_cases e : i = j
    · subst e
      rw [if_pos rfl, if_pos h3, if_pos (Nat.lt_succ_self _), h4]
      unfold mulV
      rw [List.getElem?_zipWith, List.getElem?_eq_getElem h5, List.getElem?_eq_getElem hi]
    · rw [if_neg e, h2 j]
      by_cases h6 : j < i
      · rw [if_pos h6, if_pos (by omega)]
      · rw [if_neg h6, if_neg (by omega)]
  · rintro s ⟨h1, h2⟩
    congr 1
    apply List.ext_getElem?
    intro j
    rw [h2 j]
    split
    · rfl
    · rename_i h3
      rw [List.getElem?_eq_none (by omega), List.getElem?_eq_none (by unfold mulV; simp; omega)]
theorem n_rowS {gr : Group} (k : OkG gr) {τ : Type} (q : List Int → τ) {o l : List Int} (hlen : o.length = l.length) (ho : ∀ x ∈ o, 0 ≤ x ∧ x ≤ 2000000000) (hl : ∀ x ∈ l, 0 ≤ x ∧ x ≤ 2000000000) :
    rloop (σ := List Int) (fun i s => (ix l i).bind fun x => (ix s i).bind fun y => (F_spec_gMul gr [y, x]).bind fun z => some (.go (s.set i.toNat z))) q l.length 0 o = some (q (mulV gr o l)) := n_row k q hlen ho hl
theorem mulV_bd {gr : Group} (k : OkG gr) {o l : List Int} (hlen : o.length = l.length) (ho : ∀ x ∈ o, 0 ≤ x ∧ x ≤ 2000000000) (hl : ∀ x ∈ l, 0 ≤ x ∧ x ≤ 2000000000) : (mulV gr o l).length = o.length ∧ ∀ x ∈ mulV gr o l, 0 ≤ x ∧ x ≤ 2000000000 := by
  refine ⟨by unfold mulV; simp; omega, fun x hx => ?_⟩
  obtain ⟨i, hi, rfl⟩ := List.getElem_of_mem hx
  unfold mulV at hi ⊢
  rw [List.getElem_zipWith]
  simp at hi
  have := mulG_bd k (l := [o[i], l[i]]) (by
    intro y hy
    rcases List.mem_cons.1 hy with rfl | hy
    · exact ho _ (List.getElem_mem _)
    · rw [List.mem_singleton.1 hy]; exact hl _ (List.getElem_mem _))
  have := k.p
  omega
def coinL (p : Plan) (s : ByteArray) (d : Int) (m : Nat) : List Int := (List.range m).map fun i : Nat => hshL s [p.Seed, d, (i : Int)] % p.Gr.Q
theorem n_coinsP {p : Plan} {s : ByteArray} {d : Int} {m : Nat} (k : OkG p.Gr) (hs : s.size ≤ 40) (hp : digB p.Seed = true) (hd : digB d = true) (hm : m ≤ 200) :
    F_spec_nCoins p s d m = some (coinL p s d m) ∧ F_impl_Plan_coins p s d m = some (coinL p s d m) := by
  have hq := k.q
  have hdig : ∀ i : Nat, i < m → ([p.Seed, d, (i : Int)] : List Int).all digB = true := fun i hi => by
    have : digB (i : Int) = true := by simp [digB]; omega
    simp [hp, hd, this]
  have ht : ∀ l, (hshL s l).tmod p.Gr.Q = hshL s l % p.Gr.Q := fun l => Int.tmod_eq_emod_of_nonneg (digB_t.1 (hshL_dig s l)).1
  have hst : ∀ i : Nat, coinL p s d (i + 1) = coinL p s d i ++ [hshL s [p.Seed, d, (i : Int)] % p.Gr.Q] := fun i => by
    unfold coinL; rw [List.range_succ, List.map_append]; rfl
  have hlen : ∀ i : Nat, (coinL p s d i).length = i := fun i => by simp [coinL]
  constructor
  · unfold F_spec_nCoins
    refine eq_of_rn (rn_bind (rn_cloop m (fun i z => z = (coinL p s d i, (i : Int)) ∧ i ≤ m) ⟨rfl, by omega⟩ ?_ ?_))
    · rintro i z hi ⟨rfl, _⟩
      rw [if_pos (by simp; omega), n_hLabelled (by omega) (by simp) (hdig i hi), Option.bind_some, gd_t (by omega), gd_t (by rw [hlen]; omega), ht]
      refine ⟨_, rfl, ?_, hi⟩
      rw [wr64 (by omega) (by omega), hst]; rfl
    · rintro z ⟨rfl, _⟩
      rw [if_neg (by simp)]
      exact ⟨_, rfl, _, rfl, rfl⟩
  · unfold F_impl_Plan_coins
    refine eq_of_rn (rn_bind (rn_cloop m (fun i z => z = (coinL p s d i, (i : Int)) ∧ i ≤ m) ⟨rfl, by omega⟩ ?_ ?_))
    · rintro i z hi ⟨rfl, _⟩
      rw [if_pos (by simp; omega), n_HashLabelled, if_pos (by simp only [labB, hdig i hi, Bool.and_true]; simp; omega), Option.bind_some, gd_t (by omega), gd_t (by rw [hlen]; omega), ht]
      refine ⟨_, rfl, ?_, hi⟩
      rw [wr64 (by omega) (by omega), hst]; rfl
    · rintro z ⟨rfl, _⟩
      rw [if_neg (by simp)]
      exact ⟨_, rfl, _, rfl, rfl⟩
theorem coinL_bd {p : Plan} (k : OkG p.Gr) (s : ByteArray) (d : Int) (m : Nat) : ∀ x ∈ coinL p s d m, 0 ≤ x ∧ x < p.Gr.Q := by
  intro x hx
  obtain ⟨i, _, rfl⟩ := List.mem_map.1 hx
  have hq := k.q
  exact ⟨Int.emod_nonneg _ (by omega), Int.emod_lt_of_pos _ (by omega)⟩
theorem n_horn {q x : Int} {f : List Int} (hq : 0 < q) (hq2 : q ≤ 2000000000) (hx : 0 ≤ x) (hx2 : x ≤ 2000000000) (hf : ∀ c ∈ f, 0 ≤ c ∧ c ≤ 2000000000) (hl : f.length ≤ 1000000000000) :
    wloop (σ := Int × Int) (fun s => if decide (0 ≤ s.2) = true then ((ix f s.2).bind fun c => gd (q ≠ 0) <| some (.go ((IntKind.i64.wrap ((IntKind.i64.wrap (s.1 * x)) + c)).tmod q, IntKind.i64.wrap (s.2 - 1)))) else (some (.out s.1))) (0, IntKind.i64.wrap ((f.length : Int) - 1)) = some (polyV q f x) := by
  rw [wr64 (by omega) (by omega)]
  refine eq_of_rn (rn_cloop f.length (fun k s => s = (polyV q (f.drop (f.length - k)) x, (f.length : Int) - k - 1)) ?_ ?_ ?_)
  · simp [polyV]
  · rintro k s hk rfl
    have hi : (f.length : Int) - (k : Int) - 1 = ((f.length - k - 1 : Nat) : Int) := by omega
    have hlt : f.length - k - 1 < f.length := by omega
    have hd : f.drop (f.length - (k + 1)) = f[f.length - k - 1] :: f.drop (f.length - k) := by
      have e := List.drop_eq_getElem_cons (l := f) (i := f.length - k - 1) hlt
      rw [show f.length - (k + 1) = f.length - k - 1 by omega, e, show f.length - k - 1 + 1 = f.length - k by omega]
    have hb := polyV_bd hq (f.drop (f.length - k)) x
    have hc := hf _ (List.getElem_mem hlt)
    refine rn_t (by simp only [decide_eq_true_eq]; omega) ?_
    simp only [hi]
    refine rn_ix hlt (rn_gd (by omega) (rn_some ?_))
    show (_, _) = (_, _)
    rw [hd]
    show (_, _) = ((polyV q (f.drop (f.length - k)) x * x + f[f.length - k - 1]) % q, _)
    generalize polyV q (f.drop (f.length - k)) x = a at hb ⊢
    have b1 : 0 ≤ a * x := Int.mul_nonneg hb.1 hx
    have b2 : a * x ≤ 2000000000 * 2000000000 := Int.mul_le_mul (by omega) hx2 hx (by omega)
    rw [wr64 (n := a * x) (by omega) (by omega), wr64 (n := a * x + _) (by omega) (by omega), Int.tmod_eq_emod_of_nonneg (by omega), wr64 (by omega) (by omega)]
    congr 1
    omega
  · rintro s rfl
    refine rn_f (by simp only [decide_eq_false_iff_not]; omega) (rn_some ?_)
    show polyV q (f.drop (f.length - f.length)) x = _
    rw [Nat.sub_self, List.drop_zero]
def dealS : ByteArray := ⟨#[100, 101, 97, 108]⟩
def shrP (p : Plan) (h : Nat) (x : Int) (n : Nat) : Int := (List.range n).foldl (fun s t => (s + polyV p.Gr.Q (coinL p dealS ((t + 1 : Nat) : Int) h) x) % p.Gr.Q) 0
theorem shrP_bd {p : Plan} (k : OkG p.Gr) (h : Nat) (x : Int) (n : Nat) : 0 ≤ shrP p h x n ∧ shrP p h x n < p.Gr.Q := by
  have hq := k.q
  cases n with
  | zero => exact ⟨Int.le_refl _, by show (0 : Int) < _; omega⟩
  | succ n =>
    unfold shrP
    rw [List.range_succ, List.foldl_append]
    exact ⟨Int.emod_nonneg _ (by omega), Int.emod_lt_of_pos _ (by omega)⟩
theorem n_share {p : Plan} {T h : Nat} {x : Int} (k : OkG p.Gr) (hp : digB p.Seed = true) (hT : p.Trustees = (T : Int)) (hh : p.Threshold = (h : Int)) (hT4 : T ≤ 4) (hh4 : h ≤ 4) (hx : 0 ≤ x) (hx2 : x ≤ 1000000) :
    F_spec_nShare p x = some (shrP p h x T) ∧ F_impl_Plan_share p x = some (shrP p h x T) := by
  have hq := k.q
  have hpp := k.p
  have hst : ∀ n, shrP p h x (n + 1) = (shrP p h x n + polyV p.Gr.Q (coinL p dealS ((n + 1 : Nat) : Int) h) x) % p.Gr.Q := fun n => by
    unfold shrP; rw [List.range_succ, List.foldl_append]; rfl
  have hcb : ∀ d, ∀ c ∈ coinL p dealS d h, 0 ≤ c ∧ c ≤ 2000000000 := fun d c hc => by
    have := coinL_bd k dealS d h c hc
    omega
  have hcl : ∀ d, (coinL p dealS d h).length ≤ 1000000000000 := fun d => by simp [coinL]; omega
  have hco : ∀ n, n < T → F_spec_nCoins p dealS ((n + 1 : Nat) : Int) h = some (coinL p dealS ((n + 1 : Nat) : Int) h) ∧ F_impl_Plan_coins p dealS ((n + 1 : Nat) : Int) h = some (coinL p dealS ((n + 1 : Nat) : Int) h) := fun n hn =>
    n_coinsP k (by decide) hp (digB_t.2 (by omega)) (by omega)
  constructor
  · unfold F_spec_nShare F_spec_nCoefs
    refine eq_of_rn (rn_bind (rn_cloop T (fun i z => z = (shrP p h x i, ((i + 1 : Nat) : Int)) ∧ i ≤ T) ⟨rfl, by omega⟩ ?_ ?_))
    · rintro i z hi ⟨rfl, _⟩
      dsimp only
      rw [if_pos (by simp [hT]; omega), hh, show (⟨#[100, 101, 97, 108]⟩ : ByteArray) = dealS from rfl, (hco i hi).1]
      simp only [Option.bind_some]
      rw [n_horn (by omega) (by omega) hx (by omega) (hcb _) (hcl _), Option.bind_some, gd_t (by omega)]
      have h1 := shrP_bd k h x i
      have h2 := polyV_bd (q := p.Gr.Q) (by omega) (coinL p dealS ((i + 1 : Nat) : Int) h) x
      refine ⟨_, rfl, ?_, hi⟩
      rw [wr64 (by omega) (by omega), Int.tmod_eq_emod_of_nonneg (by omega), ← hst, wr64 (by omega) (by omega)]; rfl
    · rintro z ⟨rfl, _⟩
      dsimp only
      rw [if_neg (by simp [hT]; omega)]
      exact ⟨_, rfl, _, rfl, rfl⟩
  · unfold F_impl_Plan_share
    refine eq_of_rn (rn_bind (rn_cloop T (fun i z => z = (shrP p h x i, ((i + 1 : Nat) : Int)) ∧ i ≤ T) ⟨rfl, by omega⟩ ?_ ?_))
    · rintro i z hi ⟨rfl, _⟩
      dsimp only
      rw [if_pos (by simp [hT]; omega), hh, show (⟨#[100, 101, 97, 108]⟩ : ByteArray) = dealS from rfl, (hco i hi).2]
      simp only [Option.bind_some]
      rw [n_evalPoly (by omega) (by omega) hx (by omega) (hcb _) (hcl _), Option.bind_some]
      have h1 := shrP_bd k h x i
      have h2 := polyV_bd (q := p.Gr.Q) (by omega) (coinL p dealS ((i + 1 : Nat) : Int) h) x
      rw [wr64 (by omega) (by omega)]
      unfold F_impl_Group_exp
      rw [n_mod (by omega) (by omega)]
      simp only [Option.bind_some]
      refine ⟨_, rfl, ?_, hi⟩
      rw [← hst, wr64 (by omega) (by omega)]; rfl
    · rintro z ⟨rfl, _⟩
      dsimp only
      rw [if_neg (by simp [hT]; omega)]
      exact ⟨_, rfl, _, rfl, rfl⟩
theorem n_rowF {gr : Group} (k : OkG gr) {τ : Type} (q : List Int → τ) (E : Int → Option Int) (f : Int → Int) {o l : List Int} (hlen : o.length = l.length) (ho : ∀ x ∈ o, 0 ≤ x ∧ x ≤ 2000000000) (hE : ∀ x ∈ l, E x = some (f x) ∧ 0 ≤ f x ∧ f x ≤ 2000000000) :
    rloop (σ := List Int) (fun i s => (ix l i).bind fun x => (ix s i).bind fun y => (E x).bind fun e => (F_impl_Group_mul gr [y, e]).bind fun z => some (.go (s.set i.toNat z))) q l.length 0 o = some (q (mulV gr o (l.map f))) := by
  refine eq_of_rn (rn_rloop (fun k s => s.length = l.length ∧ ∀ j, s[j]? = if j < k then (mulV gr o (l.map f))[j]? else o[j]?) ⟨hlen, fun j => by simp⟩ ?_ ?_)
  · rintro i s hi ⟨h1, h2⟩
    have h3 : i < s.length := by omega
    have h5 : i < o.length := by omega
    have h4 : s[i] = o[i] := by
      have := h2 i
      rw [if_neg (Nat.lt_irrefl _), List.getElem?_eq_getElem h3, List.getElem?_eq_getElem h5] at this
      injection this
    obtain ⟨e1, e2⟩ := hE _ (List.getElem_mem hi)
    rw [ix_at hi, Option.bind_some, ix_at h3, Option.bind_some, e1, Option.bind_some, n_mul k (by
      intro x hx
      rcases List.mem_cons.1 hx with rfl | hx
      · rw [h4]; exact ho _ (List.getElem_mem h5)
      · rw [List.mem_singleton.1 hx]; exact e2), Option.bind_some]
    refine ⟨_, rfl, by simp [h1], fun j => ?_⟩
    rw [Int.toNat_natCast, List.getElem?_set]
    by_cases e : i = j
    · subst e
      rw [if_pos rfl, if_pos h3, if_pos (Nat.lt_succ_self _), h4]
      unfold mulV
      rw [List.getElem?_zipWith, List.getElem?_eq_getElem h5, List.getElem?_map, List.getElem?_eq_getElem hi]
      rfl
    · rw [if_neg e, h2 j]
      by_cases h6 : j < i
      · rw [if_pos h6, if_pos (by omega)]
      · rw [if_neg h6, if_neg (by omega)]
  · rintro s ⟨h1, h2⟩
    congr 1
    apply List.ext_getElem?
    intro j
    rw [h2 j]
    split
    · rfl
    · rename_i h3
      rw [List.getElem?_eq_none (by omega), List.getElem?_eq_none (by unfold mulV; simp; omega)]
def dealV (p : Plan) (h : Nat) (t : Nat) : List Int := (coinL p dealS ((t + 1 : Nat) : Int) h).map (powG p.Gr p.Gr.G)
theorem dealV_bd {p : Plan} (k : OkG p.Gr) (h t : Nat) : (dealV p h t).length = h ∧ ∀ x ∈ dealV p h t, 0 ≤ x ∧ x < p.Gr.P := by
  refine ⟨by simp [dealV, coinL], fun x hx => ?_⟩
  obtain ⟨c, _, rfl⟩ := List.mem_map.1 hx
  have := powG_bd k p.Gr.G c
  omega
def jointV (p : Plan) (h n : Nat) : List Int := (List.range n).foldl (fun o t => mulV p.Gr o (dealV p h t)) (List.replicate h 1)
theorem jointV_bd {p : Plan} (k : OkG p.Gr) (h : Nat) : ∀ n, (jointV p h n).length = h ∧ ∀ x ∈ jointV p h n, 0 ≤ x ∧ x ≤ 2000000000 := by
  have hp := k.p
  intro n
  induction n with
  | zero => exact ⟨by simp [jointV], fun x hx => by have := List.eq_of_mem_replicate hx; omega⟩
  | succ n ih =>
    unfold jointV at ih ⊢
    rw [List.range_succ, List.foldl_append]
    obtain ⟨d1, d2⟩ := dealV_bd k h n
    obtain ⟨m1, m2⟩ := mulV_bd k (l := dealV p h n) (ih.1.trans d1.symm) ih.2 fun x hx => by have := d2 x hx; omega
    exact ⟨m1.trans ih.1, m2⟩
theorem n_commitsP {p : Plan} {T h : Nat} (k : OkG p.Gr) (hp : digB p.Seed = true) (hT : p.Trustees = (T : Int)) (hh : p.Threshold = (h : Int)) (hT4 : T ≤ 4) (h1 : 1 ≤ h) (hh4 : h ≤ 4) : F_impl_Plan_commits p = some (jointV p h T) := by
  have hpp := k.p
  have hg := k.g
  have hst : ∀ n, jointV p h (n + 1) = mulV p.Gr (jointV p h n) (dealV p h n) := fun n => by
    unfold jointV; rw [List.range_succ, List.foldl_append]; rfl
  have hrep : F_slices_Repeat_int_int [1] p.Threshold = some (List.replicate h 1) := by
    unfold F_slices_Repeat_int_int
    rw [gd_t (by simp [hh]; omega), hh]; rfl
  unfold F_impl_Plan_commits
  rw [hrep, Option.bind_some]
  refine eq_of_rn (rn_bind (rn_cloop T (fun i z => z = (jointV p h i, ((i + 1 : Nat) : Int)) ∧ i ≤ T) ⟨rfl, by omega⟩ ?_ ?_))
  · rintro i z hi ⟨rfl, _⟩
    dsimp only
    obtain ⟨j1, j2⟩ := jointV_bd k h i
    rw [if_pos (by simp [hT]; omega), hh, show (⟨#[100, 101, 97, 108]⟩ : ByteArray) = dealS from rfl, (n_coinsP k (by decide) hp (digB_t.2 (by omega)) (by omega)).2, Option.bind_some,
      n_rowF k (fun s => s) (fun x => F_impl_Group_pow p.Gr p.Gr.G x) (powG p.Gr p.Gr.G) (by rw [j1]; simp [coinL]) j2 fun x _ => ⟨(n_pow k (by omega) (by omega) x).1, by have := powG_bd k p.Gr.G x; omega⟩, Option.bind_some]
    refine ⟨_, rfl, ?_, hi⟩
    rw [hst, wr64 (by omega) (by omega)]; rfl
  · rintro z ⟨rfl, _⟩
    dsimp only
    rw [if_neg (by simp [hT]; omega)]
    exact ⟨_, rfl, _, rfl, rfl⟩
theorem n_dealt {p : Plan} {h t : Nat} (k : OkG p.Gr) (hp : digB p.Seed = true) (hh : p.Threshold = (h : Int)) (hh4 : h ≤ 4) (ht : t ≤ 1000) : F_spec_nDealt p ((t + 1 : Nat) : Int) = some (dealV p h t) := by
  have hpp := k.p
  have hg := k.g
  unfold F_spec_nDealt F_spec_nCoefs
  rw [hh, show (⟨#[100, 101, 97, 108]⟩ : ByteArray) = dealS from rfl, (n_coinsP k (by decide) hp (digB_t.2 (by omega)) (by omega)).1]
  simp only [Option.bind_some]
  have hl : (coinL p dealS ((t + 1 : Nat) : Int) h).length = h := by simp [coinL]
  unfold dealV
  generalize coinL p dealS ((t + 1 : Nat) : Int) h = l at hl ⊢
  refine eq_of_rn (rn_bind (rn_rloop (fun i s => s = (l.take i).map (powG p.Gr p.Gr.G)) (by simp) ?_ ?_))
  · rintro i s hi rfl
    rw [ix_at hi, Option.bind_some, n_gExp k (by omega) (by omega), Option.bind_some, gd_t (by simp; omega)]
    refine ⟨_, rfl, ?_⟩
    show _ = _
    rw [List.take_succ_eq_append_getElem hi, List.map_append]; rfl
  · rintro s rfl
    rw [List.take_length]
    exact ⟨_, rfl, rfl⟩
theorem mulV_one {gr : Group} : ∀ (l : List Int), (∀ x ∈ l, 0 ≤ x ∧ x < gr.P) → mulV gr (List.replicate l.length 1) l = l := by
  intro l
  induction l with
  | nil => intro _; rfl
  | cons x l ih =>
    intro h
    have hx := h x (by simp)
    show mulG gr [1, x] :: mulV gr (List.replicate l.length 1) l = x :: l
    rw [ih fun y hy => h y (List.mem_cons_of_mem _ hy)]
    congr 1
    show 1 * 1 % gr.P * x % gr.P = x
    rw [Int.mul_emod, Int.emod_emod_of_dvd _ (Int.dvd_refl _), ← Int.mul_emod]
    simp only [Int.one_mul]
    exact Int.emod_eq_of_lt hx.1 hx.2
theorem n_joint {p : Plan} {T h : Nat} (k : OkG p.Gr) (hp : digB p.Seed = true) (hT : p.Trustees = (T : Int)) (hh : p.Threshold = (h : Int)) (hT1 : 1 ≤ T) (hT4 : T ≤ 4) (hh4 : h ≤ 4) : F_spec_nJoint p = some (jointV p h T) := by
  have hpp := k.p
  have hst : ∀ n, jointV p h (n + 1) = mulV p.Gr (jointV p h n) (dealV p h n) := fun n => by
    unfold jointV; rw [List.range_succ, List.foldl_append]; rfl
  have h0 : jointV p h 1 = dealV p h 0 := by
    have := mulV_one (gr := p.Gr) (dealV p h 0) (dealV_bd k h 0).2
    rw [(dealV_bd k h 0).1] at this
    exact this
  unfold F_spec_nJoint
  rw [show (1 : Int) = ((0 + 1 : Nat) : Int) from rfl, n_dealt k hp hh hh4 (by omega), Option.bind_some]
  refine eq_of_rn (rn_bind (rn_cloop (T - 1) (fun i z => z = (jointV p h (i + 1), ((i + 1 + 1 : Nat) : Int)) ∧ i ≤ T - 1) ⟨by rw [h0]; rfl, by omega⟩ ?_ ?_))
  · rintro i z hi ⟨rfl, _⟩
    dsimp only
    obtain ⟨j1, j2⟩ := jointV_bd k h (i + 1)
    obtain ⟨d1, d2⟩ := dealV_bd k h (i + 1)
    rw [if_pos (by simp [hT]; omega), n_dealt k hp hh hh4 (by omega), Option.bind_some, n_rowS k (fun s => s) (j1.trans d1.symm) j2 fun x hx => by have := d2 x hx; omega, Option.bind_some]
    refine ⟨_, rfl, ?_, hi⟩
    rw [← hst, show IntKind.i64.wrap (((i + 1 + 1 : Nat) : Int) + ((0 + 1 : Nat) : Int)) = ((i + 1 + 1 + 1 : Nat) : Int) from wr64 (by omega) (by omega)]
  · rintro z ⟨rfl, _⟩
    dsimp only
    rw [if_neg (by simp [hT]; omega)]
    refine ⟨_, rfl, _, rfl, ?_⟩
    show jointV p h (T - 1 + 1) = _
    rw [Nat.sub_add_cancel hT1]
theorem powG_G {gr : Group} (k : OkG gr) {a : Int} (ha : 0 ≤ a) : powG gr gr.G a = ((gr.G.toNat ^ a.toNat % gr.P.toNat : Nat) : Int) := by
  have hq := k.q
  obtain ⟨n, rfl⟩ := Int.eq_ofNat_of_zero_le ha
  obtain ⟨q, hQ⟩ := Int.eq_ofNat_of_zero_le (show 0 ≤ gr.Q by omega)
  unfold powG
  have ho := k.o
  rw [hQ] at ho ⊢
  rw [Int.toNat_natCast] at ho
  rw [← Int.natCast_emod, Int.toNat_natCast, Int.toNat_natCast, pow_per ho]
theorem powG_add {gr : Group} (k : OkG gr) {a b : Int} (ha : 0 ≤ a) (hb : 0 ≤ b) : mulG gr [powG gr gr.G a, powG gr gr.G b] = powG gr gr.G (a + b) := by
  have hp := k.p
  obtain ⟨P, hP⟩ := Int.eq_ofNat_of_zero_le (show 0 ≤ gr.P by omega)
  have hx := powG_bd k gr.G a
  rw [mul_two k (by omega) (powG_bd k gr.G b).1, powG_G k ha, powG_G k hb, powG_G k (by omega), hP]
  rw [← Int.natCast_mul, ← Int.natCast_emod, Int.toNat_natCast, ← Nat.mul_mod, ← Nat.pow_add, Int.toNat_add ha hb]
def atS (gr : Group) (x : Int) (s : Int × Int) (y : Int) : Int × Int := (mulG gr [s.1, powG gr y s.2], s.2 * x % gr.Q)
theorem n_sAt {gr : Group} {x : Int} {l : List Int} (k : OkG gr) (hx : 0 ≤ x) (hx2 : x ≤ 1000) (hl : ∀ y ∈ l, 0 ≤ y ∧ y ≤ 2000000000) : F_spec_sAt gr l x = some (l.foldl (atS gr x) (1, 1)).1 := by
  have hp := k.p
  have hq := k.q
  unfold F_spec_sAt
  refine eq_of_rn (rn_bind (rn_rloop (fun i s => s = (l.take i).foldl (atS gr x) (1, 1) ∧ (0 ≤ s.1 ∧ s.1 ≤ 2000000000) ∧ 0 ≤ s.2 ∧ s.2 ≤ 2000000000) ⟨rfl, by omega, by omega⟩ ?_ ?_))
  · rintro i s hi ⟨hs, h1, h2⟩
    have hy := hl _ (List.getElem_mem hi)
    have hw := powG_bd k l[i] s.2
    have hb : ∀ z ∈ [s.1, powG gr l[i] s.2], 0 ≤ z ∧ z ≤ 2000000000 := by
      intro z hz
      rcases List.mem_cons.1 hz with rfl | hz
      · exact h1
      · rw [List.mem_singleton.1 hz]; omega
    have b1 : 0 ≤ s.2 * x := Int.mul_nonneg h2.1 hx
    have b2 : s.2 * x ≤ 2000000000 * 1000 := Int.mul_le_mul h2.2 hx2 hx (by omega)
    have b3 : 0 ≤ s.2 * x % gr.Q := Int.emod_nonneg _ (by omega)
    have b4 : s.2 * x % gr.Q < gr.Q := Int.emod_lt_of_pos _ (by omega)
    have hm := mulG_bd k hb
    rw [ix_at hi, Option.bind_some, n_gExp k hy.1 hy.2, Option.bind_some, n_gMul k hb, Option.bind_some, gd_t (by omega), wr64 (by omega) (by omega), Int.tmod_eq_emod_of_nonneg b1]
    refine ⟨_, rfl, ?_, ⟨hm.1, by show mulG gr _ ≤ _; omega⟩, b3, by show s.2 * x % gr.Q ≤ _; omega⟩
    rw [List.take_succ_eq_append_getElem hi, List.foldl_append, ← hs]; rfl
  · rintro s ⟨hs, _⟩
    rw [List.take_length] at hs
    subst hs
    exact ⟨_, rfl, rfl⟩
def addC (a b : List Int) : List Int := List.zipWith (fun x y => x + y) a b
def sumC (p : Plan) (h n : Nat) : List Int := (List.range n).foldl (fun o t => addC o (coinL p dealS ((t + 1 : Nat) : Int) h)) (List.replicate h 0)
theorem sumC_succ (p : Plan) (h n : Nat) : sumC p h (n + 1) = addC (sumC p h n) (coinL p dealS ((n + 1 : Nat) : Int) h) := by
  unfold sumC; rw [List.range_succ, List.foldl_append]; rfl
theorem addC_pos : ∀ {a b : List Int}, (∀ x ∈ a, 0 ≤ x) → (∀ x ∈ b, 0 ≤ x) → ∀ x ∈ addC a b, 0 ≤ x
  | [], b, _, _, x, hx => by simp [addC] at hx
  | a :: l, [], _, _, x, hx => by simp [addC] at hx
  | a :: l, b :: m, ha, hb, x, hx => by
    rcases List.mem_cons.1 (show x ∈ (a + b) :: addC l m from hx) with rfl | hx
    · have := ha a (by simp); have := hb b (by simp); omega
    · exact addC_pos (fun y hy => ha y (List.mem_cons_of_mem _ hy)) (fun y hy => hb y (List.mem_cons_of_mem _ hy)) x hx
theorem sumC_ok {p : Plan} (k : OkG p.Gr) (h : Nat) : ∀ n, (sumC p h n).length = h ∧ ∀ x ∈ sumC p h n, 0 ≤ x
  | 0 => ⟨by simp [sumC], fun x hx => by have := List.eq_of_mem_replicate hx; omega⟩
  | n + 1 => by
    obtain ⟨h1, h2⟩ := sumC_ok k h n
    rw [sumC_succ]
    refine ⟨by simp [addC, h1, coinL], addC_pos h2 fun x hx => (coinL_bd k _ _ _ x hx).1⟩
theorem mulV_map {gr : Group} (k : OkG gr) : ∀ {a b : List Int}, (∀ x ∈ a, 0 ≤ x) → (∀ x ∈ b, 0 ≤ x) → mulV gr (a.map (powG gr gr.G)) (b.map (powG gr gr.G)) = (addC a b).map (powG gr gr.G)
  | [], b, _, _ => by simp [mulV, addC]
  | a :: l, [], _, _ => by simp [mulV, addC]
  | a :: l, b :: m, ha, hb => by
    show mulG gr [powG gr gr.G a, powG gr gr.G b] :: mulV gr (l.map (powG gr gr.G)) (m.map (powG gr gr.G)) = powG gr gr.G (a + b) :: (addC l m).map (powG gr gr.G)
    rw [powG_add k (ha a (by simp)) (hb b (by simp)), mulV_map k (fun y hy => ha y (List.mem_cons_of_mem _ hy)) (fun y hy => hb y (List.mem_cons_of_mem _ hy))]
theorem powG_zero {gr : Group} (k : OkG gr) : powG gr gr.G 0 = 1 := by
  have hp := k.p
  rw [powG_G k (Int.le_refl 0)]
  show ((1 % gr.P.toNat : Nat) : Int) = 1
  rw [Nat.mod_eq_of_lt (by omega)]; rfl
theorem jointV_exp {p : Plan} (k : OkG p.Gr) (h : Nat) : ∀ n, jointV p h n = (sumC p h n).map (powG p.Gr p.Gr.G)
  | 0 => by
    show List.replicate h 1 = (List.replicate h 0).map _
    rw [List.map_replicate, powG_zero k]
  | n + 1 => by
    have hst : jointV p h (n + 1) = mulV p.Gr (jointV p h n) (dealV p h n) := by
      unfold jointV; rw [List.range_succ, List.foldl_append]; rfl
    rw [hst, jointV_exp k h n, sumC_succ]
    exact mulV_map k (sumC_ok k h n).2 fun x hx => (coinL_bd k _ _ _ x hx).1
theorem evI_add (x : Int) : ∀ {a b : List Int}, a.length = b.length → evI (addC a b) x = evI a x + evI b x
  | [], [], _ => rfl
  | a :: l, b :: m, h => by
    show evI (addC l m) x * x + (a + b) = (evI l x * x + a) + (evI m x * x + b)
    rw [evI_add x (by simpa using h)]
    grind
theorem shr_ev {p : Plan} (h : Nat) (x : Int) : ∀ n, shrP p h x n = evI (sumC p h n) x % p.Gr.Q
  | 0 => by
    show (0 : Int) = evI (List.replicate h 0) x % p.Gr.Q
    rw [evI_zero]; simp
  | n + 1 => by
    have hst : shrP p h x (n + 1) = (shrP p h x n + polyV p.Gr.Q (coinL p dealS ((n + 1 : Nat) : Int) h) x) % p.Gr.Q := by
      unfold shrP; rw [List.range_succ, List.foldl_append]; rfl
    have hl : ∀ m, (sumC p h m).length = h := fun m => by
      induction m with
      | zero => simp [sumC]
      | succ m ih => rw [sumC_succ]; simp [addC, ih, coinL]
    rw [hst, shr_ev h x n, sumC_succ, evI_add x (by rw [hl]; simp [coinL]), polyV_ev]
    exact add_cg (mod_cg _ _) (mod_cg _ _)
def pvE (q x : Int) : List Int → Int → Int
  | [], _ => 0
  | c :: l, e => c * e + pvE q x l (e * x % q)
theorem pvE_cg (q x : Int) : ∀ (l : List Int) (e : Int), pvE q x l e % q = (e * evI l x) % q
  | [], e => by simp [pvE, evI]
  | c :: l, e => by
    show (c * e + pvE q x l (e * x % q)) % q = (e * (evI l x * x + c)) % q
    rw [add_cg (a := c * e) (b := c * e) rfl ((pvE_cg q x l (e * x % q)).trans (mul_cg (b := e * x) (d := evI l x) (mod_cg _ _) rfl))]
    congr 1
    grind
theorem at_exp {gr : Group} (k : OkG gr) (x : Int) : ∀ (l : List Int) (a e : Int), (∀ c ∈ l, 0 ≤ c) → 0 ≤ a → 0 ≤ e → ((l.map (powG gr gr.G)).foldl (atS gr x) (powG gr gr.G a, e)).1 = powG gr gr.G (a + pvE gr.Q x l e)
  | [], a, e, _, _, _ => by show powG gr gr.G a = powG gr gr.G (a + 0); rw [Int.add_zero]
  | c :: l, a, e, hl, ha, he => by
    have hq := k.q
    have hc := hl c (by simp)
    have h1 : 0 ≤ c * e := Int.mul_nonneg hc he
    show ((l.map (powG gr gr.G)).foldl (atS gr x) (mulG gr [powG gr gr.G a, powG gr (powG gr gr.G c) e], e * x % gr.Q)).1 = powG gr gr.G (a + (c * e + pvE gr.Q x l (e * x % gr.Q)))
    rw [powG_mul k (gen_has k) hc he, powG_add k ha h1, at_exp k x l (a + c * e) _ (fun y hy => hl y (List.mem_cons_of_mem _ hy)) (by omega) (Int.emod_nonneg _ (by omega)), Int.add_assoc]
theorem powG_cg {gr : Group} {a b : Int} (x : Int) (h : a % gr.Q = b % gr.Q) : powG gr x a = powG gr x b := by
  unfold powG; rw [h]
theorem joint_at {p : Plan} (k : OkG p.Gr) (h n : Nat) (x : Int) : ((jointV p h n).foldl (atS p.Gr x) (1, 1)).1 = powG p.Gr p.Gr.G (shrP p h x n) := by
  rw [jointV_exp k]
  have h1 := at_exp k x (sumC p h n) 0 1 (sumC_ok k h n).2 (Int.le_refl 0) (by omega)
  rw [powG_zero k] at h1
  rw [h1]
  refine powG_cg _ ?_
  rw [Int.zero_add, pvE_cg, Int.one_mul, shr_ev, mod_cg]
theorem pow_has {gr : Group} (k : OkG gr) {c : Int} (hc : 0 ≤ c) : hasB gr (powG gr gr.G c) = true := by
  have hb := powG_bd k gr.G c
  have hp := k.p
  have hq := k.q
  have h3 : (powG gr gr.G c).toNat ^ gr.Q.toNat % gr.P.toNat = 1 := by
    rw [powG_G k hc, Int.toNat_natCast, ← Nat.pow_mod, ← Nat.pow_mul, Nat.mul_comm, Nat.pow_mul, Nat.pow_mod, k.o, Nat.one_pow, Nat.mod_eq_of_lt (by omega)]
  have h1 : 1 ≤ powG gr gr.G c := by
    by_cases h0 : powG gr gr.G c = 0
    · rw [h0, show (0 : Int).toNat = 0 from rfl, Nat.zero_pow (by omega), Nat.zero_mod] at h3
      omega
    · omega
  simp only [hasB, Bool.and_eq_true, decide_eq_true_eq]
  exact ⟨⟨h1, hb.2⟩, h3⟩
theorem joint_has {p : Plan} (k : OkG p.Gr) (h n : Nat) : (jointV p h n).all (hasB p.Gr) = true := by
  rw [jointV_exp k, List.all_eq_true]
  intro y hy
  obtain ⟨c, hc, rfl⟩ := List.mem_map.1 hy
  exact pow_has k ((sumC_ok k h n).2 c hc)
-- the draws
theorem n_least (a b : Int) : F_spec_l1Least a b = some (if a < b then a else b) := by unfold F_spec_l1Least; by_cases h : a < b <;> simp [h]
theorem n_contest {code c0 : List Int} {at_ seed n : Int} (hb : Bt code) (h : Cu code n (c0, at_, seed)) (hn : n ≤ 5000000000000000) : Rn (F_spec_l1Cur_contest__io0 c0 at_ seed) (fun z => Cu code (n + 12) z.2) := by
  unfold F_spec_l1Cur_contest__io0
  refine rn_then (n_pick hb h (by omega)) fun z1 ⟨_, _, _, _, y1⟩ => ?_
  refine rn_then (n_pick hb y1 (by omega)) fun z2 ⟨_, _, _, _, y2⟩ => ?_
  refine rn_then (n_one hb y2 (by omega)) fun z3 y3 => ?_
  refine rn_then (ψ := fun _ => True) (rn_if (fun _ => rn_some trivial) fun _ => rn_some trivial) fun x6 _ => ?_
  refine rn_then (ψ := fun x => Cu code (n + 8) x.1) (rn_if (fun _ => rn_then (n_pick hb y3 (by omega)) fun z ⟨_, _, _, _, y⟩ => rn_some (y.mono (by omega))) fun _ => rn_if (fun _ => rn_some (y3.mono (by omega))) fun _ => rn_some (y3.mono (by omega))) fun x10 w => ?_
  refine rn_call (n_least _ _) ?_
  refine rn_then (n_pick hb w (by omega)) fun z4 ⟨_, _, _, _, y4⟩ => ?_
  refine rn_then (n_pick hb y4 (by omega)) fun z5 ⟨_, _, _, _, y5⟩ => ?_
  exact rn_some (y5.mono (by omega))
theorem n_anyContest {code c0 : List Int} {at_ seed n : Int} (hb : Bt code) (h : Cu code n (c0, at_, seed)) (hn : n ≤ 4000000000000000) : Rn (F_spec_l1Cur_anyContest__io0 c0 at_ seed) (fun z => Cu code (n + 16) z.2) := by
  unfold F_spec_l1Cur_anyContest__io0
  refine rn_then (n_contest hb h (by omega)) fun z1 y1 => ?_
  refine rn_then (n_pick hb y1 (by omega)) fun z2 ⟨_, _, _, _, y2⟩ => ?_
  have am : ∀ l : List Int, l ≠ [] → Rn (F_spec_l1Cur_among__io0_mv1 z2.2.1 z2.2.2.1 z2.2.2.2 l) (fun z => Cu code (n + 16) z.2) := fun l hl => by
    obtain ⟨v, v1, v2⟩ := n_amongM (l := l) hb y2 (by omega) hl
    exact ⟨v, v1, v2.2.mono (by omega)⟩
  refine rn_then (ψ := fun x => Cu code (n + 16) x.1) ?_ fun x hx => rn_some hx
  refine rn_if (fun _ => rn_then (am _ (by simp)) fun z hz => rn_some hz) fun _ => ?_
  refine rn_if (fun _ => rn_then (am _ (by simp)) fun z hz => rn_some hz) fun _ => ?_
  refine rn_if (fun _ => rn_then (am _ (by simp)) fun z hz => rn_some hz) fun _ => ?_
  refine rn_if (fun _ => rn_then (am _ (by simp)) fun z hz => rn_some hz) fun _ => ?_
  refine rn_if (fun _ => rn_then (am _ (by simp)) fun z hz => rn_some hz) fun _ => ?_
  exact rn_some (y2.mono (by omega))
theorem n_booth {code c0 : List Int} {at_ seed n : Int} (hb : Bt code) (h : Cu code n (c0, at_, seed)) (hn : n ≤ 3000000000000000) : Rn (F_spec_l1Cur_booth__io0 c0 at_ seed) (fun z => Cu code (n + 120) z.2.2.2) := by
  unfold F_spec_l1Cur_booth__io0
  refine rn_then (n_group hb h (by omega)) fun z1 ⟨g1, y1⟩ => ?_
  refine rn_then (n_contest hb y1 (by omega)) fun z2 y2 => ?_
  refine rn_then (ψ := fun x => Cu code (n + 114) x.1) (rn_wloop (fun s => (0 ≤ s.2.2.2.2.2.2 ∧ s.2.2.2.2.2.2 ≤ 8) ∧ Cu code (n + 18 + 12 * s.2.2.2.2.2.2) s.1) (fun s => (8 - s.2.2.2.2.2.2).toNat) ⟨by simp, y2.mono (by simp; omega)⟩ ?_) fun x hx => ?_
  · rintro s ⟨⟨h1, h2⟩, h3⟩
    obtain ⟨b, e, _, _⟩ := n_sealable z1.1 (Contest.mk s.2.1 s.2.2.1 s.2.2.2.1 s.2.2.2.2.1 s.2.2.2.2.2.1)
    refine rn_then (ψ := fun x => x = true → s.2.2.2.2.2.2 < 8) (rn_if (fun g => rn_call e (rn_some fun _ => by simpa using g)) fun _ => rn_some fun h => by cases h) fun x hx => ?_
    refine rn_if (fun g => ?_) fun _ => rn_some (h3.mono (by omega))
    have hx := hx g
    refine rn_then (n_contest hb h3 (by omega)) fun z hz => rn_some ?_
    have e : IntKind.i64.wrap (s.2.2.2.2.2.2 + 1) = s.2.2.2.2.2.2 + 1 := wr64 (by omega) (by omega)
    refine ⟨⟨⟨?_, ?_⟩, ?_⟩, ?_⟩
    · show 0 ≤ IntKind.i64.wrap _; omega
    · show IntKind.i64.wrap _ ≤ 8; omega
    · exact hz.mono (by show _ ≤ n + 18 + 12 * IntKind.i64.wrap _; omega)
    · show (8 - IntKind.i64.wrap (s.2.2.2.2.2.2 + 1)).toNat < _; omega
  obtain ⟨b, e, _, _⟩ := n_sealable z1.1 (Contest.mk x.2.1 x.2.2.1 x.2.2.2.1 x.2.2.2.2.1 x.2.2.2.2.2)
  refine rn_call e ?_
  refine rn_then (ψ := fun v => Gw (Group.mk v.1 v.2.1 v.2.2.1)) (rn_if (fun _ => rn_some ⟨by decide, by decide, by decide⟩) fun _ => rn_some g1.w) fun v hv => ?_
  refine rn_then (n_element hb hx (by omega) hv) fun z ⟨_, _, hz⟩ => rn_some (hz.mono (by omega))
theorem n_planD {code c0 : List Int} {at_ seed n : Int} (hb : Bt code) (h : Cu code n (c0, at_, seed)) (hn : n ≤ 2000000000000000) : Rn (F_spec_l1Cur_plan__io0 c0 at_ seed) (fun z => Cu code (n + 140) z.2) := by
  unfold F_spec_l1Cur_plan__io0
  refine rn_then (n_pick hb h (by omega)) fun z1 ⟨_, _, _, _, y1⟩ => ?_
  refine rn_then (n_booth hb y1 (by omega)) fun z2 y2 => ?_
  refine rn_call (n_least _ _) ?_
  refine rn_then (n_pick hb y2 (by omega)) fun z4 ⟨_, _, _, _, y4⟩ => ?_
  refine rn_then (n_pick hb y4 (by omega)) fun z5 ⟨_, _, _, _, y5⟩ => ?_
  refine rn_then (n_pick hb y5 (by omega)) fun z6 ⟨_, _, _, _, y6⟩ => ?_
  refine rn_then (n_pick hb y6 (by omega)) fun z7 ⟨_, _, _, _, y7⟩ => ?_
  obtain ⟨b, e, _⟩ := n_plan (Plan.mk z2.1 z2.2.2.1 (IntKind.i64.wrap (1 + z5.1)) (IntKind.i64.wrap (1 + z4.1)) z6.1 (IntKind.i64.wrap (1 + z7.1)) z1.1)
  refine rn_call e ?_
  refine rn_then (ψ := fun _ => True) (rn_if (fun _ => rn_some trivial) fun _ => rn_some trivial) fun x11 _ => ?_
  obtain ⟨b', e', _⟩ := n_plan (Plan.mk (Group.mk x11.1 x11.2.1 x11.2.2.1) (Contest.mk x11.2.2.2.1 x11.2.2.2.2.1 x11.2.2.2.2.2.1 x11.2.2.2.2.2.2.1 x11.2.2.2.2.2.2.2.1) x11.2.2.2.2.2.2.2.2.1 x11.2.2.2.2.2.2.2.2.2.1 x11.2.2.2.2.2.2.2.2.2.2.1 x11.2.2.2.2.2.2.2.2.2.2.2.1 x11.2.2.2.2.2.2.2.2.2.2.2.2)
  refine rn_call e' ?_
  refine rn_then (ψ := fun _ => True) (rn_if (fun _ => rn_some trivial) fun _ => rn_some trivial) fun x16 _ => ?_
  exact rn_some (y7.mono (by omega))
theorem n_digestD {code c0 : List Int} {at_ seed n : Int} (hb : Bt code) (h : Cu code n (c0, at_, seed)) (hn : n ≤ 5000000000000000) : Rn (F_spec_l1Cur_digest__io0 c0 at_ seed) (fun z => Cu code (n + 4) z.2) := by
  unfold F_spec_l1Cur_digest__io0
  refine rn_then (n_pick hb h (by omega)) fun z1 ⟨_, _, _, _, y1⟩ => ?_
  refine rn_if (fun _ => rn_then (n_amongM hb y1 (by omega) (by simp)) fun z ⟨_, hz⟩ => rn_some (hz.mono (by omega))) fun _ => ?_
  refine rn_then (ψ := fun _ => True) (rn_if (fun _ => rn_some trivial) fun _ => rn_if (fun _ => rn_some trivial) fun _ => rn_some trivial) fun x6 _ => ?_
  refine rn_if (fun _ => ?_) fun _ => rn_then (n_pick hb y1 (by omega)) fun z ⟨_, _, _, _, hz⟩ => rn_some (hz.mono (by omega))
  refine rn_then (n_pick hb y1 (by omega)) fun z ⟨h0, _, _, h1, hz⟩ => ?_
  exact rn_call (n_hInts (by simp) (by simp [digB]; omega)) (rn_some (hz.mono (by omega)))
theorem n_anyPlan {code c0 : List Int} {at_ seed n : Int} (hb : Bt code) (h : Cu code n (c0, at_, seed)) (hn : n ≤ 1000000000000000) : Rn (F_spec_l1Cur_anyPlan__io0 c0 at_ seed) (fun z => Cu code (n + 160) z.2) := by
  unfold F_spec_l1Cur_anyPlan__io0
  refine rn_then (n_planD hb h (by omega)) fun z1 y1 => ?_
  refine rn_then (n_pick hb y1 (by omega)) fun z2 ⟨_, _, _, _, y2⟩ => ?_
  have am : ∀ l : List Int, l ≠ [] → Rn (F_spec_l1Cur_among__io0_mv1 z2.2.1 z2.2.2.1 z2.2.2.2 l) (fun z => Cu code (n + 160) z.2) := fun l hl => by
    obtain ⟨v, v1, v2⟩ := n_amongM (l := l) hb y2 (by omega) hl
    exact ⟨v, v1, v2.2.mono (by omega)⟩
  refine rn_then (ψ := fun x => Cu code (n + 160) x.1) ?_ fun x hx => rn_some hx
  refine rn_if (fun _ => rn_then (n_anyGroup hb y2 (by omega)) fun z ⟨_, hz⟩ => rn_some (hz.mono (by omega))) fun _ => ?_
  refine rn_if (fun _ => rn_then (n_anyContest hb y2 (by omega)) fun z hz => rn_some (hz.mono (by omega))) fun _ => ?_
  refine rn_if (fun _ => rn_then (am _ (by simp)) fun z hz => rn_some hz) fun _ => ?_
  refine rn_if (fun _ => rn_then (am _ (by simp)) fun z hz => rn_some hz) fun _ => ?_
  refine rn_if (fun _ => rn_then (am _ (by simp)) fun z hz => rn_some hz) fun _ => ?_
  refine rn_if (fun _ => rn_then (am _ (by simp)) fun z hz => rn_some hz) fun _ => ?_
  refine rn_if (fun _ => rn_then (n_digestD hb y2 (by omega)) fun z hz => rn_some (hz.mono (by omega))) fun _ => ?_
  exact rn_some (y2.mono (by omega))
theorem n_label {code c0 : List Int} {at_ seed n : Int} (hb : Bt code) (h : Cu code n (c0, at_, seed)) (hn : n ≤ 5000000000000000) : Rn (F_spec_l1Cur_label__io0 c0 at_ seed) (fun z => Cu code (n + 100) z.2) := by
  unfold F_spec_l1Cur_label__io0 F_spec_l1Cur_of__io0_mv1
  refine rn_then (ψ := fun z => z.1.size ≤ 35 ∧ Cu code (n + 2) z.2) ?_ fun z1 ⟨s1, y1⟩ => ?_
  · refine rn_then (n_pick hb h (by omega)) fun z ⟨h0, _, h1, _, y⟩ => ?_
    have h1 := h1 (by decide)
    obtain ⟨i, hi⟩ := Int.eq_ofNat_of_zero_le h0
    rw [hi] at h1 ⊢
    have h1 : (i : Int) < 7 := h1
    have hlt : i < 7 := by omega
    refine rn_ix (by simpa using hlt) (rn_some ⟨?_, y⟩)
    have : ∀ x ∈ [(⟨#[]⟩ : ByteArray), ⟨#[97]⟩, ⟨#[118, 111, 116, 101]⟩, ⟨#[109, 105, 120]⟩, ⟨#[98, 111, 97, 114, 100, 32, 49]⟩, ⟨#[107, 101, 121]⟩, ⟨#[108, 111, 110, 103, 32, 108, 97, 98, 101, 108, 32, 119, 105, 116, 104, 32, 115, 101, 118, 101, 114, 97, 108, 32, 119, 111, 114, 100, 115, 32, 105, 110, 32, 105, 116]⟩], x.size ≤ 35 := by decide
    exact this _ (List.getElem_mem _)
  refine rn_then (n_one hb y1 (by omega)) fun z2 y2 => ?_
  refine rn_then (ψ := fun x => Cu code (n + 100) x.1) (rn_if (fun _ => ?_) fun _ => rn_some (y2.mono (by omega))) fun x hx => rn_some hx
  refine rn_wloop (fun s => s.2.size ≤ 41 ∧ Cu code (n + 4 + 2 * (s.2.size : Int)) s.1) (fun s => 41 - s.2.size) ⟨by show z1.1.size ≤ 41; omega, y2.mono (by show _ ≤ n + 4 + 2 * (z1.1.size : Int); omega)⟩ ?_
  rintro s ⟨h1, h2⟩
  refine rn_then (n_pick hb h2 (by omega)) fun z ⟨w0, _, w1, _, y⟩ => ?_
  have w1 := w1 (by omega)
  refine rn_if (fun g => ?_) fun _ => rn_some (y.mono (by omega))
  rw [wr64 (by omega) (by omega)] at g
  have g : (s.2.size : Int) < 40 + z.1 := by simpa using g
  have e : (s.2 ++ (⟨#[120]⟩ : ByteArray)).size = s.2.size + 1 := by rw [ByteArray.size_append]; rfl
  refine rn_gd ?_ (rn_some ⟨⟨?_, ?_⟩, ?_⟩)
  · show s.2.size + 1 ≤ _; omega
  · show (s.2 ++ (⟨#[120]⟩ : ByteArray)).size ≤ 41; omega
  · exact y.mono (by show _ ≤ n + 4 + 2 * ((s.2 ++ (⟨#[120]⟩ : ByteArray)).size : Int); omega)
  · show 41 - (s.2 ++ (⟨#[120]⟩ : ByteArray)).size < _; omega
theorem n_DTS {code : List Int} (hb : Bt code) : Rn (F_spec_DrawTrusteeShare code) (fun _ => True) := by
  unfold F_spec_DrawTrusteeShare
  refine rn_then (n_anyPlan hb (cu0 code) (by omega)) fun z1 y1 => ?_
  exact rn_then (n_pick hb y1 (by omega)) fun z2 _ => rn_some trivial
theorem n_DCF {code : List Int} (hb : Bt code) : Rn (F_spec_DrawCoinsFor code) (fun _ => True) := by
  unfold F_spec_DrawCoinsFor
  refine rn_then (n_anyPlan hb (cu0 code) (by omega)) fun z1 y1 => ?_
  refine rn_then (n_label hb y1 (by omega)) fun z2 y2 => ?_
  refine rn_then (n_digestD hb y2 (by omega)) fun z3 y3 => ?_
  exact rn_then (n_amongM hb y3 (by omega) (by simp)) fun z4 _ => rn_some trivial
-- the functions
theorem n_TS (p : Plan) (x : Int) : ∃ s t, F_impl_TrusteeShare p x = some (s, t) ∧ F_spec_TrusteeShare p x = some (s, t) ∧ (t = true → OkG p.Gr ∧ 7 < p.Gr.Q ∧ 1 ≤ p.Threshold ∧ p.Threshold ≤ 4 ∧ (1 ≤ x ∧ x ≤ 4) ∧ ∃ T h : Nat, p.Threshold = (h : Int) ∧ p.Trustees = (T : Int) ∧ s = shrP p h x T) := by
  obtain ⟨b, s1, s2, s3⟩ := n_plan p
  unfold F_impl_TrusteeShare F_spec_TrusteeShare
  simp only [s1, s2, n_inB, n_winB, Option.bind_some, ite_or]
  cases hb : (!b || !inB 1 p.Trustees x) with
  | true => exact ⟨_, _, rfl, rfl, fun h => by cases h⟩
  | false =>
    simp only [Bool.or_eq_false_iff, Bool.not_eq_false', inB_t] at hb
    obtain ⟨k, _, q7, ht, _, _, hd⟩ := s3 hb.1
    obtain ⟨T, hT⟩ := Int.eq_ofNat_of_zero_le (show 0 ≤ p.Trustees by omega)
    obtain ⟨h, hh⟩ := Int.eq_ofNat_of_zero_le (show 0 ≤ p.Threshold by omega)
    obtain ⟨e1, e2⟩ := n_share (x := x) k hd hT hh (by omega) (by omega) (by omega) (by omega)
    simp only [Bool.false_eq_true, if_false, e1, e2, Option.bind_some]
    exact ⟨_, _, rfl, rfl, fun _ => ⟨k, q7, ht.1, by omega, by omega, T, h, hh, hT, rfl⟩⟩
theorem n_JC (p : Plan) : ∃ l t, F_impl_JointCommits p = some (l, t) ∧ F_spec_JointCommits p = some (l, t) ∧ (t = true → ∀ T h : Nat, p.Threshold = (h : Int) → p.Trustees = (T : Int) → l = jointV p h T) := by
  obtain ⟨b, s1, s2, s3⟩ := n_plan p
  unfold F_impl_JointCommits F_spec_JointCommits
  simp only [s1, s2, Option.bind_some]
  cases b with
  | false => exact ⟨_, _, rfl, rfl, fun h => by cases h⟩
  | true =>
    obtain ⟨k, _, q7, ht, _, _, hd⟩ := s3 rfl
    obtain ⟨T, hT⟩ := Int.eq_ofNat_of_zero_le (show 0 ≤ p.Trustees by omega)
    obtain ⟨h, hh⟩ := Int.eq_ofNat_of_zero_le (show 0 ≤ p.Threshold by omega)
    simp only [Bool.not_true, Bool.false_eq_true, if_false, n_commitsP k hd hT hh (by omega) (by omega) (by omega), n_joint k hd hT hh (by omega) (by omega) (by omega), Option.bind_some]
    refine ⟨_, _, rfl, rfl, fun _ T' h' e1 e2 => ?_⟩
    rw [show T' = T by omega, show h' = h by omega]
theorem n_CF (p : Plan) (s : ByteArray) (d n : Int) : ∃ l t, F_impl_CoinsFor p s d n = some (l, t) ∧ F_spec_CoinsFor p s d n = some (l, t) := by
  obtain ⟨b, s1, s2, s3⟩ := n_plan p
  unfold F_impl_CoinsFor F_spec_CoinsFor F_impl_isLabel
  have e : (!decide ((s.size : Int) ≤ 40)) = decide (40 < (s.size : Int)) := by
    by_cases h : 40 < (s.size : Int)
    · rw [decide_eq_true h, decide_eq_false (by omega)]; rfl
    · rw [decide_eq_false h, decide_eq_true (by omega)]; rfl
  simp only [s1, s2, n_inB, n_winB, n_isDigest, n_l3Digest, Option.bind_some, ite_or, e]
  cases hb : (!b || (decide (40 < (s.size : Int)) || (!digB d || !inB 0 200 n))) with
  | true => exact ⟨_, _, rfl, rfl⟩
  | false =>
    simp only [Bool.or_eq_false_iff, Bool.not_eq_false', inB_t, decide_eq_false_iff_not] at hb
    obtain ⟨b1, b2, b3, b4⟩ := hb
    obtain ⟨k, _, q7, ht, _, _, hd⟩ := s3 b1
    obtain ⟨m, rfl⟩ := Int.eq_ofNat_of_zero_le b4.1
    obtain ⟨e1, e2⟩ := n_coinsP (p := p) (s := s) (d := d) (m := m) k (by omega) hd b3 (by omega)
    simp only [Bool.false_eq_true, if_false, e1, e2, Option.bind_some]
    exact ⟨_, _, rfl, rfl⟩
theorem n_sameI {l : List Int} : F_laws_sameInts l l = some true := by
  unfold F_laws_sameInts
  refine eq_of_rn (rn_f (by simp) (rn_then (ψ := fun v => v = .inl ()) (rn_rloop (fun _ _ => True) trivial ?_ fun s _ => rfl) ?_))
  · rintro k s hk _
    exact rn_ix hk (rn_ix hk (rn_f (by simp) (rn_some trivial)))
  · rintro _ rfl
    exact rn_some rfl
theorem n_CommitAt {p : Plan} {T h : Nat} {x : Int} (k : OkG p.Gr) (hq : 7 < p.Gr.Q) (h1 : 1 ≤ h) (h4 : h ≤ 4) (hx : 1 ≤ x ∧ x ≤ 4) : F_spec_CommitAt p.Gr (jointV p h T) x = some (powG p.Gr p.Gr.G (shrP p h x T), true) := by
  have hl := (jointV_bd k h T).1
  have e1 : inB 1 7 ((jointV p h T).length : Int) = true := inB_t.2 (by omega)
  have e2 : inB 0 7 x = true := inB_t.2 (by omega)
  unfold F_spec_CommitAt F_spec_sCommits
  simp only [n_sGroup, n_inB, n_gIs k, e1, e2, joint_has k, okG_t.2 k, decide_eq_true hq, Option.bind_some, Bool.and_self, Bool.not_true, Bool.false_eq_true, if_false, if_true]
  rw [n_sAt k (by omega) (by omega) (jointV_bd k h T).2, joint_at k]; rfl
theorem n_ExpOf {p : Plan} {T h : Nat} {x : Int} (k : OkG p.Gr) : F_spec_ExpOf p.Gr p.Gr.G (shrP p h x T) = some (powG p.Gr p.Gr.G (shrP p h x T), true) := by
  have hg := k.g
  have hp := k.p
  have hq := k.q
  have hs := shrP_bd k h x T
  have e : expB p.Gr (shrP p h x T) = true := by simp only [expB, Bool.and_eq_true, decide_eq_true_eq]; omega
  unfold F_spec_ExpOf
  simp only [n_l2Good, n_gIs k, n_gExps (gr := p.Gr) (by omega) (by omega), List.all_cons, List.all_nil, e, gen_has k, okG_t.2 k, Option.bind_some, Bool.and_self, Bool.not_true, Bool.false_eq_true, if_false]
  rw [n_gExp k (by omega) (by omega)]; rfl
theorem law20 (a b : List Int) (h0 : ∀ x ∈ a, 0 ≤ x ∧ x ≤ 255) (h1 : ∀ x ∈ b, 0 ≤ x ∧ x ≤ 255) (hl0 : a.length ≤ 1048576) (hl1 : b.length ≤ 1048576) : F_laws_FnShares a b = some true := by
  unfold F_laws_FnShares F_laws_big
  refine eq_of_rn (rn_then (ψ := fun _ => True) ?_ fun v _ => ?_)
  · exact rn_then (ψ := fun _ => True) (rn_if (fun _ => rn_some trivial) fun _ => rn_some trivial) fun _ _ => rn_some trivial
  refine rn_if (fun _ => rn_some rfl) fun _ => ?_
  refine rn_then (n_DTS ⟨h0, hl0⟩) fun z _ => ?_
  obtain ⟨s, t, e1, e2, e3⟩ := n_TS z.1 z.2
  obtain ⟨l, u, f1, f2, f3⟩ := n_JC z.1
  refine rn_call e1 (rn_call e2 ?_)
  refine rn_then (ψ := fun v => v = false) (rn_f (by simp) (rn_some (by simp))) ?_
  rintro _ rfl
  refine rn_f rfl (rn_call f1 (rn_call f2 ?_))
  refine rn_then (ψ := fun v => v = false) (rn_f (by simp) (rn_call n_sameI (rn_some rfl))) ?_
  rintro _ rfl
  refine rn_f rfl ?_
  refine rn_then (ψ := fun v => v = true → t = true ∧ u = true) (rn_if (fun g => rn_some fun h => ⟨g, h⟩) fun _ => rn_some fun h => by cases h) fun v hv => ?_
  refine rn_then (ψ := fun v => v = .inl ()) (rn_if (fun g => ?_) fun _ => rn_some rfl) ?_
  · obtain ⟨g1, g2⟩ := hv g
    obtain ⟨k, q7, t1, t4, hx, T, h, hh, hT, rfl⟩ := e3 g1
    rw [f3 g2 T h hh hT]
    refine rn_call (n_CommitAt k q7 (by omega) (by omega) hx) (rn_call (n_ExpOf k) ?_)
    refine rn_then (ψ := fun v => v = false) (rn_f rfl (rn_f rfl (rn_some (by simp)))) ?_
    rintro _ rfl
    exact rn_f rfl (rn_some rfl)
  · rintro _ rfl
    refine rn_then (n_DCF ⟨h1, hl1⟩) fun y _ => ?_
    obtain ⟨l, u, c1, c2⟩ := n_CF y.1 y.2.1 y.2.2.1 y.2.2.2
    refine rn_call c1 (rn_call c2 ?_)
    refine rn_then (ψ := fun v => v = true) (rn_t (by simp) (rn_call n_sameI (rn_some rfl))) ?_
    rintro _ rfl
    exact rn_some rfl
end Go.Pm
