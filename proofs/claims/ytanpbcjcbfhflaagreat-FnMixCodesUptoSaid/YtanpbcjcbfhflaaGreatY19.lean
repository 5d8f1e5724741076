/-
  FnMixCodes: plain laws.
  No condition.
-/
import Derived.Test.YtanpbcjcbfhflaaGreatM19b
import Derived.Test.YtanpbcjcbfhflaaGreatPmZ
namespace Go.Pm
open Go.Am
set_option linter.unusedVariables false
set_option linter.unusedSimpArgs false
theorem n_within (a b c : Int) : F_impl_within a b c = some (decide (b ≤ a) && decide (a ≤ c)) := by
 unfold F_impl_within
 by_cases h : b ≤ a <;> simp [h]
theorem n_l1In (a b c : Int) : F_spec_l1In a b c = some (decide (b ≤ a) && decide (a ≤ c)) := by
 unfold F_spec_l1In
 by_cases h : b ≤ a <;> simp [h]
theorem n_isModulus (a : Int) : F_impl_isModulus a = some (decide (2 ≤ a) && decide (a ≤ 2000000000)) := by
 unfold F_impl_isModulus
 rw [n_within]; rfl
theorem tmod_cast (a b : Nat) : (a : Int).tmod (b : Int) = ((a % b : Nat) : Int) := by rw [Int.tmod_eq_emod_of_nonneg (by omega)]; exact (Int.natCast_emod _ _).symm
theorem tdiv_cast (a b : Nat) : (a : Int).tdiv (b : Int) = ((a / b : Nat) : Int) := by rw [Int.tdiv_eq_ediv_of_nonneg (by omega)]; exact (Int.natCast_ediv _ _).symm
theorem mul_cast (a b : Nat) : (a : Int) * (b : Int) = ((a * b : Nat) : Int) := (Int.natCast_mul _ _).symm
theorem and_one {e : Nat} (he : e ≤ 9223372036854775807) : IntKind.i64.wrap (BitVec.ofInt IntKind.i64.bits (e : Int) &&& BitVec.ofInt IntKind.i64.bits 1).toNat = ((e % 2 : Nat) : Int) := by
 have h1 : (BitVec.ofInt IntKind.i64.bits (e : Int) &&& BitVec.ofInt IntKind.i64.bits 1).toNat = e % 2 := by
  rw [BitVec.toNat_and]
  have a1 : (BitVec.ofInt IntKind.i64.bits (e : Int)).toNat = e := by
   rw [BitVec.toNat_ofInt]
   have : IntKind.i64.bits = 64 := rfl
   rw [this]
   omega
  have a2 : (BitVec.ofInt IntKind.i64.bits 1).toNat = 1 := by decide
  rw [a1, a2, Nat.and_one_is_mod]
 rw [h1, wr64 (by omega) (by omega)]
theorem n_power {a e m : Nat} (ha : a ≤ 2000000000) (hm : 1 ≤ m) (hm2 : m ≤ 2000000000) (he : e ≤ 9223372036854775807) : F_impl_power (a : Int) (e : Int) (m : Int) = some ((a ^ e % m : Nat) : Int) := by
 unfold F_impl_power
 refine eq_of_rn (rn_gd (by omega) (rn_then (φ := (· = ((a ^ e % m : Nat) : Int))) (rn_wloop (φ := (· = ((a ^ e % m : Nat) : Int))) (fun s => ∃ x y o : Nat, s = ((x : Int), (y : Int), (o : Int)) ∧ x ≤ 2000000000 ∧ y ≤ e ∧ o < m ∧ o * x ^ y % m = a ^ e % m) (fun s => s.2.1.toNat)
  ⟨a, e, 1 % m, by rw [show (1 : Int) = ((1 : Nat) : Int) from rfl, tmod_cast], ha, Nat.le_refl _, Nat.mod_lt _ (by omega), by rw [Nat.mod_mul_mod, Nat.one_mul]⟩ ?_) fun x hx => rn_some hx))
 rintro s ⟨x, y, o, rfl, hx, hy, ho, hi⟩
 refine rn_if (fun h0 => ?_) fun h0 => ?_
 ·have h0 : 0 < y := by simpa using h0
  have hox : o * x ≤ 4000000000000000000 := Nat.le_trans (Nat.mul_le_mul (show o ≤ 2000000000 by omega) hx) (by decide)
  have hxx : x * x ≤ 4000000000000000000 := Nat.le_trans (Nat.mul_le_mul hx hx) (by decide)
  refine rn_then (ψ := fun o' => ∃ k : Nat, o' = (k : Int) ∧ k < m ∧ k * (x * x) ^ (y / 2) % m = a ^ e % m) ?_ ?_
  ·simp only [and_one (show y ≤ 9223372036854775807 by omega)]
   refine rn_if (fun h1 => rn_gd (by omega) (rn_some ⟨o * x % m, ?_, Nat.mod_lt _ (by omega), ?_⟩)) fun h1 => rn_some ⟨o, rfl, ho, ?_⟩
   ·rw [mul_cast, wr64 (by omega) (by omega), tmod_cast]
   ·have h1 : y % 2 = 1 := by
     have : ((y % 2 : Nat) : Int) = 1 := by simpa using h1
     omega
    rw [Nat.mod_mul_mod, ← hi, ← Nat.pow_two, ← Nat.pow_mul, Nat.mul_assoc, ← Nat.pow_succ']
    congr 3; omega
   ·have h1 : y % 2 = 0 := by
     have : ¬ ((y % 2 : Nat) : Int) = 1 := by simpa using h1
     omega
    rw [← hi, ← Nat.pow_two, ← Nat.pow_mul]
    congr 3; omega
  ·rintro o' ⟨k, rfl, hk, hk2⟩
   refine rn_gd (by omega) (rn_some ⟨⟨x * x % m, y / 2, k, ?_, by have := Nat.mod_lt (x * x) (show 0 < m by omega); omega, by omega, hk, ?_⟩, ?_⟩)
   ·rw [mul_cast, wr64 (by omega) (by omega), tmod_cast]
    have e3 : (y : Int).fdiv 2 = ((y / 2 : Nat) : Int) := by rw [Int.fdiv_eq_ediv_of_nonneg _ (by omega)]; rfl
    show (_, (y : Int).fdiv 2, _) = _
    rw [e3]
   ·rw [Nat.mul_mod, ← Nat.pow_mod, ← Nat.mul_mod]
    exact hk2
   ·show ((y : Int).fdiv 2).toNat < (y : Int).toNat
    rw [Int.fdiv_eq_ediv_of_nonneg _ (by omega)]
    omega
 ·have h0 : y = 0 := by
   have : ¬ (0 < y) := by simpa using h0
   omega
  subst h0
  refine rn_some ?_
  show (o : Int) = _
  rw [Nat.pow_zero, Nat.mul_one, Nat.mod_eq_of_lt ho] at hi
  rw [hi]
theorem n_nPower {a e m : Nat} (ha : a ≤ 2000000000) (hm : 1 ≤ m) (hm2 : m ≤ 2000000000) (he : e ≤ 9223372036854775807) : F_spec_nPower (a : Int) (e : Int) (m : Int) = some ((a ^ e % m : Nat) : Int) := by
 unfold F_spec_nPower
 refine eq_of_rn (rn_gd (by omega) (rn_then (φ := (· = ((a ^ e % m : Nat) : Int))) (rn_wloop (φ := (· = ((a ^ e % m : Nat) : Int))) (fun s => ∃ x y o : Nat, s = ((x : Int), (y : Int), (o : Int)) ∧ x ≤ 2000000000 ∧ y ≤ e ∧ o < m ∧ o * x ^ y % m = a ^ e % m) (fun s => s.2.1.toNat)
  ⟨a, e, 1 % m, by rw [show (1 : Int) = ((1 : Nat) : Int) from rfl, tmod_cast], ha, Nat.le_refl _, Nat.mod_lt _ (by omega), by rw [Nat.mod_mul_mod, Nat.one_mul]⟩ ?_) fun x hx => rn_some hx))
 rintro s ⟨x, y, o, rfl, hx, hy, ho, hi⟩
 refine rn_if (fun h0 => ?_) fun h0 => ?_
 ·have h0 : 0 < y := by simpa using h0
  have hox : o * x ≤ 4000000000000000000 := Nat.le_trans (Nat.mul_le_mul (show o ≤ 2000000000 by omega) hx) (by decide)
  have hxx : x * x ≤ 4000000000000000000 := Nat.le_trans (Nat.mul_le_mul hx hx) (by decide)
  have e2 : (y : Int).tmod 2 = ((y % 2 : Nat) : Int) := tmod_cast y 2
  refine rn_then (ψ := fun o' => ∃ k : Nat, o' = (k : Int) ∧ k < m ∧ k * (x * x) ^ (y / 2) % m = a ^ e % m) ?_ ?_
  ·simp only [e2]
   refine rn_if (fun h1 => rn_gd (by omega) (rn_some ⟨o * x % m, ?_, Nat.mod_lt _ (by omega), ?_⟩)) fun h1 => rn_some ⟨o, rfl, ho, ?_⟩
   ·rw [mul_cast, wr64 (by omega) (by omega), tmod_cast]
   ·have h1 : y % 2 = 1 := by
     have : ((y % 2 : Nat) : Int) = 1 := by simpa using h1
     omega
    rw [Nat.mod_mul_mod, ← hi, ← Nat.pow_two, ← Nat.pow_mul, Nat.mul_assoc, ← Nat.pow_succ']
    congr 3; omega
   ·have h1 : y % 2 = 0 := by
     have : ¬ ((y % 2 : Nat) : Int) = 1 := by simpa using h1
     omega
    rw [← hi, ← Nat.pow_two, ← Nat.pow_mul]
    congr 3; omega
  ·rintro o' ⟨k, rfl, hk, hk2⟩
   have e3 : (y : Int).tdiv 2 = ((y / 2 : Nat) : Int) := tdiv_cast y 2
   refine rn_gd (by omega) (rn_some ⟨⟨x * x % m, y / 2, k, ?_, by have := Nat.mod_lt (x * x) (show 0 < m by omega); omega, by omega, hk, ?_⟩, ?_⟩)
   ·simp only [e3]
    rw [mul_cast, wr64 (n := ((x * x : Nat) : Int)) (by omega) (by omega), tmod_cast, wr64 (n := ((y / 2 : Nat) : Int)) (by omega) (by omega)]
   ·rw [Nat.mul_mod, ← Nat.pow_mod, ← Nat.mul_mod]
    exact hk2
   ·show (IntKind.i64.wrap ((y : Int).tdiv 2)).toNat < (y : Int).toNat
    rw [e3, wr64 (by omega) (by omega)]
    omega
 ·have h0 : y = 0 := by
   have : ¬ (0 < y) := by simpa using h0
   omega
  subst h0
  refine rn_some ?_
  show (o : Int) = _
  rw [Nat.pow_zero, Nat.mul_one, Nat.mod_eq_of_lt ho] at hi
  rw [hi]
theorem n_mod {a q : Int} (h0 : 0 < q) (h1 : q ≤ 2000000000) : F_impl_mod a q = some (a % q) := by
 unfold F_impl_mod
 rw [gd_t (by omega), gd_t (by omega)]
 have b1 : a.tmod q < q := Int.tmod_lt_of_pos a h0
 have b2 : -q < a.tmod q := by
  have := Int.lt_tmod_of_pos a h0
  omega
 rw [wr64 (by omega) (by omega), Int.tmod_eq_emod_of_nonneg (by omega)]
 congr 1
 rw [Int.add_emod_right]
 rw [Int.tmod_def, Int.sub_emod, Int.mul_emod_right, Int.sub_zero, Int.emod_emod]
theorem n_nMod {a q : Int} (h0 : 0 < q) (h1 : q ≤ 2000000000) : F_spec_nMod a q = some (a % q) := by
 unfold F_spec_nMod
 rw [gd_t (by omega), gd_t (by omega)]
 have b1 : a.tmod q < q := Int.tmod_lt_of_pos a h0
 have b2 : -q < a.tmod q := by
  have := Int.lt_tmod_of_pos a h0
  omega
 rw [wr64 (by omega) (by omega), Int.tmod_eq_emod_of_nonneg (by omega)]
 congr 1
 rw [Int.add_emod_right]
 rw [Int.tmod_def, Int.sub_emod, Int.mul_emod_right, Int.sub_zero, Int.emod_emod]
def Pr (n : Nat) : Prop := 2 ≤ n ∧ ∀ d, 2 ≤ d → d * d ≤ n → n % d ≠ 0
open Classical in
noncomputable def prB (n : Int) : Bool := decide (Pr n.toNat)
theorem prB_t {n : Nat} : prB (n : Int) = true ↔ Pr n := by simp [prB]
theorem n_nPrime (n : Int) (h : n ≤ 2000000000) : F_spec_nPrime n = some (prB n) := by
 unfold F_spec_nPrime
 refine eq_of_rn (rn_if (fun h0 => rn_some ?_) fun h0 => ?_)
 ·have h0 : n < 2 := by simpa using h0
  symm
  unfold prB
  rw [decide_eq_false_iff_not]
  intro hp
  have := hp.1
  omega
 ·have h0 : ¬ n < 2 := by simpa using h0
  obtain ⟨n, rfl⟩ := Int.eq_ofNat_of_zero_le (show 0 ≤ n by omega)
  refine rn_then (ψ := fun b => (b = .inl () ∧ Pr n) ∨ (b = .inr false ∧ ¬ Pr n)) (rn_wloop (fun s => ∃ d : Nat, s = (d : Int) ∧ 2 ≤ d ∧ d ≤ 44723 ∧ ∀ k, 2 ≤ k → k < d → k * k ≤ n → n % k ≠ 0) (fun s => 50000 - s.toNat) ⟨2, rfl, by omega, by omega, fun k h1 h2 => by omega⟩ ?_) ?_
  ·rintro s ⟨d, rfl, hd, hd2, hi⟩
   have hdd : d * d ≤ 2000146729 := Nat.le_trans (Nat.mul_le_mul hd2 hd2) (by decide)
   rw [mul_cast, wr64 (by omega) (by omega)]
   refine rn_if (fun h1 => rn_gd (by omega) (rn_if (fun h2 => rn_some (.inr ⟨rfl, ?_⟩)) fun h2 => rn_some ?_)) fun h1 => rn_some (.inl ⟨rfl, by omega, fun k hk hkn => ?_⟩)
   ·have h1 : d * d ≤ n := by have := of_decide_eq_true h1; omega
    rw [tmod_cast] at h2
    have h2 : n % d = 0 := by have : ((n % d : Nat) : Int) = 0 := by simpa using h2
                              omega
    exact fun hp => hp.2 d hd h1 h2
   ·have h1 : d * d ≤ n := by have := of_decide_eq_true h1; omega
    rw [tmod_cast] at h2
    have h2 : n % d ≠ 0 := by have : ¬ ((n % d : Nat) : Int) = 0 := by simpa using h2
                              omega
    have hd3 : d ≤ 44722 := by
     rcases Nat.lt_or_ge d 44723 with h | h
     ·omega
     ·have : 44723 * 44723 ≤ d * d := Nat.mul_le_mul h h
      omega
    rw [wr64 (by omega) (by omega)]
    refine ⟨⟨d + 1, rfl, by omega, by omega, fun k h3 h4 h5 => ?_⟩, by omega⟩
    rcases Nat.lt_or_ge k d with h | h
    ·exact hi k h3 h h5
    ·have : k = d := by omega
     subst this
     exact h2
   ·have h1 : n < d * d := by have := of_decide_eq_false h1; omega
    rcases Nat.lt_or_ge k d with h | h
    ·exact hi k hk h hkn
    ·have := Nat.mul_le_mul h h
     omega
  ·rintro b (⟨rfl, hp⟩ | ⟨rfl, hp⟩)
   ·exact rn_some (prB_t.2 hp).symm
   ·refine rn_some ?_
    symm
    unfold prB
    rw [decide_eq_false_iff_not]
    exact hp
theorem n_isPrime (n : Int) : F_impl_isPrime n = some (decide (n ≤ 2000000000) && prB n) := by
 unfold F_impl_isPrime
 by_cases h : 2 ≤ n ∧ n ≤ 2000000000
 ·obtain ⟨n, rfl⟩ := Int.eq_ofNat_of_zero_le (show 0 ≤ n by omega)
  have e2 : ((n : Int)).tmod 2 = ((n % 2 : Nat) : Int) := tmod_cast n 2
  have em : (decide (2 ≤ (n : Int)) && decide ((n : Int) ≤ 2000000000)) = true := by simp only [Bool.and_eq_true, decide_eq_true_eq]; exact h
  rw [show (decide ((n : Int) ≤ 2000000000) && prB (n : Int)) = prB (n : Int) by simp [h.2]]
  refine eq_of_rn (rn_then (ψ := fun b => b = decide (n % 2 = 0 ∧ n ≠ 2)) (rn_call (n_isModulus _) ?_) ?_)
  ·rw [em]
   refine rn_f rfl ?_
   rw [e2]
   refine rn_if (fun h1 => rn_some ?_) fun h1 => rn_some ?_
   ·have h1 : n % 2 = 0 := by have : ((n % 2 : Nat) : Int) = 0 := by simpa using h1
                              omega
    have : ((n : Int) != 2) = decide (n ≠ 2) := by
     by_cases hn : n = 2
     ·subst hn; rfl
     ·have hn' : ¬ (n : Int) = 2 := by omega
      simp [hn, hn']
    rw [this]; simp [h1]
   ·have h1 : n % 2 ≠ 0 := by have : ¬ ((n % 2 : Nat) : Int) = 0 := by simpa using h1
                              omega
    simp [h1]
  ·rintro b rfl
   refine rn_if (fun h1 => rn_some ?_) fun h1 => ?_
   ·have h1 := of_decide_eq_true h1
    symm
    unfold prB
    rw [decide_eq_false_iff_not]
    intro hp
    have hn : 4 ≤ n := by omega
    exact hp.2 2 (by omega) hn h1.1
   ·have h1 := of_decide_eq_false h1
    refine rn_then (ψ := fun b => (b = .inl () ∧ Pr n) ∨ (b = .inr false ∧ ¬ Pr n)) (rn_wloop (fun s => ∃ d : Nat, s = (d : Int) ∧ 3 ≤ d ∧ d % 2 = 1 ∧ d ≤ 44725 ∧ ∀ k, 2 ≤ k → k < d → k * k ≤ n → n % k ≠ 0) (fun s => 50000 - s.toNat) ⟨3, rfl, by omega, by omega, by omega, fun k h2 h3 h4 => ?_⟩ ?_) ?_
    ·have : k = 2 := by omega
     subst this
     intro h5
     exact h1 ⟨h5, by omega⟩
    ·rintro s ⟨d, rfl, hd, hodd, hd2, hi⟩
     have hdd : d * d ≤ 2000325625 := Nat.le_trans (Nat.mul_le_mul hd2 hd2) (by decide)
     rw [mul_cast, wr64 (by omega) (by omega)]
     refine rn_if (fun h1 => rn_gd (by omega) (rn_if (fun h2 => rn_some (.inr ⟨rfl, ?_⟩)) fun h2 => rn_some ?_)) fun h1 => rn_some (.inl ⟨rfl, by omega, fun k hk hkn => ?_⟩)
     ·have h1 : d * d ≤ n := by have := of_decide_eq_true h1; omega
      rw [tmod_cast] at h2
      have h2 : n % d = 0 := by have : ((n % d : Nat) : Int) = 0 := by simpa using h2
                                omega
      exact fun hp => hp.2 d (by omega) h1 h2
     ·have h3 : d * d ≤ n := by have := of_decide_eq_true h1; omega
      rw [tmod_cast] at h2
      have h2 : n % d ≠ 0 := by have : ¬ ((n % d : Nat) : Int) = 0 := by simpa using h2
                                omega
      have hd3 : d ≤ 44722 := by
       rcases Nat.lt_or_ge d 44723 with h | h
       ·omega
       ·have : 44723 * 44723 ≤ d * d := Nat.mul_le_mul h h
        omega
      rw [wr64 (by omega) (by omega)]
      refine ⟨⟨d + 2, rfl, by omega, by omega, by omega, fun k h4 h5 h6 h7 => ?_⟩, by omega⟩
      rcases Nat.lt_or_ge k d with h | h
      ·exact hi k h4 h h6 h7
      ·rcases (show k = d ∨ k = d + 1 by omega) with e | e
       ·subst e; exact h2 h7
       ·
        have h8 : n % 2 = 0 := by
         have a1 : k ∣ n := Nat.dvd_of_mod_eq_zero h7
         have a2 : 2 ∣ k := Nat.dvd_of_mod_eq_zero (by omega)
         exact Nat.mod_eq_zero_of_dvd (Nat.dvd_trans a2 a1)
        have h9 : 2 * 2 ≤ n := by
         have := Nat.mul_le_mul h4 h4
         omega
        exact hi 2 (by omega) (by omega) h9 h8
     ·have h1 : n < d * d := by have := of_decide_eq_false h1; omega
      rcases Nat.lt_or_ge k d with h | h
      ·exact hi k hk h hkn
      ·have := Nat.mul_le_mul h h
       omega
    ·rintro b (⟨rfl, hp⟩ | ⟨rfl, hp⟩)
     ·exact rn_some (prB_t.2 hp).symm
     ·refine rn_some ?_
      symm
      unfold prB
      rw [decide_eq_false_iff_not]
      exact hp
 ·have em : (decide (2 ≤ n) && decide (n ≤ 2000000000)) = false := by
   rw [Bool.and_eq_false_iff, decide_eq_false_iff_not, decide_eq_false_iff_not]; omega
  rw [n_isModulus, em]
  simp only [Option.bind_some, Bool.not_false, if_true]
  congr 1
  symm
  rw [Bool.and_eq_false_iff, decide_eq_false_iff_not]
  by_cases hn : n ≤ 2000000000
  ·right
   unfold prB
   rw [decide_eq_false_iff_not]
   intro hp
   have := hp.1
   omega
  ·exact .inl hn
structure OkG (gr : Group) : Prop where
 p : 3 ≤ gr.P ∧ gr.P ≤ 2000000000
 q : 2 ≤ gr.Q ∧ gr.Q ≤ gr.P - 1
 d : (gr.P.toNat - 1) % gr.Q.toNat = 0
 g : 2 ≤ gr.G ∧ gr.G ≤ gr.P - 1
 pp : Pr gr.P.toNat
 pq : Pr gr.Q.toNat
 o : gr.G.toNat ^ gr.Q.toNat % gr.P.toNat = 1
open Classical in
noncomputable def okG (gr : Group) : Bool := decide (OkG gr)
theorem okG_t {gr : Group} : okG gr = true ↔ OkG gr := by simp [okG]
theorem okG_f {gr : Group} (h : ¬ OkG gr) : okG gr = false := by simp [okG, h]
theorem okG_of {gr : Group} {b : Bool} (h1 : b = true → OkG gr) (h2 : OkG gr → b = true) : b = okG gr := by
 cases hb : b with
 | true => exact (okG_t.2 (h1 hb)).symm
 | false => exact (okG_f fun h => by rw [h2 h] at hb; cases hb).symm
theorem cast_eq {a : Int} (h : 0 ≤ a) : a = ((a.toNat : Nat) : Int) := by omega
theorem n_powI {a e m : Int} (ha : 0 ≤ a) (ha2 : a ≤ 2000000000) (hm : 1 ≤ m) (hm2 : m ≤ 2000000000) (he : 0 ≤ e) (he2 : e ≤ 9223372036854775807) : F_impl_power a e m = some ((a.toNat ^ e.toNat % m.toNat : Nat) : Int) ∧ F_spec_nPower a e m = some ((a.toNat ^ e.toNat % m.toNat : Nat) : Int) := by
 have h1 := n_power (a := a.toNat) (e := e.toNat) (m := m.toNat) (by omega) (by omega) (by omega) (by omega)
 have h2 := n_nPower (a := a.toNat) (e := e.toNat) (m := m.toNat) (by omega) (by omega) (by omega) (by omega)
 rw [← cast_eq ha, ← cast_eq he, ← cast_eq (show 0 ≤ m by omega)] at h1 h2
 exact ⟨h1, h2⟩
theorem and_iff_t {a b : Bool} : (a && b) = true ↔ a = true ∧ b = true := by simp
theorem n_validG (gr : Group) : F_impl_IsValidGroup gr = some (okG gr) := by
 unfold F_impl_IsValidGroup
 refine eq_of_rn (rn_then (ψ := fun b => b = okG gr) ?_ fun b hb => rn_some hb)
 refine rn_call (n_within _ _ _) (rn_if (fun h => ?_) fun h => ?_)
 ·have hp : 3 ≤ gr.P ∧ gr.P ≤ 2000000000 := by simpa using h
  rw [wr64 (n := gr.P - 1) (by omega) (by omega)]
  refine rn_call (n_within _ _ _) (rn_if (fun h => ?_) fun h => ?_)
  ·have hq : 2 ≤ gr.Q ∧ gr.Q ≤ gr.P - 1 := by simpa using h
   have ed : (gr.P - 1).tmod gr.Q = (((gr.P.toNat - 1) % gr.Q.toNat : Nat) : Int) := by
    rw [cast_eq (show 0 ≤ gr.P - 1 by omega), cast_eq (show 0 ≤ gr.Q by omega), tmod_cast]
    simp only [Int.toNat_natCast]
    congr 2; omega
   refine rn_gd (by omega) ?_
   rw [ed]
   refine rn_if (fun h => ?_) fun h => ?_
   ·have hd : (gr.P.toNat - 1) % gr.Q.toNat = 0 := by
     have : (((gr.P.toNat - 1) % gr.Q.toNat : Nat) : Int) = 0 := by simpa using h
     omega
    refine rn_call (n_within _ _ _) (rn_if (fun h => ?_) fun h => ?_)
    ·have hg : 2 ≤ gr.G ∧ gr.G ≤ gr.P - 1 := by simpa using h
     refine rn_call (n_isPrime _) (rn_if (fun h => ?_) fun h => ?_)
     ·have hpp : Pr gr.P.toNat := by
       rw [and_iff_t, cast_eq (show 0 ≤ gr.P by omega), prB_t] at h
       exact h.2
      refine rn_call (n_isPrime _) (rn_if (fun h => ?_) fun h => ?_)
      ·have hpq : Pr gr.Q.toNat := by
        rw [and_iff_t, cast_eq (show 0 ≤ gr.Q by omega), prB_t] at h
        exact h.2
       refine rn_call (n_powI (a := gr.G) (e := gr.Q) (m := gr.P) (by omega) (by omega) (by omega) (by omega) (by omega) (by omega)).1 (rn_some (okG_of (fun h => ⟨hp, hq, hd, hg, hpp, hpq, ?_⟩) fun h => ?_))
       ·have : ((gr.G.toNat ^ gr.Q.toNat % gr.P.toNat : Nat) : Int) = 1 := by simpa using h
        omega
       ·rw [h.o]; rfl
      ·refine rn_some (okG_f fun hk => ?_).symm
       have : (decide (gr.Q ≤ 2000000000) && prB gr.Q) = true := by
        rw [and_iff_t, cast_eq (show 0 ≤ gr.Q by omega), prB_t]
        exact ⟨by simp; omega, hk.pq⟩
       rw [this] at h; cases h
     ·refine rn_some (okG_f fun hk => ?_).symm
      have : (decide (gr.P ≤ 2000000000) && prB gr.P) = true := by
       rw [and_iff_t, cast_eq (show 0 ≤ gr.P by omega), prB_t]
       exact ⟨by simp; omega, hk.pp⟩
      rw [this] at h; cases h
    ·refine rn_some (okG_f fun hk => ?_).symm
     have := hk.g
     simp at h; omega
   ·refine rn_some (okG_f fun hk => ?_).symm
    rw [hk.d] at h; cases h
  ·refine rn_some (okG_f fun hk => ?_).symm
   have := hk.q
   simp at h; omega
 ·refine rn_some (okG_f fun hk => ?_).symm
  have := hk.p
  simp at h; omega
theorem n_l2Good (gr : Group) : F_spec_l2Good gr = some (okG gr) := by
 unfold F_spec_l2Good
 refine eq_of_rn (rn_then (ψ := fun b => b = okG gr) ?_ fun b hb => rn_some hb)
 refine rn_call (n_l1In _ _ _) (rn_if (fun h => ?_) fun h => ?_)
 ·have hp : 3 ≤ gr.P ∧ gr.P ≤ 2000000000 := by simpa using h
  rw [wr64 (n := gr.P - 1) (by omega) (by omega)]
  refine rn_call (n_l1In _ _ _) (rn_if (fun h => ?_) fun h => ?_)
  ·have hq : 2 ≤ gr.Q ∧ gr.Q ≤ gr.P - 1 := by simpa using h
   have ed : (gr.P - 1).tmod gr.Q = (((gr.P.toNat - 1) % gr.Q.toNat : Nat) : Int) := by
    rw [cast_eq (show 0 ≤ gr.P - 1 by omega), cast_eq (show 0 ≤ gr.Q by omega), tmod_cast]
    simp only [Int.toNat_natCast]
    congr 2; omega
   refine rn_gd (by omega) ?_
   rw [ed]
   refine rn_if (fun h => ?_) fun h => ?_
   ·have hd : (gr.P.toNat - 1) % gr.Q.toNat = 0 := by
     have : (((gr.P.toNat - 1) % gr.Q.toNat : Nat) : Int) = 0 := by simpa using h
     omega
    refine rn_call (n_l1In _ _ _) (rn_if (fun h => ?_) fun h => ?_)
    ·have hg : 2 ≤ gr.G ∧ gr.G ≤ gr.P - 1 := by simpa using h
     refine rn_call (n_powI (a := gr.G) (e := gr.Q) (m := gr.P) (by omega) (by omega) (by omega) (by omega) (by omega) (by omega)).2 (rn_if (fun h => ?_) fun h => ?_)
     ·have ho : gr.G.toNat ^ gr.Q.toNat % gr.P.toNat = 1 := by
       have : ((gr.G.toNat ^ gr.Q.toNat % gr.P.toNat : Nat) : Int) = 1 := by simpa using h
       omega
      refine rn_call (n_nPrime _ (by omega)) (rn_if (fun h => ?_) fun h => ?_)
      ·have hpq : Pr gr.Q.toNat := by
        rw [cast_eq (show 0 ≤ gr.Q by omega), prB_t] at h
        exact h
       refine rn_call (n_nPrime _ (by omega)) (rn_some (okG_of (fun h => ⟨hp, hq, hd, hg, ?_, hpq, ho⟩) fun h => ?_))
       ·rw [cast_eq (show 0 ≤ gr.P by omega), prB_t] at h
        exact h
       ·rw [cast_eq (show 0 ≤ gr.P by omega), prB_t]
        exact h.pp
      ·refine rn_some (okG_f fun hk => ?_).symm
       have : prB gr.Q = true := by
        rw [cast_eq (show 0 ≤ gr.Q by omega), prB_t]
        exact hk.pq
       rw [this] at h; cases h
     ·refine rn_some (okG_f fun hk => ?_).symm
      rw [hk.o] at h; cases h
    ·refine rn_some (okG_f fun hk => ?_).symm
     have := hk.g
     simp at h; omega
   ·refine rn_some (okG_f fun hk => ?_).symm
    rw [hk.d] at h; cases h
  ·refine rn_some (okG_f fun hk => ?_).symm
   have := hk.q
   simp at h; omega
 ·refine rn_some (okG_f fun hk => ?_).symm
  have := hk.p
  simp at h; omega
def hasB (gr : Group) (x : Int) : Bool := decide (1 ≤ x) && decide (x ≤ gr.P - 1) && decide (x.toNat ^ gr.Q.toNat % gr.P.toNat = 1)
def expB (gr : Group) (x : Int) : Bool := decide (0 ≤ x) && decide (x ≤ gr.Q - 1)
theorem n_has {gr : Group} (k : OkG gr) (x : Int) : F_impl_Group_has gr x = some (hasB gr x) := by
 have hp := k.p
 have hq := k.q
 unfold F_impl_Group_has hasB
 rw [wr64 (n := gr.P - 1) (by omega) (by omega), n_within]
 refine eq_of_rn (rn_then (ψ := fun b => b = _) ?_ fun b hb => rn_some hb)
 refine rn_call rfl (rn_if (fun h => ?_) fun h => ?_)
 ·have hx : 1 ≤ x ∧ x ≤ gr.P - 1 := by simpa using h
  refine rn_call (n_powI (a := x) (e := gr.Q) (m := gr.P) (by omega) (by omega) (by omega) (by omega) (by omega) (by omega)).1 (rn_some ?_)
  rw [h, Bool.true_and]
  by_cases h1 : x.toNat ^ gr.Q.toNat % gr.P.toNat = 1
  ·simp [h1]
  ·have : ¬ ((x.toNat ^ gr.Q.toNat % gr.P.toNat : Nat) : Int) = 1 := by omega
   rw [beq_false_of_ne this, decide_eq_false h1]
 ·rw [h]; exact rn_some rfl
theorem n_gIs {gr : Group} (k : OkG gr) (l : List Int) : F_spec_gIs gr l = some (l.all (hasB gr)) := by
 have hp := k.p
 have hq := k.q
 unfold F_spec_gIs
 rw [wr64 (n := gr.P - 1) (by omega) (by omega)]
 refine eq_of_rn (rn_then (ψ := fun b => (b = .inl () ∧ l.all (hasB gr) = true) ∨ (b = .inr false ∧ l.all (hasB gr) = false)) (rn_rloop (fun i s => (l.take i).all (hasB gr) = true) rfl ?_ ?_) ?_)
 ·rintro i s hi hI
  refine rn_ix hi (rn_then (ψ := fun b => b = !hasB gr l[i]) ?_ ?_)
  ·refine rn_call (n_l1In _ _ _) (rn_if (fun h => rn_some ?_) fun h => ?_)
   ·have h : (decide (1 ≤ l[i]) && decide (l[i] ≤ gr.P - 1)) = false := by rwa [Bool.not_eq_true'] at h
    simp [hasB, h]
   ·have h : (decide (1 ≤ l[i]) && decide (l[i] ≤ gr.P - 1)) = true := by simpa using h
    have hx : 1 ≤ l[i] ∧ l[i] ≤ gr.P - 1 := by simpa using h
    refine rn_call (n_powI (a := l[i]) (e := gr.Q) (m := gr.P) (by omega) (by omega) (by omega) (by omega) (by omega) (by omega)).2 (rn_some ?_)
    simp only [hasB, h, Bool.true_and]
    by_cases h1 : l[i].toNat ^ gr.Q.toNat % gr.P.toNat = 1
    ·simp [h1]
    ·have : ¬ ((l[i].toNat ^ gr.Q.toNat % gr.P.toNat : Nat) : Int) = 1 := by omega
     simp only [bne, beq_false_of_ne this, decide_eq_false h1]
  ·rintro b rfl
   refine rn_if (fun h => rn_some (.inr ⟨rfl, ?_⟩)) fun h => rn_some ?_
   ·have h : hasB gr l[i] = false := by simpa using h
    rw [List.all_eq_false]
    exact ⟨l[i], List.getElem_mem hi, by simp [h]⟩
   ·have h : hasB gr l[i] = true := by simpa using h
    show (l.take (i + 1)).all (hasB gr) = true
    rw [List.take_succ_eq_append_getElem hi, List.all_append, hI]
    simp [h]
 ·rintro s hI
  rw [List.take_length] at hI
  exact .inl ⟨rfl, hI⟩
 ·rintro b (⟨rfl, h⟩ | ⟨rfl, h⟩)
  ·exact rn_some h.symm
  ·exact rn_some h.symm
theorem n_l1All (l : List Int) (a b : Int) : F_spec_l1All l a b = some (l.all fun x => decide (a ≤ x) && decide (x ≤ b)) := by
 unfold F_spec_l1All
 refine eq_of_rn (rn_then (ψ := fun c => (c = .inl () ∧ (l.all fun x => decide (a ≤ x) && decide (x ≤ b)) = true) ∨ (c = .inr false ∧ (l.all fun x => decide (a ≤ x) && decide (x ≤ b)) = false)) (rn_rloop (fun i s => ((l.take i).all fun x => decide (a ≤ x) && decide (x ≤ b)) = true) rfl ?_ ?_) ?_)
 ·rintro i s hi hI
  refine rn_ix hi (rn_call (n_l1In _ _ _) (rn_if (fun h => rn_some (.inr ⟨rfl, ?_⟩)) fun h => rn_some ?_))
  ·rw [List.all_eq_false]
   exact ⟨l[i], List.getElem_mem hi, by rw [Bool.not_eq_true'] at h; rw [h]; simp⟩
  ·show ((l.take (i + 1)).all fun x => decide (a ≤ x) && decide (x ≤ b)) = true
   rw [List.take_succ_eq_append_getElem hi, List.all_append, hI]
   simpa using h
 ·rintro s hI
  rw [List.take_length] at hI
  exact .inl ⟨rfl, hI⟩
 ·rintro c (⟨rfl, h⟩ | ⟨rfl, h⟩)
  ·exact rn_some h.symm
  ·exact rn_some h.symm
theorem n_gExps {gr : Group} (h : 0 ≤ gr.Q) (h2 : gr.Q ≤ 2000000000) (l : List Int) : F_spec_gExps gr l = some (l.all (expB gr)) := by
 unfold F_spec_gExps
 rw [wr64 (by omega) (by omega), n_l1All]; rfl
def powG (gr : Group) (x e : Int) : Int := ((x.toNat ^ (e % gr.Q).toNat % gr.P.toNat : Nat) : Int)
theorem powG_bd {gr : Group} (k : OkG gr) (x e : Int) : 0 ≤ powG gr x e ∧ powG gr x e ≤ gr.P - 1 := by
 have hp := k.p
 unfold powG
 have := Nat.mod_lt (x.toNat ^ (e % gr.Q).toNat) (y := gr.P.toNat) (by omega)
 omega
theorem n_pow {gr : Group} (k : OkG gr) {x : Int} (h0 : 0 ≤ x) (h1 : x ≤ 2000000000) (e : Int) : F_impl_Group_pow gr x e = some (powG gr x e) ∧ F_spec_gExp gr x e = some (powG gr x e) := by
 have hp := k.p
 have hq := k.q
 have b1 : 0 ≤ e % gr.Q := Int.emod_nonneg _ (by omega)
 have b2 : e % gr.Q < gr.Q := Int.emod_lt_of_pos _ (by omega)
 have hw := n_powI (a := x) (e := e % gr.Q) (m := gr.P) (by omega) (by omega) (by omega) (by omega) b1 (by omega)
 unfold F_impl_Group_pow F_spec_gExp
 rw [n_mod (by omega) (by omega), n_nMod (by omega) (by omega), Option.bind_some, Option.bind_some, hw.1, hw.2]
 exact ⟨rfl, rfl⟩
theorem n_gExp {gr : Group} (k : OkG gr) {x : Int} (h0 : 0 ≤ x) (h1 : x ≤ 2000000000) (e : Int) : F_spec_gExp gr x e = some (powG gr x e) := by
 have hp := k.p
 have hq := k.q
 have b1 : 0 ≤ e % gr.Q := Int.emod_nonneg _ (by omega)
 have b2 : e % gr.Q < gr.Q := Int.emod_lt_of_pos _ (by omega)
 have hw := n_powI (a := x) (e := e % gr.Q) (m := gr.P) (by omega) (by omega) (by omega) (by omega) b1 (by omega)
 unfold F_spec_gExp
 rw [n_nMod (by omega) (by omega), Option.bind_some, hw.2]
 rfl
def mulG (gr : Group) (l : List Int) : Int := l.foldl (fun o x => o * x % gr.P) 1
theorem foldG_bd {gr : Group} (h : 1 ≤ gr.P) : ∀ (l : List Int) (o : Int), 0 ≤ o → o ≤ gr.P → (∀ x ∈ l, 0 ≤ x) → 0 ≤ l.foldl (fun o x => o * x % gr.P) o ∧ l.foldl (fun o x => o * x % gr.P) o ≤ gr.P := by
 intro l
 induction l with
 | nil => intro o h0 h1 _; exact ⟨h0, h1⟩
 | cons x l ih =>
  intro o h0 h1 h2
  exact ih _ (Int.emod_nonneg _ (by omega)) (Int.le_of_lt (Int.emod_lt_of_pos (o * x) (show 0 < gr.P by omega))) fun y hy => h2 y (List.mem_cons_of_mem _ hy)
theorem mul_eq (gr : Group) (l : List Int) : F_spec_gMul gr l = F_impl_Group_mul gr l := rfl
theorem n_mul {gr : Group} (k : OkG gr) {l : List Int} (hl : ∀ x ∈ l, 0 ≤ x ∧ x ≤ 2000000000) : F_impl_Group_mul gr l = some (mulG gr l) := by
 have hp := k.p
 unfold F_impl_Group_mul
 refine eq_of_rn (rn_then (ψ := fun b => b = mulG gr l) (rn_rloop (fun i s => s = (l.take i).foldl (fun o x => o * x % gr.P) 1) rfl ?_ ?_) fun b hb => rn_some hb)
 ·rintro i s hi rfl
  have hb := foldG_bd (gr := gr) (by omega) (l.take i) 1 (by omega) (by omega) fun x hx => (hl x (List.mem_of_mem_take hx)).1
  have hx := hl l[i] (List.getElem_mem hi)
  refine rn_ix hi (rn_gd (by omega) (rn_some ?_))
  show _ = (l.take (i + 1)).foldl _ _
  rw [List.take_succ_eq_append_getElem hi, List.foldl_append]
  generalize (l.take i).foldl (fun o x => o * x % gr.P) 1 = o at hb ⊢
  have b1 : 0 ≤ o * l[i] := Int.mul_nonneg hb.1 hx.1
  have b2 : o * l[i] ≤ 2000000000 * 2000000000 := Int.mul_le_mul (by omega) hx.2 hx.1 (by omega)
  show (IntKind.i64.wrap (o * l[i])).tmod gr.P = o * l[i] % gr.P
  rw [wr64 (by omega) (by omega), Int.tmod_eq_emod_of_nonneg b1]
 ·rintro s rfl
  rw [List.take_length]; rfl
theorem n_gMul {gr : Group} (k : OkG gr) {l : List Int} (hl : ∀ x ∈ l, 0 ≤ x ∧ x ≤ 2000000000) : F_spec_gMul gr l = some (mulG gr l) := by rw [mul_eq]; exact n_mul k hl
theorem mulG_bd {gr : Group} (k : OkG gr) {l : List Int} (hl : ∀ x ∈ l, 0 ≤ x ∧ x ≤ 2000000000) : 0 ≤ mulG gr l ∧ mulG gr l ≤ gr.P := by
 have hp := k.p
 exact foldG_bd (by omega) l 1 (by omega) (by omega) fun x hx => (hl x hx).1
theorem ite_n {α : Type} (b : Bool) (u v : α) : (if b = true then some u else some v) = some (if (!b) = true then v else u) := by cases b <;> rfl
theorem ite_m {α : Type} (b : Bool) (u v : α) : (if (!b) = true then some u else some v) = some (if b = true then v else u) := by cases b <;> rfl
theorem n_first {β : Type} {body : Int → Unit → Option (Stp Unit (Unit ⊕ β))} (m : Nat) (p : Nat → Bool) (val : Nat → β) (h : ∀ k, k < m → body (k : Int) () = some (if p k = true then .go () else .out (.inr (val k)))) :
 (rloop body (fun _ => .inl ()) m 0 () = some (.inl ()) ∧ ∀ k, k < m → p k = true) ∨ ∃ k, k < m ∧ p k = false ∧ (∀ j, j < k → p j = true) ∧ rloop body (fun _ => .inl ()) m 0 () = some (.inr (val k)) := by
 have key : Rn (rloop body (fun _ => Sum.inl ()) m 0 ()) (fun b => (b = .inl () ∧ ∀ k, k < m → p k = true) ∨ ∃ k, k < m ∧ p k = false ∧ (∀ j, j < k → p j = true) ∧ b = .inr (val k)) := by
  refine rn_rloop (fun k _ => ∀ j, j < k → p j = true) (fun j hj => by omega) ?_ fun s hs => .inl ⟨rfl, hs⟩
  intro k s hk hI
  refine ⟨_, h k hk, ?_⟩
  cases hp : p k with
  | true =>
   intro j hj
   rcases Nat.lt_or_ge j k with h | h
   ·exact hI j h
   ·have : j = k := by omega
    rw [this]; exact hp
  | false => exact .inr ⟨k, hk, hp, hI, rfl⟩
 obtain ⟨b, e, h1 | ⟨k, h1, h2, h3, h4⟩⟩ := key
 ·exact .inl ⟨by rw [e, h1.1], h1.2⟩
 ·exact .inr ⟨k, h1, h2, h3, by rw [e, h4]⟩
theorem n_all {α : Type} (l : List α) (p : α → Bool) (c : Bool) {body : Int → Unit → Option (Stp Unit (Unit ⊕ Bool))} (h : ∀ k (hk : k < l.length), body (k : Int) () = some (if p l[k] = true then .go () else .out (.inr c))) :
 (rloop body (fun _ => .inl ()) l.length 0 ()).bind (Sum.elim (fun _ => some (!c)) some) = some (if l.all p = true then !c else c) := by
 rcases n_first (body := body) l.length (fun k => (l[k]?).any p) (fun _ => c) (fun k hk => by rw [h k hk, List.getElem?_eq_getElem hk]; rfl) with ⟨e, h1⟩ | ⟨k, h1, h2, h3, e⟩
 ·rw [e]
  have : l.all p = true := by
   rw [List.all_eq_true]
   intro x hx
   obtain ⟨k, hk, rfl⟩ := List.mem_iff_getElem.1 hx
   have := h1 k hk
   rw [List.getElem?_eq_getElem hk] at this
   exact this
  rw [this]; rfl
 ·rw [e]
  have : l.all p = false := by
   rw [List.all_eq_false]
   refine ⟨l[k], List.getElem_mem h1, ?_⟩
   rw [List.getElem?_eq_getElem h1] at h2
   simpa using h2
  rw [this]; rfl
theorem n_l1Has (l : List Int) (x : Int) : F_spec_l1Has l x = some (l.contains x) := by
 unfold F_spec_l1Has
 have := n_all l (fun y => !(y == x)) true (body := fun i8 s7 => (ix l i8).bind fun x17 => if (x17 == x) = true then some (.out (.inr true)) else some (.go ())) fun k hk => by
  rw [ix_at hk, Option.bind_some]
  exact ite_n _ _ _
 rw [show (!true) = false from rfl] at this
 refine this.trans ?_
 congr 1
 cases hc : l.contains x with
 | true =>
  have hm : x ∈ l := by simpa using hc
  have : (l.all fun y => !(y == x)) = false := by
   rw [List.all_eq_false]
   exact ⟨x, hm, by simp⟩
  rw [this]; rfl
 | false =>
  have hm : ¬ x ∈ l := by simpa using hc
  have : (l.all fun y => !(y == x)) = true := by
   rw [List.all_eq_true]
   intro y hy
   have : y ≠ x := fun e => hm (e ▸ hy)
   simp [this]
  rw [this]; rfl
open Classical in
noncomputable def difB (l : List Int) : Bool := decide l.Nodup
theorem diff_gen {C : List Int → Int → Option Bool} (hC : ∀ l x, C l x = some (l.contains x)) (l : List Int) (hl : l.length ≤ 1000000000000) :
 ((rloop (σ := Unit) (fun i5 s4 =>
 (ix l i5).bind fun x11 =>
 gd (0 ≤ i5) <|
 gd (0 ≤ i5.toNat ∧ i5.toNat ≤ l.length) <|
 (C ((l.take i5.toNat).drop 0) x11).bind fun z12 =>
 if z12 = true then (
 some (.out (.inr false))) else (
 some (.go ()))) (fun s4 => .inl ()) (l.length) 0 () : Option (Unit ⊕ Bool)).bind (Sum.elim (fun x3 =>
 some true) some)) = some (difB l) := by
 rcases n_first l.length (fun k => (l[k]?).any fun y => !(l.take k).contains y) (fun _ => false) (body := fun i8 s7 =>
  (ix l i8).bind fun x17 =>
  gd (0 ≤ i8) <|
  gd (0 ≤ i8.toNat ∧ i8.toNat ≤ l.length) <|
  (C ((l.take i8.toNat).drop 0) x17).bind fun z26 =>
  if z26 = true then (
  some (.out (.inr false))) else (
  some (.go ()))) (fun k hk => by
   rw [ix_at hk, Option.bind_some, gd_t (by omega), gd_t (by simp; omega), hC, List.getElem?_eq_getElem hk, Option.bind_some, Int.toNat_natCast, List.drop_zero]
   exact ite_n _ _ _) with ⟨e, h1⟩ | ⟨k, h1, h2, h3, e⟩
 ·rw [e]
  have : difB l = true := by
   unfold difB
   rw [decide_eq_true_eq, List.nodup_iff_pairwise_ne, List.pairwise_iff_getElem]
   intro i j hi hj hij e
   have := h1 j hj
   rw [List.getElem?_eq_getElem hj] at this
   have hm : l[j] ∈ l.take j := by
    rw [← e]
    exact List.mem_iff_getElem.2 ⟨i, by simp; omega, by simp⟩
   have hc : (l.take j).contains l[j] = true := by simpa using hm
   simp only [Option.any_some, hc] at this
   cases this
  rw [this]; rfl
 ·rw [e]
  have : difB l = false := by
   unfold difB
   rw [decide_eq_false_iff_not, List.nodup_iff_pairwise_ne, List.pairwise_iff_getElem]
   intro hd
   rw [List.getElem?_eq_getElem h1] at h2
   have hc : (l.take k).contains l[k] = true := by simpa using h2
   have hm : l[k] ∈ l.take k := by simpa using hc
   obtain ⟨i, hi, e⟩ := List.mem_iff_getElem.1 hm
   simp at hi e
   exact hd i k (by omega) h1 (by omega) e
  rw [this]; rfl
theorem n_hasCipher {gr : Group} (k : OkG gr) (c : Cipher) : F_impl_Group_hasCipher gr c = some (hasB gr c.A && hasB gr c.B) := by
 unfold F_impl_Group_hasCipher
 rw [n_has k, n_has k]
 cases hasB gr c.A <;> simp
theorem n_eGood1 {gr : Group} (k : OkG gr) (c : Cipher) : F_spec_eGood gr [c] = some (hasB gr c.A && hasB gr c.B) := by
 unfold F_spec_eGood
 rw [if_neg (by simp)]
 refine (n_all [c] (fun c => hasB gr c.A && hasB gr c.B) false (body := fun i10 s9 => (ix [c] i10).bind fun x19 => (F_spec_gIs gr [x19.A, x19.B]).bind fun z22 => if (!z22) = true then some (.out (.inr false)) else some (.go ())) fun k' hk => ?_).trans ?_
 ·rw [ix_at hk, Option.bind_some, n_gIs k, Option.bind_some]
  refine (ite_m _ _ _).trans ?_
  simp
 ·simp
theorem pow_per {a n p e : Nat} (h : a ^ n % p = 1) : a ^ (e % n) % p = a ^ e % p := by
 have hp : 1 % p = 1 := by rw [← h, Nat.mod_mod]
 conv => rhs; rw [← Nat.div_add_mod e n]
 rw [Nat.pow_add, Nat.pow_mul, Nat.mul_mod, Nat.pow_mod (a ^ n), h, Nat.one_pow, hp, Nat.one_mul, Nat.mod_mod]
theorem has_pow {gr : Group} {x : Int} (h : hasB gr x = true) : 1 ≤ x ∧ x ≤ gr.P - 1 ∧ x.toNat ^ gr.Q.toNat % gr.P.toNat = 1 := by
 unfold hasB at h
 simp only [Bool.and_eq_true, decide_eq_true_eq] at h
 exact ⟨h.1.1, h.1.2, h.2⟩
theorem powG_mul {gr : Group} (k : OkG gr) {x : Int} (h : hasB gr x = true) {s l : Int} (hs : 0 ≤ s) (hl : 0 ≤ l) : powG gr (powG gr x s) l = powG gr x (s * l) := by
 obtain ⟨_, _, h3⟩ := has_pow h
 have hq := k.q
 obtain ⟨a, rfl⟩ := Int.eq_ofNat_of_zero_le hs
 obtain ⟨b, rfl⟩ := Int.eq_ofNat_of_zero_le hl
 obtain ⟨n, hn⟩ := Int.eq_ofNat_of_zero_le (show 0 ≤ gr.Q by omega)
 unfold powG
 rw [hn] at h3 ⊢
 rw [Int.toNat_natCast] at h3
 have e : ∀ c : Nat, ((c : Int) % (n : Int)).toNat = c % n := fun c => by rw [← Int.natCast_emod, Int.toNat_natCast]
 rw [mul_cast, e, e, e, Int.toNat_natCast, pow_per h3, pow_per h3, ← Nat.pow_mod, ← Nat.pow_mul]
 congr 1
 rw [Nat.pow_mul, Nat.pow_mod, pow_per (n := n) (e := b)]
 ·rw [← Nat.pow_mod, ← Nat.pow_mul]
 ·rw [← Nat.pow_mod, ← Nat.pow_mul, Nat.mul_comm, Nat.pow_mul, Nat.pow_mod, h3, Nat.one_pow, ← h3, Nat.mod_mod]
theorem n_gInv {gr : Group} (k : OkG gr) {x : Int} (h0 : 0 ≤ x) (h1 : x ≤ 2000000000) : F_spec_gInv gr x = some (powG gr x (-1)) := by
 have hq := k.q
 have hp := k.p
 have e : (-1 : Int) % gr.Q = gr.Q - 1 := by
  have := Int.add_mul_emod_self_left (-1) gr.Q 1
  rw [← this, Int.mul_one]
  rw [Int.emod_eq_of_lt (by omega) (by omega)]; omega
 unfold F_spec_gInv
 rw [wr64 (by omega) (by omega), (n_powI h0 h1 (by omega) hp.2 (by omega) (by omega)).2]
 unfold powG
 rw [e]; rfl
structure Bt (code : List Int) : Prop where
 b : ∀ x ∈ code, 0 ≤ x ∧ x ≤ 255
 l : code.length ≤ 1048576
structure Cu (code : List Int) (n : Int) (c : List Int × Int × Int) : Prop where
 e : c.1 = code
 lo : 0 ≤ c.2.1
 hi : c.2.1 ≤ n
theorem Cu.mono {code : List Int} {n m : Int} {c : List Int × Int × Int} (h : Cu code n c) (hn : n ≤ m) : Cu code m c := ⟨h.e, h.lo, Int.le_trans h.hi hn⟩
theorem low8 (x : BitVec IntKind.u64.bits) : 0 ≤ IntKind.i64.wrap (IntKind.u64.wrap ((x &&& BitVec.ofInt IntKind.u64.bits 255).toNat : Int)) ∧ IntKind.i64.wrap (IntKind.u64.wrap ((x &&& BitVec.ofInt IntKind.u64.bits 255).toNat : Int)) ≤ 255 := by
 have hy : (x &&& BitVec.ofInt IntKind.u64.bits 255).toNat ≤ 255 := by
  rw [BitVec.toNat_and]
  exact Nat.le_trans Nat.and_le_right (by decide)
 generalize (x &&& BitVec.ofInt IntKind.u64.bits 255).toNat = y at hy ⊢
 rw [wrU (by omega) (by omega), wr64 (by omega) (by omega)]
 omega
theorem n_next {code c0 : List Int} {at_ seed n : Int} (hb : Bt code) (h : Cu code n (c0, at_, seed)) (hn : n ≤ 9000000000000000) : Rn (F_spec_l1Cur_next__io0 c0 at_ seed) (fun z => 0 ≤ z.1 ∧ z.1 ≤ 255 ∧ Cu code (n + 1) z.2) := by
 obtain ⟨h1, h2, h3⟩ := h
 have h1 : c0 = code := h1
 have h2 : 0 ≤ at_ := h2
 have h3 : at_ ≤ n := h3
 subst h1
 have hw : IntKind.i64.wrap (at_ + 1) = at_ + 1 := wr64 (by omega) (by omega)
 unfold F_spec_l1Cur_next__io0
 refine rn_then (ψ := fun v => 0 ≤ v ∧ v ≤ 255) ?_ fun v hv => ?_
 ·refine rn_if (fun g => ?_) fun g => rn_some (by omega)
  obtain ⟨k, rfl⟩ := Int.eq_ofNat_of_zero_le h2
  have hk : k < c0.length := by simp at g; omega
  have := hb.b _ (List.getElem_mem hk)
  exact rn_ix hk (rn_some (by rw [wr64 (by omega) (by omega)]; exact this))
 ·simp only [hw]
  refine rn_if (fun g => rn_some ⟨hv.1, hv.2, rfl, by show 0 ≤ at_ + 1; omega, by show at_ + 1 ≤ n + 1; omega⟩) fun g => rn_some ?_
  exact ⟨(low8 _).1, (low8 _).2, rfl, by show 0 ≤ at_ + 1; omega, by show at_ + 1 ≤ n + 1; omega⟩
theorem n_pick {code c0 : List Int} {at_ seed n m : Int} (hb : Bt code) (h : Cu code n (c0, at_, seed)) (hn : n ≤ 8000000000000000) : Rn (F_spec_l1Cur_pick__io0 c0 at_ seed m) (fun z => 0 ≤ z.1 ∧ (m ≤ 1 → z.1 = 0) ∧ (1 < m → z.1 < m) ∧ z.1 ≤ 65535 ∧ Cu code (n + 2) z.2) := by
 unfold F_spec_l1Cur_pick__io0
 refine rn_if (fun g => rn_some ⟨Int.le_refl 0, fun _ => rfl, fun h => by simp at g; omega, by show (0 : Int) ≤ _; omega, h.mono (by omega)⟩) fun g => ?_
 have g : 1 < m := by simpa using g
 refine rn_then (n_next hb h (by omega)) fun z ⟨z1, z2, z3⟩ => ?_
 refine rn_then (ψ := fun x => 0 ≤ x.2 ∧ x.2 ≤ 65535 ∧ Cu code (n + 2) x.1) ?_ fun x ⟨x1, x2, x3⟩ => ?_
 ·refine rn_if (fun _ => rn_then (n_next hb z3 (by omega)) fun y ⟨y1, y2, y3⟩ => rn_some ?_) fun _ => rn_some ⟨z1, by show z.1 ≤ _; omega, z3.mono (by omega)⟩
  rw [wr64 (n := z.1 * 256) (by omega) (by omega), wr64 (by omega) (by omega)]
  exact ⟨by show 0 ≤ z.1 * 256 + y.1; omega, by show z.1 * 256 + y.1 ≤ _; omega, y3.mono (by omega)⟩
 ·refine rn_gd (by omega) (rn_some ?_)
  rw [Int.tmod_eq_emod_of_nonneg x1]
  have b1 := Int.emod_nonneg x.2 (show m ≠ 0 by omega)
  have b2 := Int.emod_lt_of_pos x.2 (show 0 < m by omega)
  have b3 : x.2 % m ≤ x.2 := by
   rcases Int.lt_or_le x.2 m with h | h
   ·rw [Int.emod_eq_of_lt x1 h]; exact Int.le_refl _
   ·omega
  exact ⟨b1, fun h => by omega, fun _ => b2, by show x.2 % m ≤ _; omega, x3⟩
theorem n_one {code c0 : List Int} {at_ seed n m : Int} (hb : Bt code) (h : Cu code n (c0, at_, seed)) (hn : n ≤ 8000000000000000) : Rn (F_spec_l1Cur_one__io0 c0 at_ seed m) (fun z => Cu code (n + 2) z.2) := by
 unfold F_spec_l1Cur_one__io0
 exact rn_then (n_pick hb h hn) fun z hz => rn_some hz.2.2.2.2
theorem n_amongM {code c0 : List Int} {at_ seed n : Int} {l : List Int} (hb : Bt code) (h : Cu code n (c0, at_, seed)) (hn : n ≤ 8000000000000000) (hl : l ≠ []) : Rn (F_spec_l1Cur_among__io0_mv1 c0 at_ seed l) (fun z => z.1 ∈ l ∧ Cu code (n + 2) z.2) := by
 unfold F_spec_l1Cur_among__io0_mv1
 refine rn_then (n_pick hb h hn) fun z ⟨z1, z2, z3, z4, z5⟩ => ?_
 have h0 : 0 < l.length := List.length_pos_iff.2 hl
 obtain ⟨k, hk⟩ := Int.eq_ofNat_of_zero_le z1
 have hlt : k < l.length := by
  rcases Nat.lt_or_ge 1 l.length with h | h
  ·have := z3 (by omega); omega
  ·have := z2 (by omega); omega
 rw [hk]
 exact rn_ix hlt (rn_some ⟨List.getElem_mem hlt, z5⟩)
theorem Pr_gcd {n d : Nat} (h : Pr n) (hd : d % n ≠ 0) : Nat.gcd n d = 1 := by
 obtain ⟨k, hk⟩ := Nat.gcd_dvd_left n d
 have hn := h.1
 have h0 : 0 < Nat.gcd n d := Nat.gcd_pos_of_pos_left d (by omega)
 have hdv := Nat.gcd_dvd_right n d
 generalize Nat.gcd n d = g at hk h0 hdv
 apply Classical.byContradiction
 intro hg
 have hg2 : 2 ≤ g := by omega
 have hk2 : 2 ≤ k := by
  rcases Nat.lt_or_ge k 2 with h | h
  ·have : k = 0 ∨ k = 1 := by omega
   rcases this with rfl | rfl
   ·omega
   ·rw [Nat.mul_one] at hk
    rw [← hk] at hdv
    exact absurd (Nat.mod_eq_zero_of_dvd hdv) hd
  ·exact h
 rcases Nat.le_total g k with h' | h'
 ·exact h.2 g hg2 (by rw [hk]; exact Nat.mul_le_mul_left g h') (by rw [hk]; exact Nat.mul_mod_right g k)
 ·exact h.2 k hk2 (by rw [hk]; exact Nat.mul_le_mul_right k h') (by rw [hk]; exact Nat.mul_mod_left g k)
theorem Pr_mul {n : Nat} (h : Pr n) {a b : Int} (hab : (a * b) % (n : Int) = 0) : a % (n : Int) = 0 ∨ b % (n : Int) = 0 := by
 have h1 : n ∣ a.natAbs * b.natAbs := by
  rw [← Int.natAbs_mul]
  exact Int.ofNat_dvd_left.1 (Int.dvd_of_emod_eq_zero hab)
 by_cases ha : a.natAbs % n = 0
 ·exact .inl (Int.emod_eq_zero_of_dvd (Int.ofNat_dvd_left.2 (Nat.dvd_of_mod_eq_zero ha)))
 ·exact .inr (Int.emod_eq_zero_of_dvd (Int.ofNat_dvd_left.2 (Nat.Coprime.dvd_of_dvd_mul_left (Pr_gcd h ha) h1)))
def evP (f : List Int) (x : Int) : Int := f.foldr (fun c a => a * x + c) 0
theorem evP_cons (c : Int) (f : List Int) (x : Int) : evP (c :: f) x = evP f x * x + c := rfl
def dvP (r : Int) : List Int → List Int
 | [] => []
 | [_] => []
 | _ :: c :: f => evP (c :: f) r :: dvP r (c :: f)
theorem dvP_len (r : Int) : ∀ f : List Int, (dvP r f).length = f.length - 1
 | [] => rfl
 | [_] => rfl
 | _ :: c :: f => by
  show (dvP r (c :: f)).length + 1 = _
  rw [dvP_len r (c :: f)]; simp
theorem dvP_ev (r x : Int) : ∀ f : List Int, evP f x = evP (dvP r f) x * (x - r) + evP f r
 | [] => by simp [dvP, evP]
 | [c] => by simp [dvP, evP]
 | d :: c :: f => by
  have ih := dvP_ev r x (c :: f)
  show evP (c :: f) x * x + d = (evP (dvP r (c :: f)) x * x + evP (c :: f) r) * (x - r) + (evP (c :: f) r * r + d)
  rw [ih]
  grind
theorem dvP_last (r : Int) : ∀ f : List Int, 2 ≤ f.length → (dvP r f).getLastD 0 = f.getLastD 0
 | [], h => absurd h (by simp)
 | [_], h => absurd h (by simp)
 | [d, c], _ => by simp [dvP, evP]
 | e :: d :: c :: f, _ => by
  have ih := dvP_last r (d :: c :: f) (by simp)
  show (evP (d :: c :: f) r :: evP (c :: f) r :: dvP r (c :: f)).getLastD 0 = _
  have : dvP r (d :: c :: f) = evP (c :: f) r :: dvP r (c :: f) := rfl
  rw [this] at ih
  simpa [List.getLastD] using ih
theorem rootsP {p : Nat} (hp : Pr p) : ∀ (n : Nat) (f : List Int), f.length = n + 1 → f.getLastD 0 % (p : Int) ≠ 0 → ∀ rs : List Int, rs.Pairwise (fun a b => (b - a) % (p : Int) ≠ 0) → (∀ r ∈ rs, evP f r % (p : Int) = 0) → rs.length ≤ n
 | 0, f, hl, hf, rs, hd, hr => by
  match f, hl with
  | [c], _ =>
   cases rs with
   | nil => simp
   | cons r rs =>
    have := hr r (List.mem_cons_self ..)
    simp [evP] at this
    exact absurd (by first | exact this | exact Int.emod_eq_zero_of_dvd this) (by simpa [List.getLastD] using hf)
 | n + 1, f, hl, hf, rs, hd, hr => by
  cases rs with
  | nil => simp
  | cons r rs =>
   have h1 := List.pairwise_cons.1 hd
   have := rootsP hp n (dvP r f) (by rw [dvP_len]; omega) (by rw [dvP_last r f (by omega)]; exact hf) rs h1.2 fun s hs => by
    have e := dvP_ev r s f
    have hs0 := hr s (List.mem_cons_of_mem _ hs)
    have hr0 := hr r (List.mem_cons_self ..)
    have hm : (evP (dvP r f) s * (s - r)) % (p : Int) = 0 := by
     rw [show evP (dvP r f) s * (s - r) = evP f s - evP f r by omega, Int.sub_emod, hs0, hr0]; simp
    rcases Pr_mul hp hm with h | h
    ·exact h
    ·exact absurd h (h1.1 s hs)
   simpa using this
theorem evP_mono (k : Nat) (x : Int) : evP (List.replicate k 0 ++ [1]) x = x ^ k := by
 induction k with
 | zero => simp [evP]
 | succ k ih => rw [List.replicate_succ, List.cons_append, evP_cons, ih, Int.pow_succ]; omega
theorem unity_roots {p n : Nat} (hp : Pr p) (hn : 1 ≤ n) (rs : List Int) (hd : rs.Pairwise (fun a b => (b - a) % (p : Int) ≠ 0)) (hr : ∀ r ∈ rs, r ^ n % (p : Int) = 1) : rs.length ≤ n := by
 have h2 := hp.1
 have hone : (1 : Int) % (p : Int) = 1 := Int.emod_eq_of_lt (by omega) (by omega)
 obtain ⟨k, rfl⟩ : ∃ k, n = k + 1 := ⟨n - 1, by omega⟩
 refine rootsP hp (k + 1) (-1 :: (List.replicate k 0 ++ [1])) (by simp) ?_ rs hd fun r hr' => ?_
 ·have : (-1 :: (List.replicate k (0 : Int) ++ [1])).getLastD 0 = 1 := by
   rw [← List.cons_append, List.getLastD_concat]
  rw [this, hone]; omega
 ·rw [evP_cons, evP_mono, ← Int.pow_succ, Int.add_emod, hr r hr']
  have : ((-1 : Int) % (p : Int)) = p - 1 := by
   have := Int.add_mul_emod_self_left (-1) (p : Int) 1
   rw [← this, Int.mul_one, Int.emod_eq_of_lt (by omega) (by omega)]; omega
  rw [this, show 1 + ((p : Int) - 1) = p by omega, Int.emod_self]
theorem not_unity {p n : Nat} (hp : Pr p) (hn : 1 ≤ n) (hnp : n < p - 1) : ∃ h : Nat, 2 ≤ h ∧ h < p ∧ h ^ n % p ≠ 1 := by
 apply Classical.byContradiction
 intro hc
 have h2 := hp.1
 have h1 : ∀ h : Nat, 1 ≤ h → h < p → h ^ n % p = 1 := fun h a b => by
  rcases Nat.lt_or_ge h 2 with c | c
  ·have : h = 1 := by omega
   subst this
   rw [Nat.one_pow, Nat.mod_eq_of_lt (by omega)]
  ·exact Classical.byContradiction fun d => hc ⟨h, c, b, d⟩
 have := unity_roots hp hn ((List.range (p - 1)).map fun k => ((k + 1 : Nat) : Int)) ?_ ?_
 ·simp at this; omega
 ·rw [List.pairwise_map]
  refine List.Pairwise.imp_of_mem ?_ List.pairwise_lt_range
  intro a b ha hb hab
  have hb := List.mem_range.1 hb
  rw [show ((b + 1 : Nat) : Int) - ((a + 1 : Nat) : Int) = ((b - a : Nat) : Int) by omega, ← Int.natCast_emod, Nat.mod_eq_of_lt (by omega)]
  omega
 ·intro r hr
  obtain ⟨k, hk, rfl⟩ := List.mem_map.1 hr
  have hk := List.mem_range.1 hk
  rw [← Int.natCast_pow, ← Int.natCast_emod, h1 (k + 1) (by omega) (by omega)]; rfl
structure Gs (gr : Group) : Prop where
 p : 0 ≤ gr.P ∧ gr.P ≤ 2000000000
 q : 0 ≤ gr.Q ∧ gr.Q ≤ 1000000000
 g : 0 ≤ gr.G ∧ gr.G ≤ 2000000000
theorem mg_dvd {q k : Nat} (hq : 2 ≤ q) : ((1 + (k : Int) * (q : Int)) - 1).tdiv (q : Int) = (k : Int) := by
 rw [show (1 + (k : Int) * (q : Int)) - 1 = (k : Int) * (q : Int) by omega, Int.mul_tdiv_cancel _ (by omega)]
theorem n_MakeGroup {q : Nat} (hq2 : q ≤ 1000000) : Rn (F_spec_MakeGroup (q : Int)) (fun z => Gs z.1 ∧ (z.2 = true → z.1.Q = q ∧ 3 ≤ z.1.P) ∧ (∀ k : Nat, 1 ≤ k → Pr (1 + k * q) → 1 + k * q ≤ 2000000000 → Pr q → z.2 = true)) := by
 unfold F_spec_MakeGroup
 refine rn_then (ψ := fun b => b = !(decide (2 ≤ q) && prB (q : Int))) ?_ ?_
 ·refine rn_call (n_l1In _ _ _) ?_
  by_cases h : 2 ≤ q
  ·refine rn_f (by simp; omega) (rn_call (n_nPrime _ (by omega)) (rn_some ?_))
   simp [h]
  ·refine rn_t (by simp; omega) (rn_some ?_)
   simp [h]
 ·rintro _ rfl
  cases hc : (decide (2 ≤ q) && prB (q : Int))
  ·refine rn_t rfl (rn_some ⟨⟨⟨by decide, by decide⟩, ⟨by decide, by decide⟩, by decide, by decide⟩, fun h => (by cases h), fun k h1 h2 h3 h4 => ?_⟩)
   rw [prB_t.2 h4] at hc
   have := h4.1
   simp at hc; omega
  ·have hq : 2 ≤ q := by simp at hc; exact hc.1
   have hpq : Pr q := by simp at hc; exact prB_t.1 hc.2
   refine rn_f rfl ?_
   refine rn_then (ψ := fun b => (b = .inl () ∧ ∀ k : Nat, 1 ≤ k → Pr (1 + k * q) → ¬ 1 + k * q ≤ 2000000000) ∨ ∃ z : Group × Bool, b = .inr z ∧ Gs z.1 ∧ z.2 = true ∧ z.1.Q = q ∧ 3 ≤ z.1.P) ?_ ?_
   ·rw [wr64 (by omega) (by omega)]
    refine rn_wloop (fun s => ∃ k : Nat, 1 ≤ k ∧ s = 1 + (k : Int) * (q : Int) ∧ s ≤ 2001000001 ∧ ∀ j : Nat, 1 ≤ j → j < k → ¬ Pr (1 + j * q)) (fun s => (2001000001 - s).toNat) ⟨1, by omega, by omega, by omega, fun j h1 h2 => by omega⟩ ?_
    rintro s ⟨k, hk, rfl, hs, hn⟩
    have hkq : k * 2 ≤ k * q := Nat.mul_le_mul_left k hq
    have hkc : (k : Int) * (q : Int) = ((k * q : Nat) : Int) := mul_cast k q
    refine rn_if (fun g => ?_) fun g => ?_
    ·have g : 1 + (k : Int) * (q : Int) ≤ 2000000000 := by simpa using g
     refine rn_call (n_nPrime _ (by omega)) ?_
     have hcast : 1 + (k : Int) * (q : Int) = ((1 + k * q : Nat) : Int) := by omega
     cases hp : prB (1 + (k : Int) * (q : Int))
     ·refine rn_t rfl (rn_some ?_)
      have e : IntKind.i64.wrap (1 + (k : Int) * (q : Int) + (q : Int)) = 1 + ((k + 1 : Nat) : Int) * (q : Int) := by
       rw [wr64 (by omega) (by omega)]; grind
      refine ⟨⟨k + 1, by omega, e, by rw [wr64 (by omega) (by omega)]; omega, fun j h1 h2 => ?_⟩, ?_⟩
      ·rcases Nat.lt_or_ge j k with h | h
       ·exact hn j h1 h
       ·have : j = k := by omega
        subst this
        intro hpr
        rw [hcast, prB_t.2 hpr] at hp
        cases hp
      ·rw [wr64 (by omega) (by omega)]; omega
     ·refine rn_f rfl ?_
      have hpr : Pr (1 + k * q) := by rw [hcast] at hp; exact prB_t.1 hp
      obtain ⟨h0, a1, a2, a3⟩ := not_unity hpr hk (by omega)
      have hdv : IntKind.i64.wrap ((IntKind.i64.wrap (1 + (k : Int) * (q : Int) - 1)).tdiv (q : Int)) = (k : Int) := by
       rw [wr64 (n := 1 + (k : Int) * (q : Int) - 1) (by omega) (by omega), mg_dvd hq, wr64 (by omega) (by omega)]
      simp only [hdv]
      simp only [hcast]
      refine rn_then (ψ := fun h => 2 ≤ h ∧ h ≤ (h0 : Int)) (rn_wloop (fun s => 2 ≤ s ∧ s ≤ (h0 : Int)) (fun s => (h0 - s).toNat) (by omega) ?_) ?_
      ·rintro s ⟨s1, s2⟩
       have hpw := (n_powI (a := s) (e := (k : Int)) (m := ((1 + k * q : Nat) : Int)) (by omega) (by omega) (by omega) (by omega) (by omega) (by omega)).2
       refine rn_gd (by omega) (rn_call hpw ?_)
       refine rn_if (fun g => rn_some ?_) fun g => rn_some ⟨s1, s2⟩
       rw [wr64 (by omega) (by omega)]
       have hne : s ≠ (h0 : Int) := fun e => by
        subst e
        apply a3
        have g : ((((h0 : Int).toNat ^ (k : Int).toNat % ((1 + k * q : Nat) : Int).toNat : Nat)) : Int) = 1 := by simpa only [beq_iff_eq] using g
        rw [Int.toNat_natCast, Int.toNat_natCast, Int.toNat_natCast] at g
        omega
       refine ⟨⟨by omega, by omega⟩, ?_⟩
       omega
      ·rintro h ⟨s1, s2⟩
       have hpw := (n_powI (a := h) (e := (k : Int)) (m := ((1 + k * q : Nat) : Int)) (by omega) (by omega) (by omega) (by omega) (by omega) (by omega)).2
       refine rn_gd (by omega) (rn_call hpw (rn_some ?_))
       have hlt : h.toNat ^ (k : Int).toNat % ((1 + k * q : Nat) : Int).toNat < 1 + k * q := by
        rw [Int.toNat_natCast (1 + k * q)]
        exact Nat.mod_lt _ (by omega)
       refine .inr ⟨_, rfl, ⟨⟨by show (0 : Int) ≤ ((1 + k * q : Nat) : Int); omega, by show ((1 + k * q : Nat) : Int) ≤ _; omega⟩, ⟨by show (0 : Int) ≤ (q : Int); omega, by show (q : Int) ≤ _; omega⟩, ?_, ?_⟩, rfl, rfl, by show (3 : Int) ≤ ((1 + k * q : Nat) : Int); omega⟩
       ·show (0 : Int) ≤ ((_ : Nat) : Int); omega
       ·show ((_ : Nat) : Int) ≤ 2000000000; omega
    ·refine rn_some (.inl ⟨rfl, fun j h1 h2 h3 => ?_⟩)
     have g : ¬ 1 + (k : Int) * (q : Int) ≤ 2000000000 := by simpa using g
     rcases Nat.lt_or_ge j k with h | h
     ·exact hn j h1 h h2
     ·have : k * q ≤ j * q := Nat.mul_le_mul_right q h
      omega
   ·rintro b (⟨rfl, h⟩ | ⟨z, rfl, h1, h2, h3, h4⟩)
    ·exact rn_some ⟨⟨⟨by decide, by decide⟩, ⟨by decide, by decide⟩, by decide, by decide⟩, fun h => (by cases h), fun k h1 h2 h3 h4 => absurd h3 (h k h1 h2)⟩
    ·exact rn_some ⟨h1, fun _ => ⟨h3, h4⟩, fun _ _ _ _ _ => h2⟩
theorem Pr64 {n : Nat} (hn : n < 64) (h2 : 2 ≤ n) (h : ∀ d, d < 8 → 2 ≤ d → d * d ≤ n → n % d ≠ 0) : Pr n := by
 refine ⟨h2, fun d h1 h3 => ?_⟩
 rcases Nat.lt_or_ge d 8 with h8 | h8
 ·exact h d h8 h1 h3
 ·have : 8 * 8 ≤ d * d := Nat.mul_le_mul h8 h8
  omega
structure Gw (gr : Group) : Prop where
 p : -10 ≤ gr.P ∧ gr.P ≤ 2100000000
 q : -10 ≤ gr.Q ∧ gr.Q ≤ 2100000000
 g : -10 ≤ gr.G ∧ gr.G ≤ 2100000000
theorem Gs.w {gr : Group} (h : Gs gr) : Gw gr := ⟨by have := h.p; omega, by have := h.q; omega, by have := h.g; omega⟩
theorem tiny_q {x : Int} (hx : x ∈ [(3 : Int), 5, 5, 7, 11, 11, 13, 23]) : ∃ q k : Nat, x = (q : Int) ∧ 3 ≤ q ∧ q ≤ 23 ∧ 1 ≤ k ∧ Pr (1 + k * q) ∧ 1 + k * q ≤ 2000000000 ∧ Pr q := by
 simp only [List.mem_cons, List.not_mem_nil, or_false] at hx
 rcases hx with rfl | rfl | rfl | rfl | rfl | rfl | rfl | rfl
 ·exact ⟨3, 2, rfl, by decide, by decide, by decide, Pr64 (by decide) (by decide) (by decide), by decide, Pr64 (by decide) (by decide) (by decide)⟩
 ·exact ⟨5, 2, rfl, by decide, by decide, by decide, Pr64 (by decide) (by decide) (by decide), by decide, Pr64 (by decide) (by decide) (by decide)⟩
 ·exact ⟨5, 2, rfl, by decide, by decide, by decide, Pr64 (by decide) (by decide) (by decide), by decide, Pr64 (by decide) (by decide) (by decide)⟩
 ·exact ⟨7, 4, rfl, by decide, by decide, by decide, Pr64 (by decide) (by decide) (by decide), by decide, Pr64 (by decide) (by decide) (by decide)⟩
 ·exact ⟨11, 2, rfl, by decide, by decide, by decide, Pr64 (by decide) (by decide) (by decide), by decide, Pr64 (by decide) (by decide) (by decide)⟩
 ·exact ⟨11, 2, rfl, by decide, by decide, by decide, Pr64 (by decide) (by decide) (by decide), by decide, Pr64 (by decide) (by decide) (by decide)⟩
 ·exact ⟨13, 4, rfl, by decide, by decide, by decide, Pr64 (by decide) (by decide) (by decide), by decide, Pr64 (by decide) (by decide) (by decide)⟩
 ·exact ⟨23, 2, rfl, by decide, by decide, by decide, Pr64 (by decide) (by decide) (by decide), by decide, Pr64 (by decide) (by decide) (by decide)⟩
theorem n_tiny {code c0 : List Int} {at_ seed n : Int} (hb : Bt code) (h : Cu code n (c0, at_, seed)) (hn : n ≤ 7000000000000000) : Rn (F_spec_l1Cur_tiny__io0 c0 at_ seed) (fun z => Gs z.1 ∧ 3 ≤ z.1.Q ∧ z.1.Q ≤ 23 ∧ 3 ≤ z.1.P ∧ Cu code (n + 2) z.2) := by
 unfold F_spec_l1Cur_tiny__io0
 refine rn_then (n_amongM hb h (by omega) (by simp)) fun z ⟨z1, z2⟩ => ?_
 obtain ⟨q, k, e, q1, q2, k1, k2, k3, k4⟩ := tiny_q z1
 rw [e]
 refine rn_then (n_MakeGroup (by omega)) fun y ⟨y1, y2, y3⟩ => rn_some ?_
 have y4 := y2 (y3 k k1 k2 k3 k4)
 exact ⟨y1, by show 3 ≤ y.1.Q; omega, by show y.1.Q ≤ 23; omega, y4.2, z2⟩
theorem n_gExpT {gr : Group} (h : Gs gr) (hq : 1 ≤ gr.Q) (hp : 1 ≤ gr.P) {x : Int} (hx : 0 ≤ x ∧ x ≤ 2000000000) (e : Int) : Rn (F_spec_gExp gr x e) (fun v => 0 ≤ v ∧ v ≤ 2000000000) := by
 have h1 := h.p
 have h2 := h.q
 have b1 : 0 ≤ e % gr.Q := Int.emod_nonneg _ (by omega)
 have b2 : e % gr.Q < gr.Q := Int.emod_lt_of_pos _ (by omega)
 have hw := (n_powI (a := x) (e := e % gr.Q) (m := gr.P) (by omega) (by omega) (by omega) (by omega) b1 (by omega)).2
 unfold F_spec_gExp
 refine rn_call (n_nMod (by omega) (by omega)) (rn_call hw (rn_some ?_))
 have hlt : x.toNat ^ (e % gr.Q).toNat % gr.P.toNat < gr.P.toNat := Nat.mod_lt _ (by omega)
 omega
theorem big_q {x : Int} (hx : x ∈ [(101 : Int), 1009, 1019, 65537, 999983]) : ∃ q : Nat, x = (q : Int) ∧ q ≤ 1000000 := by
 simp only [List.mem_cons, List.not_mem_nil, or_false] at hx
 rcases hx with rfl | rfl | rfl | rfl | rfl
 ·exact ⟨101, rfl, by decide⟩
 ·exact ⟨1009, rfl, by decide⟩
 ·exact ⟨1019, rfl, by decide⟩
 ·exact ⟨65537, rfl, by decide⟩
 ·exact ⟨999983, rfl, by decide⟩
theorem gs_big : Gs (Group.mk 1000000007 500000003 4) := ⟨⟨by decide, by decide⟩, ⟨by decide, by decide⟩, by decide, by decide⟩
theorem cu0 (code : List Int) : Cu code 0 (code, 0, 0) := ⟨rfl, Int.le_refl 0, Int.le_refl 0⟩
theorem n_group {code c0 : List Int} {at_ seed n : Int} (hb : Bt code) (h : Cu code n (c0, at_, seed)) (hn : n ≤ 6000000000000000) : Rn (F_spec_l1Cur_group__io0 c0 at_ seed) (fun z => Gs z.1 ∧ Cu code (n + 6) z.2) := by
 unfold F_spec_l1Cur_group__io0
 refine rn_then (n_pick hb h (by omega)) fun z ⟨z1, z2, z3, z4, z5⟩ => ?_
 refine rn_if (fun _ => rn_some ⟨gs_big, z5.mono (by omega)⟩) fun _ => rn_if (fun _ => ?_) fun _ => ?_
 ·refine rn_then (n_amongM hb z5 (by omega) (by simp)) fun y ⟨y1, y2⟩ => ?_
  obtain ⟨q, e, hq⟩ := big_q y1
  rw [e]
  exact rn_then (n_MakeGroup hq) fun x ⟨x1, _, _⟩ => rn_some ⟨x1, y2.mono (by omega)⟩
 ·refine rn_then (n_tiny hb z5 (by omega)) fun y ⟨y1, y2, y3, y4, y5⟩ => ?_
  refine rn_then (n_pick hb y5 (by omega)) fun x ⟨x1, x2, x3, x4, x5⟩ => ?_
  have hg := y1.g
  refine rn_then (n_gExpT y1 (by omega) (by omega) hg _) fun v hv => rn_some ⟨⟨y1.p, y1.q, hv⟩, x5.mono (by omega)⟩
theorem n_anyGroup {code c0 : List Int} {at_ seed n : Int} (hb : Bt code) (h : Cu code n (c0, at_, seed)) (hn : n ≤ 5000000000000000) : Rn (F_spec_l1Cur_anyGroup__io0 c0 at_ seed) (fun z => Gw z.1 ∧ Cu code (n + 10) z.2) := by
 unfold F_spec_l1Cur_anyGroup__io0
 refine rn_then (n_group hb h (by omega)) fun z ⟨z1, z2⟩ => ?_
 have g1 := z1.p
 have g2 := z1.q
 have g3 := z1.g
 refine rn_then (n_pick hb z2 (by omega)) fun y ⟨_, _, _, _, y5⟩ => ?_
 rw [wr64 (n := z.1.P + 2) (by omega) (by omega), wr64 (n := z.1.Q + 1) (by omega) (by omega), wr64 (n := z.1.P - 1) (by omega) (by omega), wr64 (n := z.1.G + 1) (by omega) (by omega)]
 refine rn_then (ψ := fun x => Gw (Group.mk x.2.1 x.2.2.1 x.2.2.2) ∧ Cu code (n + 10) x.1) ?_ fun x hx => rn_some hx
 refine rn_if (fun _ => ?_) fun _ => rn_if (fun _ => ?_) fun _ => rn_if (fun _ => ?_) fun _ => rn_some ⟨z1.w, y5.mono (by omega)⟩
 ·refine rn_then (n_amongM hb y5 (by omega) (by simp)) fun x ⟨x1, x2⟩ => rn_some ⟨?_, x2.mono (by omega)⟩
  simp only [List.mem_cons, List.not_mem_nil, or_false] at x1
  exact ⟨by show -10 ≤ x.1 ∧ x.1 ≤ _; omega, by show -10 ≤ z.1.Q ∧ z.1.Q ≤ _; omega, by show -10 ≤ z.1.G ∧ z.1.G ≤ _; omega⟩
 ·refine rn_then (n_amongM hb y5 (by omega) (by simp)) fun x ⟨x1, x2⟩ => rn_some ⟨?_, x2.mono (by omega)⟩
  simp only [List.mem_cons, List.not_mem_nil, or_false] at x1
  exact ⟨by show -10 ≤ z.1.P ∧ z.1.P ≤ _; omega, by show -10 ≤ x.1 ∧ x.1 ≤ _; omega, by show -10 ≤ z.1.G ∧ z.1.G ≤ _; omega⟩
 ·refine rn_then (n_amongM hb y5 (by omega) (by simp)) fun x ⟨x1, x2⟩ => rn_some ⟨?_, x2.mono (by omega)⟩
  simp only [List.mem_cons, List.not_mem_nil, or_false] at x1
  exact ⟨by show -10 ≤ z.1.P ∧ z.1.P ≤ _; omega, by show -10 ≤ z.1.Q ∧ z.1.Q ≤ _; omega, by show -10 ≤ x.1 ∧ x.1 ≤ _; omega⟩
theorem n_expo {code c0 : List Int} {at_ seed n : Int} {gr : Group} (hb : Bt code) (h : Cu code n (c0, at_, seed)) (hn : n ≤ 7000000000000000) (hg : gr.Q ≤ 2100000000) : Rn (F_spec_l1Cur_expo__io0 c0 at_ seed gr) (fun z => 0 ≤ z.1 ∧ z.1 ≤ 2100000000 ∧ (2 ≤ gr.Q → z.1 < gr.Q) ∧ Cu code (n + 4) z.2) := by
 unfold F_spec_l1Cur_expo__io0
 refine rn_if (fun g => rn_some ⟨Int.le_refl 0, by show (0 : Int) ≤ _; omega, fun h => by simp at g; omega, h.mono (by omega)⟩) fun g => ?_
 have g : 2 ≤ gr.Q := by simp at g; omega
 refine rn_then (n_pick hb h (by omega)) fun z ⟨z1, z2, z3, z4, z5⟩ => ?_
 refine rn_then (n_pick hb z5 (by omega)) fun y ⟨y1, y2, y3, y4, y5⟩ => rn_gd (by omega) (rn_some ?_)
 rw [wr64 (n := z.1 * 60000) (by omega) (by omega), wr64 (by omega) (by omega), Int.tmod_eq_emod_of_nonneg (by omega)]
 have b1 := Int.emod_nonneg (z.1 * 60000 + y.1) (show gr.Q ≠ 0 by omega)
 have b2 := Int.emod_lt_of_pos (z.1 * 60000 + y.1) (show 0 < gr.Q by omega)
 exact ⟨b1, by show _ % gr.Q ≤ _; omega, fun _ => b2, y5.mono (by omega)⟩
theorem n_coins {code c0 : List Int} {at_ seed n : Int} {gr : Group} {k : Nat} (hb : Bt code) (h : Cu code n (c0, at_, seed)) (hn : n ≤ 5000000000000000) (hg : Gw gr) (hk : k ≤ 1000000) : Rn (F_spec_l1Cur_coins__io0 c0 at_ seed gr (k : Int)) (fun z => z.1.length = k ∧ (∀ x ∈ z.1, 0 ≤ x ∧ x ≤ 2100000000 ∧ (2 ≤ gr.Q → x < gr.Q)) ∧ Cu code (n + 4 * k) z.2) := by
 unfold F_spec_l1Cur_coins__io0
 refine rn_then (ψ := fun r => r.2.length = k ∧ (∀ x ∈ r.2, 0 ≤ x ∧ x ≤ 2100000000 ∧ (2 ≤ gr.Q → x < gr.Q)) ∧ Cu code (n + 4 * k) r.1) (rn_cloop k (fun j s => s.2.1 = (k : Int) - j ∧ s.2.2.length = j ∧ (∀ x ∈ s.2.2, 0 ≤ x ∧ x ≤ 2100000000 ∧ (2 ≤ gr.Q → x < gr.Q)) ∧ Cu code (n + 4 * j) s.1) ⟨by show (k : Int) = _; omega, rfl, by simp, h.mono (by omega)⟩ ?_ ?_) fun r hr => rn_some hr
 ·rintro j s hj ⟨h1, h2, h3, h4⟩
  refine rn_t (by rw [h1]; simp; omega) (rn_then (n_expo hb h4 (by omega) hg.q.2) fun z ⟨z1, z2, z3, z4⟩ => rn_gd (by omega) (rn_some ⟨?_, by simp [h2], fun x hx => ?_, z4.mono (by omega)⟩))
  ·show IntKind.i64.wrap (s.2.1 - 1) = _
   rw [h1, wr64 (by omega) (by omega)]; omega
  ·rcases List.mem_append.1 hx with h | h
   ·exact h3 x h
   ·rw [List.mem_singleton.1 h]; exact ⟨z1, z2, z3⟩
 ·rintro s ⟨h1, h2, h3, h4⟩
  exact rn_f (by rw [h1]; simp) (rn_some ⟨h2, h3, h4⟩)
theorem n_nModW {a q : Int} (h0 : 0 < q) (h1 : q ≤ 4000000000000000000) : F_spec_nMod a q = some (a % q) := by
 unfold F_spec_nMod
 rw [gd_t (by omega), gd_t (by omega)]
 have b1 : a.tmod q < q := Int.tmod_lt_of_pos a h0
 have b2 : -q < a.tmod q := by
  have := Int.lt_tmod_of_pos a h0
  omega
 rw [wr64 (by omega) (by omega), Int.tmod_eq_emod_of_nonneg (by omega)]
 congr 1
 rw [Int.add_emod_right]
 rw [Int.tmod_def, Int.sub_emod, Int.mul_emod_right, Int.sub_zero, Int.emod_emod]
theorem tmod_bd (a : Int) {m : Int} (h : 0 < m) : -m < a.tmod m ∧ a.tmod m < m := by
 have h1 := Int.tmod_lt_of_pos a h
 have h2 := Int.lt_tmod_of_pos a h
 omega
theorem n_nPowerT (a : Int) {e m : Int} (h1 : 1 ≤ m) (h2 : 0 ≤ e) (h3 : e ≤ 4000000000000000000) : Rn (F_spec_nPower a e m) (fun v => -m < v ∧ v < m) := by
 unfold F_spec_nPower
 refine rn_gd (by omega) (rn_then (ψ := fun v => -m < v ∧ v < m) (rn_wloop (fun s => (-m < s.2.2 ∧ s.2.2 < m) ∧ 0 ≤ s.2.1 ∧ s.2.1 ≤ e) (fun s => s.2.1.toNat) ⟨tmod_bd _ (by omega), h2, Int.le_refl _⟩ ?_) fun x hx => rn_some hx)
 rintro s ⟨hs, h4, h5⟩
 refine rn_if (fun g => ?_) fun _ => rn_some hs
 have g : 0 < s.2.1 := by simpa using g
 refine rn_then (ψ := fun v => -m < v ∧ v < m) (rn_if (fun _ => rn_gd (by omega) (rn_some (tmod_bd _ (by omega)))) fun _ => rn_some hs) fun x hx => rn_gd (by omega) (rn_some ?_)
 have e1 : s.2.1.tdiv 2 = s.2.1 / 2 := Int.tdiv_eq_ediv_of_nonneg (by omega)
 have e2 : IntKind.i64.wrap (s.2.1.tdiv 2) = s.2.1 / 2 := by rw [e1, wr64 (by omega) (by omega)]
 exact ⟨⟨hx, by show 0 ≤ IntKind.i64.wrap _; rw [e2]; omega, by show IntKind.i64.wrap _ ≤ e; rw [e2]; omega⟩, by show (IntKind.i64.wrap _).toNat < _; rw [e2]; omega⟩
theorem n_gExpW {gr : Group} (hq : 1 ≤ gr.Q ∧ gr.Q ≤ 4000000000000000000) (hp : 1 ≤ gr.P) (x e : Int) : Rn (F_spec_gExp gr x e) (fun v => -gr.P < v ∧ v < gr.P) := by
 unfold F_spec_gExp
 refine rn_call (n_nModW (by omega) hq.2) (rn_then (n_nPowerT x hp (Int.emod_nonneg _ (by omega)) ?_) fun v hv => rn_some hv)
 have := Int.emod_lt_of_pos e (show 0 < gr.Q by omega)
 omega
theorem n_element {code c0 : List Int} {at_ seed n : Int} {gr : Group} (hb : Bt code) (h : Cu code n (c0, at_, seed)) (hn : n ≤ 6000000000000000) (hg : Gw gr) : Rn (F_spec_l1Cur_element__io0 c0 at_ seed gr) (fun z => -2200000000 ≤ z.1 ∧ z.1 ≤ 2200000000 ∧ Cu code (n + 4) z.2) := by
 have g1 := hg.p
 have g2 := hg.q
 unfold F_spec_l1Cur_element__io0
 refine rn_then (ψ := fun b => b = false → 3 ≤ gr.P ∧ 1 ≤ gr.Q) (rn_if (fun _ => rn_some fun h => by cases h) fun a => rn_some fun b => by simp at a b; omega) fun b hb' => rn_if (fun _ => rn_some ⟨by show -2200000000 ≤ (1 : Int); decide, by show (1 : Int) ≤ _; decide, h.mono (by omega)⟩) fun e => ?_
 obtain ⟨k1, k2⟩ := hb' e
 refine rn_call (n_nModW (by omega) (by omega)) (rn_then (n_expo hb h (by omega) (by omega)) fun z ⟨z1, z2, _, z3⟩ => rn_then (n_gExpW ⟨k2, by omega⟩ (by omega) _ _) fun v hv => rn_some ⟨by show _ ≤ v; omega, by show v ≤ _; omega, z3⟩)
theorem n_anyElement {code c0 : List Int} {at_ seed n : Int} {gr : Group} (hb : Bt code) (h : Cu code n (c0, at_, seed)) (hn : n ≤ 5000000000000000) (hg : Gw gr) : Rn (F_spec_l1Cur_anyElement__io0 c0 at_ seed gr) (fun z => -2200000000 ≤ z.1 ∧ z.1 ≤ 2200000000 ∧ Cu code (n + 6) z.2) := by
 have g1 := hg.p
 unfold F_spec_l1Cur_anyElement__io0
 refine rn_then (n_one hb h (by omega)) fun z z1 => rn_if (fun _ => ?_) fun _ => rn_then (n_element hb z1 (by omega) hg) fun y ⟨y1, y2, y3⟩ => rn_some ⟨y1, y2, y3.mono (by omega)⟩
 rw [wr64 (n := gr.P - 1) (by omega) (by omega)]
 refine rn_then (n_amongM hb z1 (by omega) (by simp)) fun y ⟨y1, y2⟩ => rn_some ?_
 simp only [List.mem_cons, List.not_mem_nil, or_false] at y1
 exact ⟨by show -2200000000 ≤ y.1; omega, by show y.1 ≤ _; omega, y2.mono (by omega)⟩
def hasC (gr : Group) (c : Cipher) : Bool := hasB gr c.A && hasB gr c.B
theorem n_idxC {gr : Group} (k : OkG gr) (l : List Cipher) : Rn (F_slices_IndexFunc_impl_Cipher_impl_Cipher__impl_Group_hasCiphers_1 l gr.P gr.Q gr.G) (fun x => (x = -1 ∧ l.all (hasC gr) = true) ∨ (0 ≤ x ∧ l.all (hasC gr) = false)) := by
 unfold F_slices_IndexFunc_impl_Cipher_impl_Cipher__impl_Group_hasCiphers_1
 refine rn_then (ψ := fun x => (x = .inl () ∧ l.all (hasC gr) = true) ∨ (∃ j : Nat, x = .inr (j : Int) ∧ l.all (hasC gr) = false)) (rn_rloop (fun n _ => ∀ m, m < n → ∀ h : m < l.length, hasC gr l[m] = true) (fun m hm => by omega) ?_ fun s hs => .inl ⟨rfl, ?_⟩) ?_
 ·rintro n s hn hI
  refine rn_ix hn ?_
  unfold F_impl_Group_hasCiphers_1_
  refine rn_then (ψ := fun b => b = !hasC gr l[n]) (rn_call (n_hasCipher k l[n]) (rn_some rfl)) ?_
  rintro _ rfl
  refine rn_if (fun h => rn_some (.inr ⟨n, rfl, ?_⟩)) fun h => rn_some fun m hm hl => ?_
  ·rw [List.all_eq_false]
   exact ⟨l[n], List.getElem_mem hn, by simpa using h⟩
  ·rcases Nat.lt_or_ge m n with h1 | h1
   ·exact hI m h1 hl
   ·have : m = n := by omega
    subst this
    simpa using h
 ·rw [List.all_eq_true]
  intro x hx
  obtain ⟨m, hm, rfl⟩ := List.mem_iff_getElem.1 hx
  exact hs m hm hm
 ·rintro x (⟨rfl, h⟩ | ⟨j, rfl, h⟩)
  ·exact rn_some (.inl ⟨rfl, h⟩)
  ·exact rn_some (.inr ⟨by show (0 : Int) ≤ (j : Int); omega, h⟩)
theorem n_hasCiphers {gr : Group} (k : OkG gr) (l : List Cipher) : F_impl_Group_hasCiphers gr l = some (decide (l.length ≤ 24) && l.all (hasC gr)) := by
 unfold F_impl_Group_hasCiphers
 refine eq_of_rn (rn_then (ψ := fun b => b = (decide (l.length ≤ 24) && l.all (hasC gr))) (rn_if (fun h => ?_) fun h => rn_some ?_) fun b hb => rn_some hb)
 ·have h : l.length ≤ 24 := by simp at h; omega
  unfold F_slices_ContainsFunc_impl_Cipher_impl_Cipher__impl_Group_hasCiphers_1
  refine rn_then (ψ := fun b => b = !l.all (hasC gr)) (rn_then (n_idxC k l) fun x hx => rn_some ?_) ?_
  ·rcases hx with ⟨rfl, h⟩ | ⟨h0, h⟩
   ·rw [h]; rfl
   ·rw [h]; simpa using h0
  ·rintro _ rfl
   exact rn_some (by simp [h])
 ·have h : ¬ l.length ≤ 24 := by simp at h; omega
  simp [h]
theorem n_anyCoins {code c0 : List Int} {at_ seed n : Int} {gr : Group} {k : Nat} (hb : Bt code) (h : Cu code n (c0, at_, seed)) (hn : n ≤ 3000000000000000) (hg : Gw gr) (hk : k ≤ 1000) : Rn (F_spec_l1Cur_anyCoins__io0 c0 at_ seed gr (k : Int)) (fun z => z.1.length ≤ k + 1 ∧ Cu code (n + 4 * k + 20) z.2) := by
 unfold F_spec_l1Cur_anyCoins__io0
 refine rn_then (n_coins hb h (by omega) hg (by omega)) fun z ⟨z1, _, z3⟩ => ?_
 refine rn_then (n_pick hb z3 (by omega)) fun p ⟨_, _, _, _, p5⟩ => ?_
 refine rn_then (ψ := fun v => Sum.elim (fun x => x.2.length ≤ k + 1 ∧ Cu code (n + 4 * k + 20) x.1) (fun y => y.1.length ≤ k + 1 ∧ Cu code (n + 4 * k + 20) y.2) v) ?_ ?_
 ·refine rn_if (fun _ => rn_gd (by omega) (rn_some ⟨by simp [z1], p5.mono (by omega)⟩)) fun _ => rn_if (fun _ => rn_if (fun g => ?_) fun _ => rn_some ⟨by dsimp only; omega, p5.mono (by omega)⟩) fun _ => rn_if (fun _ => rn_if (fun g => ?_) fun _ => rn_some ⟨by dsimp only; omega, p5.mono (by omega)⟩) fun _ => rn_some ⟨by dsimp only; omega, p5.mono (by omega)⟩
  ·have g : 0 < (k : Int) := by simpa using g
   exact rn_gd (by omega) (rn_some ⟨by simp [z1]; omega, p5.mono (by omega)⟩)
  ·have g : 0 < (k : Int) := by simpa using g
   refine rn_then (n_pick hb p5 (by omega)) fun q ⟨q1, q2, q3, _, q5⟩ => ?_
   refine rn_then (n_amongM hb q5 (by omega) (by simp)) fun w ⟨_, w2⟩ => ?_
   obtain ⟨j, hj⟩ := Int.eq_ofNat_of_zero_le q1
   have hlt : j < z.1.length := by
    rcases Nat.lt_or_ge 1 k with h | h
    ·have := q3 (by omega); omega
    ·have := q2 (by omega); omega
   rw [hj]
   exact rn_ix hlt (rn_some ⟨by show (z.1.set _ _).length ≤ _; rw [List.length_set]; omega, w2.mono (by omega)⟩)
 ·rintro (x | y) hx
  ·exact rn_some hx
  ·exact rn_some hx
def byL (s : ByteArray) : List Int := s.data.toList.map fun b => (b.toNat : Int)
theorem byL_len (s : ByteArray) : (byL s).length = s.size := by
 show (s.data.toList.map _).length = s.data.size
 rw [List.length_map, Array.length_toList]
theorem byL_bd (s : ByteArray) : ∀ x ∈ byL s, 0 ≤ x ∧ x ≤ 255 := by
 intro x hx
 obtain ⟨b, _, rfl⟩ := List.mem_map.1 hx
 have := b.toNat_lt
 omega
theorem ixs_at {s : ByteArray} {k : Nat} (h : k < s.size) : ixs s (k : Int) = some ((byL s)[k]'(by rw [byL_len]; exact h)) := by
 have h2 : k < s.data.size := h
 simp [ixs, byL, h]
 rfl
theorem n_with (s : ByteArray) (l : List Int) (hs : s.size ≤ 1000000) (hl : l.length ≤ 1000000000000) : F_spec_l3With s l = some ((s.size : Int) :: byL s ++ l) := by
 unfold F_spec_l3With
 refine eq_of_rn (rn_then (ψ := fun x => x = (s.size : Int) :: byL s) (rn_cloop s.size (fun n p => n ≤ s.size ∧ p = ((s.size : Int) :: (byL s).take n, (n : Int))) ⟨by omega, by simp⟩ ?_ ?_) ?_)
 ·rintro n p hn ⟨_, rfl⟩
  have hn2 : n < (byL s).length := by rw [byL_len]; exact hn
  have hb := byL_bd s _ (List.getElem_mem hn2)
  refine rn_if (fun _ => ?_) fun h => absurd h (by simp; omega)
  refine rn_call (ixs_at hn) (rn_gd ?_ (rn_some ⟨by omega, ?_⟩))
  ·simp only [List.length_cons, List.length_take, byL_len]; omega
  ·show ((s.size : Int) :: (byL s).take n ++ [_], _) = _
   rw [wr64 (by omega) (by omega), wr64 (by omega) (by omega), List.cons_append, List.take_append_getElem hn2]
   rfl
 ·rintro p ⟨_, rfl⟩
  refine rn_if (fun h => absurd h (by simp)) fun _ => rn_some ?_
  show (s.size : Int) :: (byL s).take s.size = _
  rw [List.take_of_length_le (by rw [byL_len]; omega)]
 ·rintro _ rfl
  refine rn_gd ?_ (rn_some rfl)
  simp only [List.length_cons, byL_len]; omega
def digB (x : Int) : Bool := decide (0 ≤ x) && decide (x ≤ 4611686018427387903)
theorem digB_t {x : Int} : digB x = true ↔ 0 ≤ x ∧ x ≤ 4611686018427387903 := by simp [digB]
theorem byL_dig (s : ByteArray) : (byL s).all digB = true := by
 rw [List.all_eq_true]
 intro x hx
 have := byL_bd s x hx
 exact digB_t.2 ⟨by omega, by omega⟩
def hs1 (c s k : Int) : Int := (c * s + k + 1) % 2147483647
def absH (p : Int × Int) (x : Int) : Int × Int := (hs1 48271 (hs1 48271 p.1 (x % 2147483648)) (x / 2147483648), hs1 69621 (hs1 69621 p.2 (x % 2147483648)) (x / 2147483648))
def hashN (l : List Int) : Int := let p := (((l.length : Int) :: l).foldl absH (1, 2)); p.1 * 2147483648 + p.2
theorem hs1_bd (c s k : Int) : 0 ≤ hs1 c s k ∧ hs1 c s k ≤ 2147483646 := by unfold hs1; omega
theorem hs1_eq {c s k : Int} (hc : c = 48271 ∨ c = 69621) (hs : 0 ≤ s ∧ s ≤ 2147483646) (hk : 0 ≤ k ∧ k ≤ 2147483648) : (IntKind.i64.wrap ((IntKind.i64.wrap ((IntKind.i64.wrap (c * s)) + k)) + 1)).tmod 2147483647 = hs1 c s k := by
 rcases hc with rfl | rfl
 ·rw [wr64 (n := 48271 * s) (by omega) (by omega), wr64 (n := 48271 * s + k) (by omega) (by omega), wr64 (by omega) (by omega), Int.tmod_eq_emod_of_nonneg (by omega)]; rfl
 ·rw [wr64 (n := 69621 * s) (by omega) (by omega), wr64 (n := 69621 * s + k) (by omega) (by omega), wr64 (by omega) (by omega), Int.tmod_eq_emod_of_nonneg (by omega)]; rfl
def okP (p : Int × Int) : Prop := (0 ≤ p.1 ∧ p.1 ≤ 2147483646) ∧ (0 ≤ p.2 ∧ p.2 ≤ 2147483646)
theorem absH_ok (p : Int × Int) (x : Int) : okP (absH p x) := ⟨hs1_bd _ _ _, hs1_bd _ _ _⟩
theorem fold_ok : ∀ (l : List Int) (p : Int × Int), okP p → okP (l.foldl absH p)
 | [], _, h => h
 | x :: l, p, _ => fold_ok l _ (absH_ok p x)
theorem hashN_dig (l : List Int) : digB (hashN l) = true := by
 obtain ⟨h1, h2⟩ := fold_ok ((l.length : Int) :: l) (1, 2) ⟨by decide, by decide⟩
 refine digB_t.2 ?_
 unfold hashN
 dsimp only
 omega
theorem n_absorb {p : Int × Int} {x : Int} (hp : okP p) (hx : digB x = true) : F_spec_l3State_absorb__io0 p.1 p.2 x = some (absH p x) := by
 obtain ⟨h1, h2⟩ := hp
 have hx := digB_t.1 hx
 have e1 : x.tmod 2147483648 = x % 2147483648 := Int.tmod_eq_emod_of_nonneg hx.1
 have e2 : IntKind.i64.wrap (x.tdiv 2147483648) = x / 2147483648 := by
  rw [Int.tdiv_eq_ediv_of_nonneg hx.1, wr64 (by omega) (by omega)]
 have b1 : 0 ≤ x % 2147483648 ∧ x % 2147483648 ≤ 2147483648 := by omega
 have b2 : 0 ≤ x / 2147483648 ∧ x / 2147483648 ≤ 2147483648 := by omega
 have h0 : ix [x % 2147483648, x / 2147483648] 0 = some (x % 2147483648) := rfl
 have h1' : ix [x % 2147483648, x / 2147483648] 1 = some (x / 2147483648) := rfl
 unfold F_spec_l3State_absorb__io0
 rw [e1, e2, Option.bind_some, wloop_eq]
 simp only [List.length_cons, List.length_nil, show decide ((0 : Int) < ((0 + 1 + 1 : Nat) : Int)) = true from rfl, if_true, h0, Option.bind_some, hs1_eq (.inl rfl) h1 b1, hs1_eq (.inr rfl) h2 b1]
 rw [wloop_eq]
 simp only [show IntKind.i64.wrap (0 + 1) = 1 from rfl, show decide ((1 : Int) < ((0 + 1 + 1 : Nat) : Int)) = true from rfl, if_true, h1', Option.bind_some, hs1_eq (.inl rfl) (hs1_bd _ _ _) b2, hs1_eq (.inr rfl) (hs1_bd _ _ _) b2]
 rw [wloop_eq]
 simp only [show IntKind.i64.wrap (1 + 1) = 2 from rfl, show decide ((2 : Int) < ((0 + 1 + 1 : Nat) : Int)) = false from rfl, Bool.false_eq_true, if_false, Option.bind_some]
 rfl
theorem all_dig {l : List Int} (h : l.all digB = true) {k : Nat} (hk : k < l.length) : digB l[k] = true := List.all_eq_true.1 h _ (List.getElem_mem hk)
theorem n_hInts {l : List Int} (hl : l.length ≤ 1000000000000) (hd : l.all digB = true) : F_spec_hInts l = some (hashN l) := by
 unfold F_spec_hInts
 have e0 := n_absorb (p := (1, 2)) (x := (l.length : Int)) ⟨by decide, by decide⟩ (digB_t.2 ⟨by omega, by omega⟩)
 refine eq_of_rn (rn_call e0 (rn_then (ψ := fun p => p = ((l.length : Int) :: l).foldl absH (1, 2)) (rn_rloop (fun n p => p = ((l.length : Int) :: l.take n).foldl absH (1, 2)) rfl ?_ ?_) ?_))
 ·rintro n p hn rfl
  refine rn_ix hn (rn_call (n_absorb (fold_ok _ _ ⟨by decide, by decide⟩) (all_dig hd hn)) (rn_some ?_))
  show absH _ _ = _
  rw [← List.take_append_getElem hn, ← List.cons_append, List.foldl_append]
  rfl
 ·rintro p rfl
  show (((l.length : Int) :: l.take l.length).foldl absH (1, 2)) = _
  rw [List.take_length]
 ·rintro p rfl
  obtain ⟨h1, h2⟩ := fold_ok ((l.length : Int) :: l) (1, 2) ⟨by decide, by decide⟩
  refine rn_some ?_
  rw [wr64 (n := _ * 2147483648) (by omega) (by omega), wr64 (by omega) (by omega)]
  rfl
def hshL (s : ByteArray) (l : List Int) : Int := hashN ((s.size : Int) :: byL s ++ l)
theorem hshL_dig (s : ByteArray) (l : List Int) : digB (hshL s l) = true := hashN_dig _
theorem lab_all {s : ByteArray} {l : List Int} (hs : s.size ≤ 1000000) : ((s.size : Int) :: byL s ++ l).all digB = l.all digB := by
 rw [List.cons_append, List.all_cons, List.all_append, byL_dig, digB_t.2 ⟨by omega, by omega⟩, Bool.true_and, Bool.true_and]
theorem n_hLabelled {s : ByteArray} {l : List Int} (hs : s.size ≤ 1000000) (hl : l.length ≤ 100000000000) (hd : l.all digB = true) : F_spec_hLabelled s l = some (hshL s l) := by
 unfold F_spec_hLabelled
 rw [n_with s l hs (by omega), Option.bind_some, n_hInts (by simp [byL_len]; omega) (by rw [lab_all hs]; exact hd)]
 rfl
theorem ceq {n : Int} {k : Nat} (h : n = (k : Int)) (hk : k ≤ 4194304) : IntKind.i64.wrap n = (k : Int) := by rw [wr64 (by omega) (by omega), h]
theorem rl_map {α β γ : Type} {l : List α} {f : α → β} {body : Int → List β → Option (Stp (List β) γ)} {stop : List β → γ} (a0 : List β) (hs : ∀ k (h : k < l.length) (s : List β), s.length = a0.length + k → body (k : Int) s = some (.go (s ++ [f l[k]]))) :
 rloop body stop l.length 0 a0 = some (stop (a0 ++ l.map f)) := by
 refine eq_of_rn (rn_rloop (fun k s => s = a0 ++ (l.take k).map f ∧ k ≤ l.length) ⟨by simp, by omega⟩ ?_ ?_)
 ·rintro k s hk ⟨rfl, _⟩
  refine ⟨_, hs k hk _ (by simp; omega), ?_, hk⟩
  rw [List.take_succ_eq_append_getElem hk, List.map_append, List.append_assoc]; rfl
 ·rintro s ⟨rfl, _⟩
  simp
structure OkC (ct : Contest) : Prop where
 lo : 0 ≤ ct.Least ∧ ct.Least ≤ ct.Most
 k : ((ct.Kind = 1 ∨ ct.Kind = 3) ∧ (1 ≤ ct.Options ∧ ct.Options ≤ 8) ∧ ct.Most ≤ ct.Options ∧ ct.Points = 0) ∨ (ct.Kind = 2 ∧ (1 ≤ ct.Options ∧ ct.Options ≤ 8) ∧ (1 ≤ ct.Points ∧ ct.Points ≤ 5) ∧ ct.Most ≤ ct.Options * ct.Points) ∨ (ct.Kind = 4 ∧ ct.Options = 0 ∧ ct.Most ≤ 5 ∧ ct.Points = 0)
open Classical in
noncomputable def okC (ct : Contest) : Bool := decide (OkC ct)
theorem okC_t {ct : Contest} : okC ct = true ↔ OkC ct := by simp [okC]
theorem mulb {a b : Int} (h : 1 ≤ a ∧ a ≤ 8) (h2 : 1 ≤ b ∧ b ≤ 5) : 1 ≤ a * b ∧ a * b ≤ 40 := by
 have h3 : a * b ≤ 8 * 5 := Int.mul_le_mul h.2 h2.2 (by omega) (by omega)
 have h4 : 1 * 1 ≤ a * b := Int.mul_le_mul h.1 h2.1 (by omega) (by omega)
 omega
theorem n_IsValidContest (ct : Contest) : F_impl_IsValidContest ct = some (okC ct) := by
 have e : ∀ b : Bool, (b = true ↔ OkC ct) → b = okC ct := fun b h => by
  rw [Bool.eq_iff_iff, h, okC_t]
 have f : ¬ OkC ct → okC ct = false := fun h => by simp [okC, h]
 unfold F_impl_IsValidContest
 simp only [n_within, Option.bind_some]
 by_cases l1 : ct.Least < 0
 ·simp [l1]; exact f fun h => by have := h.lo; omega
 by_cases l2 : ct.Most < ct.Least
 ·simp [l1, l2]; exact f fun h => by have := h.lo; omega
 simp only [l1, l2, decide_false, Bool.false_eq_true, if_false, Option.bind_some]
 by_cases k13 : ct.Kind = 1 ∨ ct.Kind = 3
 ·have : (if (ct.Kind == 1) = true then some (ct.Kind == 1) else some (ct.Kind == 3)) = some true := by
   rcases k13 with h | h <;> simp [h]
  rw [this, Option.bind_some, if_pos rfl]
  by_cases o : 1 ≤ ct.Options ∧ ct.Options ≤ 8
  ·by_cases m : ct.Most ≤ ct.Options
   ·simp [o, m]
    refine e _ ⟨fun h => ⟨by omega, .inl ⟨k13, o, m, by simpa using h⟩⟩, fun h => ?_⟩
    rcases h.k with h | h | h
    ·simp [h.2.2.2]
    ·omega
    ·omega
   ·simp [o, m]
    exact f fun h => by rcases h.k with h | h | h <;> omega
  ·have : (decide (1 ≤ ct.Options) && decide (ct.Options ≤ 8)) = false := by simp; omega
   rw [this]; simp
   exact f fun h => by rcases h.k with h | h | h <;> omega
 ·have : (if (ct.Kind == 1) = true then some (ct.Kind == 1) else some (ct.Kind == 3)) = some false := by
   simp only [not_or] at k13; simp [k13]
  rw [this, Option.bind_some, if_neg (by simp)]
  by_cases k2 : ct.Kind = 2
  ·simp only [k2]
   by_cases o : 1 ≤ ct.Options ∧ ct.Options ≤ 8
   ·by_cases p : 1 ≤ ct.Points ∧ ct.Points ≤ 5
    ·have b := mulb o p
     simp only [o, p]
     simp [wr64 (n := ct.Options * ct.Points) (by omega) (by omega)]
     refine e _ ⟨fun h => ⟨by omega, .inr (.inl ⟨k2, o, p, by simpa using h⟩)⟩, fun h => ?_⟩
     rcases h.k with h | h | h
     ·omega
     ·simpa using h.2.2.2
     ·omega
    ·have : (decide (1 ≤ ct.Points) && decide (ct.Points ≤ 5)) = false := by simp; omega
     rw [this]; simp [o]
     exact f fun h => by rcases h.k with h | h | h <;> omega
   ·have : (decide (1 ≤ ct.Options) && decide (ct.Options ≤ 8)) = false := by simp; omega
    rw [this]; simp
    exact f fun h => by rcases h.k with h | h | h <;> omega
  ·have k2' : (ct.Kind == 2) = false := by simpa using k2
   simp only [k2', Bool.false_eq_true, if_false]
   by_cases k4 : ct.Kind = 4
   ·have k4' : (ct.Kind == 4) = true := by simpa using k4
    simp only [k4', if_true]
    by_cases o : ct.Options = 0
    ·by_cases m : ct.Most ≤ 5
     ·simp [o, m]
      refine e _ ⟨fun h => ⟨by omega, .inr (.inr ⟨k4, o, m, by simpa using h⟩)⟩, fun h => ?_⟩
      rcases h.k with h | h | h
      ·omega
      ·omega
      ·simp [h.2.2.2]
     ·simp [o, m]
      exact f fun h => by rcases h.k with h | h | h <;> omega
    ·simp [o]
     exact f fun h => by rcases h.k with h | h | h <;> omega
   ·have k4' : (ct.Kind == 4) = false := by simpa using k4
    simp only [k4', Bool.false_eq_true, if_false]
    rw [f fun h => by rcases h.k with h | h | h <;> omega]
theorem n_vContest (ct : Contest) : F_spec_vContest ct = some (okC ct) := by
 rw [← n_IsValidContest]
 unfold F_spec_vContest F_impl_IsValidContest
 simp only [n_within, n_l1In, Option.bind_some]
 cases h : ct.Kind == 4 <;> simp
theorem n_allN {γ : Type} {m : Nat} (p : Nat → Bool) (c d : γ) {body : Int → Unit → Option (Stp Unit (Unit ⊕ γ))} (h : ∀ k, k < m → body (k : Int) () = some (if p k = true then .go () else .out (.inr c))) :
 (rloop body (fun _ => .inl ()) m 0 ()).bind (Sum.elim (fun _ => some d) some) = some (if (List.range m).all p = true then d else c) := by
 rcases n_first (body := body) m p (fun _ => c) h with ⟨e, h1⟩ | ⟨k, h1, h2, h3, e⟩
 ·have : (List.range m).all p = true := by
   rw [List.all_eq_true]; intro x hx; exact h1 x (List.mem_range.1 hx)
  rw [e, this]; rfl
 ·have : (List.range m).all p = false := by
   rw [List.all_eq_false]; exact ⟨k, List.mem_range.2 h1, by simp [h2]⟩
  rw [e, this]; rfl
def inB (a b x : Int) : Bool := decide (a ≤ x) && decide (x ≤ b)
theorem inB_t {a b x : Int} : inB a b x = true ↔ a ≤ x ∧ x ≤ b := by simp [inB]
theorem pw_adj {R : Int → Int → Prop} (tr : ∀ a b c, R a b → R b c → R a c) {l : List Int} (h : ∀ i (h : i + 1 < l.length), R l[i] l[i + 1]) : l.Pairwise R := by
 rw [List.pairwise_iff_getElem]
 intro i j hi hj hij
 obtain ⟨d, rfl⟩ : ∃ d, j = i + 1 + d := ⟨j - (i + 1), by omega⟩
 induction d with
 | zero => exact h i hj
 | succ d ih => exact tr _ _ _ (ih (by omega) (by omega)) (h (i + 1 + d) hj)
open Classical in
noncomputable def srtB (l : List Int) : Bool := decide (l.Pairwise (· ≤ ·))
open Classical in
theorem rise_iff (l : List Int) : l.Pairwise (· < ·) ↔ (srtB l && difB l) = true := by
 unfold srtB difB
 simp only [Bool.and_eq_true, decide_eq_true_eq, List.nodup_iff_pairwise_ne]
 rw [← List.pairwise_and_iff]
 constructor <;> intro h <;> exact h.imp fun h => by omega
theorem n_rise {l : List Int} (hl : l.length ≤ 1048576) (a b : Int) : F_spec_l1Rising l a b = some (l.all (inB a b) && (srtB l && difB l)) := by
 unfold F_spec_l1Rising
 rw [n_allN (fun k => (l[k]?).any (inB a b) && (decide (k = 0) || decide (l.getD (k - 1) 0 < l.getD k 0))) false true]
 ·congr 1
  rw [Bool.eq_iff_iff, Bool.and_eq_true (l.all (inB a b)), ← rise_iff]
  simp only [Bool.if_false_right, Bool.and_true, Bool.if_true_left, Bool.or_false, Bool.decide_eq_true, decide_eq_true_eq, List.all_eq_true, List.mem_range, Bool.and_eq_true, Bool.or_eq_true]
  constructor
  ·refine fun h => ⟨fun x hx => ?_, pw_adj (R := (· < ·)) (fun a b c h1 h2 => Int.lt_trans h1 h2) fun i hi => ?_⟩
   ·obtain ⟨k, hk, rfl⟩ := List.mem_iff_getElem.1 hx
    have := (h k hk).1
    rwa [List.getElem?_eq_getElem hk] at this
   ·have := (h (i + 1) hi).2
    have h1 : i < l.length := by omega
    simp [hi, h1] at this
    exact this
  ·refine fun h k hk => ⟨?_, ?_⟩
   ·rw [List.getElem?_eq_getElem hk]; exact h.1 _ (List.getElem_mem hk)
   ·rcases Nat.eq_zero_or_pos k with h0 | h0
    ·exact .inl h0
    ·right
     have h1 : k - 1 < l.length := by omega
     simp [hk, h1]
     exact List.pairwise_iff_getElem.1 h.2 _ _ _ _ (by omega)
 ·intro k hk
  rw [ix_at hk, Option.bind_some, n_l1In, Option.bind_some, List.getElem?_eq_getElem hk, Option.any_some]
  show ((if (!inB a b l[k]) = true then _ else _ : Option Bool).bind _) = _
  cases h : inB a b l[k] with
  | false => simp
  | true =>
   rcases Nat.eq_zero_or_pos k with h0 | h0
   ·subst h0; simp
   ·have e : IntKind.i64.wrap ((k : Int) - 1) = ((k - 1 : Nat) : Int) := ceq (by omega) (by omega)
    have h1 : k - 1 < l.length := by omega
    have h2 : ¬ k = 0 := by omega
    rw [e, ix_at h1]
    by_cases h3 : l[k] ≤ l[k - 1]
    ·have : ¬ l[k - 1] < l[k] := by omega
     simp [h0, hk, h1, h2, h3, this]
    ·have : l[k - 1] < l[k] := by omega
     simp [h0, hk, h1, h2, h3, this]
theorem ite_and (a b : Bool) : (if a = true then some b else some false) = some (a && b) := by cases a <;> rfl
theorem ite_or (a b : Bool) : (if a = true then some true else some b) = some (a || b) := by cases a <;> rfl
theorem n_allB (l : List Int) (a b : Int) : F_spec_l1All l a b = some (l.all (inB a b)) := n_l1All l a b
theorem n_inB (x a b : Int) : F_spec_l1In x a b = some (inB a b x) := n_l1In x a b
theorem n_vDiff {l : List Int} (hl : l.length ≤ 1000000000000) : F_spec_vDifferent l = some (difB l) := diff_gen n_l1Has l hl
theorem sumB_bd : ∀ {l : List Int} {c : Int}, l.all (inB 0 c) = true → 0 ≤ l.sum ∧ l.sum ≤ l.length * c
 | [], _, _ => by simp
 | x :: l, c, h => by
  rw [List.all_cons, Bool.and_eq_true] at h
  have h1 := inB_t.1 h.1
  have h2 := sumB_bd h.2
  rw [List.sum_cons, List.length_cons]
  push_cast
  rw [Int.add_mul]
  omega
theorem all_take {α : Type} {l : List α} {p : α → Bool} (h : l.all p = true) (k : Nat) : (l.take k).all p = true := by
 rw [List.all_eq_true] at h ⊢
 exact fun x hx => h x (List.mem_of_mem_take hx)
theorem sum_take {l : List Int} {k : Nat} (h : k < l.length) : (l.take (k + 1)).sum = (l.take k).sum + l[k] := by
 rw [List.take_succ_eq_append_getElem h, List.sum_append]; simp
theorem sum_loop {β : Type} {v : List Int} (hv : v.all (inB 0 5) = true) (hl : v.length ≤ 1000) (stop : Int → β) : rloop (fun i s => (ix v i).bind fun x => some (.go (IntKind.i64.wrap (s + x)))) stop v.length 0 0 = some (stop v.sum) := by
 refine eq_of_rn (rn_rloop (fun k s => s = (v.take k).sum) (by simp) ?_ ?_)
 ·rintro k s hk rfl
  refine rn_ix hk (rn_some ?_)
  have h := sumB_bd (all_take hv (k + 1))
  have h2 : (v.take (k + 1)).length ≤ 1000 := by simp; omega
  show IntKind.i64.wrap _ = (v.take (k + 1)).sum
  rw [← sum_take hk, wr64 (by omega) (by omega)]
 ·rintro s rfl
  simp
noncomputable def voteB (ct : Contest) (v : List Int) : Bool :=
 if ct.Kind = 1 then v.all (inB 0 (ct.Options - 1)) && (srtB v && difB v) && inB ct.Least ct.Most v.length
 else if ct.Kind = 2 then decide ((v.length : Int) = ct.Options) && (v.all (inB 0 ct.Points) && inB ct.Least ct.Most v.sum)
 else if ct.Kind = 3 then v.all (inB 0 (ct.Options - 1)) && (difB v && inB ct.Least ct.Most v.length)
 else v.all (inB 1 26) && inB ct.Least ct.Most v.length
theorem all_mono {l : List Int} {a b a' b' : Int} (ha : a' ≤ a) (hb : b ≤ b') (h : l.all (inB a b) = true) : l.all (inB a' b') = true := by
 rw [List.all_eq_true] at h ⊢
 intro x hx
 have := inB_t.1 (h x hx)
 exact inB_t.2 (by omega)
theorem n_vVote {ct : Contest} (k : OkC ct) {v : List Int} (hl : v.length ≤ 1048576) : F_spec_vVote ct v = some (voteB ct v) := by
 have w1 : IntKind.i64.wrap (ct.Options - 1) = ct.Options - 1 := by rcases k.k with h | h | h <;> exact wr64 (by omega) (by omega)
 unfold F_spec_vVote voteB
 simp only [n_rise hl, n_inB, n_allB, n_vDiff (l := v) (by omega), w1, Option.bind_some, ite_and]
 by_cases k1 : ct.Kind = 1
 ·simp [k1]
 by_cases k2 : ct.Kind = 2
 ·simp only [k2]
  by_cases hn : (v.length : Int) = ct.Options
  ·cases ha : v.all (inB 0 ct.Points) with
   | false => simp [hn]
   | true =>
    have hp : ct.Points ≤ 5 ∧ ct.Options ≤ 8 := by rcases k.k with h | h | h <;> omega
    have e : F_spec_vPlain v = some v.sum := by
     unfold F_spec_vPlain
     rw [sum_loop (all_mono (by omega) hp.1 ha) (by omega) (fun s => s)]; rfl
    simp [hn, e]
  ·simp [hn]
 by_cases k3 : ct.Kind = 3
 ·simp [k3]
 ·simp [k1, k2, k3]
def num (b : Int) : List Int → Int
 | [] => 0
 | d :: l => num b l * b + d
theorem num_bd {b : Int} (hb : 0 ≤ b ∧ b ≤ 40) : ∀ {l : List Int}, l.all (inB 0 40) = true → 0 ≤ num b l ∧ num b l ≤ 64 ^ (l.length + 1)
 | [], _ => by simp [num]
 | d :: l, h => by
  rw [List.all_cons, Bool.and_eq_true] at h
  have h1 := inB_t.1 h.1
  have h2 := num_bd hb h.2
  have h3 : num b l * b ≤ 64 ^ (l.length + 1) * 40 := Int.mul_le_mul h2.2 hb.2 hb.1 (by omega)
  have h4 := Int.mul_nonneg h2.1 hb.1
  have h5 : (1 : Int) ≤ 64 ^ (l.length + 1) := Int.pow_pos (by omega)
  simp only [num, List.length_cons]
  rw [Int.pow_succ (64 : Int) (l.length + 1)]
  omega
theorem num_bd8 {b : Int} (hb : 0 ≤ b ∧ b ≤ 40) {l : List Int} (hl : l.length ≤ 8) (h : l.all (inB 0 40) = true) : 0 ≤ num b l ∧ num b l ≤ 18014398509481984 := by
 have := num_bd hb h
 have h2 : (64 : Nat) ^ (l.length + 1) ≤ 64 ^ 9 := Nat.pow_le_pow_right (by omega) (by omega)
 have h3 : ((64 ^ (l.length + 1) : Nat) : Int) = (64 : Int) ^ (l.length + 1) := Int.natCast_pow 64 _
 omega
theorem num_loop {l : List Int} {b m : Int} (hb : 0 ≤ b ∧ b ≤ 40) (hl : l.length ≤ 8) (h : (l.map (· + m)).all (inB 0 40) = true) {step : Int × Int → Option (Stp (Int × Int) Int)}
 (hs : ∀ (k : Nat) (h : k < l.length) (a : Int), 0 ≤ a → a ≤ 18014398509481984 → step (a, (k : Int)) = some (.go (a * b + (l[k] + m), (k : Int) - 1))) (he : ∀ a, step (a, -1) = some (.out a)) :
 wloop step (0, (l.length : Int) - 1) = some (num b (l.map (· + m))) := by
 refine eq_of_rn (rn_cloop l.length (fun j p => p = (num b ((l.drop (l.length - j)).map (· + m)), ((l.length - j : Nat) : Int) - 1) ∧ j ≤ l.length) ⟨by simp [num], by omega⟩ ?_ ?_)
 ·rintro j p hj ⟨rfl, _⟩
  obtain ⟨k, hk, e1, e2⟩ : ∃ k : Nat, k < l.length ∧ l.length - j = k + 1 ∧ l.length - (j + 1) = k := ⟨l.length - j - 1, by omega, by omega, by omega⟩
  rw [e1]
  have hd : ((l.drop (k + 1)).map (· + m)).all (inB 0 40) = true := by
   rw [List.all_eq_true] at h ⊢
   intro x hx
   obtain ⟨y, hy, rfl⟩ := List.mem_map.1 hx
   exact h _ (List.mem_map.2 ⟨y, List.mem_of_mem_drop hy, rfl⟩)
  have bd := num_bd8 hb (by simp; omega) hd
  refine ⟨.go (num b ((l.drop (k + 1)).map (· + m)) * b + (l[k] + m), (k : Int) - 1), by rw [show ((k + 1 : Nat) : Int) - 1 = (k : Int) by omega]; exact hs k hk _ bd.1 bd.2, ?_, hj⟩
  rw [e2, List.drop_eq_getElem_cons hk]
  rfl
 ·rintro p ⟨rfl, _⟩
  refine ⟨.out (num b (l.map (· + m))), ?_, rfl⟩
  rw [Nat.sub_self, List.drop_zero]
  exact he _
theorem at_all {l : List Int} {m a b : Int} (h : (l.map (· + m)).all (inB a b) = true) {k : Nat} (hk : k < l.length) : a ≤ l[k] + m ∧ l[k] + m ≤ b := by
 rw [List.all_eq_true] at h
 exact inB_t.1 (h _ (List.mem_map.2 ⟨l[k], List.getElem_mem hk, rfl⟩))
theorem n_vNumber {l : List Int} {b m : Int} (hb : 0 ≤ b ∧ b ≤ 40) (hm : 0 ≤ m ∧ m ≤ 1) (hl : l.length ≤ 8) (h : (l.map (· + m)).all (inB 0 40) = true) : F_spec_vNumber l b m = some (num b (l.map (· + m))) := by
 unfold F_spec_vNumber
 rw [wr64 (n := (l.length : Int) - 1) (by omega) (by omega), num_loop hb hl h, Option.bind_some]
 ·intro k hk a h0 h1
  have h2 : a * b ≤ 18014398509481984 * 40 := Int.mul_le_mul h1 hb.2 hb.1 (by omega)
  have h3 := Int.mul_nonneg h0 hb.1
  have h4 := at_all h hk
  rw [if_pos (by simp), ix_at hk, Option.bind_some, wr64 (n := a * b) (by omega) (by omega), wr64 (n := a * b + l[k]) (by omega) (by omega), wr64 (n := a * b + l[k] + m) (by omega) (by omega), wr64 (n := (k : Int) - 1) (by omega) (by omega), Int.add_assoc]
 ·intro a; rfl
theorem n_codeOf {l : List Int} {b : Int} (hb : 0 ≤ b ∧ b ≤ 40) (hl : l.length ≤ 8) (h : l.all (inB 0 40) = true) : F_impl_codeOf l b = some (num b l) := by
 have e : l.map (· + 0) = l := by simp
 unfold F_impl_codeOf
 rw [wr64 (n := (l.length : Int) - 1) (by omega) (by omega), num_loop (m := 0) hb hl (by rw [e]; exact h), Option.bind_some, e]
 ·intro k hk a h0 h1
  have h2 : a * b ≤ 18014398509481984 * 40 := Int.mul_le_mul h1 hb.2 hb.1 (by omega)
  have h3 := Int.mul_nonneg h0 hb.1
  have h4 := at_all (m := 0) (by rw [e]; exact h) hk
  rw [if_pos (by simp), ix_at hk, Option.bind_some, wr64 (n := a * b) (by omega) (by omega), wr64 (n := a * b + l[k]) (by omega) (by omega), wr64 (n := (k : Int) - 1) (by omega) (by omega), Int.add_zero]
 ·intro a; rfl
def marks (n : Nat) (v : List Int) : List Int := (List.range n).map fun (i : Nat) => if v.contains (i : Int) = true then 1 else 0
theorem marks_len (n : Nat) (v : List Int) : (marks n v).length = n := by simp [marks]
theorem n_vMarks {ct : Contest} (ho : 0 ≤ ct.Options ∧ ct.Options ≤ 8) {v : List Int} (h : v.all (inB 0 (ct.Options - 1)) = true) : F_spec_vMarks ct v = some (marks ct.Options.toNat v) := by
 unfold F_spec_vMarks
 refine eq_of_rn (rn_gd (by omega) (rn_call rfl (rn_then (ψ := fun b => b = _) (rn_rloop (fun k s => s = marks ct.Options.toNat (v.take k)) ?_ ?_ ?_) fun b hb => rn_some hb)))
 ·simp [marks, List.map_const']
 ·rintro k s hk rfl
  have hv := inB_t.1 (List.all_eq_true.1 h _ (List.getElem_mem hk))
  obtain ⟨x, hx⟩ : ∃ x : Nat, v[k] = (x : Int) := ⟨v[k].toNat, by omega⟩
  refine rn_ix hk ?_
  rw [hx]
  refine rn_ix (by rw [marks_len]; omega) (rn_some ?_)
  show (marks _ (v.take k)).set x 1 = marks _ (v.take (k + 1))
  rw [List.take_succ_eq_append_getElem hk]
  apply List.ext_getElem (by simp [marks_len])
  intro i hi hi2
  rw [List.getElem_set]
  simp only [marks, List.getElem_map, List.getElem_range, List.contains_eq_mem, List.mem_append, List.mem_singleton, decide_eq_true_eq]
  by_cases e : x = i
  ·subst e; simp [hx]
  ·have : ¬ (i : Int) = v[k] := by omega
   simp [e, this]
 ·rintro s rfl
  rw [List.take_length]
def rng (a : Int) (n : Nat) : List Int := (List.range n).map fun (i : Nat) => a + (i : Int)
theorem rng_len (a : Int) (n : Nat) : (rng a n).length = n := by simp [rng]
theorem rng_succ (a : Int) (n : Nat) : rng a (n + 1) = rng a n ++ [a + (n : Int)] := by simp [rng, List.range_succ]
theorem rng_mem {a x : Int} {n : Nat} : x ∈ rng a n ↔ a ≤ x ∧ x < a + n := by
 simp only [rng, List.mem_map, List.mem_range]
 constructor
 ·rintro ⟨i, hi, rfl⟩; omega
 ·exact fun h => ⟨(x - a).toNat, by omega, by omega⟩
theorem rng_all {a b c : Int} {n : Nat} (h1 : b ≤ a) (h2 : a + n - 1 ≤ c) : (rng a n).all (inB b c) = true := by
 rw [List.all_eq_true]
 intro x hx
 have := rng_mem.1 hx
 exact inB_t.2 (by omega)
theorem wl_app {β : Type} {step : List Int × Int → Option (Stp (List Int × Int) β)} {f : Nat → Int} {out : List Int → β} {a : Int} (n : Nat) (hs : ∀ (k : Nat) (s : List Int), k < n → s.length = k → step (s, a + (k : Int)) = some (.go (s ++ [f k], a + (k : Int) + 1))) (he : ∀ s, step (s, a + (n : Int)) = some (.out (out s))) :
 wloop step ([], a) = some (out ((List.range n).map f)) := by
 refine eq_of_rn (rn_cloop n (fun k p => p = ((List.range k).map f, a + (k : Int))) (by simp) ?_ ?_)
 ·rintro k p hk rfl
  refine ⟨_, hs k _ hk (by simp), ?_⟩
  show (_, _) = _
  rw [List.range_succ, List.map_append]
  have e : a + (k : Int) + 1 = a + ((k + 1 : Nat) : Int) := by omega
  rw [e]; rfl
 ·rintro p rfl
  exact ⟨_, he _, rfl⟩
theorem wl_rep {step : List Int × Int × Int → Option (Stp (List Int × Int × Int) (List Int))} {n : Nat} {m : Int} (hn : n ≤ 8) (p : Int) (hp : 0 ≤ p ∧ p ≤ 5) (hm : 0 ≤ m)
 (hs : ∀ (k : Nat) (s : List Int) (r : Int), k < n → s.length = n → 0 ≤ r → r ≤ m → step (s, r, (k : Int)) = some (.go (s.set k (if p < r then p else r), r - (if p < r then p else r), (k : Int) - 1))) (he : ∀ s r, step (s, r, -1) = some (.out s)) :
 ∃ l, wloop step (List.replicate n 0, m, (n : Int) - 1) = some l ∧ l.length = n ∧ l.all (inB 0 5) = true := by
 refine rn_cloop n (fun j x => x.1.length = n ∧ x.1.all (inB 0 5) = true ∧ (0 ≤ x.2.1 ∧ x.2.1 ≤ m) ∧ x.2.2 = ((n - j : Nat) : Int) - 1 ∧ j ≤ n) ⟨by simp, ?_, ⟨hm, Int.le_refl _⟩, by simp, by omega⟩ ?_ ?_
 ·rw [List.all_eq_true]
  intro x hx
  have : x = 0 := (List.mem_replicate.1 hx).2
  subst this; rfl
 ·rintro j ⟨s, r, c⟩ hj ⟨h1, h2, h3, h4, _⟩
  simp only at h1 h2 h3 h4
  obtain ⟨k, hk, e1, e2⟩ : ∃ k : Nat, k < n ∧ n - j = k + 1 ∧ n - (j + 1) = k := ⟨n - j - 1, by omega, by omega, by omega⟩
  have : c = (k : Int) := by omega
  subst this
  have b : 0 ≤ (if p < r then p else r) ∧ (if p < r then p else r) ≤ 5 ∧ (if p < r then p else r) ≤ r := by split <;> omega
  refine ⟨.go (s.set k (if p < r then p else r), r - (if p < r then p else r), (k : Int) - 1), hs k s r hk h1 h3.1 h3.2, by simpa using h1, ?_, ⟨by dsimp only; omega, by dsimp only; omega⟩, by dsimp only; omega, hj⟩
  rw [List.all_eq_true] at h2 ⊢
  intro x hx
  rcases List.mem_or_eq_of_mem_set hx with h | rfl
  ·exact h2 x h
  ·exact inB_t.2 ⟨b.1, b.2.1⟩
 ·rintro ⟨s, r, c⟩ ⟨h1, h2, h3, h4, _⟩
  simp only at h1 h2 h3 h4
  have : c = -1 := by omega
  subst this
  exact ⟨_, he s r, h1, h2⟩
theorem n_greatest {ct : Contest} (k : OkC ct) : ∃ n, F_spec_bGreatest ct = some n ∧ F_impl_Contest_greatest ct = some n := by
 have lo := k.lo
 unfold F_spec_bGreatest F_impl_Contest_greatest
 rcases k.k with ⟨k13, ho, hm, hp⟩ | ⟨k2, ho, hp, hm⟩ | ⟨k4, ho, hm, hp⟩
 ·obtain ⟨o, eo⟩ : ∃ o : Nat, ct.Options = (o : Int) := ⟨ct.Options.toNat, by omega⟩
  obtain ⟨m, em⟩ : ∃ m : Nat, ct.Most = (m : Int) := ⟨ct.Most.toNat, by omega⟩
  have w : IntKind.i64.wrap (ct.Options - ct.Most) = ct.Options - ct.Most := wr64 (by omega) (by omega)
  have e1 : ∀ {β : Type} (out : List Int → β), wloop (fun s5 : List Int × Int => if decide (s5.2 < ct.Options) = true then (gd ((s5.1.length + 1) * 8 ≤ 140737488355328 ∧ s5.1.length + 1 ≤ 4611686018427387904) <| some (.go (s5.1 ++ [s5.2], IntKind.i64.wrap (s5.2 + 1)))) else (some (.out (out s5.1)))) ([], ct.Options - ct.Most) = some (out (rng (ct.Options - ct.Most) m)) := fun {β} out => by
   refine wl_app m ?_ ?_
   ·intro c s hc hs
    rw [if_pos (by simp; omega), gd_t (by rw [hs]; omega), wr64 (by dsimp only; omega) (by dsimp only; omega)]
   ·intro s
    rw [if_neg (by simp; omega)]
  have hall : (rng (ct.Options - ct.Most) m).all (inB 0 (ct.Options - 1)) = true := rng_all (by omega) (by omega)
  rcases k13 with k1 | k3
  ·rw [k1]
   simp only [show ((1 : Int) == 1) = true from rfl, if_true, w]
   have e2 : wloop (σ := List Int × Int) (β := List Int) (fun s5 => if decide (s5.2 < ct.Options) = true then (((if decide (ct.Options - ct.Most ≤ s5.2) = true then (some 1) else (some 0) : Option (Int)).bind fun x13 =>
    gd ((s5.1.length + 1) * 8 ≤ 140737488355328 ∧ s5.1.length + 1 ≤ 4611686018427387904) <| some (.go (s5.1 ++ [x13], IntKind.i64.wrap (s5.2 + 1))))) else (some (.out s5.1))) ([], 0) = some ((List.range o).map fun (i : Nat) => if decide (ct.Options - ct.Most ≤ (i : Int)) = true then 1 else 0) := by
    refine wl_app (out := fun s => s) (a := 0) o ?_ ?_
    ·intro c s hc hs
     have hg : ∀ x : Int, gd ((s.length + 1) * 8 ≤ 140737488355328 ∧ s.length + 1 ≤ 4611686018427387904) (some (Stp.go (β := List Int) (s ++ [x], IntKind.i64.wrap (0 + (c : Int) + 1)))) = some (.go (s ++ [x], 0 + (c : Int) + 1)) := fun x => by
      rw [gd_t (by rw [hs]; omega), wr64 (by omega) (by omega)]
     rw [if_pos (by simp; omega)]
     dsimp only
     by_cases h : ct.Options - ct.Most ≤ (c : Int)
     ·rw [if_pos (by simpa using h), Option.bind_some, hg, if_pos (by simpa using h)]
     ·rw [if_neg (by simpa using h), Option.bind_some, hg, if_neg (by simpa using h)]
    ·intro s
     rw [if_neg (by simp; omega)]
   have em2 : marks ct.Options.toNat (rng (ct.Options - ct.Most) m) = (List.range o).map fun (i : Nat) => if decide (ct.Options - ct.Most ≤ (i : Int)) = true then 1 else 0 := by
    have : ct.Options.toNat = o := by omega
    rw [this]
    unfold marks
    refine List.map_congr_left fun i hi => ?_
    have hi := List.mem_range.1 hi
    congr 1
    rw [List.contains_eq_mem, decide_eq_true_eq, decide_eq_true_eq, rng_mem]
    exact propext ⟨fun h => h.1, fun h => ⟨h, by omega⟩⟩
   have ha : ((List.range o).map fun (i : Nat) => if decide (ct.Options - ct.Most ≤ (i : Int)) = true then (1 : Int) else 0).all (inB 0 40) = true := by
    rw [List.all_map, List.all_eq_true]
    intro i _
    show inB 0 40 (if _ then _ else _) = true
    split <;> rfl
   have hb : F_impl_Contest_base ct = some 2 := by unfold F_impl_Contest_base; rw [k1]; rfl
   refine ⟨?_, ?_, ?_⟩
   rotate_left 2
   ·rw [e2, Option.bind_some, hb, Option.bind_some, n_codeOf (by omega) (by simp; omega) ha]; rfl
   ·rw [e1 (fun s => s), Option.bind_some]
    unfold F_spec_vCode
    rw [k1, if_pos (show ((1 : Int) == 1) = true from rfl), n_vMarks (by omega) hall, Option.bind_some, em2, n_vNumber (by omega) (by omega) (by simp; omega) (by simpa using ha)]
    simp
    rfl
  ·rw [k3]
   simp only [show ((3 : Int) == 1) = false from rfl, show ((3 : Int) == 2) = false from rfl, show ((3 : Int) == 3) = true from rfl, Bool.false_eq_true, if_false, if_true, w]
   have ee : (rng (ct.Options - ct.Most) m).map (· + 1) = rng (ct.Options - ct.Most + 1) m := by
    simp only [rng, List.map_map]
    refine List.map_congr_left fun i hi => ?_
    show ct.Options - ct.Most + (i : Int) + 1 = ct.Options - ct.Most + 1 + (i : Int); omega
   have e2 : wloop (σ := List Int × Int) (β := List Int) (fun s40 => if decide (s40.2 < ct.Most) = true then (gd ((s40.1.length + 1) * 8 ≤ 140737488355328 ∧ s40.1.length + 1 ≤ 4611686018427387904) <|
    some (.go (s40.1 ++ [IntKind.i64.wrap ((IntKind.i64.wrap (ct.Options - ct.Most + 1)) + s40.2)], IntKind.i64.wrap (s40.2 + 1)))) else (some (.out s40.1))) ([], 0) = some (rng (ct.Options - ct.Most + 1) m) := by
    refine wl_app (out := fun s => s) (a := 0) (f := fun i => ct.Options - ct.Most + 1 + (i : Int)) m ?_ ?_
    ·intro c s hc hs
     rw [if_pos (by simp; omega), gd_t (by rw [hs]; omega), wr64 (n := ct.Options - ct.Most + 1) (by omega) (by omega), wr64 (n := 0 + (c : Int) + 1) (by omega) (by omega), wr64 (by dsimp only; omega) (by dsimp only; omega), Int.zero_add]
    ·intro s
     rw [if_neg (by simp; omega)]
   have ha : (rng (ct.Options - ct.Most + 1) m).all (inB 0 40) = true := rng_all (by omega) (by omega)
   have hb : F_impl_Contest_base ct = some (ct.Options + 1) := by unfold F_impl_Contest_base; rw [k3, wr64 (n := ct.Options + 1) (by omega) (by omega)]; rfl
   refine ⟨?_, ?_, ?_⟩
   rotate_left 2
   ·rw [e2, Option.bind_some, hb, Option.bind_some, n_codeOf (by omega) (by rw [rng_len]; omega) ha]; rfl
   ·rw [e1 (fun s => s), Option.bind_some]
    unfold F_spec_vCode
    rw [k3, wr64 (n := ct.Options + 1) (by omega) (by omega)]
    simp only [show ((3 : Int) == 1) = false from rfl, show ((3 : Int) == 2) = false from rfl, show ((3 : Int) == 3) = true from rfl, Bool.false_eq_true, if_false, if_true]
    rw [n_vNumber (by omega) (by omega) (by rw [rng_len]; omega) (by rw [ee]; exact ha), ee]
    rfl
 ·obtain ⟨o, eo⟩ : ∃ o : Nat, ct.Options = (o : Int) := ⟨ct.Options.toNat, by omega⟩
  have mb := mulb ho hp
  rw [k2]
  simp only [show ((2 : Int) == 1) = false from rfl, show ((2 : Int) == 2) = true from rfl, Bool.false_eq_true, if_false, if_true]
  rw [gd_t (by omega), gd_t (by omega), Option.bind_some, Option.bind_some, wr64 (n := ct.Options - 1) (by omega) (by omega)]
  have hl : ∀ a b : Int, F_spec_l1Least a b = some (if a < b then a else b) := fun a b => by unfold F_spec_l1Least; by_cases h : a < b <;> simp [h]
  have hmin : ∀ a b : Int, (if b < a then b else a) = (if a < b then a else b) := fun a b => by split <;> split <;> omega
  have eS := wl_rep (step := fun s26 : List Int × Int × Int =>
   if decide (0 ≤ s26.2.2) = true then (
   (F_spec_l1Least s26.2.1 ct.Points).bind fun z32 =>
   (ix s26.1 s26.2.2).bind fun x33 =>
   (ix (s26.1.set s26.2.2.toNat z32) s26.2.2).bind fun x34 =>
   some (.go (s26.1.set s26.2.2.toNat z32, IntKind.i64.wrap (s26.2.1 - x34), IntKind.i64.wrap (s26.2.2 - 1)))) else (
   some (.out s26.1))) (n := o) (m := ct.Most) (by omega) ct.Points (by omega) (by omega) ?_ (fun s r => rfl)
  ·obtain ⟨l, h1, h2, h3⟩ := eS
   have e : (fun s26 : List Int × Int × Int =>
    if decide (0 ≤ s26.2.2) = true then (
    (F_spec_l1Least s26.2.1 ct.Points).bind fun z32 =>
    (ix s26.1 s26.2.2).bind fun x33 =>
    (ix (s26.1.set s26.2.2.toNat z32) s26.2.2).bind fun x34 =>
    some (.go (s26.1.set s26.2.2.toNat z32, IntKind.i64.wrap (s26.2.1 - x34), IntKind.i64.wrap (s26.2.2 - 1)))) else (
    some (.out s26.1))) = (fun s29 : List Int × Int × Int =>
    if decide (0 ≤ s29.2.2) = true then (
    (ix s29.1 s29.2.2).bind fun x35 =>
    (ix (s29.1.set s29.2.2.toNat (if ct.Points < s29.2.1 then ct.Points else s29.2.1)) s29.2.2).bind fun x36 =>
    some (Stp.go (s29.1.set s29.2.2.toNat (if ct.Points < s29.2.1 then ct.Points else s29.2.1), IntKind.i64.wrap (s29.2.1 - x36), IntKind.i64.wrap (s29.2.2 - 1)))) else (
    some (.out s29.1))) := by
    funext s
    simp only [hl, hmin, Option.bind_some]
   rw [← e]
   have : ct.Options.toNat = o := by omega
   rw [this, eo, h1, Option.bind_some, Option.bind_some]
   have hb : F_impl_Contest_base ct = some (ct.Points + 1) := by unfold F_impl_Contest_base; rw [k2, wr64 (by omega) (by omega)]; rfl
   have ha := all_mono (a := 0) (a' := 0) (b := 5) (b' := 40) (by omega) (by omega) h3
   refine ⟨?_, ?_, ?_⟩
   rotate_left 2
   ·rw [hb, Option.bind_some, n_codeOf (by omega) (by omega) ha]; rfl
   ·unfold F_spec_vCode
    rw [k2, wr64 (n := ct.Points + 1) (by omega) (by omega)]
    simp only [show ((2 : Int) == 1) = false from rfl, show ((2 : Int) == 2) = true from rfl, Bool.false_eq_true, if_false, if_true]
    rw [n_vNumber (by omega) (by omega) (by omega) (by simpa using ha)]
    simp
  ·intro c s r hc hs h0 h1
   have hc2 : c < (s.set c (if ct.Points < r then ct.Points else r)).length := by simp; omega
   dsimp only
   rw [if_pos (by simp), hl, Option.bind_some, ix_at (by omega), Option.bind_some, ← hmin, Int.toNat_natCast, ix_at hc2, Option.bind_some]
   have b : 0 ≤ (if ct.Points < r then ct.Points else r) ∧ (if ct.Points < r then ct.Points else r) ≤ r := by split <;> omega
   rw [List.getElem_set_self, wr64 (by omega) (by omega), wr64 (by omega) (by omega)]
 ·obtain ⟨m, em⟩ : ∃ m : Nat, ct.Most = (m : Int) := ⟨ct.Most.toNat, by omega⟩
  rw [k4]
  simp only [show ((4 : Int) == 1) = false from rfl, show ((4 : Int) == 2) = false from rfl, show ((4 : Int) == 3) = false from rfl, Bool.false_eq_true, if_false, if_true]
  have e1 : wloop (σ := List Int × Int) (β := List Int) (fun s46 => if decide (s46.2 < ct.Most) = true then (gd ((s46.1.length + 1) * 8 ≤ 140737488355328 ∧ s46.1.length + 1 ≤ 4611686018427387904) <|
   some (.go (s46.1 ++ [26], IntKind.i64.wrap (s46.2 + 1)))) else (some (.out s46.1))) ([], 0) = some ((List.range m).map fun _ => 26) := by
   refine wl_app (out := fun s => s) (a := 0) m ?_ ?_
   ·intro c s hc hs
    rw [if_pos (by simp; omega), gd_t (by rw [hs]; omega), wr64 (by dsimp only; omega) (by dsimp only; omega)]
   ·intro s
    rw [if_neg (by simp; omega)]
  have ha : ((List.range m).map fun _ => (26 : Int)).all (inB 0 40) = true := by
   rw [List.all_map, List.all_eq_true]; intro i _; rfl
  have hb : F_impl_Contest_base ct = some 27 := by unfold F_impl_Contest_base; rw [k4]; rfl
  rw [e1, Option.bind_some, Option.bind_some]
  refine ⟨?_, ?_, ?_⟩
  rotate_left 2
  ·rw [hb, Option.bind_some, n_codeOf (by omega) (by simp; omega) ha]; rfl
  ·unfold F_spec_vCode
   rw [k4]
   simp only [show ((4 : Int) == 1) = false from rfl, show ((4 : Int) == 2) = false from rfl, show ((4 : Int) == 3) = false from rfl, Bool.false_eq_true, if_false, if_true]
   rw [n_vNumber (by omega) (by omega) (by simp; omega) (by simpa using ha)]
   simp
   rfl
theorem n_formI (ct : Contest) : F_impl_Contest_isForm ct = some (ct.Kind == 1 || ct.Kind == 2) := by
 unfold F_impl_Contest_isForm
 rw [ite_or]; rfl
theorem n_bRows (ct : Contest) : F_spec_bRows ct = some (ct.Kind == 1 || ct.Kind == 2) := by
 unfold F_spec_bRows
 rw [ite_or]; rfl
theorem n_sealable (gr : Group) (ct : Contest) : ∃ b, F_spec_bGood gr ct = some b ∧ F_impl_IsSealable gr ct = some b ∧ (b = true → OkG gr ∧ OkC ct) := by
 unfold F_spec_bGood F_impl_IsSealable
 rw [n_l2Good, n_validG]
 simp only [n_vContest, n_IsValidContest, n_bRows, n_formI, Option.bind_some]
 cases hg : okG gr with
 | false => exact ⟨false, rfl, rfl, fun h => by cases h⟩
 | true =>
  cases hc : okC ct with
  | false => exact ⟨false, rfl, rfl, fun h => by cases h⟩
  | true =>
   obtain ⟨n, h1, h2⟩ := n_greatest (okC_t.1 hc)
   simp only [h1, h2, Bool.not_true, Bool.false_eq_true, if_false, Option.bind_some]
   have k := And.intro (okG_t.1 hg) (okC_t.1 hc)
   simp only [ite_or, ite_and, Option.bind_some]
   cases decide (100000 < n) || decide (gr.Q ≤ n) with
   | true => exact ⟨false, rfl, rfl, fun h => by cases h⟩
   | false => exact ⟨_, rfl, rfl, fun _ => k⟩
theorem n_l1Own {l : List Int} (h : l.length ≤ 1048576) : F_spec_l1Own l = some l := gd_t (by omega)
theorem flatI_take {α : Type} {L : List (List α)} {i : Nat} (h : i < L.length) : (L.take (i + 1)).flatten = (L.take i).flatten ++ L[i] := by
 rw [List.take_succ_eq_append_getElem h, List.flatten_append]; simp
theorem flatI_le {α : Type} (L : List (List α)) (i : Nat) : (L.take i).flatten.length ≤ L.flatten.length := by
 have e : L.flatten = (L.take i).flatten ++ (L.drop i).flatten := by rw [← List.flatten_append, List.take_append_drop]
 rw [e, List.length_append]; omega
def chG (gr : Group) (s : ByteArray) (l : List Int) : Int := hshL s ([gr.P, gr.Q, gr.G] ++ l) % gr.Q
theorem chG_bd {gr : Group} (k : OkG gr) (s : ByteArray) (l : List Int) : 0 ≤ chG gr s l ∧ chG gr s l < gr.Q := by
 have := k.q
 exact ⟨Int.emod_nonneg _ (by omega), Int.emod_lt_of_pos _ (by omega)⟩
theorem grp_dig {gr : Group} (k : OkG gr) {l : List Int} : ([gr.P, gr.Q, gr.G] ++ l).all digB = l.all digB := by
 have hp := k.p
 have hq := k.q
 have hg := k.g
 rw [List.all_append]
 have : [gr.P, gr.Q, gr.G].all digB = true := by
  simp only [List.all_cons, List.all_nil, Bool.and_true, Bool.and_eq_true]
  exact ⟨digB_t.2 (by omega), digB_t.2 (by omega), digB_t.2 (by omega)⟩
 rw [this, Bool.true_and]
theorem n_hChallenge {gr : Group} (k : OkG gr) {s : ByteArray} {l : List Int} (hs : s.size ≤ 1000000) (hl : l.length ≤ 10000000000) (hd : l.all digB = true) : F_spec_hChallenge gr s l = some (chG gr s l) := by
 have hq := k.q
 have hb := digB_t.1 (hshL_dig s ([gr.P, gr.Q, gr.G] ++ l))
 unfold F_spec_hChallenge
 rw [gd_t (by simp only [List.length_cons, List.length_nil]; omega), n_hLabelled hs (by simp only [List.length_append, List.length_cons, List.length_nil]; omega) (by rw [grp_dig k]; exact hd), Option.bind_some, gd_t (by omega), Int.tmod_eq_emod_of_nonneg hb.1]
 rfl
theorem mul_two {gr : Group} (k : OkG gr) {x y : Int} (hx : 0 ≤ x ∧ x < gr.P) (hy : 0 ≤ y) : mulG gr [x, y] = x * y % gr.P := by
 have hp := k.p
 simp only [mulG, List.foldl_cons, List.foldl_nil, Int.one_mul]
 rw [Int.emod_eq_of_lt hx.1 hx.2]
theorem n_stmt {bs : List (List Int)} {im cs : List Int} (h1 : bs.flatten.length ≤ 1000000) (h2 : im.length ≤ 1048576) (h3 : cs.length ≤ 1048576) : F_spec_sStatement bs im cs = some (bs.flatten ++ im ++ cs) := by
 unfold F_spec_sStatement
 refine eq_of_rn (rn_then (ψ := fun r => r = bs.flatten) (rn_rloop (fun i s => s = (bs.take i).flatten) rfl ?_ ?_) ?_)
 ·rintro i s hi rfl
  have e := congrArg List.length (flatI_take hi)
  rw [List.length_append] at e
  have hl := flatI_le bs (i + 1)
  refine rn_ix hi (rn_gd (by omega) (rn_some ?_))
  show _ = _
  rw [flatI_take hi]
 ·rintro s rfl
  rw [List.take_length]
 ·rintro r rfl
  exact rn_gd (by omega) (rn_gd (by rw [List.length_append]; omega) (rn_some rfl))
theorem gen_has {gr : Group} (k : OkG gr) : hasB gr gr.G = true := by
 have hg := k.g
 simp only [hasB, Bool.and_eq_true, decide_eq_true_eq]
 exact ⟨by omega, k.o⟩
theorem frec_eq {β : Type} {f : Nat → Option β} {n : Nat} {b : β} (h : f n = some b) (mono : ∀ n b, f n = some b → f (n + 1) = some b) : frec f = some b := by
 obtain ⟨b', m, h1, h2⟩ := frec_is h
 have up : ∀ k n b, f n = some b → f (n + k) = some b := by
  intro k
  induction k with
  | zero => intro n b h; exact h
  | succ k ih => intro n b h; exact mono _ _ (ih n b h)
 have a := up m n b h
 have c := up n m b' h2
 rw [Nat.add_comm m n, a] at c
 cases c; exact h1
theorem ix_to {α : Type} {l : List α} {i : Int} (h0 : 0 ≤ i) (h : i < l.length) : ix l i = some (l[i.toNat]'(by omega)) := by
 obtain ⟨k, rfl⟩ := Int.eq_ofNat_of_zero_le h0
 exact ix_at (by omega)
theorem powG_G {gr : Group} (k : OkG gr) {a : Int} (ha : 0 ≤ a) : powG gr gr.G a = ((gr.G.toNat ^ a.toNat % gr.P.toNat : Nat) : Int) := by
 have hq := k.q
 obtain ⟨n, rfl⟩ := Int.eq_ofNat_of_zero_le ha
 obtain ⟨q, hQ⟩ := Int.eq_ofNat_of_zero_le (show 0 ≤ gr.Q by omega)
 unfold powG
 have ho := k.o
 rw [hQ] at ho ⊢
 rw [Int.toNat_natCast] at ho
 rw [← Int.natCast_emod, Int.toNat_natCast, Int.toNat_natCast, pow_per ho]
theorem powG_add {gr : Group} (k : OkG gr) {a b : Int} (ha : 0 ≤ a) (hb : 0 ≤ b) : mulG gr [powG gr gr.G a, powG gr gr.G b] = powG gr gr.G (a + b) := by
 have hp := k.p
 obtain ⟨P, hP⟩ := Int.eq_ofNat_of_zero_le (show 0 ≤ gr.P by omega)
 have hx := powG_bd k gr.G a
 rw [mul_two k (by omega) (powG_bd k gr.G b).1, powG_G k ha, powG_G k hb, powG_G k (by omega), hP]
 rw [← Int.natCast_mul, ← Int.natCast_emod, Int.toNat_natCast, ← Nat.mul_mod, ← Nat.pow_add, Int.toNat_add ha hb]
theorem powG_zero {gr : Group} (k : OkG gr) : powG gr gr.G 0 = 1 := by
 have hp := k.p
 rw [powG_G k (Int.le_refl 0)]
 show ((1 % gr.P.toNat : Nat) : Int) = 1
 rw [Nat.mod_eq_of_lt (by omega)]; rfl
theorem powG_cg {gr : Group} {a b : Int} (x : Int) (h : a % gr.Q = b % gr.Q) : powG gr x a = powG gr x b := by
 unfold powG; rw [h]
theorem pow_has {gr : Group} (k : OkG gr) {c : Int} (hc : 0 ≤ c) : hasB gr (powG gr gr.G c) = true := by
 have hb := powG_bd k gr.G c
 have hp := k.p
 have hq := k.q
 have h3 : (powG gr gr.G c).toNat ^ gr.Q.toNat % gr.P.toNat = 1 := by
  rw [powG_G k hc, Int.toNat_natCast, ← Nat.pow_mod, ← Nat.pow_mul, Nat.mul_comm, Nat.pow_mul, Nat.pow_mod, k.o, Nat.one_pow, Nat.mod_eq_of_lt (by omega)]
 have h1 : 1 ≤ powG gr gr.G c := by
  by_cases h0 : powG gr gr.G c = 0
  ·rw [h0, show (0 : Int).toNat = 0 from rfl, Nat.zero_pow (by omega), Nat.zero_mod] at h3
   omega
  ·omega
 simp only [hasB, Bool.and_eq_true, decide_eq_true_eq]
 exact ⟨⟨h1, hb.2⟩, h3⟩
theorem n_least (a b : Int) : F_spec_l1Least a b = some (if a < b then a else b) := by unfold F_spec_l1Least; by_cases h : a < b <;> simp [h]
theorem n_contest {code c0 : List Int} {at_ seed n : Int} (hb : Bt code) (h : Cu code n (c0, at_, seed)) (hn : n ≤ 5000000000000000) : Rn (F_spec_l1Cur_contest__io0 c0 at_ seed) (fun z => Cu code (n + 12) z.2) := by
 unfold F_spec_l1Cur_contest__io0
 refine rn_then (n_pick hb h (by omega)) fun z1 ⟨_, _, _, _, y1⟩ => ?_
 refine rn_then (n_pick hb y1 (by omega)) fun z2 ⟨_, _, _, _, y2⟩ => ?_
 refine rn_then (n_one hb y2 (by omega)) fun z3 y3 => ?_
 refine rn_then (ψ := fun _ => True) (rn_if (fun _ => rn_some trivial) fun _ => rn_some trivial) fun x6 _ => ?_
 refine rn_then (ψ := fun x => Cu code (n + 8) x.1) (rn_if (fun _ => rn_then (n_pick hb y3 (by omega)) fun z ⟨_, _, _, _, y⟩ => rn_some (y.mono (by omega))) fun _ => rn_if (fun _ => rn_some (y3.mono (by omega))) fun _ => rn_some (y3.mono (by omega))) fun x10 w => ?_
 refine rn_call (n_least _ _) ?_
 refine rn_then (n_pick hb w (by omega)) fun z4 ⟨_, _, _, _, y4⟩ => ?_
 refine rn_then (n_pick hb y4 (by omega)) fun z5 ⟨_, _, _, _, y5⟩ => ?_
 exact rn_some (y5.mono (by omega))
theorem n_anyContest {code c0 : List Int} {at_ seed n : Int} (hb : Bt code) (h : Cu code n (c0, at_, seed)) (hn : n ≤ 4000000000000000) : Rn (F_spec_l1Cur_anyContest__io0 c0 at_ seed) (fun z => Cu code (n + 16) z.2) := by
 unfold F_spec_l1Cur_anyContest__io0
 refine rn_then (n_contest hb h (by omega)) fun z1 y1 => ?_
 refine rn_then (n_pick hb y1 (by omega)) fun z2 ⟨_, _, _, _, y2⟩ => ?_
 have am : ∀ l : List Int, l ≠ [] → Rn (F_spec_l1Cur_among__io0_mv1 z2.2.1 z2.2.2.1 z2.2.2.2 l) (fun z => Cu code (n + 16) z.2) := fun l hl => by
  obtain ⟨v, v1, v2⟩ := n_amongM (l := l) hb y2 (by omega) hl
  exact ⟨v, v1, v2.2.mono (by omega)⟩
 refine rn_then (ψ := fun x => Cu code (n + 16) x.1) ?_ fun x hx => rn_some hx
 refine rn_if (fun _ => rn_then (am _ (by simp)) fun z hz => rn_some hz) fun _ => ?_
 refine rn_if (fun _ => rn_then (am _ (by simp)) fun z hz => rn_some hz) fun _ => ?_
 refine rn_if (fun _ => rn_then (am _ (by simp)) fun z hz => rn_some hz) fun _ => ?_
 refine rn_if (fun _ => rn_then (am _ (by simp)) fun z hz => rn_some hz) fun _ => ?_
 refine rn_if (fun _ => rn_then (am _ (by simp)) fun z hz => rn_some hz) fun _ => ?_
 exact rn_some (y2.mono (by omega))
def sgnE (gr : Group) (s : ByteArray) (x w : Int) : Int := chG gr s ([[gr.G]].flatten ++ [powG gr gr.G x] ++ [powG gr gr.G w])
structure Gb (gr : Group) : Prop where
 p : 1 ≤ gr.P ∧ gr.P ≤ 2000000000
 q : 1 ≤ gr.Q ∧ gr.Q ≤ 2000000000
 g : 0 ≤ gr.G ∧ gr.G ≤ 2000000000
theorem OkG.gb {gr : Group} (k : OkG gr) : Gb gr := by
 have hp := k.p
 have hq := k.q
 have hg := k.g
 exact ⟨by omega, by omega, by omega⟩
theorem powG_b {gr : Group} (k : Gb gr) (x e : Int) : 0 ≤ powG gr x e ∧ powG gr x e ≤ gr.P - 1 := by
 have hp := k.p
 unfold powG
 have := Nat.mod_lt (x.toNat ^ (e % gr.Q).toNat) (show 0 < gr.P.toNat by omega)
 omega
theorem n_gExpB {gr : Group} (k : Gb gr) {x : Int} (h0 : 0 ≤ x) (h1 : x ≤ 2000000000) (e : Int) : F_spec_gExp gr x e = some (powG gr x e) := by
 have hp := k.p
 have hq := k.q
 have b1 := Int.emod_nonneg e (show gr.Q ≠ 0 by omega)
 have b2 := Int.emod_lt_of_pos e (show 0 < gr.Q by omega)
 unfold F_spec_gExp
 rw [n_nMod (by omega) hq.2, Option.bind_some, (n_powI h0 h1 hp.1 hp.2 b1 (by omega)).2]; rfl
theorem n_gProd1 {gr : Group} (k : Gb gr) (w : Int) : F_spec_gProd gr [gr.G] [w] = some (powG gr gr.G w) := by
 have hp := k.p
 have hg := k.g
 have hb := powG_b k gr.G w
 unfold F_spec_gProd
 refine eq_of_rn (rn_then (ψ := fun s => s = powG gr gr.G w) (rn_rloop (fun i s => s = if i = 0 then 1 else powG gr gr.G w) rfl ?_ fun s h => h) fun s h => rn_some h)
 rintro i s hi rfl
 have hi : i < 1 := hi
 obtain rfl : i = 0 := by omega
 refine rn_ix (l := [gr.G]) (by simp) (rn_ix (l := [w]) (by simp) (rn_call (n_gExpB k hg.1 hg.2 _) (rn_gd (by omega) (rn_some ?_))))
 show (IntKind.i64.wrap (1 * powG gr gr.G w)).tmod gr.P = powG gr gr.G w
 rw [Int.one_mul, wr64 (by omega) (by omega), Int.tmod_eq_emod_of_nonneg hb.1, Int.emod_eq_of_lt hb.1 (by omega)]
theorem n_images1 {gr : Group} (k : Gb gr) (w : Int) : F_spec_sImages gr [[gr.G]] [w] = some [powG gr gr.G w] := by
 unfold F_spec_sImages
 rw [rl_map (l := [[gr.G]]) (f := fun _ => powG gr gr.G w) []]
 ·rfl
 ·intro i hi s hs
  have hi : i < 1 := hi
  obtain rfl : i = 0 := by omega
  rw [ix_at (l := [[gr.G]]) (k := 0) (by simp), Option.bind_some]
  show (F_spec_gProd gr [gr.G] [w]).bind _ = _
  rw [n_gProd1 k, Option.bind_some, gd_t (by have := hs; simp only [List.length_nil] at this; omega)]
theorem dig_3 {gr : Group} (k : Gb gr) (x w : Int) : ([gr.P, gr.Q, gr.G] ++ ([[gr.G]].flatten ++ [powG gr gr.G x] ++ [powG gr gr.G w])).all digB = true := by
 have hp := k.p
 have hq := k.q
 have hg := k.g
 have b1 := powG_b k gr.G x
 have b2 := powG_b k gr.G w
 simp [digB]; omega
theorem Gb.w {gr : Group} (k : Gb gr) : Gw gr := by
 have a := k.p
 have b := k.q
 have c := k.g
 exact ⟨by omega, by omega, by omega⟩
theorem ipow_le {b : Int} (hb : 1 ≤ b) {m n : Nat} (h : m ≤ n) : b ^ m ≤ b ^ n := by
 obtain ⟨k, rfl⟩ := Nat.exists_eq_add_of_le h
 have h1 : (0 : Int) < b ^ m := Int.pow_pos (by omega)
 have h2 : (0 : Int) < b ^ k := Int.pow_pos (by omega)
 rw [Int.pow_add]
 have := Int.mul_le_mul_of_nonneg_left (show (1 : Int) ≤ b ^ k by omega) (show 0 ≤ b ^ m by omega)
 omega
theorem num_app (b x : Int) : ∀ l : List Int, num b (l ++ [x]) = num b l + x * b ^ l.length
 | [] => by simp [num]
 | d :: l => by
  show num b (l ++ [x]) * b + d = num b l * b + d + x * b ^ (l.length + 1)
  rw [num_app b x l, Int.pow_succ]
  grind
theorem num_lt {b : Int} (hb : 1 ≤ b) : ∀ {l : List Int}, l.all (inB 0 (b - 1)) = true → 0 ≤ num b l ∧ num b l < b ^ l.length
 | [], _ => by simp [num]
 | d :: l, h => by
  rw [List.all_cons, Bool.and_eq_true, inB_t] at h
  obtain ⟨h1, h2⟩ := num_lt hb h.2
  have h3 : num b l * b ≤ (b ^ l.length - 1) * b := Int.mul_le_mul_of_nonneg_right (by omega) (by omega)
  have h4 := Int.mul_nonneg h1 (show 0 ≤ b by omega)
  have h5 : (b ^ l.length - 1) * b = b ^ (l.length + 1) - b := by rw [Int.pow_succ]; grind
  show 0 ≤ num b l * b + d ∧ num b l * b + d < b ^ (l.length + 1)
  omega
theorem num_top {b x y : Int} {l t : List Int} (hb : 1 ≤ b) (hl : l.all (inB 0 (b - 1)) = true) (ht : t.all (inB 0 (b - 1)) = true) (hlen : l.length ≤ t.length) (hx : 0 ≤ x) (h : x < y ∨ (x = y ∧ num b l ≤ num b t)) : num b (l ++ [x]) ≤ num b (t ++ [y]) := by
 rw [num_app, num_app]
 obtain ⟨l1, l2⟩ := num_lt hb hl
 obtain ⟨t1, t2⟩ := num_lt hb ht
 have hp : b ^ l.length ≤ b ^ t.length := ipow_le hb hlen
 have hp0 : (0 : Int) < b ^ l.length := Int.pow_pos (by omega)
 rcases h with h | ⟨rfl, h⟩
 ·have h1 : (x + 1) * b ^ l.length ≤ y * b ^ t.length := Int.mul_le_mul (by omega) hp (by omega) (by omega)
  have h2 : (x + 1) * b ^ l.length = x * b ^ l.length + b ^ l.length := by grind
  omega
 ·have := Int.mul_le_mul_of_nonneg_left hp hx
  omega
theorem all_app {a b x : Int} {l : List Int} (h : (l ++ [x]).all (inB a b) = true) : l.all (inB a b) = true ∧ a ≤ x ∧ x ≤ b := by
 rw [List.all_append, Bool.and_eq_true] at h
 exact ⟨h.1, inB_t.1 (by simpa using h.2)⟩
theorem all_sum {b : Int} : ∀ {l : List Int}, l.all (inB 0 b) = true → 0 ≤ l.sum
 | [], _ => by simp
 | x :: l, h => by
  rw [List.all_cons, Bool.and_eq_true, inB_t] at h
  have := all_sum h.2
  rw [List.sum_cons]; omega
def gre (p : Int) : Nat → Int → List Int
 | 0, _ => []
 | n + 1, m => gre p n (m - (if p < m then p else m)) ++ [if p < m then p else m]
theorem gre_len (p : Int) : ∀ (n : Nat) (m : Int), (gre p n m).length = n
 | 0, _ => rfl
 | n + 1, m => by simp [gre, gre_len p n]
theorem gre_all {p : Int} (hp : 0 ≤ p) : ∀ (n : Nat) {m : Int}, 0 ≤ m → (gre p n m).all (inB 0 p) = true
 | 0, _, _ => rfl
 | n + 1, m, hm => by
  rw [gre, List.all_append, gre_all hp n (by split <;> omega)]
  simp only [List.all_cons, List.all_nil, Bool.and_true, Bool.true_and, inB_t]
  split <;> omega
theorem gre_max {p : Int} (hp : 0 ≤ p) : ∀ {n : Nat} {m : Int} {l : List Int}, l.length = n → l.all (inB 0 p) = true → l.sum ≤ m → num (p + 1) l ≤ num (p + 1) (gre p n m)
 | 0, m, l, hl, _, _ => by
  rw [List.length_eq_zero_iff.1 hl]; exact Int.le_refl _
 | n + 1, m, l, hl, ha, hs => by
  rcases List.eq_nil_or_concat l with rfl | ⟨l, x, rfl⟩
  ·simp at hl
  ·rw [List.concat_eq_append] at *
   rw [List.length_append] at hl
   have hl : l.length = n := by simpa using hl
   obtain ⟨a1, a2, a3⟩ := all_app ha
   have hs0 := all_sum a1
   rw [List.sum_append] at hs
   have hs : l.sum + x ≤ m := by simpa using hs
   rw [gre]
   have hm : 0 ≤ m := by omega
   refine num_top (by omega) (all_mono (Int.le_refl 0) (by omega) a1) (all_mono (Int.le_refl 0) (by omega) (gre_all hp n (by split <;> omega))) (by rw [gre_len]; omega) a2 ?_
   by_cases c : x = (if p < m then p else m)
   ·refine .inr ⟨c, gre_max hp hl a1 (by omega)⟩
   ·refine .inl ?_
    split at c <;> split <;> omega
theorem gre_one : ∀ (o : Nat) (m : Int), 0 ≤ m → m ≤ o → gre 1 o m = (List.range o).map fun (i : Nat) => if decide ((o : Int) - m ≤ (i : Int)) = true then (1 : Int) else 0
 | 0, _, _, _ => rfl
 | o + 1, m, h0, h1 => by
  rw [gre, gre_one o _ (by split <;> omega) (by split <;> omega), List.range_succ, List.map_append]
  congr 1
  ·refine List.map_congr_left fun i hi => ?_
   have hi := List.mem_range.1 hi
   by_cases c : ((o + 1 : Nat) : Int) - m ≤ (i : Int)
   ·rw [decide_eq_true c, decide_eq_true (by split <;> omega)]
   ·rw [decide_eq_false c, decide_eq_false (by split <;> omega)]
  ·by_cases c : m < 1
   ·obtain rfl : m = 0 := by omega
    rw [if_neg (by omega), List.map_cons, List.map_nil, decide_eq_false (by omega)]
    simp
   ·rw [show (if 1 < m then 1 else m) = 1 by split <;> omega, List.map_cons, List.map_nil, decide_eq_true (by omega)]
    simp
theorem nd_len : ∀ {l v : List Int}, l.Nodup → (∀ x ∈ l, x ∈ v) → l.length ≤ v.length
 | [], v, _, _ => by simp
 | x :: l, v, hn, hs => by
  obtain ⟨h1, h2⟩ := List.nodup_cons.1 hn
  have hx := hs x (by simp)
  have := nd_len (l := l) (v := v.erase x) h2 fun y hy => (List.mem_erase_of_ne (show y ≠ x from fun e => h1 (e ▸ hy))).2 (hs y (List.mem_cons_of_mem _ hy))
  rw [List.length_erase_of_mem hx] at this
  have := List.length_pos_of_mem hx
  rw [List.length_cons]; omega
theorem nd_rng (n : Nat) (p : Nat → Bool) : (((List.range n).filter p).map fun (i : Nat) => (i : Int)).Nodup := by
 rw [List.Nodup, List.pairwise_map]
 exact ((List.nodup_range (n := n)).filter p).imp fun h => by omega
theorem marks_sum (n : Nat) (v : List Int) : (marks n v).sum ≤ v.length := by
 have e : ∀ l : List Nat, (l.map fun (i : Nat) => if v.contains (i : Int) = true then (1 : Int) else 0).sum = ((List.filter (fun (i : Nat) => v.contains (i : Int)) l).length : Int) := by
  intro l
  induction l with
  | nil => rfl
  | cons i l ih =>
   rw [List.map_cons, List.sum_cons, ih, List.filter_cons]
   cases v.contains (i : Int) <;> simp <;> omega
 unfold marks
 rw [e]
 have := nd_len (v := v) (nd_rng n fun i => v.contains (i : Int)) fun x hx => by
  obtain ⟨i, hi, rfl⟩ := List.mem_map.1 hx
  simpa using (List.mem_filter.1 hi).2
 rw [List.length_map] at this
 omega
theorem marks_all (n : Nat) (v : List Int) : (marks n v).all (inB 0 1) = true := by
 unfold marks
 rw [List.all_map, List.all_eq_true]
 intro i _
 show inB 0 1 (if _ then _ else _) = true
 split <;> rfl
theorem rk_max {b : Int} : ∀ {m : Nat} {o : Int} {l : List Int}, (m : Int) ≤ o → o + 1 ≤ b → l.Nodup → l.all (inB 1 o) = true → l.length ≤ m → num b l ≤ num b (rng (o - m + 1) m)
 | 0, o, l, _, _, _, _, hl => by
  rw [List.length_eq_zero_iff.1 (show l.length = 0 by omega)]; exact Int.le_refl _
 | m + 1, o, l, hm, hb, hn, ha, hl => by
  have ht : (rng (o - ((m + 1 : Nat) : Int) + 1) m).all (inB 0 (b - 1)) = true := rng_all (by omega) (by omega)
  rw [rng_succ]
  rcases List.eq_nil_or_concat l with rfl | ⟨l, x, rfl⟩
  ·have : (rng (o - ((m + 1 : Nat) : Int) + 1) m ++ [o - ((m + 1 : Nat) : Int) + 1 + (m : Int)]).all (inB 0 (b - 1)) = true := by
    rw [List.all_append, ht]
    simp only [List.all_cons, List.all_nil, Bool.and_true, Bool.true_and, inB_t]
    omega
   exact (num_lt (by omega) this).1
  ·rw [List.concat_eq_append] at *
   rw [List.length_append] at hl
   have hl : l.length ≤ m := by simpa using hl
   obtain ⟨a1, a2, a3⟩ := all_app ha
   have hn2 := List.nodup_append.1 hn
   refine num_top (by omega) (all_mono (by omega) (by omega) a1) ht (by rw [rng_len]; omega) (by omega) ?_
   by_cases c : x = o
   ·refine .inr ⟨by omega, ?_⟩
    have a4 : l.all (inB 1 (o - 1)) = true := by
     rw [List.all_eq_true] at a1 ⊢
     intro y hy
     have h1 := inB_t.1 (a1 y hy)
     have h2 : y ≠ x := hn2.2.2 y hy x (by simp)
     exact inB_t.2 (by omega)
    have := rk_max (b := b) (m := m) (o := o - 1) (by omega) (by omega) hn2.1 a4 hl
    rw [show o - ((m + 1 : Nat) : Int) + 1 = o - 1 - (m : Int) + 1 by omega]
    exact this
   ·exact .inl (by omega)
theorem wr_num : ∀ m : Nat, num 27 ((List.range m).map fun _ => (26 : Int)) = 27 ^ m - 1
 | 0 => rfl
 | m + 1 => by
  rw [List.range_succ, List.map_append, List.map_cons, List.map_nil, num_app, wr_num m, List.length_map, List.length_range, Int.pow_succ]
  grind
theorem wr_max {m : Nat} {l : List Int} (ha : l.all (inB 1 26) = true) (hl : l.length ≤ m) : num 27 l ≤ num 27 ((List.range m).map fun _ => (26 : Int)) := by
 rw [wr_num]
 have h1 := (num_lt (b := 27) (by omega) (all_mono (a' := 0) (by omega) (by omega) ha)).2
 have h2 : (27 : Int) ^ l.length ≤ 27 ^ m := ipow_le (by omega) hl
 omega
theorem wl_gre {step : List Int × Int × Int → Option (Stp (List Int × Int × Int) (List Int))} {n : Nat} {m p : Int} (hp : 0 ≤ p) (hm : 0 ≤ m)
 (hs : ∀ (k : Nat) (s : List Int) (r : Int), k < n → s.length = n → 0 ≤ r → r ≤ m → step (s, r, (k : Int)) = some (.go (s.set k (if p < r then p else r), r - (if p < r then p else r), (k : Int) - 1))) (he : ∀ s r, step (s, r, -1) = some (.out s)) :
 wloop step (List.replicate n 0, m, (n : Int) - 1) = some (gre p n m) := by
 refine eq_of_rn (rn_cloop n (fun j x => ∃ t, x.1 = List.replicate (n - j) 0 ++ t ∧ gre p n m = gre p (n - j) x.2.1 ++ t ∧ (0 ≤ x.2.1 ∧ x.2.1 ≤ m) ∧ x.2.2 = ((n - j : Nat) : Int) - 1 ∧ j ≤ n ∧ t.length = j) ⟨[], by simp, by simp, ⟨hm, Int.le_refl _⟩, by simp, by omega, rfl⟩ ?_ ?_)
 ·rintro j ⟨s, r, c⟩ hj ⟨t, h1, h2, h3, h4, _, h6⟩
  simp only at h1 h2 h3 h4
  obtain ⟨k, hk, e1, e2⟩ : ∃ k : Nat, k < n ∧ n - j = k + 1 ∧ n - (j + 1) = k := ⟨n - j - 1, by omega, by omega, by omega⟩
  obtain rfl : c = (k : Int) := by omega
  have b : 0 ≤ (if p < r then p else r) ∧ (if p < r then p else r) ≤ r := by split <;> omega
  rw [e1] at h1 h2
  refine ⟨_, hs k s r hk (by rw [h1]; simp; omega) h3.1 h3.2, (if p < r then p else r) :: t, ?_, ?_, ⟨by dsimp only; omega, by dsimp only; omega⟩, by dsimp only; omega, hj, by simp [h6]⟩
  ·show s.set k _ = _
   rw [h1, e2, List.replicate_succ', List.append_assoc, List.set_append_right _ _ (by simp)]
   simp
  ·rw [h2, e2, gre]; simp
 ·rintro ⟨s, r, c⟩ ⟨t, h1, h2, h3, h4, _, _⟩
  simp only at h1 h2 h3 h4
  have : c = -1 := by omega
  subst this
  refine ⟨_, he s r, ?_⟩
  show s = _
  rw [h1, h2, Nat.sub_self]; rfl
def basV (ct : Contest) : Int := if ct.Kind = 1 then 2 else if ct.Kind = 2 then ct.Points + 1 else if ct.Kind = 3 then ct.Options + 1 else 27
def digV (ct : Contest) (v : List Int) : List Int := if ct.Kind = 1 then marks ct.Options.toNat v else if ct.Kind = 3 then v.map (· + 1) else v
def codV (ct : Contest) (v : List Int) : Int := num (basV ct) (digV ct v)
theorem n_codV {ct : Contest} (k : OkC ct) {v : List Int} (hv : voteB ct v = true) : F_spec_vCode ct v = some (codV ct v) ∧ (digV ct v).all (inB 0 (basV ct - 1)) = true ∧ (digV ct v).length ≤ 8 := by
 unfold F_spec_vCode codV basV digV
 unfold voteB at hv
 rcases k.k with ⟨k1 | k3, ho, hm, hp⟩ | ⟨k2, ho, hp, hm⟩ | ⟨k4, ho, hm, hp⟩
 ·simp only [k1, if_true, Bool.and_eq_true] at hv ⊢
  have hl := inB_t.1 hv.2
  refine ⟨?_, marks_all _ _, by rw [marks_len]; omega⟩
  rw [if_pos (show ((1 : Int) == 1) = true from rfl), n_vMarks (by omega) hv.1.1, Option.bind_some, n_vNumber (by omega) (by omega) (by rw [marks_len]; omega) (by simpa using all_mono (Int.le_refl 0) (by omega) (marks_all _ _))]
  simp
 ·simp only [k3, show ¬ (3 : Int) = 1 by omega, show ¬ (3 : Int) = 2 by omega, if_false, if_true, Bool.and_eq_true] at hv ⊢
  have hl := inB_t.1 hv.2.2
  have ha : (v.map (· + 1)).all (inB 0 (ct.Options + 1 - 1)) = true := by
   rw [List.all_map, List.all_eq_true]
   intro x hx
   have := inB_t.1 (List.all_eq_true.1 hv.1 x hx)
   exact inB_t.2 (show 0 ≤ x + 1 ∧ x + 1 ≤ ct.Options + 1 - 1 by omega)
  refine ⟨?_, ha, by simp; omega⟩
  rw [wr64 (n := ct.Options + 1) (by omega) (by omega)]
  simp only [show ((3 : Int) == 1) = false from rfl, show ((3 : Int) == 2) = false from rfl, show ((3 : Int) == 3) = true from rfl, Bool.false_eq_true, if_false, if_true]
  rw [n_vNumber (by omega) (by omega) (by omega) (all_mono (Int.le_refl 0) (by omega) ha)]; rfl
 ·simp only [k2, show ¬ (2 : Int) = 1 by omega, show ¬ (2 : Int) = 3 by omega, if_false, if_true, Bool.and_eq_true, decide_eq_true_eq] at hv ⊢
  refine ⟨?_, all_mono (Int.le_refl 0) (by omega) hv.2.1, by omega⟩
  rw [wr64 (n := ct.Points + 1) (by omega) (by omega)]
  simp only [show ((2 : Int) == 1) = false from rfl, show ((2 : Int) == 2) = true from rfl, Bool.false_eq_true, if_false, if_true]
  rw [n_vNumber (by omega) (by omega) (by omega) (by simpa using all_mono (Int.le_refl 0) (by omega) hv.2.1)]
  simp
 ·simp only [k4, show ¬ (4 : Int) = 1 by omega, show ¬ (4 : Int) = 2 by omega, show ¬ (4 : Int) = 3 by omega, if_false, Bool.and_eq_true] at hv ⊢
  have hl := inB_t.1 hv.2
  refine ⟨?_, all_mono (by omega) (by omega) hv.1, by omega⟩
  simp only [show ((4 : Int) == 1) = false from rfl, show ((4 : Int) == 2) = false from rfl, show ((4 : Int) == 3) = false from rfl, Bool.false_eq_true, if_false]
  rw [n_vNumber (by omega) (by omega) (by omega) (by simpa using all_mono (by omega) (by omega) hv.1)]
  simp
theorem n_great {ct : Contest} (k : OkC ct) : ∃ n, F_spec_bGreatest ct = some n ∧ ∀ v, voteB ct v = true → 0 ≤ codV ct v ∧ codV ct v ≤ n := by
 have lo := k.lo
 have nn : ∀ v, voteB ct v = true → 0 ≤ codV ct v := fun v hv => by
  have h1 : 1 ≤ basV ct := by
   unfold basV
   rcases k.k with ⟨_, ho, hm, hp⟩ | ⟨_, ho, hp, hm⟩ | ⟨_, ho, hm, hp⟩ <;> (repeat' split) <;> omega
  exact (num_lt h1 (n_codV k hv).2.1).1
 unfold F_spec_bGreatest
 rcases k.k with ⟨k13, ho, hm, hp⟩ | ⟨k2, ho, hp, hm⟩ | ⟨k4, ho, hm, hp⟩
 ·obtain ⟨o, eo⟩ : ∃ o : Nat, ct.Options = (o : Int) := ⟨ct.Options.toNat, by omega⟩
  obtain ⟨m, em⟩ : ∃ m : Nat, ct.Most = (m : Int) := ⟨ct.Most.toNat, by omega⟩
  have w : IntKind.i64.wrap (ct.Options - ct.Most) = ct.Options - ct.Most := wr64 (by omega) (by omega)
  have e1 : wloop (fun s5 : List Int × Int => if decide (s5.2 < ct.Options) = true then (gd ((s5.1.length + 1) * 8 ≤ 140737488355328 ∧ s5.1.length + 1 ≤ 4611686018427387904) <| some (.go (s5.1 ++ [s5.2], IntKind.i64.wrap (s5.2 + 1)))) else (some (.out s5.1))) ([], ct.Options - ct.Most) = some (rng (ct.Options - ct.Most) m) := by
   refine wl_app (out := fun s => s) m ?_ ?_
   ·intro c s hc hs
    rw [if_pos (by simp; omega), gd_t (by rw [hs]; omega), wr64 (by dsimp only; omega) (by dsimp only; omega)]
   ·intro s
    rw [if_neg (by simp; omega)]
  have hall : (rng (ct.Options - ct.Most) m).all (inB 0 (ct.Options - 1)) = true := rng_all (by omega) (by omega)
  rcases k13 with k1 | k3
  ·rw [k1]
   simp only [show ((1 : Int) == 1) = true from rfl, if_true, w]
   have em2 : marks ct.Options.toNat (rng (ct.Options - ct.Most) m) = gre 1 o ct.Most := by
    rw [show ct.Options.toNat = o by omega, gre_one o _ (by omega) (by omega)]
    unfold marks
    refine List.map_congr_left fun i hi => ?_
    have hi := List.mem_range.1 hi
    congr 1
    rw [List.contains_eq_mem, decide_eq_true_eq, decide_eq_true_eq, rng_mem]
    exact propext ⟨fun h => by omega, fun h => by omega⟩
   refine ⟨num 2 (gre 1 o ct.Most), ?_, fun v hv => ⟨nn v hv, ?_⟩⟩
   ·rw [e1, Option.bind_some]
    unfold F_spec_vCode
    rw [k1, if_pos (show ((1 : Int) == 1) = true from rfl), n_vMarks (by omega) hall, Option.bind_some, em2, n_vNumber (by omega) (by omega) (by rw [gre_len]; omega) (by simpa using all_mono (Int.le_refl 0) (by omega) (gre_all (by omega) o (by omega)))]
    simp
   ·unfold voteB at hv
    simp only [k1, if_true, Bool.and_eq_true] at hv
    have hl := inB_t.1 hv.2
    have hs := marks_sum ct.Options.toNat v
    unfold codV basV digV
    rw [if_pos k1, if_pos k1, show (2 : Int) = 1 + 1 from rfl]
    exact gre_max (by omega) (by rw [marks_len]; omega) (marks_all _ _) (by omega)
  ·rw [k3]
   simp only [show ((3 : Int) == 1) = false from rfl, show ((3 : Int) == 2) = false from rfl, show ((3 : Int) == 3) = true from rfl, Bool.false_eq_true, if_false, if_true, w]
   have ee : (rng (ct.Options - ct.Most) m).map (· + 1) = rng (ct.Options - ct.Most + 1) m := by
    simp only [rng, List.map_map]
    refine List.map_congr_left fun i hi => ?_
    show ct.Options - ct.Most + (i : Int) + 1 = ct.Options - ct.Most + 1 + (i : Int); omega
   have ha : (rng (ct.Options - ct.Most + 1) m).all (inB 0 40) = true := rng_all (by omega) (by omega)
   refine ⟨num (ct.Options + 1) (rng (ct.Options - ct.Most + 1) m), ?_, fun v hv => ⟨nn v hv, ?_⟩⟩
   ·rw [e1, Option.bind_some]
    unfold F_spec_vCode
    rw [k3, wr64 (n := ct.Options + 1) (by omega) (by omega)]
    simp only [show ((3 : Int) == 1) = false from rfl, show ((3 : Int) == 2) = false from rfl, show ((3 : Int) == 3) = true from rfl, Bool.false_eq_true, if_false, if_true]
    rw [n_vNumber (by omega) (by omega) (by rw [rng_len]; omega) (by rw [ee]; exact ha), ee]
    rfl
   ·unfold voteB at hv
    simp only [k3, show ¬ (3 : Int) = 1 by omega, show ¬ (3 : Int) = 2 by omega, if_false, if_true, Bool.and_eq_true] at hv
    have hl := inB_t.1 hv.2.2
    unfold codV basV digV
    rw [if_neg (by omega), if_neg (by omega), if_pos k3, if_neg (by omega), if_pos k3, em]
    refine rk_max (by omega) (Int.le_refl _) ?_ ?_ (by simp; omega)
    ·have := of_decide_eq_true (show decide v.Nodup = true from hv.2.1)
     rw [List.Nodup, List.pairwise_map]
     exact this.imp fun h => by omega
    ·rw [List.all_map, List.all_eq_true]
     intro x hx
     have := inB_t.1 (List.all_eq_true.1 hv.1 x hx)
     exact inB_t.2 (show 1 ≤ x + 1 ∧ x + 1 ≤ ct.Options by omega)
 ·obtain ⟨o, eo⟩ : ∃ o : Nat, ct.Options = (o : Int) := ⟨ct.Options.toNat, by omega⟩
  have mb := mulb ho hp
  rw [k2]
  simp only [show ((2 : Int) == 1) = false from rfl, show ((2 : Int) == 2) = true from rfl, Bool.false_eq_true, if_false, if_true]
  rw [gd_t (by omega), Option.bind_some, wr64 (n := ct.Options - 1) (by omega) (by omega)]
  have hl : ∀ a b : Int, F_spec_l1Least a b = some (if a < b then a else b) := fun a b => by unfold F_spec_l1Least; by_cases h : a < b <;> simp [h]
  have hmin : ∀ a b : Int, (if a < b then a else b) = (if b < a then b else a) := fun a b => by split <;> split <;> omega
  have eS := wl_gre (step := fun s26 : List Int × Int × Int =>
   if decide (0 ≤ s26.2.2) = true then (
   (F_spec_l1Least s26.2.1 ct.Points).bind fun z32 =>
   (ix s26.1 s26.2.2).bind fun x33 =>
   (ix (s26.1.set s26.2.2.toNat z32) s26.2.2).bind fun x34 =>
   some (.go (s26.1.set s26.2.2.toNat z32, IntKind.i64.wrap (s26.2.1 - x34), IntKind.i64.wrap (s26.2.2 - 1)))) else (
   some (.out s26.1))) (n := o) (m := ct.Most) (p := ct.Points) (by omega) (by omega) ?_ (fun s r => rfl)
  ·have ha := all_mono (a' := 0) (b' := 40) (Int.le_refl 0) (by omega) (gre_all (p := ct.Points) (by omega) o (m := ct.Most) (by omega))
   have : ct.Options.toNat = o := by omega
   refine ⟨num (ct.Points + 1) (gre ct.Points o ct.Most), ?_, fun v hv => ⟨nn v hv, ?_⟩⟩
   ·rw [this, eo, eS, Option.bind_some]
    unfold F_spec_vCode
    rw [k2, wr64 (n := ct.Points + 1) (by omega) (by omega)]
    simp only [show ((2 : Int) == 1) = false from rfl, show ((2 : Int) == 2) = true from rfl, Bool.false_eq_true, if_false, if_true]
    rw [n_vNumber (by omega) (by omega) (by rw [gre_len]; omega) (by simpa using ha)]
    simp
   ·unfold voteB at hv
    simp only [k2, show ¬ (2 : Int) = 1 by omega, if_false, if_true, Bool.and_eq_true, decide_eq_true_eq] at hv
    have hs := inB_t.1 hv.2.2
    unfold codV basV digV
    rw [if_neg (by omega), if_pos k2, if_neg (by omega), if_neg (by omega)]
    exact gre_max (by omega) (by omega) hv.2.1 (by omega)
  ·intro c s r hc hs h0 h1
   have hc2 : c < (s.set c (if ct.Points < r then ct.Points else r)).length := by simp; omega
   dsimp only
   rw [if_pos (by simp), hl, Option.bind_some, ix_at (by omega), Option.bind_some, hmin, Int.toNat_natCast, ix_at hc2, Option.bind_some]
   have b : 0 ≤ (if ct.Points < r then ct.Points else r) ∧ (if ct.Points < r then ct.Points else r) ≤ r := by split <;> omega
   rw [List.getElem_set_self, wr64 (by omega) (by omega), wr64 (by omega) (by omega)]
 ·obtain ⟨m, em⟩ : ∃ m : Nat, ct.Most = (m : Int) := ⟨ct.Most.toNat, by omega⟩
  rw [k4]
  simp only [show ((4 : Int) == 1) = false from rfl, show ((4 : Int) == 2) = false from rfl, show ((4 : Int) == 3) = false from rfl, Bool.false_eq_true, if_false, if_true]
  have e1 : wloop (σ := List Int × Int) (β := List Int) (fun s46 => if decide (s46.2 < ct.Most) = true then (gd ((s46.1.length + 1) * 8 ≤ 140737488355328 ∧ s46.1.length + 1 ≤ 4611686018427387904) <|
   some (.go (s46.1 ++ [26], IntKind.i64.wrap (s46.2 + 1)))) else (some (.out s46.1))) ([], 0) = some ((List.range m).map fun _ => 26) := by
   refine wl_app (out := fun s => s) (a := 0) m ?_ ?_
   ·intro c s hc hs
    rw [if_pos (by simp; omega), gd_t (by rw [hs]; omega), wr64 (by dsimp only; omega) (by dsimp only; omega)]
   ·intro s
    rw [if_neg (by simp; omega)]
  have ha : ((List.range m).map fun _ => (26 : Int)).all (inB 0 40) = true := by
   rw [List.all_map, List.all_eq_true]; intro i _; rfl
  refine ⟨num 27 ((List.range m).map fun _ => 26), ?_, fun v hv => ⟨nn v hv, ?_⟩⟩
  ·rw [e1, Option.bind_some]
   unfold F_spec_vCode
   rw [k4]
   simp only [show ((4 : Int) == 1) = false from rfl, show ((4 : Int) == 2) = false from rfl, show ((4 : Int) == 3) = false from rfl, Bool.false_eq_true, if_false, if_true]
   rw [n_vNumber (by omega) (by omega) (by simp; omega) (by simpa using ha)]
   simp
   rfl
  ·unfold voteB at hv
   simp only [k4, show ¬ (4 : Int) = 1 by omega, show ¬ (4 : Int) = 2 by omega, show ¬ (4 : Int) = 3 by omega, if_false, Bool.and_eq_true] at hv
   have hl := inB_t.1 hv.2
   unfold codV basV digV
   rw [if_neg (by omega), if_neg (by omega), if_neg (by omega), if_neg (by omega), if_neg (by omega)]
   exact wr_max hv.1 (by omega)
theorem n_putM {l : List Int} (x : Int) (hl : l.Pairwise (· < ·)) (hn : l.length ≤ 1000) : Rn (F_spec_l1Put__mv0 l x) (fun r => r.Pairwise (· < ·) ∧ (∀ y, y ∈ r ↔ y ∈ l ∨ y = x) ∧ r.length ≤ l.length + 1) := by
 unfold F_spec_l1Put__mv0
 refine rn_then (ψ := fun v => ∃ k : Nat, v = (k : Int) ∧ k ≤ l.length ∧ (∀ j (h : j < l.length), j < k → l[j] < x) ∧ ∀ h : k < l.length, ¬ l[k] < x) (rn_wloop (fun s => ∃ k : Nat, s = (k : Int) ∧ k ≤ l.length ∧ ∀ j (h : j < l.length), j < k → l[j] < x) (fun s => l.length - s.toNat) ⟨0, rfl, by omega, fun j h hj => by omega⟩ ?_) ?_
 ·rintro s ⟨k, rfl, h1, h2⟩
  by_cases hk : k < l.length
  ·refine rn_then (ψ := fun v => v = decide (l[k] < x)) (rn_t (decide_eq_true (by omega)) (rn_ix hk (rn_some rfl))) ?_
   rintro _ rfl
   refine rn_if (fun g => rn_some ⟨⟨k + 1, ?_, by omega, fun j h hj => ?_⟩, ?_⟩) fun g => rn_some ⟨k, rfl, h1, h2, fun _ => of_decide_eq_false g⟩
   ·rw [wr64 (by omega) (by omega)]; rfl
   ·rcases Nat.lt_or_ge j k with c | c
    ·exact h2 j h c
    ·obtain rfl : j = k := by omega
     exact of_decide_eq_true g
   ·rw [wr64 (by omega) (by omega)]; omega
  ·refine rn_then (ψ := fun v => v = false) (rn_f (decide_eq_false (by omega)) (rn_some rfl)) ?_
   rintro _ rfl
   exact rn_f rfl (rn_some ⟨k, rfl, h1, h2, fun h => absurd h hk⟩)
 ·rintro _ ⟨k, rfl, h1, h2, h3⟩
  refine rn_then (ψ := fun v => (v = true → x ∈ l) ∧ (v = false → ∀ h : k < l.length, x < l[k])) ?_ fun v hv => ?_
  ·by_cases hk : k < l.length
   ·refine rn_t (decide_eq_true (by omega)) (rn_ix hk (rn_some ⟨fun g => ?_, fun g h => ?_⟩))
    ·rw [← eq_of_beq g]; exact List.getElem_mem hk
    ·have := ne_of_beq_false g
     have := h3 hk
     omega
   ·exact rn_f (decide_eq_false (by omega)) (rn_some ⟨fun g => (by cases g), fun _ h => absurd h hk⟩)
  ·refine rn_if (fun g => rn_some ⟨hl, fun y => ⟨.inl, fun h => ?_⟩, by omega⟩) fun g => ?_
   ·rcases h with h | rfl
    ·exact h
    ·exact hv.1 g
   ·have hgt := hv.2 g
    rw [List.drop_zero, List.take_length, show (k : Int).toNat = k from rfl]
    refine rn_gd (by omega) (rn_gd (by omega) (rn_gd (by simp; omega) (rn_gd (by simp; omega) (rn_gd (by omega) (rn_gd (by omega) (rn_gd (by simp; omega) (rn_some ⟨?_, fun y => ?_, by simp; omega⟩)))))))
    ·have ht : ∀ y ∈ l.take k, y < x := fun y hy => by
      obtain ⟨j, hj, rfl⟩ := List.getElem_of_mem hy
      rw [List.length_take] at hj
      rw [List.getElem_take]
      exact h2 j (by omega) (by omega)
     have hd : ∀ y ∈ l.drop k, x < y := fun y hy => by
      obtain ⟨j, hj, rfl⟩ := List.getElem_of_mem hy
      rw [List.length_drop] at hj
      rw [List.getElem_drop]
      have h0 := hgt (by omega)
      rcases Nat.eq_zero_or_pos j with rfl | c
      ·exact h0
      ·have := List.pairwise_iff_getElem.1 hl k (k + j) (by omega) (by omega) (by omega)
       omega
     rw [List.pairwise_append, List.pairwise_append]
     refine ⟨⟨hl.sublist (List.take_sublist _ _), by simp, fun a ha b hb => ?_⟩, hl.sublist (List.drop_sublist _ _), fun a ha b hb => ?_⟩
     ·rw [List.mem_singleton.1 hb]; exact ht a ha
     ·rcases List.mem_append.1 ha with ha | ha
      ·have := ht a ha; have := hd b hb; omega
      ·rw [List.mem_singleton.1 ha]; exact hd b hb
    ·rw [List.mem_append, List.mem_append, List.mem_singleton]
     constructor
     ·rintro ((h | h) | h)
      ·exact .inl (List.mem_of_mem_take h)
      ·exact .inr h
      ·exact .inl (List.mem_of_mem_drop h)
     ·rintro (h | h)
      ·rw [← List.take_append_drop k l] at h
       rcases List.mem_append.1 h with h | h
       ·exact .inl (.inl h)
       ·exact .inr h
      ·exact .inl (.inr h)
theorem lt_nodup {l : List Int} (h : l.Pairwise (· < ·)) : l.Nodup := h.imp fun h => by omega
theorem miss {v : List Int} {n : Nat} (h : v.length < n) : ∃ i : Nat, i < n ∧ ¬ (i : Int) ∈ v := by
 refine Classical.byContradiction fun hc => ?_
 have hc : ∀ i : Nat, i < n → (i : Int) ∈ v := fun i hi => Classical.byContradiction fun hm => hc ⟨i, hi, hm⟩
 have := nd_len (v := v) (nd_rng n fun _ => true) fun x hx => by
  obtain ⟨i, hi, rfl⟩ := List.mem_map.1 hx
  exact hc i (List.mem_range.1 (List.mem_filter.1 hi).1)
 rw [List.length_map, List.filter_eq_self.2 (fun _ _ => rfl), List.length_range] at this
 omega
theorem rn_round {n : Nat} {p : Nat → Bool} {k0 : Int} {step : Int → Option (Stp Int Int)} (h0 : 0 ≤ k0 ∧ k0 < n) (hn : n ≤ 1000) (hp : ∃ i, i < n ∧ p i = true)
 (hs : ∀ k : Nat, k < n → step (k : Int) = some (if p k = true then .out (k : Int) else .go (((k : Int) + 1).tmod n))) : Rn (wloop step k0) (fun z => ∃ k : Nat, z = (k : Int) ∧ k < n ∧ p k = true) := by
 obtain ⟨i, hi, hpi⟩ := hp
 refine rn_wloop (fun s => 0 ≤ s ∧ s < n) (fun s => if s.toNat ≤ i then i - s.toNat else i + n - s.toNat) h0 ?_
 rintro s ⟨s0, s1⟩
 obtain ⟨k, rfl⟩ := Int.eq_ofNat_of_zero_le s0
 have hk : k < n := by omega
 refine ⟨_, hs k hk, ?_⟩
 cases e : p k with
 | true => exact ⟨k, rfl, hk, e⟩
 | false =>
  have hne : k ≠ i := fun e2 => by rw [e2, hpi] at e; cases e
  show (0 ≤ ((k : Int) + 1).tmod n ∧ ((k : Int) + 1).tmod n < n) ∧ _ < _
  have e1 : ((k : Int) + 1).tmod n = (((k + 1) % n : Nat) : Int) := by
   rw [show (k : Int) + 1 = ((k + 1 : Nat) : Int) by omega]; rfl
  rw [e1]
  have hm : (k + 1) % n < n := Nat.mod_lt _ (by omega)
  refine ⟨by omega, ?_⟩
  rw [Int.toNat_natCast, Int.toNat_natCast]
  rcases Nat.lt_or_ge (k + 1) n with c | c
  ·rw [Nat.mod_eq_of_lt c]
   split <;> split <;> omega
  ·have : k + 1 = n := by omega
   rw [this, Nat.mod_self]
   split <;> split <;> omega
theorem n_pickB {code c0 : List Int} {at_ seed n m : Int} (hb : Bt code) (h : Cu code n (c0, at_, seed)) (hn : n ≤ 8000000000000000) (hm : 1 ≤ m) : Rn (F_spec_l1Cur_pick__io0 c0 at_ seed m) (fun z => (0 ≤ z.1 ∧ z.1 < m) ∧ Cu code (n + 2) z.2) := by
 obtain ⟨z, e, h0, h1, h2, _, h3⟩ := n_pick (m := m) hb h hn
 refine ⟨z, e, ⟨h0, ?_⟩, h3⟩
 rcases Int.lt_or_le 1 m with g | g
 ·exact h2 g
 ·have := h1 g; omega
theorem sum_set : ∀ {l : List Int} {k : Nat} (x : Int) (h : k < l.length), (l.set k x).sum = l.sum - l[k] + x
 | a :: l, 0, x, _ => by simp; omega
 | a :: l, k + 1, x, h => by
  rw [List.set_cons_succ, List.sum_cons, List.sum_cons, sum_set x (by simpa using h)]
  simp; omega
theorem sum_full {p : Int} : ∀ {l : List Int}, (∀ x ∈ l, x = p) → l.sum = l.length * p
 | [], _ => by simp
 | a :: l, h => by
  rw [List.sum_cons, sum_full fun x hx => h x (List.mem_cons_of_mem _ hx), h a (by simp), List.length_cons]
  push_cast
  grind
theorem n_vote {code c0 : List Int} {at_ seed n : Int} {ct : Contest} (hb : Bt code) (h : Cu code n (c0, at_, seed)) (hn : n ≤ 1000000000000000) (k : OkC ct) : Rn (F_spec_l1Cur_vote__io0 c0 at_ seed ct) (fun z => z.1.length ≤ 40 ∧ Cu code (n + 200) z.2) := by
 have lo := k.lo
 have hM : ct.Most ≤ 40 := by
  rcases k.k with ⟨_, ho, hm, hp⟩ | ⟨_, ho, hp, hm⟩ | ⟨_, ho, hm, hp⟩
  ·omega
  ·have := mulb ho hp; omega
  ·omega
 unfold F_spec_l1Cur_vote__io0
 rw [wr64 (n := ct.Most - ct.Least) (by omega) (by omega), wr64 (n := ct.Most - ct.Least + 1) (by omega) (by omega)]
 refine rn_then (n_pickB hb h (by omega) (by omega)) fun z1 ⟨⟨p0, p1⟩, y1⟩ => ?_
 rw [wr64 (n := ct.Least + z1.1) (by omega) (by omega)]
 generalize hN : ct.Least + z1.1 = N
 have hN0 : 0 ≤ N ∧ N ≤ ct.Most := by omega
 rcases k.k with ⟨k13, ho, hm, hp⟩ | ⟨k2, ho, hp, hm⟩ | ⟨k4, ho, hm, hp⟩
 ·obtain ⟨o, eo⟩ : ∃ o : Nat, ct.Options = (o : Int) := ⟨ct.Options.toNat, by omega⟩
  have n2 : (ct.Kind == 2) = false := by rcases k13 with e | e <;> rw [e] <;> rfl
  have n4 : (ct.Kind == 4) = false := by rcases k13 with e | e <;> rw [e] <;> rfl
  refine rn_f n2 (rn_f n4 (rn_then (ψ := fun v => v.2.length ≤ 40 ∧ Cu code (n + 200) v.1) (rn_wloop (fun s => (s.2.length : Int) ≤ N ∧ (ct.Kind = 1 → s.2.Pairwise (· < ·)) ∧ Cu code (n + 2 + 4 * s.2.length) s.1) (fun s => (N - s.2.length).toNat) ⟨by simp; omega, fun _ => by simp, y1.mono (by simp)⟩ ?_) fun v hv => rn_some hv))
  rintro s ⟨s1, s2, s3⟩
  refine rn_if (fun g => ?_) fun _ => rn_some ⟨by show s.2.length ≤ 40; omega, s3.mono (by omega)⟩
  have g := of_decide_eq_true g
  refine rn_then (n_pickB hb s3 (by omega) (by omega)) fun z2 ⟨q1, y2⟩ => ?_
  have hmi : ∃ i, i < o ∧ (!s.2.contains (i : Int)) = true := by
   obtain ⟨i, i1, i2⟩ := miss (v := s.2) (n := o) (by omega)
   exact ⟨i, i1, by simpa using i2⟩
  refine rn_then (rn_round (n := o) (p := fun i => !s.2.contains (i : Int)) (by rw [← eo]; exact q1) (by omega) hmi fun i hi => ?_) fun x ⟨i, e, hi, hpi⟩ => ?_
  ·rw [n_l1Has, Option.bind_some, wr64 (n := (i : Int) + 1) (by omega) (by omega), gd_t (by omega), eo]
   cases s.2.contains (i : Int) <;> rfl
  ·subst e
   have hni : ¬ (i : Int) ∈ s.2 := by simpa using hpi
   refine rn_if (fun g3 => rn_gd (by omega) (rn_some ⟨⟨?_, fun e => ?_, ?_⟩, ?_⟩)) fun g3 => ?_
   ·show ((s.2 ++ [(i : Int)]).length : Int) ≤ N
    rw [List.length_append]; simp; omega
   ·rw [e] at g3; cases g3
   ·refine y2.mono ?_
    show _ ≤ n + 2 + 4 * ((s.2 ++ [(i : Int)]).length : Int)
    rw [List.length_append]; simp; omega
   ·show (N - ((s.2 ++ [(i : Int)]).length : Int)).toNat < (N - (s.2.length : Int)).toNat
    rw [List.length_append]; simp; omega
   ·have hk1 : ct.Kind = 1 := by
     rcases k13 with e | e
     ·exact e
     ·rw [e] at g3; cases g3
    refine rn_then (n_putM (i : Int) (s2 hk1) (by omega)) fun r ⟨r1, r2, r3⟩ => ?_
    have r4 := nd_len (l := (i : Int) :: s.2) (v := r) (List.nodup_cons.2 ⟨hni, lt_nodup (s2 hk1)⟩) fun y hy => (r2 y).2 (by
     rcases List.mem_cons.1 hy with e | e
     ·exact .inr e
     ·exact .inl e)
    rw [List.length_cons] at r4
    exact rn_some ⟨⟨by show (r.length : Int) ≤ N; omega, fun _ => r1, y2.mono (by show _ ≤ n + 2 + 4 * (r.length : Int); omega)⟩, by show (N - (r.length : Int)).toNat < (N - (s.2.length : Int)).toNat; omega⟩
 ·obtain ⟨o, eo⟩ : ∃ o : Nat, ct.Options = (o : Int) := ⟨ct.Options.toNat, by omega⟩
  have mb := mulb ho hp
  refine rn_t (by rw [k2]; rfl) (rn_gd (by omega) ?_)
  rw [Option.bind_some, show ct.Options.toNat = o by omega]
  refine rn_then (ψ := fun v => v.2.length ≤ 40 ∧ Cu code (n + 200) v.1) (rn_wloop (fun s => (0 ≤ s.2.1 ∧ s.2.2.sum + s.2.1 = N) ∧ (s.2.2.length = o ∧ s.2.2.all (inB 0 ct.Points) = true) ∧ Cu code (n + 2 + 4 * s.2.2.sum) s.1) (fun s => s.2.1.toNat) ⟨⟨hN0.1, by simp⟩, ⟨by simp, ?_⟩, y1.mono (by simp)⟩ ?_) fun v hv => rn_some hv
  ·rw [List.all_eq_true]
   intro x hx
   rw [List.eq_of_mem_replicate hx]
   exact inB_t.2 (by omega)
  ·rintro s ⟨⟨s1, s2⟩, ⟨s3, s4⟩, s5⟩
   have hs0 := all_sum s4
   refine rn_if (fun g => ?_) fun _ => rn_some ⟨by show s.2.2.length ≤ 40; omega, s5.mono (by omega)⟩
   have g : 0 < s.2.1 := of_decide_eq_true g
   refine rn_then (n_pickB hb s5 (by omega) (by omega)) fun z2 ⟨q1, y2⟩ => ?_
   have hmi : ∃ i, i < o ∧ (!(s.2.2.getD i 0 == ct.Points)) = true := by
    refine Classical.byContradiction fun hc => ?_
    have : ∀ x ∈ s.2.2, x = ct.Points := fun x hx => by
     obtain ⟨i, hi, rfl⟩ := List.getElem_of_mem hx
     refine Classical.byContradiction fun hne => hc ⟨i, by omega, ?_⟩
     rw [show s.2.2.getD i 0 = s.2.2[i] by simp [hi]]
     simpa using hne
    have := sum_full this
    rw [s3, ← eo] at this
    omega
   refine rn_then (rn_round (n := o) (p := fun i => !(s.2.2.getD i 0 == ct.Points)) (by rw [← eo]; exact q1) (by omega) hmi fun i hi => ?_) fun x ⟨i, e, hi, hpi⟩ => ?_
   ·have hi2 : i < s.2.2.length := by omega
    rw [ix_at hi2, Option.bind_some, wr64 (n := (i : Int) + 1) (by omega) (by omega), gd_t (by omega), eo, show s.2.2.getD i 0 = s.2.2[i] by simp [hi2]]
    cases s.2.2[i] == ct.Points <;> rfl
   ·subst e
    have hi2 : i < s.2.2.length := by omega
    rw [show s.2.2.getD i 0 = s.2.2[i] by simp [hi2]] at hpi
    have hne : s.2.2[i] ≠ ct.Points := by simpa using hpi
    have hb2 := inB_t.1 (List.all_eq_true.1 s4 _ (List.getElem_mem hi2))
    refine rn_ix hi2 (rn_some ?_)
    rw [wr64 (n := s.2.1 - 1) (by omega) (by omega), wr64 (n := s.2.2[i] + 1) (by omega) (by omega), Int.toNat_natCast]
    have hss := sum_set (s.2.2[i] + 1) hi2
    refine ⟨⟨⟨by show 0 ≤ s.2.1 - 1; omega, ?_⟩, ⟨?_, ?_⟩, y2.mono ?_⟩, by show (s.2.1 - 1).toNat < s.2.1.toNat; omega⟩
    ·show (s.2.2.set i (s.2.2[i] + 1)).sum + (s.2.1 - 1) = N
     omega
    ·show (s.2.2.set i _).length = o
     rw [List.length_set]; exact s3
    ·show (s.2.2.set i (s.2.2[i] + 1)).all (inB 0 ct.Points) = true
     rw [List.all_eq_true]
     intro x hx
     rcases List.mem_or_eq_of_mem_set hx with e | rfl
     ·exact List.all_eq_true.1 s4 x e
     ·exact inB_t.2 (by omega)
    ·show _ ≤ n + 2 + 4 * (s.2.2.set i (s.2.2[i] + 1)).sum
     omega
 ·refine rn_f (by rw [k4]; rfl) (rn_t (by rw [k4]; rfl) (rn_then (ψ := fun v => v.2.length ≤ 40 ∧ Cu code (n + 200) v.1) (rn_wloop (fun s => (0 ≤ s.2.1 ∧ (s.2.2.length : Int) + s.2.1 = N) ∧ Cu code (n + 2 + 4 * s.2.2.length) s.1) (fun s => s.2.1.toNat) ⟨⟨hN0.1, by simp⟩, y1.mono (by simp)⟩ ?_) fun v hv => rn_some hv))
  rintro s ⟨⟨s1, s2⟩, s5⟩
  refine rn_if (fun g => ?_) fun _ => rn_some ⟨by show s.2.2.length ≤ 40; omega, s5.mono (by omega)⟩
  have g : 0 < s.2.1 := of_decide_eq_true g
  refine rn_then (n_pickB hb s5 (by omega) (by omega)) fun z2 ⟨q1, y2⟩ => rn_gd (by omega) (rn_some ?_)
  rw [wr64 (n := s.2.1 - 1) (by omega) (by omega)]
  exact ⟨⟨⟨by show 0 ≤ s.2.1 - 1; omega, by show ((s.2.2 ++ [_]).length : Int) + (s.2.1 - 1) = N; rw [List.length_append]; simp; omega⟩, y2.mono (by show _ ≤ n + 2 + 4 * ((s.2.2 ++ [_]).length : Int); rw [List.length_append]; simp; omega)⟩, by show (s.2.1 - 1).toNat < s.2.1.toNat; omega⟩
theorem n_anyVote {code c0 : List Int} {at_ seed n : Int} {ct : Contest} (hb : Bt code) (h : Cu code n (c0, at_, seed)) (hn : n ≤ 100000000000000) : Rn (F_spec_l1Cur_anyVote__io0 c0 at_ seed ct) (fun z => z.1.length ≤ 41 ∧ Cu code (n + 210) z.2) := by
 unfold F_spec_l1Cur_anyVote__io0
 refine rn_call (n_vContest ct) (rn_if (fun _ => rn_some ⟨by simp, h.mono (by omega)⟩) fun g => ?_)
 have k : OkC ct := okC_t.1 (by simpa using g)
 refine rn_then (n_vote hb h (by omega) k) fun z1 ⟨a1, y1⟩ => rn_call (n_l1Own (by omega)) ?_
 generalize z1.1 = v at a1 ⊢
 refine rn_then (n_pick hb y1 (by omega)) fun z2 ⟨_, _, _, _, y2⟩ => ?_
 refine rn_then (ψ := fun x => x.2.length ≤ 41 ∧ Cu code (n + 210) x.1) ?_ fun x hx => rn_some hx
 have same : ∀ {w : List Int}, w.length ≤ 41 → v.length ≤ 41 := fun _ => by omega
 refine rn_if (fun _ => ?_) fun _ => rn_if (fun _ => ?_) fun _ => rn_if (fun _ => ?_) fun _ => rn_some ⟨by show v.length ≤ 41; omega, y2.mono (by omega)⟩
 ·refine rn_then (n_pick hb y2 (by omega)) fun z3 ⟨_, _, _, _, y3⟩ => rn_gd (by omega) (rn_some ⟨by show (v ++ [_]).length ≤ 41; rw [List.length_append]; simp; omega, y3.mono (by omega)⟩)
 ·refine rn_if (fun g => ?_) fun _ => rn_some ⟨by show v.length ≤ 41; omega, y2.mono (by omega)⟩
  have g : (0 : Int) < (v.length : Int) := of_decide_eq_true g
  refine rn_then (n_pickB hb y2 (by omega) (by omega)) fun z3 ⟨q, y3⟩ => rn_then (n_amongM hb y3 (by omega) (by simp)) fun z4 ⟨_, y4⟩ => rn_call (ix_to q.1 q.2) (rn_some ⟨by show (v.set _ _).length ≤ 41; rw [List.length_set]; omega, y4.mono (by omega)⟩)
 ·refine rn_if (fun g => ?_) fun _ => rn_some ⟨by show v.length ≤ 41; omega, y2.mono (by omega)⟩
  have g : (0 : Int) < (v.length : Int) := of_decide_eq_true g
  exact rn_gd (by omega) (rn_some ⟨by show ((v.take v.length).drop 1).length ≤ 41; rw [List.length_drop, List.length_take]; omega, y2.mono (by omega)⟩)
def topV (ct : Contest) : Int := if ct.Kind = 1 then 1 else ct.Points
def formV (ct : Contest) : Bool := ct.Kind == 1 || ct.Kind == 2
def coiV (ct : Contest) : Int := if formV ct = true then ct.Options * (2 * topV ct + 2) + 2 * (ct.Most - ct.Least) + 1 else 2
theorem n_bTop (ct : Contest) : F_spec_bTop ct = some (topV ct) := by
 unfold F_spec_bTop topV
 by_cases h : ct.Kind = 1
 ·rw [if_pos h, h]; rfl
 ·rw [if_neg h, if_neg (by simpa using h)]
theorem form_bd {ct : Contest} (k : OkC ct) (h : formV ct = true) : (1 ≤ ct.Options ∧ ct.Options ≤ 8) ∧ (1 ≤ topV ct ∧ topV ct ≤ 5) ∧ ct.Most ≤ ct.Options * topV ct ∧ (0 ≤ ct.Least ∧ ct.Least ≤ ct.Most) := by
 have lo := k.lo
 unfold formV at h
 unfold topV
 rcases k.k with ⟨k1 | k3, ho, hm, hp⟩ | ⟨k2, ho, hp, hm⟩ | ⟨k4, ho, hm, hp⟩
 ·rw [if_pos k1]; omega
 ·rw [k3] at h; cases h
 ·rw [if_neg (by omega)]; omega
 ·rw [k4] at h; cases h
theorem n_bCoins {ct : Contest} (k : OkC ct) : F_spec_bCoins ct = some (coiV ct) ∧ 0 ≤ coiV ct ∧ coiV ct ≤ 300 := by
 unfold F_spec_bCoins coiV
 rw [n_bRows, show (ct.Kind == 1 || ct.Kind == 2) = formV ct from rfl]
 cases h : formV ct with
 | false => exact ⟨rfl, by simp, by simp⟩
 | true =>
  obtain ⟨h1, h2, h3, h4⟩ := form_bd k h
  have e1 : ct.Options * (2 * topV ct + 2) ≤ 8 * 12 := Int.mul_le_mul h1.2 (by omega) (by omega) (by omega)
  have e2 : 0 ≤ ct.Options * (2 * topV ct + 2) := Int.mul_nonneg (by omega) (by omega)
  have e3 : ct.Options * topV ct ≤ 8 * 5 := Int.mul_le_mul h1.2 h2.2 (by omega) (by omega)
  rw [n_bTop]
  simp only [Option.bind_some, Bool.not_true, Bool.false_eq_true, if_false, if_true]
  rw [wr64 (n := 2 * topV ct) (by omega) (by omega), wr64 (n := 2 * topV ct + 2) (by omega) (by omega), wr64 (n := ct.Options * (2 * topV ct + 2)) (by omega) (by omega), wr64 (n := ct.Most - ct.Least) (by omega) (by omega), wr64 (n := 2 * (ct.Most - ct.Least)) (by omega) (by omega), wr64 (n := ct.Options * (2 * topV ct + 2) + 2 * (ct.Most - ct.Least)) (by omega) (by omega), wr64 (by omega) (by omega)]
  exact ⟨rfl, by omega, by omega⟩
theorem n_sealing {code c0 : List Int} {at_ seed n : Int} (hb : Bt code) (h : Cu code n (c0, at_, seed)) (hn : n ≤ 1000000000000) : Rn (F_spec_l1Cur_sealing__io0 c0 at_ seed) (fun z => z.2.2.2.2.1.length ≤ 41) := by
 unfold F_spec_l1Cur_sealing__io0
 refine rn_then (n_anyGroup hb h (by omega)) fun z1 ⟨g1, y1⟩ => rn_then (n_one hb y1 (by omega)) fun z2 y2 => ?_
 refine rn_then (ψ := fun x => Gw ⟨x.1, x.2.1, x.2.2⟩) (rn_if (fun _ => rn_some ⟨by simp, by simp, by simp⟩) fun _ => rn_some ⟨g1.p, g1.q, g1.g⟩) fun x gx => ?_
 refine rn_then (n_anyContest hb y2 (by omega)) fun z3 y3 => ?_
 refine rn_then (ψ := fun v => Cu code (n + 200) v.1) (rn_wloop (fun s => (0 ≤ s.2.2.2.2.2.2 ∧ s.2.2.2.2.2.2 ≤ 6) ∧ Cu code (n + 100 + 12 * s.2.2.2.2.2.2) s.1) (fun s => (6 - s.2.2.2.2.2.2).toNat) ⟨⟨by simp, by simp⟩, y3.mono (by simp; omega)⟩ ?_) fun v y4 => ?_
 ·rintro s ⟨⟨s1, s2⟩, s3⟩
  refine rn_then (ψ := fun b => b = true → s.2.2.2.2.2.2 < 6) (rn_if (fun g => ?_) fun _ => rn_some fun e => by cases e) fun b hb2 => ?_
  ·have g := of_decide_eq_true g
   obtain ⟨b, e1, _, _⟩ := n_sealable ⟨x.1, x.2.1, x.2.2⟩ ⟨s.2.1, s.2.2.1, s.2.2.2.1, s.2.2.2.2.1, s.2.2.2.2.2.1⟩
   exact rn_call e1 (rn_some fun _ => g)
  ·refine rn_if (fun g => ?_) fun _ => rn_some (s3.mono (by omega))
   have g := hb2 g
   refine rn_then (n_contest hb s3 (by omega)) fun z4 y4 => rn_some ?_
   rw [wr64 (n := s.2.2.2.2.2.2 + 1) (by omega) (by omega)]
   exact ⟨⟨⟨by show 0 ≤ s.2.2.2.2.2.2 + 1; omega, by show s.2.2.2.2.2.2 + 1 ≤ 6; omega⟩, y4.mono (by show _ ≤ n + 100 + 12 * (s.2.2.2.2.2.2 + 1); omega)⟩, by show (6 - (s.2.2.2.2.2.2 + 1)).toNat < (6 - s.2.2.2.2.2.2).toNat; omega⟩
 ·refine rn_then (n_anyVote hb y4 (by omega)) fun z5 ⟨a5, y5⟩ => ?_
  refine rn_call (n_vContest _) ?_
  refine rn_then (ψ := fun v => ∃ c : Nat, v = (c : Int) ∧ c ≤ 300) (rn_if (fun g => ?_) fun _ => rn_some ⟨1, rfl, by omega⟩) fun m ⟨c, e, hc⟩ => ?_
  ·obtain ⟨e1, e2, e3⟩ := n_bCoins (okC_t.1 g)
   exact rn_call e1 (rn_some ⟨_, (Int.toNat_of_nonneg e2).symm, by omega⟩)
  ·subst e
   refine rn_then (n_pick hb y5 (by omega)) fun z6 ⟨_, _, _, _, y6⟩ => rn_then (n_one hb y6 (by omega)) fun z7 y7 => ?_
   refine rn_then (ψ := fun v => Cu code (n + 600) v.1) (rn_if (fun _ => rn_then (n_amongM hb y7 (by omega) (by simp)) fun z8 ⟨_, y8⟩ => rn_some (y8.mono (by omega))) fun _ => rn_some (y7.mono (by omega))) fun w y9 => ?_
   refine rn_then (n_anyElement hb y9 (by omega) gx) fun z10 ⟨_, _, y10⟩ => rn_then (n_anyCoins hb y10 (by omega) gx (by omega)) fun z11 _ => rn_some a5
theorem num_mono : ∀ (n : Nat) (a : Int) (b : ByteArray), F_spec_l1Num_r n a = some b → F_spec_l1Num_r (n + 1) a = some b
 | 0, _, _, h => by cases h
 | n + 1, a, b, h => by
  rw [F_spec_l1Num_r] at h ⊢
  by_cases c : decide (a < 10) = true
  ·rw [if_pos c] at h ⊢; exact h
  ·rw [if_neg c] at h ⊢
   cases e : F_spec_l1Num_r n (IntKind.i64.wrap (a.tdiv 10)) with
   | none => rw [e] at h; cases h
   | some z =>
    rw [e] at h
    rw [num_mono n _ _ e]
    exact h
theorem l1Num_r : ∀ (n : Nat) {a : Int}, n ≤ 18 → 0 ≤ a → a < 10 ^ (n + 1) → Rn (F_spec_l1Num_r (n + 1) a) (fun s => s.size ≤ n + 1)
 | 0, a, _, h0, h1 => by
  rw [F_spec_l1Num_r]
  exact rn_t (decide_eq_true (by simpa using h1)) (rn_some (by simp [bytesOf, ByteArray.size]))
 | n + 1, a, hn, h0, h1 => by
  rw [F_spec_l1Num_r]
  refine rn_if (fun _ => rn_some (by simp [bytesOf, ByteArray.size])) fun g => ?_
  have hp : (10 : Int) ^ (n + 1 + 1) = 10 ^ (n + 1) * 10 := Int.pow_succ ..
  have hp2 : (10 : Nat) ^ (n + 1) ≤ 10 ^ 18 := Nat.pow_le_pow_right (by omega) (by omega)
  have hp3 : ((10 ^ (n + 1) : Nat) : Int) = (10 : Int) ^ (n + 1) := Int.natCast_pow 10 _
  rw [Int.tdiv_eq_ediv_of_nonneg h0, wr64 (n := a / 10) (by omega) (by omega)]
  refine rn_then (l1Num_r n (by omega) (by omega) (by omega)) fun z hz => ?_
  have hb : ∀ x : Int, (bytesOf [x]).size = 1 := fun x => rfl
  exact rn_gd (by rw [hb]; omega) (rn_some (by rw [ByteArray.size_append, hb]; omega))
theorem n_bLabel {a : Int} (h0 : 0 ≤ a) (h1 : a ≤ 999999) : Rn (F_spec_bLabel a) (fun s => s.size ≤ 20) := by
 obtain ⟨s, e, hs⟩ := l1Num_r 6 (a := a) (by omega) h0 (by omega)
 have e2 : F_spec_l1Num a = some s := frec_eq (f := fun n_ => F_spec_l1Num_r n_ a) e fun n b => num_mono n a b
 unfold F_spec_bLabel
 have hb : (⟨#[98, 97, 108, 108, 111, 116, 32]⟩ : ByteArray).size = 7 := rfl
 exact rn_call e2 (rn_gd (by rw [hb]; omega) (rn_some (by rw [ByteArray.size_append, hb]; omega)))
def cE (gr : Group) (m r : Int) : Cipher := ⟨powG gr gr.G r, powG gr gr.G (m + r)⟩
theorem key_pow {gr : Group} (k : OkG gr) {r : Int} (hr : 0 ≤ r) : powG gr (powG gr gr.G 1) r = powG gr gr.G r := by
 rw [powG_mul k (gen_has k) (by omega) hr, Int.one_mul]
theorem pow_b {gr : Group} (k : OkG gr) (x e : Int) : 0 ≤ powG gr x e ∧ powG gr x e ≤ 2000000000 := by
 have := powG_bd k x e; have := k.p; omega
theorem two_b {a b : Int} (ha : 0 ≤ a ∧ a ≤ 2000000000) (hb : 0 ≤ b ∧ b ≤ 2000000000) : ∀ x ∈ [a, b], 0 ≤ x ∧ x ≤ 2000000000 := by
 intro x hx
 rcases List.mem_cons.1 hx with rfl | hx
 ·exact ha
 ·rw [List.mem_singleton.1 hx]; exact hb
theorem mul_b {gr : Group} (k : OkG gr) {a b : Int} (ha : 0 ≤ a ∧ a ≤ 2000000000) (hb : 0 ≤ b ∧ b ≤ 2000000000) : F_spec_gMul gr [a, b] = some (mulG gr [a, b]) ∧ 0 ≤ mulG gr [a, b] ∧ mulG gr [a, b] ≤ 2000000000 := by
 have := mulG_bd k (two_b ha hb)
 have := k.p
 exact ⟨n_gMul k (two_b ha hb), by omega, by omega⟩
theorem n_bExp {gr : Group} (k : OkG gr) {m r : Int} (hm : 0 ≤ m) (hr : 0 ≤ r) : F_spec_bExp gr (powG gr gr.G 1) m r = some (cE gr m r) := by
 have hp := k.p
 have hg := k.g
 unfold F_spec_bExp F_spec_eEnc cE
 rw [n_gExp k (by omega) (by omega), Option.bind_some, n_gExp k (by omega) (by omega), Option.bind_some, n_gExp k (pow_b k _ _).1 (pow_b k _ _).2, Option.bind_some, key_pow k hr, (mul_b k (pow_b k _ _) (pow_b k _ _)).1, Option.bind_some, powG_add k hm hr]
 rfl
def eqS (e : EqualLog) : Prop := (0 ≤ e.G1 ∧ e.G1 ≤ 2000000000) ∧ (0 ≤ e.Y1 ∧ e.Y1 ≤ 2000000000) ∧ (0 ≤ e.G2 ∧ e.G2 ≤ 2000000000) ∧ (0 ≤ e.Y2 ∧ e.Y2 ≤ 2000000000)
theorem n_bStatements {gr : Group} (k : OkG gr) {key : Int} {c : Cipher} (hk : 0 ≤ key ∧ key ≤ 2000000000) (ha : 0 ≤ c.A ∧ c.A ≤ 2000000000) (hb : 0 ≤ c.B ∧ c.B ≤ 2000000000) {lo hi : Int} (h0 : 0 ≤ lo ∧ lo ≤ hi) (h1 : hi ≤ 1000) : Rn (F_spec_bStatements gr key c lo hi) (fun l => (l.length : Int) = hi - lo + 1 ∧ ∀ e ∈ l, eqS e) := by
 have hp := k.p
 have hg := k.g
 unfold F_spec_bStatements
 refine rn_then (ψ := fun l => (l.length : Int) = hi - lo + 1 ∧ ∀ e ∈ l, eqS e) (rn_wloop (fun s => (s.2 = lo + s.1.length ∧ s.2 ≤ hi + 1) ∧ ∀ e ∈ s.1, eqS e) (fun s => (hi + 1 - s.2).toNat) ⟨⟨by simp, by show lo ≤ hi + 1; omega⟩, fun e he => by simp at he⟩ ?_) fun l hl => rn_some hl
 rintro ⟨s, j⟩ ⟨⟨s1, s2⟩, s3⟩
 simp only at s1 s2 s3
 refine rn_if (fun g => ?_) fun g => rn_some ⟨?_, s3⟩
 ·have g : j ≤ hi := of_decide_eq_true g
  have hm := mul_b k hb (pow_b k gr.G (IntKind.i64.wrap (0 - j)))
  refine rn_call (n_gExp k (by omega) (by omega) _) (rn_call hm.1 (rn_gd (by dsimp only; omega) (rn_some ?_)))
  have ew : IntKind.i64.wrap (j + 1) = j + 1 := wr64 (by omega) (by omega)
  rw [ew]
  refine ⟨⟨⟨by show j + 1 = lo + ((s ++ [_]).length : Int); rw [List.length_append]; simp; omega, by show j + 1 ≤ hi + 1; omega⟩, fun e he => ?_⟩, by show (hi + 1 - (j + 1)).toNat < (hi + 1 - j).toNat; omega⟩
  rcases List.mem_append.1 (show e ∈ s ++ [_] from he) with he | he
  ·exact s3 e he
  ·rw [List.mem_singleton.1 he]
   exact ⟨by show 0 ≤ gr.G ∧ gr.G ≤ 2000000000; omega, ha, hk, hm.2⟩
 ·have g : ¬ j ≤ hi := of_decide_eq_false g
  show (s.length : Int) = _
  omega
theorem n_sJoint {gr : Group} (k : OkG gr) {s : ByteArray} (hs : s.size ≤ 1000) {l : List EqualLog} {m : List Int} (hl : ∀ e ∈ l, eqS e) (hn : l.length ≤ 1000) (hm : m.all digB = true) (hm2 : m.length ≤ 10000) : Rn (F_spec_sJoint gr s l m) (fun v => 0 ≤ v ∧ v < gr.Q) := by
 unfold F_spec_sJoint
 refine rn_then (ψ := fun x => x.length = 4 * l.length ∧ x.all digB = true) (rn_rloop (fun i x => x.length = 4 * i ∧ x.all digB = true) ⟨rfl, rfl⟩ ?_ fun _ h => h) fun x ⟨x1, x2⟩ => ?_
 ·rintro i x hi ⟨h1, h2⟩
  obtain ⟨e1, e2, e3, e4⟩ := hl _ (List.getElem_mem hi)
  refine rn_ix hi (rn_gd (by omega) (rn_some ⟨?_, ?_⟩))
  ·show (x ++ [_, _, _, _]).length = 4 * (i + 1)
   rw [List.length_append]; simp; omega
  ·show (x ++ [_, _, _, _]).all digB = true
   rw [List.all_append, h2]
   simp only [List.all_cons, List.all_nil, Bool.and_true, Bool.true_and, Bool.and_eq_true, digB_t]
   omega
 ·refine rn_gd (by omega) (rn_call (n_hChallenge k (by omega) (by rw [List.length_append]; omega) (by rw [List.all_append, x2, hm]; rfl)) (rn_some (chG_bd k _ _)))
theorem all_takeE {p : Int → Bool} {l : List Int} (h : l.all p = true) (n : Nat) : (l.take n).all p = true := by
 rw [List.all_eq_true] at h ⊢
 exact fun x hx => h x (List.mem_of_mem_take hx)
theorem all_dropE {p : Int → Bool} {l : List Int} (h : l.all p = true) (n : Nat) : (l.drop n).all p = true := by
 rw [List.all_eq_true] at h ⊢
 exact fun x hx => h x (List.mem_of_mem_drop hx)
theorem exp_at {gr : Group} {l : List Int} (h : l.all (expB gr) = true) {i : Nat} (hi : i < l.length) : 0 ≤ l[i] ∧ l[i] ≤ gr.Q - 1 := by
 have := List.all_eq_true.1 h _ (List.getElem_mem hi)
 simpa [expB] using this
theorem n_sOneOf {gr : Group} (k : OkG gr) {s : ByteArray} (hs : s.size ≤ 1000) {l : List EqualLog} {m : Nat} {x : Int} {coins : List Int} (hl : ∀ e ∈ l, eqS e) (hn : l.length ≤ 1000) (hm : m < l.length) (hx : 0 ≤ x ∧ x ≤ gr.Q) (hc : coins.all (expB gr) = true) (hcl : coins.length = 2 * (l.length - 1) + 1) : Rn (F_spec_sOneOf gr s l (m : Int) x coins) (fun _ => True) := by
 have hq := k.q
 have hp := k.p
 unfold F_spec_sOneOf
 rw [wr64 (n := (coins.length : Int) - 1) (by omega) (by omega), show (coins.length : Int) - 1 = ((coins.length - 1 : Nat) : Int) by omega]
 refine rn_ix (by omega) ?_
 have hw := exp_at hc (show coins.length - 1 < coins.length by omega)
 generalize coins[coins.length - 1] = w at hw ⊢
 refine rn_then (ψ := fun v => (v.1.length ≤ 2 * l.length ∧ v.1.all digB = true) ∧ v.2.1.length = l.length ∧ v.2.2.1.length = l.length ∧ 0 ≤ v.2.2.2 ∧ v.2.2.2 ≤ gr.Q) (rn_rloop (fun i s => (s.1.length = 2 * (l.length - 1) + 1 - 2 * (if i ≤ m then i else i - 1) ∧ s.1.all (expB gr) = true) ∧ (s.2.1.length ≤ 2 * i ∧ s.2.1.all digB = true) ∧ s.2.2.1.length = i ∧ s.2.2.2.1.length = i ∧ 0 ≤ s.2.2.2.2 ∧ s.2.2.2.2 ≤ gr.Q) ⟨⟨by simpa using hcl, hc⟩, ⟨by simp, rfl⟩, rfl, rfl, by simp, by show 0 ≤ gr.Q; omega⟩ ?_ ?_) ?_
 ·rintro i s hi ⟨⟨s1, s2⟩, ⟨s3, s4⟩, s5, s6, s7⟩
  refine rn_then (ψ := fun s => (s.1.length = 2 * (l.length - 1) + 1 - 2 * (if i + 1 ≤ m then i + 1 else i + 1 - 1) ∧ s.1.all (expB gr) = true) ∧ (s.2.1.length ≤ 2 * (i + 1) ∧ s.2.1.all digB = true) ∧ s.2.2.1.length = i + 1 ∧ s.2.2.2.1.length = i + 1 ∧ 0 ≤ s.2.2.2.2 ∧ s.2.2.2.2 ≤ gr.Q) (rn_ix hi ?_) fun v hv => rn_some (by exact hv)
  obtain ⟨e1, e2, e3, e4⟩ := hl _ (List.getElem_mem hi)
  generalize l[i] = e at e1 e2 e3 e4 ⊢
  refine rn_if (fun g => ?_) fun g => ?_
  ·have g : (i : Int) = (m : Int) := eq_of_beq g
   obtain rfl : i = m := by omega
   refine rn_call (n_gExp k e1.1 e1.2 _) (rn_call (n_gExp k e3.1 e3.2 _) (rn_gd (by omega) (rn_gd (by omega) (rn_gd (by omega) (rn_some ⟨⟨?_, s2⟩, ⟨?_, ?_⟩, ?_, ?_, s7⟩)))))
   ·show s.1.length = _
    rw [s1, if_pos (Nat.le_refl _), if_neg (by omega)]; rfl
   ·show (s.2.1 ++ [_, _]).length ≤ _
    rw [List.length_append]; simp; omega
   ·show (s.2.1 ++ [_, _]).all digB = true
    have b1 := pow_b k e.G1 w
    have b2 := pow_b k e.G2 w
    rw [List.all_append, s4]
    simp only [List.all_cons, List.all_nil, Bool.and_true, Bool.true_and, Bool.and_eq_true, digB_t]
    omega
   ·show (s.2.2.1 ++ [_]).length = _
    rw [List.length_append, s5]; rfl
   ·show (s.2.2.2.1 ++ [_]).length = _
    rw [List.length_append, s6]; rfl
  ·have g : ¬ (i : Int) = (m : Int) := by simpa using g
   have hlen : 2 < s.1.length := by
    rw [s1]; split <;> omega
   refine rn_ix (k := 0) (by omega) (rn_ix (k := 1) (by omega) (rn_gd (by omega) ?_))
   have c0 := exp_at s2 (show 0 < s.1.length by omega)
   have c1 := exp_at s2 (show 1 < s.1.length by omega)
   generalize s.1[0] = a at c0 ⊢
   generalize s.1[1] = b at c1 ⊢
   have m1 := mul_b k (pow_b k e.G1 b) (pow_b k e.Y1 (IntKind.i64.wrap (0 - a)))
   have m2 := mul_b k (pow_b k e.G2 b) (pow_b k e.Y2 (IntKind.i64.wrap (0 - a)))
   refine rn_call (n_gExp k e1.1 e1.2 _) (rn_call (n_gExp k e2.1 e2.2 _) (rn_call m1.1 (rn_call (n_gExp k e3.1 e3.2 _) (rn_call (n_gExp k e4.1 e4.2 _) (rn_call m2.1 (rn_gd (by omega) (rn_gd (by omega) (rn_gd (by omega) (rn_gd (by omega) (rn_some ⟨⟨?_, ?_⟩, ⟨?_, ?_⟩, ?_, ?_, ?_⟩))))))))))
   ·show ((s.1.take s.1.length).drop 2).length = _
    rw [List.length_drop, List.length_take, s1]
    split <;> split <;> omega
   ·exact all_dropE (all_takeE s2 _) 2
   ·show (s.2.1 ++ [_, _]).length ≤ _
    rw [List.length_append]; simp; omega
   ·show (s.2.1 ++ [_, _]).all digB = true
    rw [List.all_append, s4]
    simp only [List.all_cons, List.all_nil, Bool.and_true, Bool.true_and, Bool.and_eq_true, digB_t]
    omega
   ·show (s.2.2.1 ++ [_]).length = _
    rw [List.length_append, s5]; rfl
   ·show (s.2.2.2.1 ++ [_]).length = _
    rw [List.length_append, s6]; rfl
   ·show 0 ≤ (IntKind.i64.wrap (s.2.2.2.2 + a)).tmod gr.Q ∧ (IntKind.i64.wrap (s.2.2.2.2 + a)).tmod gr.Q ≤ gr.Q
    rw [wr64 (n := s.2.2.2.2 + a) (by omega) (by omega), Int.tmod_eq_emod_of_nonneg (by omega)]
    exact ⟨Int.emod_nonneg _ (by omega), Int.le_of_lt (Int.emod_lt_of_pos _ (by omega))⟩
 ·rintro s ⟨_, ⟨s3, s4⟩, s5, s6, s7⟩
  exact ⟨⟨s3, s4⟩, s5, s6, s7⟩
 ·rintro v ⟨⟨v1, v2⟩, v3, v4, v5⟩
  refine rn_then (n_sJoint k hs hl hn v2 (by omega)) fun c hc => ?_
  refine rn_call (n_nMod (by omega) (by omega)) (rn_ix (by omega) (rn_gd (by omega) (rn_ix (by omega) (rn_some trivial))))
theorem n_sProve1 {gr : Group} (k : Gb gr) {s : ByteArray} (hs : s.size ≤ 1000) {x w : Int} (hx : 0 ≤ x ∧ x ≤ 2100000000) (hw : 0 ≤ w ∧ w ≤ 2100000000) : Rn (F_spec_sProve gr s [[gr.G]] [x] [w]) (fun _ => True) := by
 have hq := k.q
 have hc : F_spec_hChallenge gr s ([[gr.G]].flatten ++ [powG gr gr.G x] ++ [powG gr gr.G w]) = some (sgnE gr s x w) := by
  unfold F_spec_hChallenge
  rw [gd_t (by simp), n_hLabelled (by omega) (by simp) (dig_3 k x w), Option.bind_some, gd_t (by omega), Int.tmod_eq_emod_of_nonneg (digB_t.1 (hshL_dig s _)).1]; rfl
 unfold F_spec_sProve
 rw [n_images1 k, n_images1 k, Option.bind_some, Option.bind_some, n_stmt (by simp) (by simp) (by simp), Option.bind_some, hc, Option.bind_some]
 refine rn_then (ψ := fun _ => True) (rn_rloop (fun i s => s.2.2.length ≤ i) (by simp) ?_ fun _ _ => trivial) fun _ _ => rn_some trivial
 rintro i s hi h
 have hi : i < 1 := hi
 obtain rfl : i = 0 := by omega
 have h : s.2.2.length ≤ 0 := h
 exact rn_ix (l := [x]) (by simp) (rn_ix (l := [w]) (by simp) (rn_gd (by omega) (rn_gd (by omega) (rn_some (by show (s.2.2 ++ [_]).length ≤ 1; rw [List.length_append]; exact Nat.add_le_add h (Nat.le_refl 1))))))
def exsV (ct : Contest) (v : List Int) : List Int := if formV ct = true then digV ct v else [codV ct v]
theorem marks_sum2 {n : Nat} {v : List Int} (hn : v.Nodup) (hv : v.all (inB 0 ((n : Int) - 1)) = true) : (marks n v).sum = v.length := by
 have h1 := marks_sum n v
 have e : ∀ l : List Nat, (l.map fun (i : Nat) => if v.contains (i : Int) = true then (1 : Int) else 0).sum = ((List.filter (fun (i : Nat) => v.contains (i : Int)) l).length : Int) := by
  intro l
  induction l with
  | nil => rfl
  | cons i l ih =>
   rw [List.map_cons, List.sum_cons, ih, List.filter_cons]
   cases v.contains (i : Int) <;> simp <;> omega
 have h2 := nd_len (v := (List.filter (fun (i : Nat) => v.contains (i : Int)) (List.range n)).map fun (i : Nat) => (i : Int)) hn fun x hx => by
  have hb := inB_t.1 (List.all_eq_true.1 hv x hx)
  refine List.mem_map.2 ⟨x.toNat, List.mem_filter.2 ⟨List.mem_range.2 (by omega), ?_⟩, by omega⟩
  rw [show ((x.toNat : Nat) : Int) = x by omega]
  simpa using hx
 rw [List.length_map] at h2
 unfold marks at h1 ⊢
 rw [e] at h1 ⊢
 omega
theorem n_vExps {ct : Contest} (k : OkC ct) {v : List Int} (hv : voteB ct v = true) : F_spec_vExps ct v = some (exsV ct v) := by
 have hc := (n_codV k hv).1
 unfold F_spec_vExps exsV formV
 unfold voteB at hv
 rcases k.k with ⟨k1 | k3, ho, hm, hp⟩ | ⟨k2, ho, hp, hm⟩ | ⟨k4, ho, hm, hp⟩
 ·simp only [k1, if_true, Bool.and_eq_true] at hv ⊢
  rw [if_pos (show ((1 : Int) == 1) = true from rfl), n_vMarks (by omega) hv.1.1]
  show some (marks ct.Options.toNat v) = some (digV ct v)
  unfold digV
  rw [if_pos k1]
 ·rw [hc, k3]; rfl
 ·simp only [k2, show ¬ (2 : Int) = 1 by omega, if_false, if_true, Bool.and_eq_true, decide_eq_true_eq] at hv
  rw [k2]
  unfold digV
  rw [if_neg (show ¬ ct.Kind = 1 by omega), if_neg (show ¬ ct.Kind = 3 by omega)]
  simp only [show ((2 : Int) == 1) = false from rfl, show ((2 : Int) == 2) = true from rfl, Bool.false_eq_true, if_false, if_true, n_l1Own (l := v) (by omega)]
  rfl
 ·rw [hc, k4]; rfl
theorem form_v {ct : Contest} (k : OkC ct) {v : List Int} (hf : formV ct = true) (hv : voteB ct v = true) : ((digV ct v).length : Int) = ct.Options ∧ (digV ct v).all (inB 0 (topV ct)) = true ∧ (ct.Least ≤ (digV ct v).sum ∧ (digV ct v).sum ≤ ct.Most) ∧ basV ct = topV ct + 1 := by
 unfold formV at hf
 unfold voteB at hv
 unfold digV topV basV
 rcases k.k with ⟨k1 | k3, ho, hm, hp⟩ | ⟨k2, ho, hp, hm⟩ | ⟨k4, ho, hm, hp⟩
 ·rw [if_pos k1] at hv
  simp only [Bool.and_eq_true] at hv
  have hl := inB_t.1 hv.2
  have hs := marks_sum2 (n := ct.Options.toNat) (v := v) (of_decide_eq_true (show decide v.Nodup = true from hv.1.2.2)) (by rw [show ((ct.Options.toNat : Nat) : Int) - 1 = ct.Options - 1 by omega]; exact hv.1.1)
  rw [if_pos k1, if_pos k1, if_pos k1]
  exact ⟨by rw [marks_len]; omega, marks_all _ _, by omega, rfl⟩
 ·rw [k3] at hf; cases hf
 ·rw [if_neg (show ¬ ct.Kind = 1 by omega), if_pos k2] at hv
  simp only [Bool.and_eq_true, decide_eq_true_eq] at hv
  have hl := inB_t.1 hv.2.2
  rw [if_neg (show ¬ ct.Kind = 1 by omega), if_neg (show ¬ ct.Kind = 3 by omega), if_neg (show ¬ ct.Kind = 1 by omega), if_neg (show ¬ ct.Kind = 1 by omega), if_pos k2]
  exact ⟨hv.1, hv.2.1, hl, rfl⟩
 ·rw [k4] at hf; cases hf
theorem n_eMul {gr : Group} (k : OkG gr) {l : List Cipher} (hl : ∀ c ∈ l, (0 ≤ c.A ∧ c.A ≤ 2000000000) ∧ (0 ≤ c.B ∧ c.B ≤ 2000000000)) : Rn (F_spec_eMul gr l) (fun c => (0 ≤ c.A ∧ c.A ≤ 2000000000) ∧ (0 ≤ c.B ∧ c.B ≤ 2000000000)) := by
 unfold F_spec_eMul
 refine rn_then (ψ := fun v => (0 ≤ v.1 ∧ v.1 ≤ 2000000000) ∧ (0 ≤ v.2 ∧ v.2 ≤ 2000000000)) (rn_rloop (fun _ s => (0 ≤ s.1 ∧ s.1 ≤ 2000000000) ∧ (0 ≤ s.2 ∧ s.2 ≤ 2000000000)) (by simp) ?_ fun _ h => h) fun v hv => rn_some hv
 rintro i s hi ⟨h1, h2⟩
 obtain ⟨c1, c2⟩ := hl _ (List.getElem_mem hi)
 have m1 := mul_b k h1 c1
 have m2 := mul_b k h2 c2
 exact rn_ix hi (rn_call m1.1 (rn_call m2.1 (rn_some ⟨m1.2, m2.2⟩)))
theorem cE_b {gr : Group} (k : OkG gr) (m r : Int) : (0 ≤ (cE gr m r).A ∧ (cE gr m r).A ≤ 2000000000) ∧ (0 ≤ (cE gr m r).B ∧ (cE gr m r).B ≤ 2000000000) := ⟨pow_b k _ _, pow_b k _ _⟩
theorem n_bSeal {gr : Group} (k : OkG gr) {ct : Contest} (c : OkC ct) {voter : Int} {v coins : List Int} (h0 : 0 ≤ voter ∧ voter ≤ 999999) (hv : voteB ct v = true) (hl : (coins.length : Int) = coiV ct) (hc : coins.all (expB gr) = true) :
 Rn (F_spec_bSeal gr (powG gr gr.G 1) ct voter v coins) (fun x => ∃ rs : List Int, rs.length = (exsV ct v).length ∧ (∀ r ∈ rs, 0 ≤ r ∧ r ≤ gr.Q) ∧ x.Ciphers = List.zipWith (cE gr) (exsV ct v) rs) := by
 have hq := k.q
 have hp := k.p
 have hkey := pow_b k gr.G 1
 unfold F_spec_bSeal
 refine rn_then (n_bLabel h0.1 h0.2) fun lb hlb => rn_call (n_bRows ct) ?_
 rw [show (ct.Kind == 1 || ct.Kind == 2) = formV ct from rfl]
 have hex := n_vExps c hv
 unfold coiV at hl
 unfold exsV at hex ⊢
 cases hf : formV ct with
 | false =>
  rw [hf] at hl hex
  simp only [Bool.false_eq_true, if_false] at hl hex ⊢
  have hcv : 0 ≤ codV ct v := by
   obtain ⟨n, _, h⟩ := n_great c
   exact (h v hv).1
  match coins, hl, hc with
  | [x, w], _, hc =>
   simp only [List.all_cons, List.all_nil, Bool.and_true, Bool.and_eq_true, expB, decide_eq_true_eq] at hc
   refine rn_t rfl (rn_call (a := x) rfl (rn_call (n_codV c hv).1 (rn_call (n_bExp k hcv hc.1.1) (rn_gd (by omega) (rn_gd (by simp) (rn_gd (by simp) (rn_then (n_sProve1 (OkG.gb k) (x := x) (w := w) (by omega) (by omega) (by omega)) fun p _ => rn_gd (by omega) (rn_some ⟨[x], rfl, fun r hr => ?_, rfl⟩))))))))
   rw [List.mem_singleton.1 hr]; omega
  | [], hl, _ => simp at hl
  | [_], hl, _ => simp at hl
  | _ :: _ :: _ :: _, hl, _ => simp at hl; omega
 | true =>
  rw [hf] at hl hex
  simp only [if_true] at hl hex ⊢
  obtain ⟨b1, b2, b3, b4⟩ := form_bd c hf
  obtain ⟨d1, d2, d3, _⟩ := form_v c hf hv
  generalize digV ct v = ds at d1 d2 d3 hex ⊢
  generalize hP : topV ct = p at *
  have hlo : ct.Most ≤ 40 := by
   have : ct.Options * p ≤ 8 * 5 := Int.mul_le_mul b1.2 b2.2 (by omega) (by omega)
   omega
  have w1 : IntKind.i64.wrap (2 * p) = 2 * p := wr64 (by omega) (by omega)
  have w2 : IntKind.i64.wrap (2 * p + 2) = 2 * p + 2 := wr64 (by omega) (by omega)
  obtain ⟨q, rfl⟩ : ∃ q : Nat, p = (q : Int) := ⟨p.toNat, by omega⟩
  have hbt : F_spec_bTop ct = some (q : Int) := by rw [n_bTop, hP]
  rw [hbt]
  refine rn_f rfl (rn_call rfl (rn_call hex ?_))
  rw [w1, w2, show (2 * (q : Int) + 2).toNat = 2 * q + 2 by omega]
  generalize hT : 2 * q + 2 = T
  have hTl : (coins.length : Int) = ((ds.length * T : Nat) : Int) + 2 * (ct.Most - ct.Least) + 1 := by
   rw [hl, ← d1, ← hT]; push_cast; rfl
  refine rn_then (ψ := fun x => (x.1.length : Int) = 2 * (ct.Most - ct.Least) + 1 ∧ x.1.all (expB gr) = true ∧ (∃ rs : List Int, rs.length = ds.length ∧ (∀ r ∈ rs, 0 ≤ r ∧ r ≤ gr.Q) ∧ x.2.2.1 = List.zipWith (cE gr) ds rs) ∧ x.2.2.2.2.2.2.2.1 = ds.sum ∧ 0 ≤ x.2.2.2.2.2.2.2.2 ∧ x.2.2.2.2.2.2.2.2 ≤ gr.Q)
   (rn_rloop (fun i s => ((s.1.length : Int) = (((ds.length - i) * T : Nat) : Int) + 2 * (ct.Most - ct.Least) + 1 ∧ s.1.all (expB gr) = true) ∧ (∃ rs : List Int, rs.length = i ∧ (∀ r ∈ rs, 0 ≤ r ∧ r ≤ gr.Q) ∧ s.2.2.1 = List.zipWith (cE gr) (ds.take i) rs) ∧ s.2.2.2.1.length ≤ i ∧ s.2.2.2.2.2.2.2.1 = (ds.take i).sum ∧ 0 ≤ s.2.2.2.2.2.2.2.2 ∧ s.2.2.2.2.2.2.2.2 ≤ gr.Q)
     ⟨⟨by simpa using hTl, hc⟩, ⟨[], rfl, fun r hr => by simp at hr, by simp⟩, by simp, by simp, by simp, by show 0 ≤ gr.Q; omega⟩ ?_ ?_) ?_
  ·rintro i s hi ⟨⟨s1, s2⟩, ⟨rs, r1, r2, r3⟩, s4, s5, s6⟩
   have hsT : (ds.length - i) * T = (ds.length - (i + 1)) * T + T := by
    rw [show ds.length - i = (ds.length - (i + 1)) + 1 by omega, Nat.add_mul, Nat.one_mul]
   have hm := inB_t.1 (List.all_eq_true.1 d2 _ (List.getElem_mem hi))
   have hlen : T < s.1.length := by omega
   have hcl : s.2.2.1.length = i := by rw [r3, List.length_zipWith, List.length_take]; omega
   have hx := exp_at s2 (show 0 < s.1.length by omega)
   have hsum : 0 ≤ (ds.take i).sum ∧ (ds.take i).sum ≤ 1000 := by
    have h1 := sumB_bd (all_take (all_mono (a' := 0) (b' := 5) (Int.le_refl 0) (by omega) d2) i)
    have h2 : (ds.take i).length ≤ 8 := by rw [List.length_take]; omega
    omega
   refine rn_ix hi (rn_ix (k := 0) (by omega) ?_)
   have hst : (ds.take (i + 1)).sum = (ds.take i).sum + ds[i] := by
    rw [List.take_succ_eq_append_getElem hi, List.sum_append]; simp
   have hzt : ds.take (i + 1) = ds.take i ++ [ds[i]] := List.take_succ_eq_append_getElem hi
   generalize ds[i] = m at hm hst hzt ⊢
   generalize s.1[0] = x at hx ⊢
   obtain ⟨mn, rfl⟩ := Int.eq_ofNat_of_zero_le hm.1
   have hcb := cE_b k (mn : Int) x
   refine rn_call (n_bExp k hm.1 hx.1) (rn_gd (by omega) (rn_gd (by omega) (rn_gd (by omega) (rn_then (n_bStatements k hkey hcb.1 hcb.2 (lo := 0) (hi := (q : Int)) (by omega) (by omega)) fun st ⟨t1, t2⟩ => ?_))))
   refine rn_then (n_sOneOf k (by omega) t2 (by omega) (m := mn) (by omega) (by omega) (all_dropE (all_takeE s2 T) 1) (by rw [List.length_drop, List.length_take]; omega)) fun pr _ => ?_
   refine rn_gd (by omega) (rn_gd (by omega) (rn_gd (by omega) (rn_gd (by omega) (rn_some ⟨⟨?_, all_dropE (all_takeE s2 _) T⟩, ⟨rs ++ [x], by rw [List.length_append, r1]; rfl, fun r hr => ?_, ?_⟩, ?_, ?_, ?_⟩))))
   ·show (((s.1.take s.1.length).drop T).length : Int) = _
    rw [List.length_drop, List.length_take]
    omega
   ·rcases List.mem_append.1 hr with hr | hr
    ·exact r2 r hr
    ·rw [List.mem_singleton.1 hr]; omega
   ·show s.2.2.1 ++ [_] = _
    rw [hzt, List.zipWith_append (by rw [List.length_take, r1]; omega), r3]; rfl
   ·show (s.2.2.2.1 ++ [_]).length ≤ i + 1
    rw [List.length_append]; simp; omega
   ·show IntKind.i64.wrap (s.2.2.2.2.2.2.2.1 + (mn : Int)) = _
    rw [s5, wr64 (by omega) (by omega), hst]
   ·show 0 ≤ (IntKind.i64.wrap (s.2.2.2.2.2.2.2.2 + x)).tmod gr.Q ∧ (IntKind.i64.wrap (s.2.2.2.2.2.2.2.2 + x)).tmod gr.Q ≤ gr.Q
    rw [wr64 (n := s.2.2.2.2.2.2.2.2 + x) (by omega) (by omega), Int.tmod_eq_emod_of_nonneg (by omega)]
    exact ⟨Int.emod_nonneg _ (by omega), Int.le_of_lt (Int.emod_lt_of_pos _ (by omega))⟩
  ·rintro s ⟨⟨s1, s2⟩, ⟨rs, r1, r2, r3⟩, _, s5, s6⟩
   rw [List.take_length] at r3 s5
   rw [Nat.sub_self, Nat.zero_mul] at s1
   exact ⟨by show (s.1.length : Int) = _; omega, s2, ⟨rs, r1, r2, r3⟩, s5, s6⟩
  ·rintro x ⟨x1, x2, ⟨rs, r1, r2, r3⟩, x4, x5⟩
   have hcs : ∀ c ∈ x.2.2.1, (0 ≤ c.A ∧ c.A ≤ 2000000000) ∧ (0 ≤ c.B ∧ c.B ≤ 2000000000) := fun c hc => by
    rw [r3] at hc
    obtain ⟨i, hi, rfl⟩ := List.getElem_of_mem hc
    rw [List.getElem_zipWith]
    exact cE_b k _ _
   refine rn_then (n_eMul k hcs) fun e he => rn_then (n_bStatements k hkey he.1 he.2 (lo := ct.Least) (hi := ct.Most) b4 (by omega)) fun st ⟨t1, t2⟩ => ?_
   rw [x4, wr64 (n := ds.sum - ct.Least) (by omega) (by omega)]
   obtain ⟨j, hj⟩ : ∃ j : Nat, ds.sum - ct.Least = (j : Int) := ⟨(ds.sum - ct.Least).toNat, by omega⟩
   rw [hj]
   exact rn_then (n_sOneOf k (by omega) t2 (by omega) (m := j) (by omega) x5 x2 (by omega)) fun pr _ => rn_some ⟨rs, r1, r2, r3⟩
theorem emod_cg {q a b c : Int} (h : a % q = b % q) : (c * a) % q = (c * b) % q := by
 rw [Int.mul_emod, h, ← Int.mul_emod]
theorem n_cMul {gr : Group} (k : OkG gr) {a b c d : Int} (ha : 0 ≤ a) (hb : 0 ≤ b) (hc : 0 ≤ c) (hd : 0 ≤ d) : F_impl_Group_mulTwo gr ⟨powG gr gr.G a, powG gr gr.G b⟩ ⟨powG gr gr.G c, powG gr gr.G d⟩ = some ⟨powG gr gr.G (a + c), powG gr gr.G (b + d)⟩ := by
 unfold F_impl_Group_mulTwo
 rw [n_mul k (two_b (pow_b k _ _) (pow_b k _ _)), Option.bind_some, n_mul k (two_b (pow_b k _ _) (pow_b k _ _)), Option.bind_some, powG_add k ha hc, powG_add k hb hd]
theorem n_cPow {gr : Group} (k : OkG gr) {a b e : Int} (ha : 0 ≤ a) (hb : 0 ≤ b) (he : 0 ≤ e) : F_impl_Group_powCipher gr ⟨powG gr gr.G a, powG gr gr.G b⟩ e = some ⟨powG gr gr.G (a * e), powG gr gr.G (b * e)⟩ := by
 unfold F_impl_Group_powCipher
 rw [(n_pow k (pow_b k _ _).1 (pow_b k _ _).2 e).1, Option.bind_some, (n_pow k (pow_b k _ _).1 (pow_b k _ _).2 e).1, Option.bind_some, powG_mul k (gen_has k) ha he, powG_mul k (gen_has k) hb he]
theorem n_most {ct : Contest} (h : formV ct = true ∨ ct.Kind ≠ 2) : F_impl_Contest_most ct = some (if formV ct = true then topV ct else 1) := by
 unfold F_impl_Contest_most formV topV
 by_cases h2 : ct.Kind = 2
 ·rw [h2]; rfl
 ·rw [if_neg (by simpa using h2)]
  by_cases h1 : ct.Kind = 1
  ·rw [h1]; rfl
  ·have e1 : (ct.Kind == 1) = false := beq_false_of_ne h1
   have e2 : (ct.Kind == 2) = false := beq_false_of_ne h2
   rw [e1, e2]; rfl
theorem n_mixP {gr : Group} (k : OkG gr) {ct : Contest} {b : Int} (hb : 1 ≤ b ∧ b ≤ 10) (hm : F_impl_Contest_most ct = some (b - 1)) {ds rs : List Int} (hd : ∀ d ∈ ds, 0 ≤ d) (hr : ∀ r ∈ rs, 0 ≤ r) (hl : rs.length = ds.length) :
 Rn (rloop (σ := Int × Int × Int) (fun i26 s25 =>
 (ix (List.zipWith (cE gr) ds rs) i26).bind fun x32 =>
 (F_impl_Group_powCipher gr x32 s25.2.2).bind fun z33 =>
 (F_impl_Group_mulTwo gr (Cipher.mk s25.1 s25.2.1) z33).bind fun z34 =>
 (F_impl_Contest_most ct).bind fun z35 =>
 (F_impl_Group_exp gr (IntKind.i64.wrap (s25.2.2 * (IntKind.i64.wrap (z35 + 1))))).bind fun z36 =>
 some (.go (z34.A, z34.B, z36))) (fun s25 => (s25.1, s25.2.1)) ((List.zipWith (cE gr) ds rs).length) 0 (1, 1, 1) : Option ((Int × Int))) (fun x => ∃ a, 0 ≤ a ∧ x = (powG gr gr.G a, powG gr gr.G (num b ds + a))) := by
 have hq := k.q
 have hp := k.p
 have hn0 : ∀ {l : List Int}, (∀ d ∈ l, 0 ≤ d) → 0 ≤ num b l := fun {l} => by
  induction l with
  | nil => intro _; exact Int.le_refl 0
  | cons x l ih =>
   intro h
   have h1 := ih fun d hd => h d (List.mem_cons_of_mem _ hd)
   have h2 := h x (by simp)
   have h3 := Int.mul_nonneg h1 (show 0 ≤ b by omega)
   show 0 ≤ num b l * b + x
   omega
 refine rn_rloop (fun i s => (∃ a, 0 ≤ a ∧ s.1 = powG gr gr.G a ∧ s.2.1 = powG gr gr.G (num b (ds.take i) + a)) ∧ (0 ≤ s.2.2 ∧ s.2.2 ≤ gr.Q) ∧ s.2.2 % gr.Q = b ^ i % gr.Q) ⟨⟨0, Int.le_refl 0, by rw [powG_zero k], by rw [List.take_zero]; exact (powG_zero k).symm⟩, by show 0 ≤ (1 : Int) ∧ (1 : Int) ≤ gr.Q; omega, by simp⟩ ?_ ?_
 ·rintro i ⟨A, B, e⟩ hi ⟨⟨a, a0, rfl, rfl⟩, ⟨e0, e1⟩, e2⟩
  simp only at e0 e1 e2
  have hi2 : i < ds.length ∧ i < rs.length := by
   rw [List.length_zipWith] at hi; omega
  have d0 := hd _ (List.getElem_mem hi2.1)
  have r0 := hr _ (List.getElem_mem hi2.2)
  have hnt := hn0 (l := ds.take i) fun d h => hd d (List.mem_of_mem_take h)
  refine rn_ix hi ?_
  rw [List.getElem_zipWith]
  have hnum : num b (ds.take (i + 1)) = num b (ds.take i) + ds[i] * b ^ i := by
   rw [List.take_succ_eq_append_getElem hi2.1, num_app, List.length_take, Nat.min_eq_left (by omega)]
  generalize ds[i] = d at d0 hnum ⊢
  generalize rs[i] = r at r0 ⊢
  have er : 0 ≤ r * e := Int.mul_nonneg r0 e0
  have ed : 0 ≤ (d + r) * e := Int.mul_nonneg (by omega) e0
  have eb : 0 ≤ e * b := Int.mul_nonneg e0 (by omega)
  have eb2 : e * b ≤ 2000000000 * 10 := Int.mul_le_mul (by omega) hb.2 (by omega) (by omega)
  refine rn_call (n_cPow k r0 (by omega) e0) (rn_call (n_cMul k a0 (by omega) er ed) (rn_call hm ?_))
  rw [show b - 1 + 1 = b by omega, wr64 (n := b) (by omega) (by omega), wr64 (n := e * b) (by omega) (by omega)]
  have hx : F_impl_Group_exp gr (e * b) = some (e * b % gr.Q) := by
   unfold F_impl_Group_exp
   rw [n_mod (by omega) (by omega)]; rfl
  refine rn_call hx (rn_some ⟨⟨a + r * e, by omega, rfl, ?_⟩, ⟨Int.emod_nonneg _ (by omega), Int.le_of_lt (Int.emod_lt_of_pos _ (by omega))⟩, ?_⟩)
  ·show powG gr gr.G (num b (ds.take i) + a + (d + r) * e) = powG gr gr.G (num b (ds.take (i + 1)) + (a + r * e))
   refine powG_cg _ ?_
   have h1 := emod_cg (c := d) e2
   rw [hnum, show num b (ds.take i) + a + (d + r) * e = (num b (ds.take i) + (a + r * e)) + d * e by grind, show num b (ds.take i) + d * b ^ i + (a + r * e) = (num b (ds.take i) + (a + r * e)) + d * b ^ i by grind, Int.add_emod, h1, ← Int.add_emod]
  ·show e * b % gr.Q % gr.Q = b ^ (i + 1) % gr.Q
   rw [Int.emod_emod_of_dvd _ (Int.dvd_refl _), Int.pow_succ, Int.mul_emod, e2, ← Int.mul_emod]
 ·rintro ⟨A, B, e⟩ ⟨⟨a, a0, rfl, rfl⟩, _⟩
  have : (List.zipWith (cE gr) ds rs).length = ds.length := by rw [List.length_zipWith]; omega
  rw [this, List.take_length]
  exact ⟨a, a0, rfl⟩
theorem n_decP {gr : Group} (k : OkG gr) {a c : Int} (ha : 0 ≤ a) (hc : 0 ≤ c) : F_spec_DecryptElement gr 1 ⟨powG gr gr.G a, powG gr gr.G (c + a)⟩ = some (powG gr gr.G c, true) := by
 have hq := k.q
 have hp := k.p
 have h1 : F_spec_eDec gr 1 ⟨powG gr gr.G a, powG gr gr.G (c + a)⟩ = some (powG gr gr.G c) := by
  unfold F_spec_eDec
  have e1 : powG gr (powG gr gr.G a) 1 = powG gr gr.G a := by rw [powG_mul k (gen_has k) ha (by omega), Int.mul_one]
  have e2 : powG gr (powG gr gr.G a) (-1) = powG gr gr.G (a * (gr.Q - 1)) := by
   rw [powG_cg (b := gr.Q - 1) _ (by rw [show gr.Q - 1 = -1 + gr.Q by omega, Int.add_emod_right]), powG_mul k (gen_has k) ha (by omega)]
  have hm : 0 ≤ a * (gr.Q - 1) := Int.mul_nonneg ha (by omega)
  rw [n_gExp k (pow_b k _ _).1 (pow_b k _ _).2, Option.bind_some, e1, n_gInv k (pow_b k _ _).1 (pow_b k _ _).2, Option.bind_some, e2, (mul_b k (pow_b k _ _) (pow_b k _ _)).1, Option.bind_some, powG_add k (by omega) hm]
  rw [powG_cg (b := c) _ (by rw [show c + a + a * (gr.Q - 1) = c + a * gr.Q by grind, Int.add_mul_emod_self_right])]
 have h2 : F_spec_gExps gr [1] = some true := by
  rw [n_gExps (by omega) (by omega)]
  simp [expB]; omega
 unfold F_spec_DecryptElement
 have hg : okG gr = true := okG_t.2 k
 simp only [n_l2Good, hg, n_eGood1 k, pow_has k ha, pow_has k (show 0 ≤ c + a by omega), h2, h1, Option.bind_some, Bool.and_true, Bool.not_true, Bool.false_eq_true, if_false]
theorem n_bGoodT {gr : Group} {ct : Contest} (h : F_spec_bGood gr ct = some true) : ∃ n, F_spec_bGreatest ct = some n ∧ n < gr.Q := by
 unfold F_spec_bGood at h
 rw [n_l2Good, n_vContest] at h
 cases h1 : okG gr with
 | false => rw [h1] at h; cases h
 | true =>
  cases h2 : okC ct with
  | false => rw [h1, h2] at h; cases h
  | true =>
   obtain ⟨n, e, _⟩ := n_great (okC_t.1 h2)
   refine ⟨n, e, Classical.byContradiction fun hn => ?_⟩
   rw [h1, h2, e] at h
   have hd : decide (gr.Q ≤ n) = true := decide_eq_true (by omega)
   simp only [Option.bind_some, Bool.not_true, Bool.false_eq_true, if_false, hd] at h
   by_cases c : decide (100000 < n) = true
   ·rw [if_pos c] at h
    simp at h
   ·rw [if_neg c] at h
    simp at h
theorem law19 (a b : List Int) (h0 : ∀ x ∈ a, 0 ≤ x ∧ x ≤ 255) (h1 : ∀ x ∈ b, 0 ≤ x ∧ x ≤ 255) (hl0 : a.length ≤ 1048576) (hl1 : b.length ≤ 1048576) : F_laws_FnMixCodes a b = some true := by
 unfold F_laws_FnMixCodes F_laws_big
 refine eq_of_rn (rn_then (ψ := fun _ => True) ?_ fun v _ => ?_)
 ·exact rn_then (ψ := fun _ => True) (rn_if (fun _ => rn_some trivial) fun _ => rn_some trivial) fun _ _ => rn_some trivial
 refine rn_if (fun _ => rn_some rfl) fun _ => ?_
 have d1 : Rn (F_spec_DrawSealVote a) (fun z => z.2.2.2.2.1.length ≤ 41) := by
  unfold F_spec_DrawSealVote
  exact rn_then (n_sealing ⟨h0, hl0⟩ (cu0 a) (by omega)) fun z hz => rn_some hz
 refine rn_then d1 fun z hz => ?_
 generalize z.1 = gr, z.2.2.1 = ct, z.2.2.2.1 = voter, z.2.2.2.2.2 = coins
 generalize z.2.2.2.2.1 = v at hz ⊢
 unfold F_spec_KeyOf
 rw [n_l2Good]
 cases hg : okG gr with
 | false =>
  refine rn_then (ψ := fun y => y.2 = false) (rn_call (a := true) rfl (rn_t rfl (rn_some rfl))) fun y hy => rn_t (by rw [hy]; rfl) (rn_some rfl)
 | true =>
  have k := okG_t.1 hg
  have hq := k.q
  have hp := k.p
  have hgg := k.g
  have e1 : F_spec_gExps gr [1] = some true := by
   rw [n_gExps (by omega) (by omega)]
   simp [expB]; omega
  refine rn_then (ψ := fun y => y = (powG gr gr.G 1, true)) ?_ ?_
  ·rw [e1]
   exact rn_call (a := false) rfl (rn_f rfl (rn_call (n_gExp k (by omega) (by omega) 1) (rn_some rfl)))
  rintro _ rfl
  refine rn_f rfl ?_
  obtain ⟨bs, s1, s2, s3⟩ := n_sealable gr ct
  cases hbs : bs with
  | false =>
   rw [hbs] at s1
   refine rn_then (ψ := fun y => y.2 = false) ?_ fun y hy => rn_t (by rw [hy]; rfl) (rn_some rfl)
   unfold F_spec_SealVote
   rw [s1]
   exact rn_call (a := true) rfl (rn_t rfl (rn_some rfl))
  | true =>
   obtain ⟨_, c⟩ := s3 hbs
   rw [hbs] at s1 s2
   obtain ⟨n, n1, n2⟩ := n_bGoodT s1
   obtain ⟨n', n3, n4⟩ := n_great c
   obtain rfl : n = n' := Option.some.inj (n1.symm.trans n3)
   refine rn_then (ψ := fun y => y.2 = false ∨ (y.2 = true ∧ voteB ct v = true ∧ ∃ rs : List Int, rs.length = (exsV ct v).length ∧ (∀ r ∈ rs, 0 ≤ r ∧ r ≤ gr.Q) ∧ y.1.Ciphers = List.zipWith (cE gr) (exsV ct v) rs)) ?_ fun y hy => ?_
   ·unfold F_spec_SealVote
    rw [s1]
    refine rn_then (ψ := fun t => t = false → (0 ≤ voter ∧ voter ≤ 999999) ∧ voteB ct v = true ∧ (coins.length : Int) = coiV ct ∧ coins.all (expB gr) = true) ?_ fun t ht => ?_
    ·refine rn_call rfl (rn_f rfl (rn_call (n_gIs k _) (rn_if (fun _ => rn_some fun e => by cases e) fun _ => ?_)))
     refine rn_call (n_inB _ _ _) (rn_if (fun _ => rn_some fun e => by cases e) fun g1 => ?_)
     refine rn_call (n_vVote c (by omega)) (rn_if (fun _ => rn_some fun e => by cases e) fun g2 => ?_)
     refine rn_call (n_bCoins c).1 (rn_if (fun _ => rn_some fun e => by cases e) fun g3 => ?_)
     exact rn_call (n_gExps (by omega) (by omega) coins) (rn_some fun g4 => ⟨inB_t.1 (by simpa using g1), by simpa using g2, by simpa using g3, by simpa using g4⟩)
    refine rn_if (fun _ => rn_some (.inl rfl)) fun g => ?_
    obtain ⟨k1, k2, k3, k4⟩ := ht g
    exact rn_then (n_bSeal k c k1 k2 k3 k4) fun x hx => rn_some (.inr ⟨rfl, k2, hx⟩)
   ·rcases hy with hy | ⟨hy, hv, rs, r1, r2, r3⟩
    ·exact rn_t (by rw [hy]; rfl) (rn_some rfl)
    ·refine rn_f (by rw [hy]; rfl) ?_
     obtain ⟨c0, c1⟩ := n4 v hv
     obtain ⟨m1, m2, m3⟩ := n_codV c hv
     have hds : (∀ d ∈ exsV ct v, 0 ≤ d) ∧ (exsV ct v).length ≤ 8 := by
      unfold exsV
      split
      ·exact ⟨fun d hd => (inB_t.1 (List.all_eq_true.1 m2 d hd)).1, m3⟩
      ·exact ⟨fun d hd => by rw [List.mem_singleton.1 hd]; exact c0, by simp⟩
     have hwid : F_impl_Contest_width ct = some ((exsV ct v).length : Int) := by
      unfold F_impl_Contest_width exsV
      rw [n_formI, show (ct.Kind == 1 || ct.Kind == 2) = formV ct from rfl]
      cases hf : formV ct with
      | true =>
       obtain ⟨d1, _⟩ := form_v c hf hv
       simp [d1]
      | false => rfl
     have hmost : ∃ bb : Int, (1 ≤ bb ∧ bb ≤ 10) ∧ F_impl_Contest_most ct = some (bb - 1) ∧ num bb (exsV ct v) = codV ct v := by
      cases hf : formV ct with
      | true =>
       obtain ⟨_, _, _, d4⟩ := form_v c hf hv
       obtain ⟨_, b2, _⟩ := form_bd c hf
       refine ⟨topV ct + 1, by omega, ?_, ?_⟩
       ·rw [n_most (.inl hf), hf, show topV ct + 1 - 1 = topV ct by omega]; rfl
       ·unfold exsV codV
        rw [hf, d4]; rfl
      | false =>
       have hk2 : ct.Kind ≠ 2 := fun e => by
        unfold formV at hf
        rw [e] at hf; cases hf
       refine ⟨2, by omega, ?_, ?_⟩
       ·rw [n_most (.inr hk2), hf]; rfl
       ·unfold exsV
        rw [hf]
        show 0 * 2 + codV ct v = codV ct v
        omega
     obtain ⟨bb, b1, b2, b3⟩ := hmost
     have hcl : (List.zipWith (cE gr) (exsV ct v) rs).length = (exsV ct v).length := by rw [List.length_zipWith]; omega
     have hmix : Rn (F_impl_MixCipher gr ct y.1) (fun w => w.2 = true ∧ ∃ e, 0 ≤ e ∧ w.1 = ⟨powG gr gr.G e, powG gr gr.G (codV ct v + e)⟩) := by
      unfold F_impl_MixCipher
      rw [r3, s2]
      have hh : (List.zipWith (cE gr) (exsV ct v) rs).all (hasC gr) = true := by
       rw [List.all_eq_true]
       intro x hx
       obtain ⟨i, hi, rfl⟩ := List.getElem_of_mem hx
       rw [List.length_zipWith] at hi
       rw [List.getElem_zipWith]
       have a1 := hds.1 _ (List.getElem_mem (show i < (exsV ct v).length by omega))
       have a2 := (r2 _ (List.getElem_mem (show i < rs.length by omega))).1
       show (hasB gr (powG gr gr.G _) && hasB gr (powG gr gr.G _)) = true
       rw [pow_has k a2, pow_has k (by omega)]; rfl
      refine rn_then (ψ := fun t => t = false) (rn_call rfl (rn_f rfl (rn_call hwid (rn_f (by rw [hcl]; simp) (rn_call (n_hasCiphers k _) (rn_some ?_)))))) ?_
      ·rw [hh, hcl, decide_eq_true (by omega)]; rfl
      ·rintro _ rfl
       refine rn_f rfl (rn_then (n_mixP k b1 b2 hds.1 (fun r hr => (r2 r hr).1) r1) fun x ⟨e, e0, ex⟩ => rn_some ⟨rfl, e, e0, ?_⟩)
       rw [ex, b3]
     refine rn_then hmix fun w ⟨w1, e, e0, w2⟩ => ?_
     have hco : F_spec_CodeOf ct v = some (codV ct v, true) := by
      unfold F_spec_CodeOf F_spec_vGood
      rw [n_vContest, okC_t.2 c]
      simp only [Option.bind_some, if_true, n_vVote c (show v.length ≤ 1048576 by omega), hv, Bool.not_true, Bool.false_eq_true, if_false, m1]
     have hex : F_spec_ExpOf gr gr.G (codV ct v) = some (powG gr gr.G (codV ct v), true) := by
      have e3 : F_spec_gExps gr [codV ct v] = some true := by
       rw [n_gExps (by omega) (by omega)]
       simp [expB]; omega
      unfold F_spec_ExpOf
      rw [n_l2Good, hg, n_gIs k, e3]
      simp only [List.all_cons, List.all_nil, gen_has k, Bool.and_true, Option.bind_some, Bool.not_true, Bool.false_eq_true, if_false]
      rw [n_gExp k (by omega) (by omega)]; rfl
     refine rn_call hco ?_
     rw [w2]
     refine rn_call (n_decP k e0 c0) (rn_call hex (rn_then (ψ := fun t => t = true) (rn_t w1 (rn_t rfl (rn_t rfl (rn_t rfl (rn_some (by simp)))))) ?_))
     rintro _ rfl
     exact rn_some rfl
end Go.Pm
