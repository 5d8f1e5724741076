/-
  FnDealers: plain laws.
  No condition.
-/
import Derived.Test.YtlooolnkgdgpfaaGreatM22b
import Derived.Test.YtlooolnkgdgpfaaGreatPmZ
namespace Go.Pm
open Go.Am
set_option linter.unusedVariables false
set_option linter.unusedSimpArgs false
theorem n_within (a b c : Int) : F_impl_within a b c = some (decide (b ≤ a) && decide (a ≤ c)) := by
 unfold F_impl_within
 by_cases h : b ≤ a <;> simp [h]
theorem n_l1In (a b c : Int) : F_spec_l1In a b c = some (decide (b ≤ a) && decide (a ≤ c)) := by
 unfold F_spec_l1In
 by_cases h : b ≤ a <;> simp [h]
theorem n_isModulus (a : Int) : F_impl_isModulus a = some (decide (2 ≤ a) && decide (a ≤ 2000000000)) := by
 unfold F_impl_isModulus
 rw [n_within]; rfl
theorem tmod_cast (a b : Nat) : (a : Int).tmod (b : Int) = ((a % b : Nat) : Int) := by rw [Int.tmod_eq_emod_of_nonneg (by omega)]; exact (Int.natCast_emod _ _).symm
theorem tdiv_cast (a b : Nat) : (a : Int).tdiv (b : Int) = ((a / b : Nat) : Int) := by rw [Int.tdiv_eq_ediv_of_nonneg (by omega)]; exact (Int.natCast_ediv _ _).symm
theorem mul_cast (a b : Nat) : (a : Int) * (b : Int) = ((a * b : Nat) : Int) := (Int.natCast_mul _ _).symm
theorem and_one {e : Nat} (he : e ≤ 9223372036854775807) : IntKind.i64.wrap (BitVec.ofInt IntKind.i64.bits (e : Int) &&& BitVec.ofInt IntKind.i64.bits 1).toNat = ((e % 2 : Nat) : Int) := by
 have h1 : (BitVec.ofInt IntKind.i64.bits (e : Int) &&& BitVec.ofInt IntKind.i64.bits 1).toNat = e % 2 := by
  rw [BitVec.toNat_and]
  have a1 : (BitVec.ofInt IntKind.i64.bits (e : Int)).toNat = e := by
   rw [BitVec.toNat_ofInt]
   have : IntKind.i64.bits = 64 := rfl
   rw [this]
   omega
  have a2 : (BitVec.ofInt IntKind.i64.bits 1).toNat = 1 := by decide
  rw [a1, a2, Nat.and_one_is_mod]
 rw [h1, wr64 (by omega) (by omega)]
theorem n_power {a e m : Nat} (ha : a ≤ 2000000000) (hm : 1 ≤ m) (hm2 : m ≤ 2000000000) (he : e ≤ 9223372036854775807) : F_impl_power (a : Int) (e : Int) (m : Int) = some ((a ^ e % m : Nat) : Int) := by
 unfold F_impl_power
 refine eq_of_rn (rn_gd (by omega) (rn_then (φ := (· = ((a ^ e % m : Nat) : Int))) (rn_wloop (φ := (· = ((a ^ e % m : Nat) : Int))) (fun s => ∃ x y o : Nat, s = ((x : Int), (y : Int), (o : Int)) ∧ x ≤ 2000000000 ∧ y ≤ e ∧ o < m ∧ o * x ^ y % m = a ^ e % m) (fun s => s.2.1.toNat)
  ⟨a, e, 1 % m, by rw [show (1 : Int) = ((1 : Nat) : Int) from rfl, tmod_cast], ha, Nat.le_refl _, Nat.mod_lt _ (by omega), by rw [Nat.mod_mul_mod, Nat.one_mul]⟩ ?_) fun x hx => rn_some hx))
 rintro s ⟨x, y, o, rfl, hx, hy, ho, hi⟩
 refine rn_if (fun h0 => ?_) fun h0 => ?_
 ·have h0 : 0 < y := by simpa using h0
  have hox : o * x ≤ 4000000000000000000 := Nat.le_trans (Nat.mul_le_mul (show o ≤ 2000000000 by omega) hx) (by decide)
  have hxx : x * x ≤ 4000000000000000000 := Nat.le_trans (Nat.mul_le_mul hx hx) (by decide)
  refine rn_then (ψ := fun o' => ∃ k : Nat, o' = (k : Int) ∧ k < m ∧ k * (x * x) ^ (y / 2) % m = a ^ e % m) ?_ ?_
  ·simp only [and_one (show y ≤ 9223372036854775807 by omega)]
   refine rn_if (fun h1 => rn_gd (by omega) (rn_some ⟨o * x % m, ?_, Nat.mod_lt _ (by omega), ?_⟩)) fun h1 => rn_some ⟨o, rfl, ho, ?_⟩
   ·rw [mul_cast, wr64 (by omega) (by omega), tmod_cast]
   ·have h1 : y % 2 = 1 := by
     have : ((y % 2 : Nat) : Int) = 1 := by simpa using h1
     omega
    rw [Nat.mod_mul_mod, ← hi, ← Nat.pow_two, ← Nat.pow_mul, Nat.mul_assoc, ← Nat.pow_succ']
    congr 3; omega
   ·have h1 : y % 2 = 0 := by
     have : ¬ ((y % 2 : Nat) : Int) = 1 := by simpa using h1
     omega
    rw [← hi, ← Nat.pow_two, ← Nat.pow_mul]
    congr 3; omega
  ·rintro o' ⟨k, rfl, hk, hk2⟩
   refine rn_gd (by omega) (rn_some ⟨⟨x * x % m, y / 2, k, ?_, by have := Nat.mod_lt (x * x) (show 0 < m by omega); omega, by omega, hk, ?_⟩, ?_⟩)
   ·rw [mul_cast, wr64 (by omega) (by omega), tmod_cast]
    have e3 : (y : Int).fdiv 2 = ((y / 2 : Nat) : Int) := by rw [Int.fdiv_eq_ediv_of_nonneg _ (by omega)]; rfl
    show (_, (y : Int).fdiv 2, _) = _
    rw [e3]
   ·rw [Nat.mul_mod, ← Nat.pow_mod, ← Nat.mul_mod]
    exact hk2
   ·show ((y : Int).fdiv 2).toNat < (y : Int).toNat
    rw [Int.fdiv_eq_ediv_of_nonneg _ (by omega)]
    omega
 ·have h0 : y = 0 := by
   have : ¬ (0 < y) := by simpa using h0
   omega
  subst h0
  refine rn_some ?_
  show (o : Int) = _
  rw [Nat.pow_zero, Nat.mul_one, Nat.mod_eq_of_lt ho] at hi
  rw [hi]
theorem n_nPower {a e m : Nat} (ha : a ≤ 2000000000) (hm : 1 ≤ m) (hm2 : m ≤ 2000000000) (he : e ≤ 9223372036854775807) : F_spec_nPower (a : Int) (e : Int) (m : Int) = some ((a ^ e % m : Nat) : Int) := by
 unfold F_spec_nPower
 refine eq_of_rn (rn_gd (by omega) (rn_then (φ := (· = ((a ^ e % m : Nat) : Int))) (rn_wloop (φ := (· = ((a ^ e % m : Nat) : Int))) (fun s => ∃ x y o : Nat, s = ((x : Int), (y : Int), (o : Int)) ∧ x ≤ 2000000000 ∧ y ≤ e ∧ o < m ∧ o * x ^ y % m = a ^ e % m) (fun s => s.2.1.toNat)
  ⟨a, e, 1 % m, by rw [show (1 : Int) = ((1 : Nat) : Int) from rfl, tmod_cast], ha, Nat.le_refl _, Nat.mod_lt _ (by omega), by rw [Nat.mod_mul_mod, Nat.one_mul]⟩ ?_) fun x hx => rn_some hx))
 rintro s ⟨x, y, o, rfl, hx, hy, ho, hi⟩
 refine rn_if (fun h0 => ?_) fun h0 => ?_
 ·have h0 : 0 < y := by simpa using h0
  have hox : o * x ≤ 4000000000000000000 := Nat.le_trans (Nat.mul_le_mul (show o ≤ 2000000000 by omega) hx) (by decide)
  have hxx : x * x ≤ 4000000000000000000 := Nat.le_trans (Nat.mul_le_mul hx hx) (by decide)
  have e2 : (y : Int).tmod 2 = ((y % 2 : Nat) : Int) := tmod_cast y 2
  refine rn_then (ψ := fun o' => ∃ k : Nat, o' = (k : Int) ∧ k < m ∧ k * (x * x) ^ (y / 2) % m = a ^ e % m) ?_ ?_
  ·simp only [e2]
   refine rn_if (fun h1 => rn_gd (by omega) (rn_some ⟨o * x % m, ?_, Nat.mod_lt _ (by omega), ?_⟩)) fun h1 => rn_some ⟨o, rfl, ho, ?_⟩
   ·rw [mul_cast, wr64 (by omega) (by omega), tmod_cast]
   ·have h1 : y % 2 = 1 := by
     have : ((y % 2 : Nat) : Int) = 1 := by simpa using h1
     omega
    rw [Nat.mod_mul_mod, ← hi, ← Nat.pow_two, ← Nat.pow_mul, Nat.mul_assoc, ← Nat.pow_succ']
    congr 3; omega
   ·have h1 : y % 2 = 0 := by
     have : ¬ ((y % 2 : Nat) : Int) = 1 := by simpa using h1
     omega
    rw [← hi, ← Nat.pow_two, ← Nat.pow_mul]
    congr 3; omega
  ·rintro o' ⟨k, rfl, hk, hk2⟩
   have e3 : (y : Int).tdiv 2 = ((y / 2 : Nat) : Int) := tdiv_cast y 2
   refine rn_gd (by omega) (rn_some ⟨⟨x * x % m, y / 2, k, ?_, by have := Nat.mod_lt (x * x) (show 0 < m by omega); omega, by omega, hk, ?_⟩, ?_⟩)
   ·simp only [e3]
    rw [mul_cast, wr64 (n := ((x * x : Nat) : Int)) (by omega) (by omega), tmod_cast, wr64 (n := ((y / 2 : Nat) : Int)) (by omega) (by omega)]
   ·rw [Nat.mul_mod, ← Nat.pow_mod, ← Nat.mul_mod]
    exact hk2
   ·show (IntKind.i64.wrap ((y : Int).tdiv 2)).toNat < (y : Int).toNat
    rw [e3, wr64 (by omega) (by omega)]
    omega
 ·have h0 : y = 0 := by
   have : ¬ (0 < y) := by simpa using h0
   omega
  subst h0
  refine rn_some ?_
  show (o : Int) = _
  rw [Nat.pow_zero, Nat.mul_one, Nat.mod_eq_of_lt ho] at hi
  rw [hi]
theorem n_mod {a q : Int} (h0 : 0 < q) (h1 : q ≤ 2000000000) : F_impl_mod a q = some (a % q) := by
 unfold F_impl_mod
 rw [gd_t (by omega), gd_t (by omega)]
 have b1 : a.tmod q < q := Int.tmod_lt_of_pos a h0
 have b2 : -q < a.tmod q := by
  have := Int.lt_tmod_of_pos a h0
  omega
 rw [wr64 (by omega) (by omega), Int.tmod_eq_emod_of_nonneg (by omega)]
 congr 1
 rw [Int.add_emod_right]
 rw [Int.tmod_def, Int.sub_emod, Int.mul_emod_right, Int.sub_zero, Int.emod_emod]
theorem n_nMod {a q : Int} (h0 : 0 < q) (h1 : q ≤ 2000000000) : F_spec_nMod a q = some (a % q) := by
 unfold F_spec_nMod
 rw [gd_t (by omega), gd_t (by omega)]
 have b1 : a.tmod q < q := Int.tmod_lt_of_pos a h0
 have b2 : -q < a.tmod q := by
  have := Int.lt_tmod_of_pos a h0
  omega
 rw [wr64 (by omega) (by omega), Int.tmod_eq_emod_of_nonneg (by omega)]
 congr 1
 rw [Int.add_emod_right]
 rw [Int.tmod_def, Int.sub_emod, Int.mul_emod_right, Int.sub_zero, Int.emod_emod]
def Pr (n : Nat) : Prop := 2 ≤ n ∧ ∀ d, 2 ≤ d → d * d ≤ n → n % d ≠ 0
open Classical in
noncomputable def prB (n : Int) : Bool := decide (Pr n.toNat)
theorem prB_t {n : Nat} : prB (n : Int) = true ↔ Pr n := by simp [prB]
theorem n_nPrime (n : Int) (h : n ≤ 2000000000) : F_spec_nPrime n = some (prB n) := by
 unfold F_spec_nPrime
 refine eq_of_rn (rn_if (fun h0 => rn_some ?_) fun h0 => ?_)
 ·have h0 : n < 2 := by simpa using h0
  symm
  unfold prB
  rw [decide_eq_false_iff_not]
  intro hp
  have := hp.1
  omega
 ·have h0 : ¬ n < 2 := by simpa using h0
  obtain ⟨n, rfl⟩ := Int.eq_ofNat_of_zero_le (show 0 ≤ n by omega)
  refine rn_then (ψ := fun b => (b = .inl () ∧ Pr n) ∨ (b = .inr false ∧ ¬ Pr n)) (rn_wloop (fun s => ∃ d : Nat, s = (d : Int) ∧ 2 ≤ d ∧ d ≤ 44723 ∧ ∀ k, 2 ≤ k → k < d → k * k ≤ n → n % k ≠ 0) (fun s => 50000 - s.toNat) ⟨2, rfl, by omega, by omega, fun k h1 h2 => by omega⟩ ?_) ?_
  ·rintro s ⟨d, rfl, hd, hd2, hi⟩
   have hdd : d * d ≤ 2000146729 := Nat.le_trans (Nat.mul_le_mul hd2 hd2) (by decide)
   rw [mul_cast, wr64 (by omega) (by omega)]
   refine rn_if (fun h1 => rn_gd (by omega) (rn_if (fun h2 => rn_some (.inr ⟨rfl, ?_⟩)) fun h2 => rn_some ?_)) fun h1 => rn_some (.inl ⟨rfl, by omega, fun k hk hkn => ?_⟩)
   ·have h1 : d * d ≤ n := by have := of_decide_eq_true h1; omega
    rw [tmod_cast] at h2
    have h2 : n % d = 0 := by have : ((n % d : Nat) : Int) = 0 := by simpa using h2
                              omega
    exact fun hp => hp.2 d hd h1 h2
   ·have h1 : d * d ≤ n := by have := of_decide_eq_true h1; omega
    rw [tmod_cast] at h2
    have h2 : n % d ≠ 0 := by have : ¬ ((n % d : Nat) : Int) = 0 := by simpa using h2
                              omega
    have hd3 : d ≤ 44722 := by
     rcases Nat.lt_or_ge d 44723 with h | h
     ·omega
     ·have : 44723 * 44723 ≤ d * d := Nat.mul_le_mul h h
      omega
    rw [wr64 (by omega) (by omega)]
    refine ⟨⟨d + 1, rfl, by omega, by omega, fun k h3 h4 h5 => ?_⟩, by omega⟩
    rcases Nat.lt_or_ge k d with h | h
    ·exact hi k h3 h h5
    ·have : k = d := by omega
     subst this
     exact h2
   ·have h1 : n < d * d := by have := of_decide_eq_false h1; omega
    rcases Nat.lt_or_ge k d with h | h
    ·exact hi k hk h hkn
    ·have := Nat.mul_le_mul h h
     omega
  ·rintro b (⟨rfl, hp⟩ | ⟨rfl, hp⟩)
   ·exact rn_some (prB_t.2 hp).symm
   ·refine rn_some ?_
    symm
    unfold prB
    rw [decide_eq_false_iff_not]
    exact hp
theorem n_isPrime (n : Int) : F_impl_isPrime n = some (decide (n ≤ 2000000000) && prB n) := by
 unfold F_impl_isPrime
 by_cases h : 2 ≤ n ∧ n ≤ 2000000000
 ·obtain ⟨n, rfl⟩ := Int.eq_ofNat_of_zero_le (show 0 ≤ n by omega)
  have e2 : ((n : Int)).tmod 2 = ((n % 2 : Nat) : Int) := tmod_cast n 2
  have em : (decide (2 ≤ (n : Int)) && decide ((n : Int) ≤ 2000000000)) = true := by simp only [Bool.and_eq_true, decide_eq_true_eq]; exact h
  rw [show (decide ((n : Int) ≤ 2000000000) && prB (n : Int)) = prB (n : Int) by simp [h.2]]
  refine eq_of_rn (rn_then (ψ := fun b => b = decide (n % 2 = 0 ∧ n ≠ 2)) (rn_call (n_isModulus _) ?_) ?_)
  ·rw [em]
   refine rn_f rfl ?_
   rw [e2]
   refine rn_if (fun h1 => rn_some ?_) fun h1 => rn_some ?_
   ·have h1 : n % 2 = 0 := by have : ((n % 2 : Nat) : Int) = 0 := by simpa using h1
                              omega
    have : ((n : Int) != 2) = decide (n ≠ 2) := by
     by_cases hn : n = 2
     ·subst hn; rfl
     ·have hn' : ¬ (n : Int) = 2 := by omega
      simp [hn, hn']
    rw [this]; simp [h1]
   ·have h1 : n % 2 ≠ 0 := by have : ¬ ((n % 2 : Nat) : Int) = 0 := by simpa using h1
                              omega
    simp [h1]
  ·rintro b rfl
   refine rn_if (fun h1 => rn_some ?_) fun h1 => ?_
   ·have h1 := of_decide_eq_true h1
    symm
    unfold prB
    rw [decide_eq_false_iff_not]
    intro hp
    have hn : 4 ≤ n := by omega
    exact hp.2 2 (by omega) hn h1.1
   ·have h1 := of_decide_eq_false h1
    refine rn_then (ψ := fun b => (b = .inl () ∧ Pr n) ∨ (b = .inr false ∧ ¬ Pr n)) (rn_wloop (fun s => ∃ d : Nat, s = (d : Int) ∧ 3 ≤ d ∧ d % 2 = 1 ∧ d ≤ 44725 ∧ ∀ k, 2 ≤ k → k < d → k * k ≤ n → n % k ≠ 0) (fun s => 50000 - s.toNat) ⟨3, rfl, by omega, by omega, by omega, fun k h2 h3 h4 => ?_⟩ ?_) ?_
    ·have : k = 2 := by omega
     subst this
     intro h5
     exact h1 ⟨h5, by omega⟩
    ·rintro s ⟨d, rfl, hd, hodd, hd2, hi⟩
     have hdd : d * d ≤ 2000325625 := Nat.le_trans (Nat.mul_le_mul hd2 hd2) (by decide)
     rw [mul_cast, wr64 (by omega) (by omega)]
     refine rn_if (fun h1 => rn_gd (by omega) (rn_if (fun h2 => rn_some (.inr ⟨rfl, ?_⟩)) fun h2 => rn_some ?_)) fun h1 => rn_some (.inl ⟨rfl, by omega, fun k hk hkn => ?_⟩)
     ·have h1 : d * d ≤ n := by have := of_decide_eq_true h1; omega
      rw [tmod_cast] at h2
      have h2 : n % d = 0 := by have : ((n % d : Nat) : Int) = 0 := by simpa using h2
                                omega
      exact fun hp => hp.2 d (by omega) h1 h2
     ·have h3 : d * d ≤ n := by have := of_decide_eq_true h1; omega
      rw [tmod_cast] at h2
      have h2 : n % d ≠ 0 := by have : ¬ ((n % d : Nat) : Int) = 0 := by simpa using h2
                                omega
      have hd3 : d ≤ 44722 := by
       rcases Nat.lt_or_ge d 44723 with h | h
       ·omega
       ·have : 44723 * 44723 ≤ d * d := Nat.mul_le_mul h h
        omega
      rw [wr64 (by omega) (by omega)]
      refine ⟨⟨d + 2, rfl, by omega, by omega, by omega, fun k h4 h5 h6 h7 => ?_⟩, by omega⟩
      rcases Nat.lt_or_ge k d with h | h
      ·exact hi k h4 h h6 h7
      ·rcases (show k = d ∨ k = d + 1 by omega) with e | e
       ·subst e; exact h2 h7
       ·
        have h8 : n % 2 = 0 := by
         have a1 : k ∣ n := Nat.dvd_of_mod_eq_zero h7
         have a2 : 2 ∣ k := Nat.dvd_of_mod_eq_zero (by omega)
         exact Nat.mod_eq_zero_of_dvd (Nat.dvd_trans a2 a1)
        have h9 : 2 * 2 ≤ n := by
         have := Nat.mul_le_mul h4 h4
         omega
        exact hi 2 (by omega) (by omega) h9 h8
     ·have h1 : n < d * d := by have := of_decide_eq_false h1; omega
      rcases Nat.lt_or_ge k d with h | h
      ·exact hi k hk h hkn
      ·have := Nat.mul_le_mul h h
       omega
    ·rintro b (⟨rfl, hp⟩ | ⟨rfl, hp⟩)
     ·exact rn_some (prB_t.2 hp).symm
     ·refine rn_some ?_
      symm
      unfold prB
      rw [decide_eq_false_iff_not]
      exact hp
 ·have em : (decide (2 ≤ n) && decide (n ≤ 2000000000)) = false := by
   rw [Bool.and_eq_false_iff, decide_eq_false_iff_not, decide_eq_false_iff_not]; omega
  rw [n_isModulus, em]
  simp only [Option.bind_some, Bool.not_false, if_true]
  congr 1
  symm
  rw [Bool.and_eq_false_iff, decide_eq_false_iff_not]
  by_cases hn : n ≤ 2000000000
  ·right
   unfold prB
   rw [decide_eq_false_iff_not]
   intro hp
   have := hp.1
   omega
  ·exact .inl hn
structure OkG (gr : Group) : Prop where
 p : 3 ≤ gr.P ∧ gr.P ≤ 2000000000
 q : 2 ≤ gr.Q ∧ gr.Q ≤ gr.P - 1
 d : (gr.P.toNat - 1) % gr.Q.toNat = 0
 g : 2 ≤ gr.G ∧ gr.G ≤ gr.P - 1
 pp : Pr gr.P.toNat
 pq : Pr gr.Q.toNat
 o : gr.G.toNat ^ gr.Q.toNat % gr.P.toNat = 1
open Classical in
noncomputable def okG (gr : Group) : Bool := decide (OkG gr)
theorem okG_t {gr : Group} : okG gr = true ↔ OkG gr := by simp [okG]
theorem okG_f {gr : Group} (h : ¬ OkG gr) : okG gr = false := by simp [okG, h]
theorem okG_of {gr : Group} {b : Bool} (h1 : b = true → OkG gr) (h2 : OkG gr → b = true) : b = okG gr := by
 cases hb : b with
 | true => exact (okG_t.2 (h1 hb)).symm
 | false => exact (okG_f fun h => by rw [h2 h] at hb; cases hb).symm
theorem cast_eq {a : Int} (h : 0 ≤ a) : a = ((a.toNat : Nat) : Int) := by omega
theorem n_powI {a e m : Int} (ha : 0 ≤ a) (ha2 : a ≤ 2000000000) (hm : 1 ≤ m) (hm2 : m ≤ 2000000000) (he : 0 ≤ e) (he2 : e ≤ 9223372036854775807) : F_impl_power a e m = some ((a.toNat ^ e.toNat % m.toNat : Nat) : Int) ∧ F_spec_nPower a e m = some ((a.toNat ^ e.toNat % m.toNat : Nat) : Int) := by
 have h1 := n_power (a := a.toNat) (e := e.toNat) (m := m.toNat) (by omega) (by omega) (by omega) (by omega)
 have h2 := n_nPower (a := a.toNat) (e := e.toNat) (m := m.toNat) (by omega) (by omega) (by omega) (by omega)
 rw [← cast_eq ha, ← cast_eq he, ← cast_eq (show 0 ≤ m by omega)] at h1 h2
 exact ⟨h1, h2⟩
theorem and_iff_t {a b : Bool} : (a && b) = true ↔ a = true ∧ b = true := by simp
theorem n_validG (gr : Group) : F_impl_IsValidGroup gr = some (okG gr) := by
 unfold F_impl_IsValidGroup
 refine eq_of_rn (rn_then (ψ := fun b => b = okG gr) ?_ fun b hb => rn_some hb)
 refine rn_call (n_within _ _ _) (rn_if (fun h => ?_) fun h => ?_)
 ·have hp : 3 ≤ gr.P ∧ gr.P ≤ 2000000000 := by simpa using h
  rw [wr64 (n := gr.P - 1) (by omega) (by omega)]
  refine rn_call (n_within _ _ _) (rn_if (fun h => ?_) fun h => ?_)
  ·have hq : 2 ≤ gr.Q ∧ gr.Q ≤ gr.P - 1 := by simpa using h
   have ed : (gr.P - 1).tmod gr.Q = (((gr.P.toNat - 1) % gr.Q.toNat : Nat) : Int) := by
    rw [cast_eq (show 0 ≤ gr.P - 1 by omega), cast_eq (show 0 ≤ gr.Q by omega), tmod_cast]
    simp only [Int.toNat_natCast]
    congr 2; omega
   refine rn_gd (by omega) ?_
   rw [ed]
   refine rn_if (fun h => ?_) fun h => ?_
   ·have hd : (gr.P.toNat - 1) % gr.Q.toNat = 0 := by
     have : (((gr.P.toNat - 1) % gr.Q.toNat : Nat) : Int) = 0 := by simpa using h
     omega
    refine rn_call (n_within _ _ _) (rn_if (fun h => ?_) fun h => ?_)
    ·have hg : 2 ≤ gr.G ∧ gr.G ≤ gr.P - 1 := by simpa using h
     refine rn_call (n_isPrime _) (rn_if (fun h => ?_) fun h => ?_)
     ·have hpp : Pr gr.P.toNat := by
       rw [and_iff_t, cast_eq (show 0 ≤ gr.P by omega), prB_t] at h
       exact h.2
      refine rn_call (n_isPrime _) (rn_if (fun h => ?_) fun h => ?_)
      ·have hpq : Pr gr.Q.toNat := by
        rw [and_iff_t, cast_eq (show 0 ≤ gr.Q by omega), prB_t] at h
        exact h.2
       refine rn_call (n_powI (a := gr.G) (e := gr.Q) (m := gr.P) (by omega) (by omega) (by omega) (by omega) (by omega) (by omega)).1 (rn_some (okG_of (fun h => ⟨hp, hq, hd, hg, hpp, hpq, ?_⟩) fun h => ?_))
       ·have : ((gr.G.toNat ^ gr.Q.toNat % gr.P.toNat : Nat) : Int) = 1 := by simpa using h
        omega
       ·rw [h.o]; rfl
      ·refine rn_some (okG_f fun hk => ?_).symm
       have : (decide (gr.Q ≤ 2000000000) && prB gr.Q) = true := by
        rw [and_iff_t, cast_eq (show 0 ≤ gr.Q by omega), prB_t]
        exact ⟨by simp; omega, hk.pq⟩
       rw [this] at h; cases h
     ·refine rn_some (okG_f fun hk => ?_).symm
      have : (decide (gr.P ≤ 2000000000) && prB gr.P) = true := by
       rw [and_iff_t, cast_eq (show 0 ≤ gr.P by omega), prB_t]
       exact ⟨by simp; omega, hk.pp⟩
      rw [this] at h; cases h
    ·refine rn_some (okG_f fun hk => ?_).symm
     have := hk.g
     simp at h; omega
   ·refine rn_some (okG_f fun hk => ?_).symm
    rw [hk.d] at h; cases h
  ·refine rn_some (okG_f fun hk => ?_).symm
   have := hk.q
   simp at h; omega
 ·refine rn_some (okG_f fun hk => ?_).symm
  have := hk.p
  simp at h; omega
theorem n_l2Good (gr : Group) : F_spec_l2Good gr = some (okG gr) := by
 unfold F_spec_l2Good
 refine eq_of_rn (rn_then (ψ := fun b => b = okG gr) ?_ fun b hb => rn_some hb)
 refine rn_call (n_l1In _ _ _) (rn_if (fun h => ?_) fun h => ?_)
 ·have hp : 3 ≤ gr.P ∧ gr.P ≤ 2000000000 := by simpa using h
  rw [wr64 (n := gr.P - 1) (by omega) (by omega)]
  refine rn_call (n_l1In _ _ _) (rn_if (fun h => ?_) fun h => ?_)
  ·have hq : 2 ≤ gr.Q ∧ gr.Q ≤ gr.P - 1 := by simpa using h
   have ed : (gr.P - 1).tmod gr.Q = (((gr.P.toNat - 1) % gr.Q.toNat : Nat) : Int) := by
    rw [cast_eq (show 0 ≤ gr.P - 1 by omega), cast_eq (show 0 ≤ gr.Q by omega), tmod_cast]
    simp only [Int.toNat_natCast]
    congr 2; omega
   refine rn_gd (by omega) ?_
   rw [ed]
   refine rn_if (fun h => ?_) fun h => ?_
   ·have hd : (gr.P.toNat - 1) % gr.Q.toNat = 0 := by
     have : (((gr.P.toNat - 1) % gr.Q.toNat : Nat) : Int) = 0 := by simpa using h
     omega
    refine rn_call (n_l1In _ _ _) (rn_if (fun h => ?_) fun h => ?_)
    ·have hg : 2 ≤ gr.G ∧ gr.G ≤ gr.P - 1 := by simpa using h
     refine rn_call (n_powI (a := gr.G) (e := gr.Q) (m := gr.P) (by omega) (by omega) (by omega) (by omega) (by omega) (by omega)).2 (rn_if (fun h => ?_) fun h => ?_)
     ·have ho : gr.G.toNat ^ gr.Q.toNat % gr.P.toNat = 1 := by
       have : ((gr.G.toNat ^ gr.Q.toNat % gr.P.toNat : Nat) : Int) = 1 := by simpa using h
       omega
      refine rn_call (n_nPrime _ (by omega)) (rn_if (fun h => ?_) fun h => ?_)
      ·have hpq : Pr gr.Q.toNat := by
        rw [cast_eq (show 0 ≤ gr.Q by omega), prB_t] at h
        exact h
       refine rn_call (n_nPrime _ (by omega)) (rn_some (okG_of (fun h => ⟨hp, hq, hd, hg, ?_, hpq, ho⟩) fun h => ?_))
       ·rw [cast_eq (show 0 ≤ gr.P by omega), prB_t] at h
        exact h
       ·rw [cast_eq (show 0 ≤ gr.P by omega), prB_t]
        exact h.pp
      ·refine rn_some (okG_f fun hk => ?_).symm
       have : prB gr.Q = true := by
        rw [cast_eq (show 0 ≤ gr.Q by omega), prB_t]
        exact hk.pq
       rw [this] at h; cases h
     ·refine rn_some (okG_f fun hk => ?_).symm
      rw [hk.o] at h; cases h
    ·refine rn_some (okG_f fun hk => ?_).symm
     have := hk.g
     simp at h; omega
   ·refine rn_some (okG_f fun hk => ?_).symm
    rw [hk.d] at h; cases h
  ·refine rn_some (okG_f fun hk => ?_).symm
   have := hk.q
   simp at h; omega
 ·refine rn_some (okG_f fun hk => ?_).symm
  have := hk.p
  simp at h; omega
def hasB (gr : Group) (x : Int) : Bool := decide (1 ≤ x) && decide (x ≤ gr.P - 1) && decide (x.toNat ^ gr.Q.toNat % gr.P.toNat = 1)
def expB (gr : Group) (x : Int) : Bool := decide (0 ≤ x) && decide (x ≤ gr.Q - 1)
theorem n_has {gr : Group} (k : OkG gr) (x : Int) : F_impl_Group_has gr x = some (hasB gr x) := by
 have hp := k.p
 have hq := k.q
 unfold F_impl_Group_has hasB
 rw [wr64 (n := gr.P - 1) (by omega) (by omega), n_within]
 refine eq_of_rn (rn_then (ψ := fun b => b = _) ?_ fun b hb => rn_some hb)
 refine rn_call rfl (rn_if (fun h => ?_) fun h => ?_)
 ·have hx : 1 ≤ x ∧ x ≤ gr.P - 1 := by simpa using h
  refine rn_call (n_powI (a := x) (e := gr.Q) (m := gr.P) (by omega) (by omega) (by omega) (by omega) (by omega) (by omega)).1 (rn_some ?_)
  rw [h, Bool.true_and]
  by_cases h1 : x.toNat ^ gr.Q.toNat % gr.P.toNat = 1
  ·simp [h1]
  ·have : ¬ ((x.toNat ^ gr.Q.toNat % gr.P.toNat : Nat) : Int) = 1 := by omega
   rw [beq_false_of_ne this, decide_eq_false h1]
 ·rw [h]; exact rn_some rfl
theorem n_gIs {gr : Group} (k : OkG gr) (l : List Int) : F_spec_gIs gr l = some (l.all (hasB gr)) := by
 have hp := k.p
 have hq := k.q
 unfold F_spec_gIs
 rw [wr64 (n := gr.P - 1) (by omega) (by omega)]
 refine eq_of_rn (rn_then (ψ := fun b => (b = .inl () ∧ l.all (hasB gr) = true) ∨ (b = .inr false ∧ l.all (hasB gr) = false)) (rn_rloop (fun i s => (l.take i).all (hasB gr) = true) rfl ?_ ?_) ?_)
 ·rintro i s hi hI
  refine rn_ix hi (rn_then (ψ := fun b => b = !hasB gr l[i]) ?_ ?_)
  ·refine rn_call (n_l1In _ _ _) (rn_if (fun h => rn_some ?_) fun h => ?_)
   ·have h : (decide (1 ≤ l[i]) && decide (l[i] ≤ gr.P - 1)) = false := by rwa [Bool.not_eq_true'] at h
    simp [hasB, h]
   ·have h : (decide (1 ≤ l[i]) && decide (l[i] ≤ gr.P - 1)) = true := by simpa using h
    have hx : 1 ≤ l[i] ∧ l[i] ≤ gr.P - 1 := by simpa using h
    refine rn_call (n_powI (a := l[i]) (e := gr.Q) (m := gr.P) (by omega) (by omega) (by omega) (by omega) (by omega) (by omega)).2 (rn_some ?_)
    simp only [hasB, h, Bool.true_and]
    by_cases h1 : l[i].toNat ^ gr.Q.toNat % gr.P.toNat = 1
    ·simp [h1]
    ·have : ¬ ((l[i].toNat ^ gr.Q.toNat % gr.P.toNat : Nat) : Int) = 1 := by omega
     simp only [bne, beq_false_of_ne this, decide_eq_false h1]
  ·rintro b rfl
   refine rn_if (fun h => rn_some (.inr ⟨rfl, ?_⟩)) fun h => rn_some ?_
   ·have h : hasB gr l[i] = false := by simpa using h
    rw [List.all_eq_false]
    exact ⟨l[i], List.getElem_mem hi, by simp [h]⟩
   ·have h : hasB gr l[i] = true := by simpa using h
    show (l.take (i + 1)).all (hasB gr) = true
    rw [List.take_succ_eq_append_getElem hi, List.all_append, hI]
    simp [h]
 ·rintro s hI
  rw [List.take_length] at hI
  exact .inl ⟨rfl, hI⟩
 ·rintro b (⟨rfl, h⟩ | ⟨rfl, h⟩)
  ·exact rn_some h.symm
  ·exact rn_some h.symm
theorem n_l1All (l : List Int) (a b : Int) : F_spec_l1All l a b = some (l.all fun x => decide (a ≤ x) && decide (x ≤ b)) := by
 unfold F_spec_l1All
 refine eq_of_rn (rn_then (ψ := fun c => (c = .inl () ∧ (l.all fun x => decide (a ≤ x) && decide (x ≤ b)) = true) ∨ (c = .inr false ∧ (l.all fun x => decide (a ≤ x) && decide (x ≤ b)) = false)) (rn_rloop (fun i s => ((l.take i).all fun x => decide (a ≤ x) && decide (x ≤ b)) = true) rfl ?_ ?_) ?_)
 ·rintro i s hi hI
  refine rn_ix hi (rn_call (n_l1In _ _ _) (rn_if (fun h => rn_some (.inr ⟨rfl, ?_⟩)) fun h => rn_some ?_))
  ·rw [List.all_eq_false]
   exact ⟨l[i], List.getElem_mem hi, by rw [Bool.not_eq_true'] at h; rw [h]; simp⟩
  ·show ((l.take (i + 1)).all fun x => decide (a ≤ x) && decide (x ≤ b)) = true
   rw [List.take_succ_eq_append_getElem hi, List.all_append, hI]
   simpa using h
 ·rintro s hI
  rw [List.take_length] at hI
  exact .inl ⟨rfl, hI⟩
 ·rintro c (⟨rfl, h⟩ | ⟨rfl, h⟩)
  ·exact rn_some h.symm
  ·exact rn_some h.symm
theorem n_gExps {gr : Group} (h : 0 ≤ gr.Q) (h2 : gr.Q ≤ 2000000000) (l : List Int) : F_spec_gExps gr l = some (l.all (expB gr)) := by
 unfold F_spec_gExps
 rw [wr64 (by omega) (by omega), n_l1All]; rfl
theorem n_isExp {gr : Group} (h : 0 ≤ gr.Q) (h2 : gr.Q ≤ 2000000000) (x : Int) : F_impl_Group_isExp gr x = some (expB gr x) := by
 unfold F_impl_Group_isExp
 rw [wr64 (by omega) (by omega), n_within]; rfl
def powG (gr : Group) (x e : Int) : Int := ((x.toNat ^ (e % gr.Q).toNat % gr.P.toNat : Nat) : Int)
theorem powG_bd {gr : Group} (k : OkG gr) (x e : Int) : 0 ≤ powG gr x e ∧ powG gr x e ≤ gr.P - 1 := by
 have hp := k.p
 unfold powG
 have := Nat.mod_lt (x.toNat ^ (e % gr.Q).toNat) (y := gr.P.toNat) (by omega)
 omega
theorem n_pow {gr : Group} (k : OkG gr) {x : Int} (h0 : 0 ≤ x) (h1 : x ≤ 2000000000) (e : Int) : F_impl_Group_pow gr x e = some (powG gr x e) ∧ F_spec_gExp gr x e = some (powG gr x e) := by
 have hp := k.p
 have hq := k.q
 have b1 : 0 ≤ e % gr.Q := Int.emod_nonneg _ (by omega)
 have b2 : e % gr.Q < gr.Q := Int.emod_lt_of_pos _ (by omega)
 have hw := n_powI (a := x) (e := e % gr.Q) (m := gr.P) (by omega) (by omega) (by omega) (by omega) b1 (by omega)
 unfold F_impl_Group_pow F_spec_gExp
 rw [n_mod (by omega) (by omega), n_nMod (by omega) (by omega), Option.bind_some, Option.bind_some, hw.1, hw.2]
 exact ⟨rfl, rfl⟩
theorem n_gExp {gr : Group} (k : OkG gr) {x : Int} (h0 : 0 ≤ x) (h1 : x ≤ 2000000000) (e : Int) : F_spec_gExp gr x e = some (powG gr x e) := by
 have hp := k.p
 have hq := k.q
 have b1 : 0 ≤ e % gr.Q := Int.emod_nonneg _ (by omega)
 have b2 : e % gr.Q < gr.Q := Int.emod_lt_of_pos _ (by omega)
 have hw := n_powI (a := x) (e := e % gr.Q) (m := gr.P) (by omega) (by omega) (by omega) (by omega) b1 (by omega)
 unfold F_spec_gExp
 rw [n_nMod (by omega) (by omega), Option.bind_some, hw.2]
 rfl
def mulG (gr : Group) (l : List Int) : Int := l.foldl (fun o x => o * x % gr.P) 1
theorem foldG_bd {gr : Group} (h : 1 ≤ gr.P) : ∀ (l : List Int) (o : Int), 0 ≤ o → o ≤ gr.P → (∀ x ∈ l, 0 ≤ x) → 0 ≤ l.foldl (fun o x => o * x % gr.P) o ∧ l.foldl (fun o x => o * x % gr.P) o ≤ gr.P := by
 intro l
 induction l with
 | nil => intro o h0 h1 _; exact ⟨h0, h1⟩
 | cons x l ih =>
  intro o h0 h1 h2
  exact ih _ (Int.emod_nonneg _ (by omega)) (Int.le_of_lt (Int.emod_lt_of_pos (o * x) (show 0 < gr.P by omega))) fun y hy => h2 y (List.mem_cons_of_mem _ hy)
theorem mul_eq (gr : Group) (l : List Int) : F_spec_gMul gr l = F_impl_Group_mul gr l := rfl
theorem n_mul {gr : Group} (k : OkG gr) {l : List Int} (hl : ∀ x ∈ l, 0 ≤ x ∧ x ≤ 2000000000) : F_impl_Group_mul gr l = some (mulG gr l) := by
 have hp := k.p
 unfold F_impl_Group_mul
 refine eq_of_rn (rn_then (ψ := fun b => b = mulG gr l) (rn_rloop (fun i s => s = (l.take i).foldl (fun o x => o * x % gr.P) 1) rfl ?_ ?_) fun b hb => rn_some hb)
 ·rintro i s hi rfl
  have hb := foldG_bd (gr := gr) (by omega) (l.take i) 1 (by omega) (by omega) fun x hx => (hl x (List.mem_of_mem_take hx)).1
  have hx := hl l[i] (List.getElem_mem hi)
  refine rn_ix hi (rn_gd (by omega) (rn_some ?_))
  show _ = (l.take (i + 1)).foldl _ _
  rw [List.take_succ_eq_append_getElem hi, List.foldl_append]
  generalize (l.take i).foldl (fun o x => o * x % gr.P) 1 = o at hb ⊢
  have b1 : 0 ≤ o * l[i] := Int.mul_nonneg hb.1 hx.1
  have b2 : o * l[i] ≤ 2000000000 * 2000000000 := Int.mul_le_mul (by omega) hx.2 hx.1 (by omega)
  show (IntKind.i64.wrap (o * l[i])).tmod gr.P = o * l[i] % gr.P
  rw [wr64 (by omega) (by omega), Int.tmod_eq_emod_of_nonneg b1]
 ·rintro s rfl
  rw [List.take_length]; rfl
theorem n_gMul {gr : Group} (k : OkG gr) {l : List Int} (hl : ∀ x ∈ l, 0 ≤ x ∧ x ≤ 2000000000) : F_spec_gMul gr l = some (mulG gr l) := by rw [mul_eq]; exact n_mul k hl
theorem mulG_bd {gr : Group} (k : OkG gr) {l : List Int} (hl : ∀ x ∈ l, 0 ≤ x ∧ x ≤ 2000000000) : 0 ≤ mulG gr l ∧ mulG gr l ≤ gr.P := by
 have hp := k.p
 exact foldG_bd (by omega) l 1 (by omega) (by omega) fun x hx => (hl x hx).1
theorem n_hasAll {gr : Group} (k : OkG gr) (l : List Int) : F_impl_Group_hasAll gr l = some (l.all (hasB gr)) := by
 unfold F_impl_Group_hasAll F_impl_areAll__impl_Group_has F_slices_ContainsFunc_int_int__impl_areAll_1_impl_Group_has F_slices_IndexFunc_int_int__impl_areAll_1_impl_Group_has
 refine eq_of_rn (rn_then (ψ := fun b => b = l.all (hasB gr)) (rn_then (ψ := fun b => b = !l.all (hasB gr)) (rn_then (ψ := fun j => (j = -1 ∧ l.all (hasB gr) = true) ∨ (0 ≤ j ∧ l.all (hasB gr) = false)) (rn_then (ψ := fun b => (b = .inl () ∧ l.all (hasB gr) = true) ∨ (∃ j, b = .inr j ∧ 0 ≤ j ∧ l.all (hasB gr) = false)) (rn_rloop (fun i s => (l.take i).all (hasB gr) = true) rfl ?_ ?_) ?_) ?_) ?_) ?_)
 ·rintro i s hi hI
  have hc : F_impl_areAll_1__impl_Group_has l[i] gr = some (!hasB gr l[i]) := by
   unfold F_impl_areAll_1__impl_Group_has
   rw [n_has k]; rfl
  refine rn_ix hi (rn_call hc (rn_if (fun h => rn_some (.inr ⟨i, rfl, by omega, ?_⟩)) fun h => rn_some ?_))
  ·rw [List.all_eq_false]
   exact ⟨l[i], List.getElem_mem hi, by rw [Bool.not_eq_true'] at h; rw [h]; simp⟩
  ·show (l.take (i + 1)).all (hasB gr) = true
   rw [List.take_succ_eq_append_getElem hi, List.all_append, hI]
   simpa using h
 ·rintro s hI
  rw [List.take_length] at hI
  exact .inl ⟨rfl, hI⟩
 ·rintro b (⟨rfl, h⟩ | ⟨j, rfl, h0, h⟩)
  ·exact rn_some (.inl ⟨rfl, h⟩)
  ·exact rn_some (.inr ⟨h0, h⟩)
 ·rintro j (⟨rfl, h⟩ | ⟨h0, h⟩)
  ·exact rn_some (by rw [h]; rfl)
  ·exact rn_some (by rw [h]; simpa using h0)
 ·rintro b rfl
  exact rn_some (by simp)
 ·rintro b rfl
  exact rn_some rfl
theorem has_bd {gr : Group} {x : Int} (h : hasB gr x = true) : 1 ≤ x ∧ x ≤ gr.P - 1 := by
 simp only [hasB, Bool.and_eq_true, decide_eq_true_eq] at h
 exact h.1
theorem ite_n {α : Type} (b : Bool) (u v : α) : (if b = true then some u else some v) = some (if (!b) = true then v else u) := by cases b <;> rfl
theorem ite_m {α : Type} (b : Bool) (u v : α) : (if (!b) = true then some u else some v) = some (if b = true then v else u) := by cases b <;> rfl
theorem n_first {β : Type} {body : Int → Unit → Option (Stp Unit (Unit ⊕ β))} (m : Nat) (p : Nat → Bool) (val : Nat → β) (h : ∀ k, k < m → body (k : Int) () = some (if p k = true then .go () else .out (.inr (val k)))) :
 (rloop body (fun _ => .inl ()) m 0 () = some (.inl ()) ∧ ∀ k, k < m → p k = true) ∨ ∃ k, k < m ∧ p k = false ∧ (∀ j, j < k → p j = true) ∧ rloop body (fun _ => .inl ()) m 0 () = some (.inr (val k)) := by
 have key : Rn (rloop body (fun _ => Sum.inl ()) m 0 ()) (fun b => (b = .inl () ∧ ∀ k, k < m → p k = true) ∨ ∃ k, k < m ∧ p k = false ∧ (∀ j, j < k → p j = true) ∧ b = .inr (val k)) := by
  refine rn_rloop (fun k _ => ∀ j, j < k → p j = true) (fun j hj => by omega) ?_ fun s hs => .inl ⟨rfl, hs⟩
  intro k s hk hI
  refine ⟨_, h k hk, ?_⟩
  cases hp : p k with
  | true =>
   intro j hj
   rcases Nat.lt_or_ge j k with h | h
   ·exact hI j h
   ·have : j = k := by omega
    rw [this]; exact hp
  | false => exact .inr ⟨k, hk, hp, hI, rfl⟩
 obtain ⟨b, e, h1 | ⟨k, h1, h2, h3, h4⟩⟩ := key
 ·exact .inl ⟨by rw [e, h1.1], h1.2⟩
 ·exact .inr ⟨k, h1, h2, h3, by rw [e, h4]⟩
theorem n_all {α : Type} (l : List α) (p : α → Bool) (c : Bool) {body : Int → Unit → Option (Stp Unit (Unit ⊕ Bool))} (h : ∀ k (hk : k < l.length), body (k : Int) () = some (if p l[k] = true then .go () else .out (.inr c))) :
 (rloop body (fun _ => .inl ()) l.length 0 ()).bind (Sum.elim (fun _ => some (!c)) some) = some (if l.all p = true then !c else c) := by
 rcases n_first (body := body) l.length (fun k => (l[k]?).any p) (fun _ => c) (fun k hk => by rw [h k hk, List.getElem?_eq_getElem hk]; rfl) with ⟨e, h1⟩ | ⟨k, h1, h2, h3, e⟩
 ·rw [e]
  have : l.all p = true := by
   rw [List.all_eq_true]
   intro x hx
   obtain ⟨k, hk, rfl⟩ := List.mem_iff_getElem.1 hx
   have := h1 k hk
   rw [List.getElem?_eq_getElem hk] at this
   exact this
  rw [this]; rfl
 ·rw [e]
  have : l.all p = false := by
   rw [List.all_eq_false]
   refine ⟨l[k], List.getElem_mem h1, ?_⟩
   rw [List.getElem?_eq_getElem h1] at h2
   simpa using h2
  rw [this]; rfl
theorem areAll_gen {l : List Int} {p : Int → Bool} {f : Int → Option Bool} (hf : ∀ x ∈ l, f x = some (!p x)) :
 ((((rloop (σ := Unit) (β := Unit ⊕ Int) (fun i8 s7 => (ix l i8).bind fun x17 => (f x17).bind fun z20 => if z20 = true then (some (.out (.inr i8))) else (some (.go ()))) (fun s7 => .inl ()) (l.length) 0 () : Option (Unit ⊕ Int)).bind (Sum.elim (fun (x5 : Unit) => some (-1)) some)).bind fun z1 => some (decide (0 ≤ z1))).bind fun z1 => some (!z1)) = some (l.all p) := by
 rcases n_first l.length (fun k => (l[k]?).any p) (fun k => (k : Int)) (body := fun i8 s7 => (ix l i8).bind fun x17 => (f x17).bind fun z20 => if z20 = true then (some (.out (.inr i8))) else (some (.go ()))) (fun k hk => by
  rw [ix_at hk, Option.bind_some, hf _ (List.getElem_mem hk), Option.bind_some, List.getElem?_eq_getElem hk]
  exact ite_m _ _ _) with ⟨e, h1⟩ | ⟨k, h1, h2, h3, e⟩
 ·rw [e]
  have : l.all p = true := by
   rw [List.all_eq_true]
   intro x hx
   obtain ⟨k, hk, rfl⟩ := List.mem_iff_getElem.1 hx
   have := h1 k hk
   rw [List.getElem?_eq_getElem hk] at this
   exact this
  rw [this]; rfl
 ·rw [e]
  have : l.all p = false := by
   rw [List.all_eq_false]
   refine ⟨l[k], List.getElem_mem h1, ?_⟩
   rw [List.getElem?_eq_getElem h1] at h2
   simpa using h2
  rw [this]
  simp
theorem n_sGroup (gr : Group) : F_spec_sGroup gr = some (okG gr && decide (7 < gr.Q)) := by
 unfold F_spec_sGroup
 rw [n_l2Good]
 cases okG gr <;> simp
def polyV (q : Int) (f : List Int) (x : Int) : Int := f.foldr (fun c a => (a * x + c) % q) 0
theorem polyV_bd {q : Int} (hq : 0 < q) (f : List Int) (x : Int) : 0 ≤ polyV q f x ∧ polyV q f x < q := by
 cases f with
 | nil => exact ⟨Int.le_refl _, hq⟩
 | cons c f => exact ⟨Int.emod_nonneg _ (by omega), Int.emod_lt_of_pos _ hq⟩
theorem n_evalPoly {q x : Int} {f : List Int} (hq : 0 < q) (hq2 : q ≤ 2000000000) (hx : 0 ≤ x) (hx2 : x ≤ 2000000000) (hf : ∀ c ∈ f, 0 ≤ c ∧ c ≤ 2000000000) (hl : f.length ≤ 1000000000000) : F_impl_evalPoly q f x = some (polyV q f x) := by
 unfold F_impl_evalPoly
 rw [wr64 (by omega) (by omega)]
 refine eq_of_rn (rn_then (ψ := fun r => r = polyV q f x) (rn_cloop f.length (fun k s => s = (polyV q (f.drop (f.length - k)) x, (f.length : Int) - k - 1)) ?_ ?_ ?_) fun r hr => rn_some hr)
 ·simp [polyV]
 ·rintro k s hk rfl
  have hi : (f.length : Int) - (k : Int) - 1 = ((f.length - k - 1 : Nat) : Int) := by omega
  have hlt : f.length - k - 1 < f.length := by omega
  have hd : f.drop (f.length - (k + 1)) = f[f.length - k - 1] :: f.drop (f.length - k) := by
   have e := List.drop_eq_getElem_cons (l := f) (i := f.length - k - 1) hlt
   rw [show f.length - (k + 1) = f.length - k - 1 by omega, e, show f.length - k - 1 + 1 = f.length - k by omega]
  have hb := polyV_bd hq (f.drop (f.length - k)) x
  have hc := hf _ (List.getElem_mem hlt)
  refine rn_t (by simp only [decide_eq_true_eq]; omega) (rn_gd (by omega) ?_)
  simp only [hi]
  refine rn_ix hlt (rn_gd (by omega) (rn_some ?_))
  show (_, _) = (_, _)
  rw [hd]
  show (_, _) = ((polyV q (f.drop (f.length - k)) x * x + f[f.length - k - 1]) % q, _)
  generalize polyV q (f.drop (f.length - k)) x = a at hb ⊢
  have b1 : 0 ≤ a * x := Int.mul_nonneg hb.1 hx
  have b2 : a * x ≤ 2000000000 * 2000000000 := Int.mul_le_mul (by omega) hx2 hx (by omega)
  have b3 : 0 ≤ a * x % q := Int.emod_nonneg _ (by omega)
  have b4 : a * x % q < q := Int.emod_lt_of_pos _ hq
  rw [wr64 (n := a * x) (by omega) (by omega), Int.tmod_eq_emod_of_nonneg b1, wr64 (n := a * x % q + _) (by omega) (by omega), Int.tmod_eq_emod_of_nonneg (by omega), Int.emod_add_emod, wr64 (by omega) (by omega)]
  congr 1
  omega
 ·rintro s rfl
  refine rn_f (by simp only [decide_eq_false_iff_not]; omega) (rn_some ?_)
  show polyV q (f.drop (f.length - f.length)) x = _
  rw [Nat.sub_self, List.drop_zero]
theorem n_yEval {q x : Int} {f : List Int} (hq : 0 < q) (hq2 : q ≤ 2000000000) (hx : 0 ≤ x) (hx2 : x ≤ 2000000000) (hf : ∀ c ∈ f, 0 ≤ c ∧ c ≤ 2000000000) (hl : f.length ≤ 1000000000000) : F_spec_yEval q f x = some (polyV q f x) := by
 unfold F_spec_yEval
 rw [wr64 (by omega) (by omega)]
 refine eq_of_rn (rn_then (ψ := fun r => r = polyV q f x) (rn_cloop f.length (fun k s => s = (polyV q (f.drop (f.length - k)) x, (f.length : Int) - k - 1)) ?_ ?_ ?_) fun r hr => rn_some hr)
 ·simp [polyV]
 ·rintro k s hk rfl
  have hi : (f.length : Int) - (k : Int) - 1 = ((f.length - k - 1 : Nat) : Int) := by omega
  have hlt : f.length - k - 1 < f.length := by omega
  have hd : f.drop (f.length - (k + 1)) = f[f.length - k - 1] :: f.drop (f.length - k) := by
   have e := List.drop_eq_getElem_cons (l := f) (i := f.length - k - 1) hlt
   rw [show f.length - (k + 1) = f.length - k - 1 by omega, e, show f.length - k - 1 + 1 = f.length - k by omega]
  have hb := polyV_bd hq (f.drop (f.length - k)) x
  have hc := hf _ (List.getElem_mem hlt)
  refine rn_t (by simp only [decide_eq_true_eq]; omega) ?_
  simp only [hi]
  refine rn_ix hlt (rn_gd (by omega) (rn_some ?_))
  show (_, _) = (_, _)
  rw [hd]
  show (_, _) = ((polyV q (f.drop (f.length - k)) x * x + f[f.length - k - 1]) % q, _)
  generalize polyV q (f.drop (f.length - k)) x = a at hb ⊢
  have b1 : 0 ≤ a * x := Int.mul_nonneg hb.1 hx
  have b2 : a * x ≤ 2000000000 * 2000000000 := Int.mul_le_mul (by omega) hx2 hx (by omega)
  rw [wr64 (n := a * x) (by omega) (by omega), wr64 (n := a * x + _) (by omega) (by omega), Int.tmod_eq_emod_of_nonneg (by omega), wr64 (by omega) (by omega)]
  congr 1
  omega
 ·rintro s rfl
  refine rn_f (by simp only [decide_eq_false_iff_not]; omega) (rn_some ?_)
  show polyV q (f.drop (f.length - f.length)) x = _
  rw [Nat.sub_self, List.drop_zero]
def dg (q : Nat) : Nat → Nat → List Int
 | 0, _ => []
 | k + 1, n => ((n % q : Nat) : Int) :: dg q k (n / q)
theorem mod_cg (q a : Int) : (a % q) % q = a % q := Int.emod_emod_of_dvd a (Int.dvd_refl q)
theorem n_isSharing (gr : Group) : F_impl_isSharing gr = some (okG gr && decide (7 < gr.Q)) := by
 unfold F_impl_isSharing
 rw [n_validG]
 by_cases h : 7 < gr.Q <;> simp [h]
theorem n_areExps {gr : Group} (h : 0 ≤ gr.Q) (h2 : gr.Q ≤ 2000000000) (l : List Int) : F_impl_Group_areExps gr l = some (l.all (expB gr)) := by
 have h1 : F_impl_areAll__impl_Group_isExp l gr = some (l.all (expB gr)) := areAll_gen (f := fun x => F_impl_areAll_1__impl_Group_isExp x gr) fun x _ => by
  unfold F_impl_areAll_1__impl_Group_isExp
  rw [n_isExp h h2]; rfl
 unfold F_impl_Group_areExps
 rw [h1]; rfl
theorem pow_per {a n p e : Nat} (h : a ^ n % p = 1) : a ^ (e % n) % p = a ^ e % p := by
 have hp : 1 % p = 1 := by rw [← h, Nat.mod_mod]
 conv => rhs; rw [← Nat.div_add_mod e n]
 rw [Nat.pow_add, Nat.pow_mul, Nat.mul_mod, Nat.pow_mod (a ^ n), h, Nat.one_pow, hp, Nat.one_mul, Nat.mod_mod]
theorem has_pow {gr : Group} {x : Int} (h : hasB gr x = true) : 1 ≤ x ∧ x ≤ gr.P - 1 ∧ x.toNat ^ gr.Q.toNat % gr.P.toNat = 1 := by
 unfold hasB at h
 simp only [Bool.and_eq_true, decide_eq_true_eq] at h
 exact ⟨h.1.1, h.1.2, h.2⟩
theorem powG_mul {gr : Group} (k : OkG gr) {x : Int} (h : hasB gr x = true) {s l : Int} (hs : 0 ≤ s) (hl : 0 ≤ l) : powG gr (powG gr x s) l = powG gr x (s * l) := by
 obtain ⟨_, _, h3⟩ := has_pow h
 have hq := k.q
 obtain ⟨a, rfl⟩ := Int.eq_ofNat_of_zero_le hs
 obtain ⟨b, rfl⟩ := Int.eq_ofNat_of_zero_le hl
 obtain ⟨n, hn⟩ := Int.eq_ofNat_of_zero_le (show 0 ≤ gr.Q by omega)
 unfold powG
 rw [hn] at h3 ⊢
 rw [Int.toNat_natCast] at h3
 have e : ∀ c : Nat, ((c : Int) % (n : Int)).toNat = c % n := fun c => by rw [← Int.natCast_emod, Int.toNat_natCast]
 rw [mul_cast, e, e, e, Int.toNat_natCast, pow_per h3, pow_per h3, ← Nat.pow_mod, ← Nat.pow_mul]
 congr 1
 rw [Nat.pow_mul, Nat.pow_mod, pow_per (n := n) (e := b)]
 ·rw [← Nat.pow_mod, ← Nat.pow_mul]
 ·rw [← Nat.pow_mod, ← Nat.pow_mul, Nat.mul_comm, Nat.pow_mul, Nat.pow_mod, h3, Nat.one_pow, ← h3, Nat.mod_mod]
structure Bt (code : List Int) : Prop where
 b : ∀ x ∈ code, 0 ≤ x ∧ x ≤ 255
 l : code.length ≤ 1048576
structure Cu (code : List Int) (n : Int) (c : List Int × Int × Int) : Prop where
 e : c.1 = code
 lo : 0 ≤ c.2.1
 hi : c.2.1 ≤ n
theorem Cu.mono {code : List Int} {n m : Int} {c : List Int × Int × Int} (h : Cu code n c) (hn : n ≤ m) : Cu code m c := ⟨h.e, h.lo, Int.le_trans h.hi hn⟩
theorem low8 (x : BitVec IntKind.u64.bits) : 0 ≤ IntKind.i64.wrap (IntKind.u64.wrap ((x &&& BitVec.ofInt IntKind.u64.bits 255).toNat : Int)) ∧ IntKind.i64.wrap (IntKind.u64.wrap ((x &&& BitVec.ofInt IntKind.u64.bits 255).toNat : Int)) ≤ 255 := by
 have hy : (x &&& BitVec.ofInt IntKind.u64.bits 255).toNat ≤ 255 := by
  rw [BitVec.toNat_and]
  exact Nat.le_trans Nat.and_le_right (by decide)
 generalize (x &&& BitVec.ofInt IntKind.u64.bits 255).toNat = y at hy ⊢
 rw [wrU (by omega) (by omega), wr64 (by omega) (by omega)]
 omega
theorem n_next {code c0 : List Int} {at_ seed n : Int} (hb : Bt code) (h : Cu code n (c0, at_, seed)) (hn : n ≤ 9000000000000000) : Rn (F_spec_l1Cur_next__io0 c0 at_ seed) (fun z => 0 ≤ z.1 ∧ z.1 ≤ 255 ∧ Cu code (n + 1) z.2) := by
 obtain ⟨h1, h2, h3⟩ := h
 have h1 : c0 = code := h1
 have h2 : 0 ≤ at_ := h2
 have h3 : at_ ≤ n := h3
 subst h1
 have hw : IntKind.i64.wrap (at_ + 1) = at_ + 1 := wr64 (by omega) (by omega)
 unfold F_spec_l1Cur_next__io0
 refine rn_then (ψ := fun v => 0 ≤ v ∧ v ≤ 255) ?_ fun v hv => ?_
 ·refine rn_if (fun g => ?_) fun g => rn_some (by omega)
  obtain ⟨k, rfl⟩ := Int.eq_ofNat_of_zero_le h2
  have hk : k < c0.length := by simp at g; omega
  have := hb.b _ (List.getElem_mem hk)
  exact rn_ix hk (rn_some (by rw [wr64 (by omega) (by omega)]; exact this))
 ·simp only [hw]
  refine rn_if (fun g => rn_some ⟨hv.1, hv.2, rfl, by show 0 ≤ at_ + 1; omega, by show at_ + 1 ≤ n + 1; omega⟩) fun g => rn_some ?_
  exact ⟨(low8 _).1, (low8 _).2, rfl, by show 0 ≤ at_ + 1; omega, by show at_ + 1 ≤ n + 1; omega⟩
theorem n_pick {code c0 : List Int} {at_ seed n m : Int} (hb : Bt code) (h : Cu code n (c0, at_, seed)) (hn : n ≤ 8000000000000000) : Rn (F_spec_l1Cur_pick__io0 c0 at_ seed m) (fun z => 0 ≤ z.1 ∧ (m ≤ 1 → z.1 = 0) ∧ (1 < m → z.1 < m) ∧ z.1 ≤ 65535 ∧ Cu code (n + 2) z.2) := by
 unfold F_spec_l1Cur_pick__io0
 refine rn_if (fun g => rn_some ⟨Int.le_refl 0, fun _ => rfl, fun h => by simp at g; omega, by show (0 : Int) ≤ _; omega, h.mono (by omega)⟩) fun g => ?_
 have g : 1 < m := by simpa using g
 refine rn_then (n_next hb h (by omega)) fun z ⟨z1, z2, z3⟩ => ?_
 refine rn_then (ψ := fun x => 0 ≤ x.2 ∧ x.2 ≤ 65535 ∧ Cu code (n + 2) x.1) ?_ fun x ⟨x1, x2, x3⟩ => ?_
 ·refine rn_if (fun _ => rn_then (n_next hb z3 (by omega)) fun y ⟨y1, y2, y3⟩ => rn_some ?_) fun _ => rn_some ⟨z1, by show z.1 ≤ _; omega, z3.mono (by omega)⟩
  rw [wr64 (n := z.1 * 256) (by omega) (by omega), wr64 (by omega) (by omega)]
  exact ⟨by show 0 ≤ z.1 * 256 + y.1; omega, by show z.1 * 256 + y.1 ≤ _; omega, y3.mono (by omega)⟩
 ·refine rn_gd (by omega) (rn_some ?_)
  rw [Int.tmod_eq_emod_of_nonneg x1]
  have b1 := Int.emod_nonneg x.2 (show m ≠ 0 by omega)
  have b2 := Int.emod_lt_of_pos x.2 (show 0 < m by omega)
  have b3 : x.2 % m ≤ x.2 := by
   rcases Int.lt_or_le x.2 m with h | h
   ·rw [Int.emod_eq_of_lt x1 h]; exact Int.le_refl _
   ·omega
  exact ⟨b1, fun h => by omega, fun _ => b2, by show x.2 % m ≤ _; omega, x3⟩
theorem n_one {code c0 : List Int} {at_ seed n m : Int} (hb : Bt code) (h : Cu code n (c0, at_, seed)) (hn : n ≤ 8000000000000000) : Rn (F_spec_l1Cur_one__io0 c0 at_ seed m) (fun z => Cu code (n + 2) z.2) := by
 unfold F_spec_l1Cur_one__io0
 exact rn_then (n_pick hb h hn) fun z hz => rn_some hz.2.2.2.2
theorem n_amongM {code c0 : List Int} {at_ seed n : Int} {l : List Int} (hb : Bt code) (h : Cu code n (c0, at_, seed)) (hn : n ≤ 8000000000000000) (hl : l ≠ []) : Rn (F_spec_l1Cur_among__io0_mv1 c0 at_ seed l) (fun z => z.1 ∈ l ∧ Cu code (n + 2) z.2) := by
 unfold F_spec_l1Cur_among__io0_mv1
 refine rn_then (n_pick hb h hn) fun z ⟨z1, z2, z3, z4, z5⟩ => ?_
 have h0 : 0 < l.length := List.length_pos_iff.2 hl
 obtain ⟨k, hk⟩ := Int.eq_ofNat_of_zero_le z1
 have hlt : k < l.length := by
  rcases Nat.lt_or_ge 1 l.length with h | h
  ·have := z3 (by omega); omega
  ·have := z2 (by omega); omega
 rw [hk]
 exact rn_ix hlt (rn_some ⟨List.getElem_mem hlt, z5⟩)
theorem Pr_gcd {n d : Nat} (h : Pr n) (hd : d % n ≠ 0) : Nat.gcd n d = 1 := by
 obtain ⟨k, hk⟩ := Nat.gcd_dvd_left n d
 have hn := h.1
 have h0 : 0 < Nat.gcd n d := Nat.gcd_pos_of_pos_left d (by omega)
 have hdv := Nat.gcd_dvd_right n d
 generalize Nat.gcd n d = g at hk h0 hdv
 apply Classical.byContradiction
 intro hg
 have hg2 : 2 ≤ g := by omega
 have hk2 : 2 ≤ k := by
  rcases Nat.lt_or_ge k 2 with h | h
  ·have : k = 0 ∨ k = 1 := by omega
   rcases this with rfl | rfl
   ·omega
   ·rw [Nat.mul_one] at hk
    rw [← hk] at hdv
    exact absurd (Nat.mod_eq_zero_of_dvd hdv) hd
  ·exact h
 rcases Nat.le_total g k with h' | h'
 ·exact h.2 g hg2 (by rw [hk]; exact Nat.mul_le_mul_left g h') (by rw [hk]; exact Nat.mul_mod_right g k)
 ·exact h.2 k hk2 (by rw [hk]; exact Nat.mul_le_mul_right k h') (by rw [hk]; exact Nat.mul_mod_left g k)
theorem Pr_mul {n : Nat} (h : Pr n) {a b : Int} (hab : (a * b) % (n : Int) = 0) : a % (n : Int) = 0 ∨ b % (n : Int) = 0 := by
 have h1 : n ∣ a.natAbs * b.natAbs := by
  rw [← Int.natAbs_mul]
  exact Int.ofNat_dvd_left.1 (Int.dvd_of_emod_eq_zero hab)
 by_cases ha : a.natAbs % n = 0
 ·exact .inl (Int.emod_eq_zero_of_dvd (Int.ofNat_dvd_left.2 (Nat.dvd_of_mod_eq_zero ha)))
 ·exact .inr (Int.emod_eq_zero_of_dvd (Int.ofNat_dvd_left.2 (Nat.Coprime.dvd_of_dvd_mul_left (Pr_gcd h ha) h1)))
def evP (f : List Int) (x : Int) : Int := f.foldr (fun c a => a * x + c) 0
theorem evP_cons (c : Int) (f : List Int) (x : Int) : evP (c :: f) x = evP f x * x + c := rfl
def dvP (r : Int) : List Int → List Int
 | [] => []
 | [_] => []
 | _ :: c :: f => evP (c :: f) r :: dvP r (c :: f)
theorem dvP_len (r : Int) : ∀ f : List Int, (dvP r f).length = f.length - 1
 | [] => rfl
 | [_] => rfl
 | _ :: c :: f => by
  show (dvP r (c :: f)).length + 1 = _
  rw [dvP_len r (c :: f)]; simp
theorem dvP_ev (r x : Int) : ∀ f : List Int, evP f x = evP (dvP r f) x * (x - r) + evP f r
 | [] => by simp [dvP, evP]
 | [c] => by simp [dvP, evP]
 | d :: c :: f => by
  have ih := dvP_ev r x (c :: f)
  show evP (c :: f) x * x + d = (evP (dvP r (c :: f)) x * x + evP (c :: f) r) * (x - r) + (evP (c :: f) r * r + d)
  rw [ih]
  grind
theorem dvP_last (r : Int) : ∀ f : List Int, 2 ≤ f.length → (dvP r f).getLastD 0 = f.getLastD 0
 | [], h => absurd h (by simp)
 | [_], h => absurd h (by simp)
 | [d, c], _ => by simp [dvP, evP]
 | e :: d :: c :: f, _ => by
  have ih := dvP_last r (d :: c :: f) (by simp)
  show (evP (d :: c :: f) r :: evP (c :: f) r :: dvP r (c :: f)).getLastD 0 = _
  have : dvP r (d :: c :: f) = evP (c :: f) r :: dvP r (c :: f) := rfl
  rw [this] at ih
  simpa [List.getLastD] using ih
theorem rootsP {p : Nat} (hp : Pr p) : ∀ (n : Nat) (f : List Int), f.length = n + 1 → f.getLastD 0 % (p : Int) ≠ 0 → ∀ rs : List Int, rs.Pairwise (fun a b => (b - a) % (p : Int) ≠ 0) → (∀ r ∈ rs, evP f r % (p : Int) = 0) → rs.length ≤ n
 | 0, f, hl, hf, rs, hd, hr => by
  match f, hl with
  | [c], _ =>
   cases rs with
   | nil => simp
   | cons r rs =>
    have := hr r (List.mem_cons_self ..)
    simp [evP] at this
    exact absurd (by first | exact this | exact Int.emod_eq_zero_of_dvd this) (by simpa [List.getLastD] using hf)
 | n + 1, f, hl, hf, rs, hd, hr => by
  cases rs with
  | nil => simp
  | cons r rs =>
   have h1 := List.pairwise_cons.1 hd
   have := rootsP hp n (dvP r f) (by rw [dvP_len]; omega) (by rw [dvP_last r f (by omega)]; exact hf) rs h1.2 fun s hs => by
    have e := dvP_ev r s f
    have hs0 := hr s (List.mem_cons_of_mem _ hs)
    have hr0 := hr r (List.mem_cons_self ..)
    have hm : (evP (dvP r f) s * (s - r)) % (p : Int) = 0 := by
     rw [show evP (dvP r f) s * (s - r) = evP f s - evP f r by omega, Int.sub_emod, hs0, hr0]; simp
    rcases Pr_mul hp hm with h | h
    ·exact h
    ·exact absurd h (h1.1 s hs)
   simpa using this
theorem evP_mono (k : Nat) (x : Int) : evP (List.replicate k 0 ++ [1]) x = x ^ k := by
 induction k with
 | zero => simp [evP]
 | succ k ih => rw [List.replicate_succ, List.cons_append, evP_cons, ih, Int.pow_succ]; omega
theorem unity_roots {p n : Nat} (hp : Pr p) (hn : 1 ≤ n) (rs : List Int) (hd : rs.Pairwise (fun a b => (b - a) % (p : Int) ≠ 0)) (hr : ∀ r ∈ rs, r ^ n % (p : Int) = 1) : rs.length ≤ n := by
 have h2 := hp.1
 have hone : (1 : Int) % (p : Int) = 1 := Int.emod_eq_of_lt (by omega) (by omega)
 obtain ⟨k, rfl⟩ : ∃ k, n = k + 1 := ⟨n - 1, by omega⟩
 refine rootsP hp (k + 1) (-1 :: (List.replicate k 0 ++ [1])) (by simp) ?_ rs hd fun r hr' => ?_
 ·have : (-1 :: (List.replicate k (0 : Int) ++ [1])).getLastD 0 = 1 := by
   rw [← List.cons_append, List.getLastD_concat]
  rw [this, hone]; omega
 ·rw [evP_cons, evP_mono, ← Int.pow_succ, Int.add_emod, hr r hr']
  have : ((-1 : Int) % (p : Int)) = p - 1 := by
   have := Int.add_mul_emod_self_left (-1) (p : Int) 1
   rw [← this, Int.mul_one, Int.emod_eq_of_lt (by omega) (by omega)]; omega
  rw [this, show 1 + ((p : Int) - 1) = p by omega, Int.emod_self]
theorem not_unity {p n : Nat} (hp : Pr p) (hn : 1 ≤ n) (hnp : n < p - 1) : ∃ h : Nat, 2 ≤ h ∧ h < p ∧ h ^ n % p ≠ 1 := by
 apply Classical.byContradiction
 intro hc
 have h2 := hp.1
 have h1 : ∀ h : Nat, 1 ≤ h → h < p → h ^ n % p = 1 := fun h a b => by
  rcases Nat.lt_or_ge h 2 with c | c
  ·have : h = 1 := by omega
   subst this
   rw [Nat.one_pow, Nat.mod_eq_of_lt (by omega)]
  ·exact Classical.byContradiction fun d => hc ⟨h, c, b, d⟩
 have := unity_roots hp hn ((List.range (p - 1)).map fun k => ((k + 1 : Nat) : Int)) ?_ ?_
 ·simp at this; omega
 ·rw [List.pairwise_map]
  refine List.Pairwise.imp_of_mem ?_ List.pairwise_lt_range
  intro a b ha hb hab
  have hb := List.mem_range.1 hb
  rw [show ((b + 1 : Nat) : Int) - ((a + 1 : Nat) : Int) = ((b - a : Nat) : Int) by omega, ← Int.natCast_emod, Nat.mod_eq_of_lt (by omega)]
  omega
 ·intro r hr
  obtain ⟨k, hk, rfl⟩ := List.mem_map.1 hr
  have hk := List.mem_range.1 hk
  rw [← Int.natCast_pow, ← Int.natCast_emod, h1 (k + 1) (by omega) (by omega)]; rfl
structure Gs (gr : Group) : Prop where
 p : 0 ≤ gr.P ∧ gr.P ≤ 2000000000
 q : 0 ≤ gr.Q ∧ gr.Q ≤ 1000000000
 g : 0 ≤ gr.G ∧ gr.G ≤ 2000000000
theorem mg_dvd {q k : Nat} (hq : 2 ≤ q) : ((1 + (k : Int) * (q : Int)) - 1).tdiv (q : Int) = (k : Int) := by
 rw [show (1 + (k : Int) * (q : Int)) - 1 = (k : Int) * (q : Int) by omega, Int.mul_tdiv_cancel _ (by omega)]
theorem n_MakeGroup {q : Nat} (hq2 : q ≤ 1000000) : Rn (F_spec_MakeGroup (q : Int)) (fun z => Gs z.1 ∧ (z.2 = true → z.1.Q = q ∧ 3 ≤ z.1.P) ∧ (∀ k : Nat, 1 ≤ k → Pr (1 + k * q) → 1 + k * q ≤ 2000000000 → Pr q → z.2 = true)) := by
 unfold F_spec_MakeGroup
 refine rn_then (ψ := fun b => b = !(decide (2 ≤ q) && prB (q : Int))) ?_ ?_
 ·refine rn_call (n_l1In _ _ _) ?_
  by_cases h : 2 ≤ q
  ·refine rn_f (by simp; omega) (rn_call (n_nPrime _ (by omega)) (rn_some ?_))
   simp [h]
  ·refine rn_t (by simp; omega) (rn_some ?_)
   simp [h]
 ·rintro _ rfl
  cases hc : (decide (2 ≤ q) && prB (q : Int))
  ·refine rn_t rfl (rn_some ⟨⟨⟨by decide, by decide⟩, ⟨by decide, by decide⟩, by decide, by decide⟩, fun h => (by cases h), fun k h1 h2 h3 h4 => ?_⟩)
   rw [prB_t.2 h4] at hc
   have := h4.1
   simp at hc; omega
  ·have hq : 2 ≤ q := by simp at hc; exact hc.1
   have hpq : Pr q := by simp at hc; exact prB_t.1 hc.2
   refine rn_f rfl ?_
   refine rn_then (ψ := fun b => (b = .inl () ∧ ∀ k : Nat, 1 ≤ k → Pr (1 + k * q) → ¬ 1 + k * q ≤ 2000000000) ∨ ∃ z : Group × Bool, b = .inr z ∧ Gs z.1 ∧ z.2 = true ∧ z.1.Q = q ∧ 3 ≤ z.1.P) ?_ ?_
   ·rw [wr64 (by omega) (by omega)]
    refine rn_wloop (fun s => ∃ k : Nat, 1 ≤ k ∧ s = 1 + (k : Int) * (q : Int) ∧ s ≤ 2001000001 ∧ ∀ j : Nat, 1 ≤ j → j < k → ¬ Pr (1 + j * q)) (fun s => (2001000001 - s).toNat) ⟨1, by omega, by omega, by omega, fun j h1 h2 => by omega⟩ ?_
    rintro s ⟨k, hk, rfl, hs, hn⟩
    have hkq : k * 2 ≤ k * q := Nat.mul_le_mul_left k hq
    have hkc : (k : Int) * (q : Int) = ((k * q : Nat) : Int) := mul_cast k q
    refine rn_if (fun g => ?_) fun g => ?_
    ·have g : 1 + (k : Int) * (q : Int) ≤ 2000000000 := by simpa using g
     refine rn_call (n_nPrime _ (by omega)) ?_
     have hcast : 1 + (k : Int) * (q : Int) = ((1 + k * q : Nat) : Int) := by omega
     cases hp : prB (1 + (k : Int) * (q : Int))
     ·refine rn_t rfl (rn_some ?_)
      have e : IntKind.i64.wrap (1 + (k : Int) * (q : Int) + (q : Int)) = 1 + ((k + 1 : Nat) : Int) * (q : Int) := by
       rw [wr64 (by omega) (by omega)]; grind
      refine ⟨⟨k + 1, by omega, e, by rw [wr64 (by omega) (by omega)]; omega, fun j h1 h2 => ?_⟩, ?_⟩
      ·rcases Nat.lt_or_ge j k with h | h
       ·exact hn j h1 h
       ·have : j = k := by omega
        subst this
        intro hpr
        rw [hcast, prB_t.2 hpr] at hp
        cases hp
      ·rw [wr64 (by omega) (by omega)]; omega
     ·refine rn_f rfl ?_
      have hpr : Pr (1 + k * q) := by rw [hcast] at hp; exact prB_t.1 hp
      obtain ⟨h0, a1, a2, a3⟩ := not_unity hpr hk (by omega)
      have hdv : IntKind.i64.wrap ((IntKind.i64.wrap (1 + (k : Int) * (q : Int) - 1)).tdiv (q : Int)) = (k : Int) := by
       rw [wr64 (n := 1 + (k : Int) * (q : Int) - 1) (by omega) (by omega), mg_dvd hq, wr64 (by omega) (by omega)]
      simp only [hdv]
      simp only [hcast]
      refine rn_then (ψ := fun h => 2 ≤ h ∧ h ≤ (h0 : Int)) (rn_wloop (fun s => 2 ≤ s ∧ s ≤ (h0 : Int)) (fun s => (h0 - s).toNat) (by omega) ?_) ?_
      ·rintro s ⟨s1, s2⟩
       have hpw := (n_powI (a := s) (e := (k : Int)) (m := ((1 + k * q : Nat) : Int)) (by omega) (by omega) (by omega) (by omega) (by omega) (by omega)).2
       refine rn_gd (by omega) (rn_call hpw ?_)
       refine rn_if (fun g => rn_some ?_) fun g => rn_some ⟨s1, s2⟩
       rw [wr64 (by omega) (by omega)]
       have hne : s ≠ (h0 : Int) := fun e => by
        subst e
        apply a3
        have g : ((((h0 : Int).toNat ^ (k : Int).toNat % ((1 + k * q : Nat) : Int).toNat : Nat)) : Int) = 1 := by simpa only [beq_iff_eq] using g
        rw [Int.toNat_natCast, Int.toNat_natCast, Int.toNat_natCast] at g
        omega
       refine ⟨⟨by omega, by omega⟩, ?_⟩
       omega
      ·rintro h ⟨s1, s2⟩
       have hpw := (n_powI (a := h) (e := (k : Int)) (m := ((1 + k * q : Nat) : Int)) (by omega) (by omega) (by omega) (by omega) (by omega) (by omega)).2
       refine rn_gd (by omega) (rn_call hpw (rn_some ?_))
       have hlt : h.toNat ^ (k : Int).toNat % ((1 + k * q : Nat) : Int).toNat < 1 + k * q := by
        rw [Int.toNat_natCast (1 + k * q)]
        exact Nat.mod_lt _ (by omega)
       refine .inr ⟨_, rfl, ⟨⟨by show (0 : Int) ≤ ((1 + k * q : Nat) : Int); omega, by show ((1 + k * q : Nat) : Int) ≤ _; omega⟩, ⟨by show (0 : Int) ≤ (q : Int); omega, by show (q : Int) ≤ _; omega⟩, ?_, ?_⟩, rfl, rfl, by show (3 : Int) ≤ ((1 + k * q : Nat) : Int); omega⟩
       ·show (0 : Int) ≤ ((_ : Nat) : Int); omega
       ·show ((_ : Nat) : Int) ≤ 2000000000; omega
    ·refine rn_some (.inl ⟨rfl, fun j h1 h2 h3 => ?_⟩)
     have g : ¬ 1 + (k : Int) * (q : Int) ≤ 2000000000 := by simpa using g
     rcases Nat.lt_or_ge j k with h | h
     ·exact hn j h1 h h2
     ·have : k * q ≤ j * q := Nat.mul_le_mul_right q h
      omega
   ·rintro b (⟨rfl, h⟩ | ⟨z, rfl, h1, h2, h3, h4⟩)
    ·exact rn_some ⟨⟨⟨by decide, by decide⟩, ⟨by decide, by decide⟩, by decide, by decide⟩, fun h => (by cases h), fun k h1 h2 h3 h4 => absurd h3 (h k h1 h2)⟩
    ·exact rn_some ⟨h1, fun _ => ⟨h3, h4⟩, fun _ _ _ _ _ => h2⟩
theorem Pr64 {n : Nat} (hn : n < 64) (h2 : 2 ≤ n) (h : ∀ d, d < 8 → 2 ≤ d → d * d ≤ n → n % d ≠ 0) : Pr n := by
 refine ⟨h2, fun d h1 h3 => ?_⟩
 rcases Nat.lt_or_ge d 8 with h8 | h8
 ·exact h d h8 h1 h3
 ·have : 8 * 8 ≤ d * d := Nat.mul_le_mul h8 h8
  omega
structure Gw (gr : Group) : Prop where
 p : -10 ≤ gr.P ∧ gr.P ≤ 2100000000
 q : -10 ≤ gr.Q ∧ gr.Q ≤ 2100000000
 g : -10 ≤ gr.G ∧ gr.G ≤ 2100000000
theorem Gs.w {gr : Group} (h : Gs gr) : Gw gr := ⟨by have := h.p; omega, by have := h.q; omega, by have := h.g; omega⟩
theorem tiny_q {x : Int} (hx : x ∈ [(3 : Int), 5, 5, 7, 11, 11, 13, 23]) : ∃ q k : Nat, x = (q : Int) ∧ 3 ≤ q ∧ q ≤ 23 ∧ 1 ≤ k ∧ Pr (1 + k * q) ∧ 1 + k * q ≤ 2000000000 ∧ Pr q := by
 simp only [List.mem_cons, List.not_mem_nil, or_false] at hx
 rcases hx with rfl | rfl | rfl | rfl | rfl | rfl | rfl | rfl
 ·exact ⟨3, 2, rfl, by decide, by decide, by decide, Pr64 (by decide) (by decide) (by decide), by decide, Pr64 (by decide) (by decide) (by decide)⟩
 ·exact ⟨5, 2, rfl, by decide, by decide, by decide, Pr64 (by decide) (by decide) (by decide), by decide, Pr64 (by decide) (by decide) (by decide)⟩
 ·exact ⟨5, 2, rfl, by decide, by decide, by decide, Pr64 (by decide) (by decide) (by decide), by decide, Pr64 (by decide) (by decide) (by decide)⟩
 ·exact ⟨7, 4, rfl, by decide, by decide, by decide, Pr64 (by decide) (by decide) (by decide), by decide, Pr64 (by decide) (by decide) (by decide)⟩
 ·exact ⟨11, 2, rfl, by decide, by decide, by decide, Pr64 (by decide) (by decide) (by decide), by decide, Pr64 (by decide) (by decide) (by decide)⟩
 ·exact ⟨11, 2, rfl, by decide, by decide, by decide, Pr64 (by decide) (by decide) (by decide), by decide, Pr64 (by decide) (by decide) (by decide)⟩
 ·exact ⟨13, 4, rfl, by decide, by decide, by decide, Pr64 (by decide) (by decide) (by decide), by decide, Pr64 (by decide) (by decide) (by decide)⟩
 ·exact ⟨23, 2, rfl, by decide, by decide, by decide, Pr64 (by decide) (by decide) (by decide), by decide, Pr64 (by decide) (by decide) (by decide)⟩
theorem n_tiny {code c0 : List Int} {at_ seed n : Int} (hb : Bt code) (h : Cu code n (c0, at_, seed)) (hn : n ≤ 7000000000000000) : Rn (F_spec_l1Cur_tiny__io0 c0 at_ seed) (fun z => Gs z.1 ∧ 3 ≤ z.1.Q ∧ z.1.Q ≤ 23 ∧ 3 ≤ z.1.P ∧ Cu code (n + 2) z.2) := by
 unfold F_spec_l1Cur_tiny__io0
 refine rn_then (n_amongM hb h (by omega) (by simp)) fun z ⟨z1, z2⟩ => ?_
 obtain ⟨q, k, e, q1, q2, k1, k2, k3, k4⟩ := tiny_q z1
 rw [e]
 refine rn_then (n_MakeGroup (by omega)) fun y ⟨y1, y2, y3⟩ => rn_some ?_
 have y4 := y2 (y3 k k1 k2 k3 k4)
 exact ⟨y1, by show 3 ≤ y.1.Q; omega, by show y.1.Q ≤ 23; omega, y4.2, z2⟩
theorem n_gExpT {gr : Group} (h : Gs gr) (hq : 1 ≤ gr.Q) (hp : 1 ≤ gr.P) {x : Int} (hx : 0 ≤ x ∧ x ≤ 2000000000) (e : Int) : Rn (F_spec_gExp gr x e) (fun v => 0 ≤ v ∧ v ≤ 2000000000) := by
 have h1 := h.p
 have h2 := h.q
 have b1 : 0 ≤ e % gr.Q := Int.emod_nonneg _ (by omega)
 have b2 : e % gr.Q < gr.Q := Int.emod_lt_of_pos _ (by omega)
 have hw := (n_powI (a := x) (e := e % gr.Q) (m := gr.P) (by omega) (by omega) (by omega) (by omega) b1 (by omega)).2
 unfold F_spec_gExp
 refine rn_call (n_nMod (by omega) (by omega)) (rn_call hw (rn_some ?_))
 have hlt : x.toNat ^ (e % gr.Q).toNat % gr.P.toNat < gr.P.toNat := Nat.mod_lt _ (by omega)
 omega
theorem big_q {x : Int} (hx : x ∈ [(101 : Int), 1009, 1019, 65537, 999983]) : ∃ q : Nat, x = (q : Int) ∧ q ≤ 1000000 := by
 simp only [List.mem_cons, List.not_mem_nil, or_false] at hx
 rcases hx with rfl | rfl | rfl | rfl | rfl
 ·exact ⟨101, rfl, by decide⟩
 ·exact ⟨1009, rfl, by decide⟩
 ·exact ⟨1019, rfl, by decide⟩
 ·exact ⟨65537, rfl, by decide⟩
 ·exact ⟨999983, rfl, by decide⟩
theorem gs_big : Gs (Group.mk 1000000007 500000003 4) := ⟨⟨by decide, by decide⟩, ⟨by decide, by decide⟩, by decide, by decide⟩
theorem cu0 (code : List Int) : Cu code 0 (code, 0, 0) := ⟨rfl, Int.le_refl 0, Int.le_refl 0⟩
theorem n_group {code c0 : List Int} {at_ seed n : Int} (hb : Bt code) (h : Cu code n (c0, at_, seed)) (hn : n ≤ 6000000000000000) : Rn (F_spec_l1Cur_group__io0 c0 at_ seed) (fun z => Gs z.1 ∧ Cu code (n + 6) z.2) := by
 unfold F_spec_l1Cur_group__io0
 refine rn_then (n_pick hb h (by omega)) fun z ⟨z1, z2, z3, z4, z5⟩ => ?_
 refine rn_if (fun _ => rn_some ⟨gs_big, z5.mono (by omega)⟩) fun _ => rn_if (fun _ => ?_) fun _ => ?_
 ·refine rn_then (n_amongM hb z5 (by omega) (by simp)) fun y ⟨y1, y2⟩ => ?_
  obtain ⟨q, e, hq⟩ := big_q y1
  rw [e]
  exact rn_then (n_MakeGroup hq) fun x ⟨x1, _, _⟩ => rn_some ⟨x1, y2.mono (by omega)⟩
 ·refine rn_then (n_tiny hb z5 (by omega)) fun y ⟨y1, y2, y3, y4, y5⟩ => ?_
  refine rn_then (n_pick hb y5 (by omega)) fun x ⟨x1, x2, x3, x4, x5⟩ => ?_
  have hg := y1.g
  refine rn_then (n_gExpT y1 (by omega) (by omega) hg _) fun v hv => rn_some ⟨⟨y1.p, y1.q, hv⟩, x5.mono (by omega)⟩
theorem n_anyGroup {code c0 : List Int} {at_ seed n : Int} (hb : Bt code) (h : Cu code n (c0, at_, seed)) (hn : n ≤ 5000000000000000) : Rn (F_spec_l1Cur_anyGroup__io0 c0 at_ seed) (fun z => Gw z.1 ∧ Cu code (n + 10) z.2) := by
 unfold F_spec_l1Cur_anyGroup__io0
 refine rn_then (n_group hb h (by omega)) fun z ⟨z1, z2⟩ => ?_
 have g1 := z1.p
 have g2 := z1.q
 have g3 := z1.g
 refine rn_then (n_pick hb z2 (by omega)) fun y ⟨_, _, _, _, y5⟩ => ?_
 rw [wr64 (n := z.1.P + 2) (by omega) (by omega), wr64 (n := z.1.Q + 1) (by omega) (by omega), wr64 (n := z.1.P - 1) (by omega) (by omega), wr64 (n := z.1.G + 1) (by omega) (by omega)]
 refine rn_then (ψ := fun x => Gw (Group.mk x.2.1 x.2.2.1 x.2.2.2) ∧ Cu code (n + 10) x.1) ?_ fun x hx => rn_some hx
 refine rn_if (fun _ => ?_) fun _ => rn_if (fun _ => ?_) fun _ => rn_if (fun _ => ?_) fun _ => rn_some ⟨z1.w, y5.mono (by omega)⟩
 ·refine rn_then (n_amongM hb y5 (by omega) (by simp)) fun x ⟨x1, x2⟩ => rn_some ⟨?_, x2.mono (by omega)⟩
  simp only [List.mem_cons, List.not_mem_nil, or_false] at x1
  exact ⟨by show -10 ≤ x.1 ∧ x.1 ≤ _; omega, by show -10 ≤ z.1.Q ∧ z.1.Q ≤ _; omega, by show -10 ≤ z.1.G ∧ z.1.G ≤ _; omega⟩
 ·refine rn_then (n_amongM hb y5 (by omega) (by simp)) fun x ⟨x1, x2⟩ => rn_some ⟨?_, x2.mono (by omega)⟩
  simp only [List.mem_cons, List.not_mem_nil, or_false] at x1
  exact ⟨by show -10 ≤ z.1.P ∧ z.1.P ≤ _; omega, by show -10 ≤ x.1 ∧ x.1 ≤ _; omega, by show -10 ≤ z.1.G ∧ z.1.G ≤ _; omega⟩
 ·refine rn_then (n_amongM hb y5 (by omega) (by simp)) fun x ⟨x1, x2⟩ => rn_some ⟨?_, x2.mono (by omega)⟩
  simp only [List.mem_cons, List.not_mem_nil, or_false] at x1
  exact ⟨by show -10 ≤ z.1.P ∧ z.1.P ≤ _; omega, by show -10 ≤ z.1.Q ∧ z.1.Q ≤ _; omega, by show -10 ≤ x.1 ∧ x.1 ≤ _; omega⟩
theorem shared_q {x : Int} (hx : x ∈ [(11 : Int), 11, 13, 23, 23, 101, 1019]) : ∃ q : Nat, x = (q : Int) ∧ q ≤ 1000000 := by
 simp only [List.mem_cons, List.not_mem_nil, or_false] at hx
 exact ⟨x.toNat, by omega, by omega⟩
theorem n_shared {code c0 : List Int} {at_ seed n : Int} (hb : Bt code) (h : Cu code n (c0, at_, seed)) (hn : n ≤ 4000000000000000) : Rn (F_spec_l1Cur_shared__io0 c0 at_ seed) (fun z => Gw z.1 ∧ Cu code (n + 12) z.2) := by
 unfold F_spec_l1Cur_shared__io0
 refine rn_then (n_one hb h (by omega)) fun z z1 => ?_
 refine rn_if (fun _ => ?_) fun _ => ?_
 ·exact rn_then (n_anyGroup hb z1 (by omega)) fun y ⟨y1, y2⟩ => rn_some ⟨y1, y2.mono (by omega)⟩
 ·refine rn_then (n_amongM hb z1 (by omega) (by simp)) fun y ⟨y1, y2⟩ => ?_
  obtain ⟨q, e, hq⟩ := shared_q y1
  rw [e]
  exact rn_then (n_MakeGroup hq) fun x ⟨x1, _, _⟩ => rn_some ⟨x1.w, y2.mono (by omega)⟩
theorem n_expo {code c0 : List Int} {at_ seed n : Int} {gr : Group} (hb : Bt code) (h : Cu code n (c0, at_, seed)) (hn : n ≤ 7000000000000000) (hg : gr.Q ≤ 2100000000) : Rn (F_spec_l1Cur_expo__io0 c0 at_ seed gr) (fun z => 0 ≤ z.1 ∧ z.1 ≤ 2100000000 ∧ (2 ≤ gr.Q → z.1 < gr.Q) ∧ Cu code (n + 4) z.2) := by
 unfold F_spec_l1Cur_expo__io0
 refine rn_if (fun g => rn_some ⟨Int.le_refl 0, by show (0 : Int) ≤ _; omega, fun h => by simp at g; omega, h.mono (by omega)⟩) fun g => ?_
 have g : 2 ≤ gr.Q := by simp at g; omega
 refine rn_then (n_pick hb h (by omega)) fun z ⟨z1, z2, z3, z4, z5⟩ => ?_
 refine rn_then (n_pick hb z5 (by omega)) fun y ⟨y1, y2, y3, y4, y5⟩ => rn_gd (by omega) (rn_some ?_)
 rw [wr64 (n := z.1 * 60000) (by omega) (by omega), wr64 (by omega) (by omega), Int.tmod_eq_emod_of_nonneg (by omega)]
 have b1 := Int.emod_nonneg (z.1 * 60000 + y.1) (show gr.Q ≠ 0 by omega)
 have b2 := Int.emod_lt_of_pos (z.1 * 60000 + y.1) (show 0 < gr.Q by omega)
 exact ⟨b1, by show _ % gr.Q ≤ _; omega, fun _ => b2, y5.mono (by omega)⟩
theorem n_anyExpo {code c0 : List Int} {at_ seed n : Int} {gr : Group} (hb : Bt code) (h : Cu code n (c0, at_, seed)) (hn : n ≤ 6000000000000000) (hg : Gw gr) : Rn (F_spec_l1Cur_anyExpo__io0 c0 at_ seed gr) (fun z => -100 ≤ z.1 ∧ z.1 ≤ 2100000000 ∧ Cu code (n + 6) z.2) := by
 have g2 := hg.q
 unfold F_spec_l1Cur_anyExpo__io0
 refine rn_then (n_one hb h (by omega)) fun z z1 => ?_
 rw [wr64 (by omega) (by omega)]
 refine rn_if (fun _ => ?_) fun _ => ?_
 ·refine rn_then (n_amongM hb z1 (by omega) (by simp)) fun y ⟨y1, y2⟩ => rn_some ?_
  simp only [List.mem_cons, List.not_mem_nil, or_false] at y1
  exact ⟨by show -100 ≤ y.1; omega, by show y.1 ≤ _; omega, y2.mono (by omega)⟩
 ·exact rn_then (n_expo hb z1 (by omega) (by omega)) fun y ⟨y1, y2, _, y3⟩ => rn_some ⟨by show -100 ≤ y.1; omega, y2, y3.mono (by omega)⟩
theorem n_coins {code c0 : List Int} {at_ seed n : Int} {gr : Group} {k : Nat} (hb : Bt code) (h : Cu code n (c0, at_, seed)) (hn : n ≤ 5000000000000000) (hg : Gw gr) (hk : k ≤ 1000000) : Rn (F_spec_l1Cur_coins__io0 c0 at_ seed gr (k : Int)) (fun z => z.1.length = k ∧ (∀ x ∈ z.1, 0 ≤ x ∧ x ≤ 2100000000 ∧ (2 ≤ gr.Q → x < gr.Q)) ∧ Cu code (n + 4 * k) z.2) := by
 unfold F_spec_l1Cur_coins__io0
 refine rn_then (ψ := fun r => r.2.length = k ∧ (∀ x ∈ r.2, 0 ≤ x ∧ x ≤ 2100000000 ∧ (2 ≤ gr.Q → x < gr.Q)) ∧ Cu code (n + 4 * k) r.1) (rn_cloop k (fun j s => s.2.1 = (k : Int) - j ∧ s.2.2.length = j ∧ (∀ x ∈ s.2.2, 0 ≤ x ∧ x ≤ 2100000000 ∧ (2 ≤ gr.Q → x < gr.Q)) ∧ Cu code (n + 4 * j) s.1) ⟨by show (k : Int) = _; omega, rfl, by simp, h.mono (by omega)⟩ ?_ ?_) fun r hr => rn_some hr
 ·rintro j s hj ⟨h1, h2, h3, h4⟩
  refine rn_t (by rw [h1]; simp; omega) (rn_then (n_expo hb h4 (by omega) hg.q.2) fun z ⟨z1, z2, z3, z4⟩ => rn_gd (by omega) (rn_some ⟨?_, by simp [h2], fun x hx => ?_, z4.mono (by omega)⟩))
  ·show IntKind.i64.wrap (s.2.1 - 1) = _
   rw [h1, wr64 (by omega) (by omega)]; omega
  ·rcases List.mem_append.1 hx with h | h
   ·exact h3 x h
   ·rw [List.mem_singleton.1 h]; exact ⟨z1, z2, z3⟩
 ·rintro s ⟨h1, h2, h3, h4⟩
  exact rn_f (by rw [h1]; simp) (rn_some ⟨h2, h3, h4⟩)
theorem n_sDealT {gr : Group} (k : OkG gr) {co : List Int} (hc : ∀ x ∈ co, 0 ≤ x ∧ x ≤ 2100000000 ∧ x < gr.Q) (hl : co.length ≤ 1000) {m : Nat} (hm : m ≤ 1000) : Rn (F_spec_sDeal gr co (m : Int)) (fun d => d.Shares.length = m ∧ d.Commits.length = co.length) := by
 have hp := k.p
 have hq := k.q
 have hg := k.g
 unfold F_spec_sDeal
 refine rn_then (ψ := fun r => r.1.length = co.length ∧ r.2 = []) (rn_rloop (fun j s => s.1.length = j ∧ s.2 = []) ⟨rfl, rfl⟩ ?_ fun s h => h) fun r ⟨r1, r2⟩ => ?_
 ·rintro j s hj ⟨h1, h2⟩
  exact rn_ix hj (rn_call (n_gExp k (by omega) (by omega) _) (rn_gd (by omega) (rn_some ⟨by simp [h1], h2⟩)))
 ·refine rn_then (ψ := fun x => x.1.length = co.length ∧ x.2.length = m) (rn_cloop m (fun j s => s.1.length = co.length ∧ s.2.1.length = j ∧ s.2.2 = (j : Int) + 1) ⟨r1, by rw [r2]; rfl, rfl⟩ ?_ ?_) fun x hx => rn_some ⟨hx.2, hx.1⟩
  ·rintro j s hj ⟨h1, h2, h3⟩
   refine rn_t (by rw [h3]; simp; omega) (rn_call (n_yEval (by omega) (by omega) (by omega) (by omega) (fun c h => by have := hc c h; omega) (by omega)) (rn_gd (by omega) (rn_some ⟨h1, by simp [h2], ?_⟩)))
   show IntKind.i64.wrap (s.2.2 + 1) = _
   rw [h3, wr64 (by omega) (by omega)]; omega
  ·rintro s ⟨h1, h2, h3⟩
   exact rn_f (by rw [h3]; simp; omega) (rn_some ⟨h1, h2⟩)
def ptsM (m : Nat) : List Int := (List.range m).map fun i => ((i : Nat) : Int) + 1
theorem ptsM_succ (m : Nat) : ptsM (m + 1) = ptsM m ++ [(m : Int) + 1] := by simp [ptsM, List.range_succ]
theorem n_nModW {a q : Int} (h0 : 0 < q) (h1 : q ≤ 4000000000000000000) : F_spec_nMod a q = some (a % q) := by
 unfold F_spec_nMod
 rw [gd_t (by omega), gd_t (by omega)]
 have b1 : a.tmod q < q := Int.tmod_lt_of_pos a h0
 have b2 : -q < a.tmod q := by
  have := Int.lt_tmod_of_pos a h0
  omega
 rw [wr64 (by omega) (by omega), Int.tmod_eq_emod_of_nonneg (by omega)]
 congr 1
 rw [Int.add_emod_right]
 rw [Int.tmod_def, Int.sub_emod, Int.mul_emod_right, Int.sub_zero, Int.emod_emod]
theorem tmod_bd (a : Int) {m : Int} (h : 0 < m) : -m < a.tmod m ∧ a.tmod m < m := by
 have h1 := Int.tmod_lt_of_pos a h
 have h2 := Int.lt_tmod_of_pos a h
 omega
theorem n_nPowerT (a : Int) {e m : Int} (h1 : 1 ≤ m) (h2 : 0 ≤ e) (h3 : e ≤ 4000000000000000000) : Rn (F_spec_nPower a e m) (fun v => -m < v ∧ v < m) := by
 unfold F_spec_nPower
 refine rn_gd (by omega) (rn_then (ψ := fun v => -m < v ∧ v < m) (rn_wloop (fun s => (-m < s.2.2 ∧ s.2.2 < m) ∧ 0 ≤ s.2.1 ∧ s.2.1 ≤ e) (fun s => s.2.1.toNat) ⟨tmod_bd _ (by omega), h2, Int.le_refl _⟩ ?_) fun x hx => rn_some hx)
 rintro s ⟨hs, h4, h5⟩
 refine rn_if (fun g => ?_) fun _ => rn_some hs
 have g : 0 < s.2.1 := by simpa using g
 refine rn_then (ψ := fun v => -m < v ∧ v < m) (rn_if (fun _ => rn_gd (by omega) (rn_some (tmod_bd _ (by omega)))) fun _ => rn_some hs) fun x hx => rn_gd (by omega) (rn_some ?_)
 have e1 : s.2.1.tdiv 2 = s.2.1 / 2 := Int.tdiv_eq_ediv_of_nonneg (by omega)
 have e2 : IntKind.i64.wrap (s.2.1.tdiv 2) = s.2.1 / 2 := by rw [e1, wr64 (by omega) (by omega)]
 exact ⟨⟨hx, by show 0 ≤ IntKind.i64.wrap _; rw [e2]; omega, by show IntKind.i64.wrap _ ≤ e; rw [e2]; omega⟩, by show (IntKind.i64.wrap _).toNat < _; rw [e2]; omega⟩
theorem n_gExpW {gr : Group} (hq : 1 ≤ gr.Q ∧ gr.Q ≤ 4000000000000000000) (hp : 1 ≤ gr.P) (x e : Int) : Rn (F_spec_gExp gr x e) (fun v => -gr.P < v ∧ v < gr.P) := by
 unfold F_spec_gExp
 refine rn_call (n_nModW (by omega) hq.2) (rn_then (n_nPowerT x hp (Int.emod_nonneg _ (by omega)) ?_) fun v hv => rn_some hv)
 have := Int.emod_lt_of_pos e (show 0 < gr.Q by omega)
 omega
theorem n_element {code c0 : List Int} {at_ seed n : Int} {gr : Group} (hb : Bt code) (h : Cu code n (c0, at_, seed)) (hn : n ≤ 6000000000000000) (hg : Gw gr) : Rn (F_spec_l1Cur_element__io0 c0 at_ seed gr) (fun z => -2200000000 ≤ z.1 ∧ z.1 ≤ 2200000000 ∧ Cu code (n + 4) z.2) := by
 have g1 := hg.p
 have g2 := hg.q
 unfold F_spec_l1Cur_element__io0
 refine rn_then (ψ := fun b => b = false → 3 ≤ gr.P ∧ 1 ≤ gr.Q) (rn_if (fun _ => rn_some fun h => by cases h) fun a => rn_some fun b => by simp at a b; omega) fun b hb' => rn_if (fun _ => rn_some ⟨by show -2200000000 ≤ (1 : Int); decide, by show (1 : Int) ≤ _; decide, h.mono (by omega)⟩) fun e => ?_
 obtain ⟨k1, k2⟩ := hb' e
 refine rn_call (n_nModW (by omega) (by omega)) (rn_then (n_expo hb h (by omega) (by omega)) fun z ⟨z1, z2, _, z3⟩ => rn_then (n_gExpW ⟨k2, by omega⟩ (by omega) _ _) fun v hv => rn_some ⟨by show _ ≤ v; omega, by show v ≤ _; omega, z3⟩)
theorem n_anyElement {code c0 : List Int} {at_ seed n : Int} {gr : Group} (hb : Bt code) (h : Cu code n (c0, at_, seed)) (hn : n ≤ 5000000000000000) (hg : Gw gr) : Rn (F_spec_l1Cur_anyElement__io0 c0 at_ seed gr) (fun z => -2200000000 ≤ z.1 ∧ z.1 ≤ 2200000000 ∧ Cu code (n + 6) z.2) := by
 have g1 := hg.p
 unfold F_spec_l1Cur_anyElement__io0
 refine rn_then (n_one hb h (by omega)) fun z z1 => rn_if (fun _ => ?_) fun _ => rn_then (n_element hb z1 (by omega) hg) fun y ⟨y1, y2, y3⟩ => rn_some ⟨y1, y2, y3.mono (by omega)⟩
 rw [wr64 (n := gr.P - 1) (by omega) (by omega)]
 refine rn_then (n_amongM hb z1 (by omega) (by simp)) fun y ⟨y1, y2⟩ => rn_some ?_
 simp only [List.mem_cons, List.not_mem_nil, or_false] at y1
 exact ⟨by show -2200000000 ≤ y.1; omega, by show y.1 ≤ _; omega, y2.mono (by omega)⟩
theorem n_qI {l : List Int} : F_laws_qInts l l = some true := by
 unfold F_laws_qInts
 refine eq_of_rn (rn_f (by simp) (rn_then (ψ := fun v => v = .inl ()) (rn_rloop (fun _ _ => True) trivial ?_ fun s _ => rfl) ?_))
 ·rintro k s hk _
  exact rn_ix hk (rn_ix hk (rn_f (by simp) (rn_some trivial)))
 ·rintro _ rfl
  exact rn_some rfl
theorem n_anyCoins {code c0 : List Int} {at_ seed n : Int} {gr : Group} {k : Nat} (hb : Bt code) (h : Cu code n (c0, at_, seed)) (hn : n ≤ 3000000000000000) (hg : Gw gr) (hk : k ≤ 1000) : Rn (F_spec_l1Cur_anyCoins__io0 c0 at_ seed gr (k : Int)) (fun z => z.1.length ≤ k + 1 ∧ Cu code (n + 4 * k + 20) z.2) := by
 unfold F_spec_l1Cur_anyCoins__io0
 refine rn_then (n_coins hb h (by omega) hg (by omega)) fun z ⟨z1, _, z3⟩ => ?_
 refine rn_then (n_pick hb z3 (by omega)) fun p ⟨_, _, _, _, p5⟩ => ?_
 refine rn_then (ψ := fun v => Sum.elim (fun x => x.2.length ≤ k + 1 ∧ Cu code (n + 4 * k + 20) x.1) (fun y => y.1.length ≤ k + 1 ∧ Cu code (n + 4 * k + 20) y.2) v) ?_ ?_
 ·refine rn_if (fun _ => rn_gd (by omega) (rn_some ⟨by simp [z1], p5.mono (by omega)⟩)) fun _ => rn_if (fun _ => rn_if (fun g => ?_) fun _ => rn_some ⟨by dsimp only; omega, p5.mono (by omega)⟩) fun _ => rn_if (fun _ => rn_if (fun g => ?_) fun _ => rn_some ⟨by dsimp only; omega, p5.mono (by omega)⟩) fun _ => rn_some ⟨by dsimp only; omega, p5.mono (by omega)⟩
  ·have g : 0 < (k : Int) := by simpa using g
   exact rn_gd (by omega) (rn_some ⟨by simp [z1]; omega, p5.mono (by omega)⟩)
  ·have g : 0 < (k : Int) := by simpa using g
   refine rn_then (n_pick hb p5 (by omega)) fun q ⟨q1, q2, q3, _, q5⟩ => ?_
   refine rn_then (n_amongM hb q5 (by omega) (by simp)) fun w ⟨_, w2⟩ => ?_
   obtain ⟨j, hj⟩ := Int.eq_ofNat_of_zero_le q1
   have hlt : j < z.1.length := by
    rcases Nat.lt_or_ge 1 k with h | h
    ·have := q3 (by omega); omega
    ·have := q2 (by omega); omega
   rw [hj]
   exact rn_ix hlt (rn_some ⟨by show (z.1.set _ _).length ≤ _; rw [List.length_set]; omega, w2.mono (by omega)⟩)
 ·rintro (x | y) hx
  ·exact rn_some hx
  ·exact rn_some hx
def byL (s : ByteArray) : List Int := s.data.toList.map fun b => (b.toNat : Int)
theorem byL_len (s : ByteArray) : (byL s).length = s.size := by
 show (s.data.toList.map _).length = s.data.size
 rw [List.length_map, Array.length_toList]
theorem byL_bd (s : ByteArray) : ∀ x ∈ byL s, 0 ≤ x ∧ x ≤ 255 := by
 intro x hx
 obtain ⟨b, _, rfl⟩ := List.mem_map.1 hx
 have := b.toNat_lt
 omega
theorem ixs_at {s : ByteArray} {k : Nat} (h : k < s.size) : ixs s (k : Int) = some ((byL s)[k]'(by rw [byL_len]; exact h)) := by
 have h2 : k < s.data.size := h
 simp [ixs, byL, h]
 rfl
theorem n_with (s : ByteArray) (l : List Int) (hs : s.size ≤ 1000000) (hl : l.length ≤ 1000000000000) : F_spec_l3With s l = some ((s.size : Int) :: byL s ++ l) := by
 unfold F_spec_l3With
 refine eq_of_rn (rn_then (ψ := fun x => x = (s.size : Int) :: byL s) (rn_cloop s.size (fun n p => n ≤ s.size ∧ p = ((s.size : Int) :: (byL s).take n, (n : Int))) ⟨by omega, by simp⟩ ?_ ?_) ?_)
 ·rintro n p hn ⟨_, rfl⟩
  have hn2 : n < (byL s).length := by rw [byL_len]; exact hn
  have hb := byL_bd s _ (List.getElem_mem hn2)
  refine rn_if (fun _ => ?_) fun h => absurd h (by simp; omega)
  refine rn_call (ixs_at hn) (rn_gd ?_ (rn_some ⟨by omega, ?_⟩))
  ·simp only [List.length_cons, List.length_take, byL_len]; omega
  ·show ((s.size : Int) :: (byL s).take n ++ [_], _) = _
   rw [wr64 (by omega) (by omega), wr64 (by omega) (by omega), List.cons_append, List.take_append_getElem hn2]
   rfl
 ·rintro p ⟨_, rfl⟩
  refine rn_if (fun h => absurd h (by simp)) fun _ => rn_some ?_
  show (s.size : Int) :: (byL s).take s.size = _
  rw [List.take_of_length_le (by rw [byL_len]; omega)]
 ·rintro _ rfl
  refine rn_gd ?_ (rn_some rfl)
  simp only [List.length_cons, byL_len]; omega
theorem n_labelled (s : ByteArray) (l : List Int) (hs : s.size ≤ 1000000) (hl : l.length ≤ 1000000000000) : F_impl_labelled s l = some ((s.size : Int) :: byL s ++ l) := n_with s l hs hl
def digB (x : Int) : Bool := decide (0 ≤ x) && decide (x ≤ 4611686018427387903)
theorem digB_t {x : Int} : digB x = true ↔ 0 ≤ x ∧ x ≤ 4611686018427387903 := by simp [digB]
theorem n_isDigest (x : Int) : F_impl_isDigest x = some (digB x) := by
 unfold F_impl_isDigest
 rw [n_within]; rfl
theorem byL_dig (s : ByteArray) : (byL s).all digB = true := by
 rw [List.all_eq_true]
 intro x hx
 have := byL_bd s x hx
 exact digB_t.2 ⟨by omega, by omega⟩
def hs1 (c s k : Int) : Int := (c * s + k + 1) % 2147483647
def absH (p : Int × Int) (x : Int) : Int × Int := (hs1 48271 (hs1 48271 p.1 (x % 2147483648)) (x / 2147483648), hs1 69621 (hs1 69621 p.2 (x % 2147483648)) (x / 2147483648))
def hashN (l : List Int) : Int := let p := (((l.length : Int) :: l).foldl absH (1, 2)); p.1 * 2147483648 + p.2
theorem hs1_bd (c s k : Int) : 0 ≤ hs1 c s k ∧ hs1 c s k ≤ 2147483646 := by unfold hs1; omega
theorem hs1_eq {c s k : Int} (hc : c = 48271 ∨ c = 69621) (hs : 0 ≤ s ∧ s ≤ 2147483646) (hk : 0 ≤ k ∧ k ≤ 2147483648) : (IntKind.i64.wrap ((IntKind.i64.wrap ((IntKind.i64.wrap (c * s)) + k)) + 1)).tmod 2147483647 = hs1 c s k := by
 rcases hc with rfl | rfl
 ·rw [wr64 (n := 48271 * s) (by omega) (by omega), wr64 (n := 48271 * s + k) (by omega) (by omega), wr64 (by omega) (by omega), Int.tmod_eq_emod_of_nonneg (by omega)]; rfl
 ·rw [wr64 (n := 69621 * s) (by omega) (by omega), wr64 (n := 69621 * s + k) (by omega) (by omega), wr64 (by omega) (by omega), Int.tmod_eq_emod_of_nonneg (by omega)]; rfl
def okP (p : Int × Int) : Prop := (0 ≤ p.1 ∧ p.1 ≤ 2147483646) ∧ (0 ≤ p.2 ∧ p.2 ≤ 2147483646)
theorem absH_ok (p : Int × Int) (x : Int) : okP (absH p x) := ⟨hs1_bd _ _ _, hs1_bd _ _ _⟩
theorem fold_ok : ∀ (l : List Int) (p : Int × Int), okP p → okP (l.foldl absH p)
 | [], _, h => h
 | x :: l, p, _ => fold_ok l _ (absH_ok p x)
theorem hashN_dig (l : List Int) : digB (hashN l) = true := by
 obtain ⟨h1, h2⟩ := fold_ok ((l.length : Int) :: l) (1, 2) ⟨by decide, by decide⟩
 refine digB_t.2 ?_
 unfold hashN
 dsimp only
 omega
theorem n_absorb {p : Int × Int} {x : Int} (hp : okP p) (hx : digB x = true) : F_spec_l3State_absorb__io0 p.1 p.2 x = some (absH p x) := by
 obtain ⟨h1, h2⟩ := hp
 have hx := digB_t.1 hx
 have e1 : x.tmod 2147483648 = x % 2147483648 := Int.tmod_eq_emod_of_nonneg hx.1
 have e2 : IntKind.i64.wrap (x.tdiv 2147483648) = x / 2147483648 := by
  rw [Int.tdiv_eq_ediv_of_nonneg hx.1, wr64 (by omega) (by omega)]
 have b1 : 0 ≤ x % 2147483648 ∧ x % 2147483648 ≤ 2147483648 := by omega
 have b2 : 0 ≤ x / 2147483648 ∧ x / 2147483648 ≤ 2147483648 := by omega
 have h0 : ix [x % 2147483648, x / 2147483648] 0 = some (x % 2147483648) := rfl
 have h1' : ix [x % 2147483648, x / 2147483648] 1 = some (x / 2147483648) := rfl
 unfold F_spec_l3State_absorb__io0
 rw [e1, e2, Option.bind_some, wloop_eq]
 simp only [List.length_cons, List.length_nil, show decide ((0 : Int) < ((0 + 1 + 1 : Nat) : Int)) = true from rfl, if_true, h0, Option.bind_some, hs1_eq (.inl rfl) h1 b1, hs1_eq (.inr rfl) h2 b1]
 rw [wloop_eq]
 simp only [show IntKind.i64.wrap (0 + 1) = 1 from rfl, show decide ((1 : Int) < ((0 + 1 + 1 : Nat) : Int)) = true from rfl, if_true, h1', Option.bind_some, hs1_eq (.inl rfl) (hs1_bd _ _ _) b2, hs1_eq (.inr rfl) (hs1_bd _ _ _) b2]
 rw [wloop_eq]
 simp only [show IntKind.i64.wrap (1 + 1) = 2 from rfl, show decide ((2 : Int) < ((0 + 1 + 1 : Nat) : Int)) = false from rfl, Bool.false_eq_true, if_false, Option.bind_some]
 rfl
theorem all_dig {l : List Int} (h : l.all digB = true) {k : Nat} (hk : k < l.length) : digB l[k] = true := List.all_eq_true.1 h _ (List.getElem_mem hk)
theorem n_hInts {l : List Int} (hl : l.length ≤ 1000000000000) (hd : l.all digB = true) : F_spec_hInts l = some (hashN l) := by
 unfold F_spec_hInts
 have e0 := n_absorb (p := (1, 2)) (x := (l.length : Int)) ⟨by decide, by decide⟩ (digB_t.2 ⟨by omega, by omega⟩)
 refine eq_of_rn (rn_call e0 (rn_then (ψ := fun p => p = ((l.length : Int) :: l).foldl absH (1, 2)) (rn_rloop (fun n p => p = ((l.length : Int) :: l.take n).foldl absH (1, 2)) rfl ?_ ?_) ?_))
 ·rintro n p hn rfl
  refine rn_ix hn (rn_call (n_absorb (fold_ok _ _ ⟨by decide, by decide⟩) (all_dig hd hn)) (rn_some ?_))
  show absH _ _ = _
  rw [← List.take_append_getElem hn, ← List.cons_append, List.foldl_append]
  rfl
 ·rintro p rfl
  show (((l.length : Int) :: l.take l.length).foldl absH (1, 2)) = _
  rw [List.take_length]
 ·rintro p rfl
  obtain ⟨h1, h2⟩ := fold_ok ((l.length : Int) :: l) (1, 2) ⟨by decide, by decide⟩
  refine rn_some ?_
  rw [wr64 (n := _ * 2147483648) (by omega) (by omega), wr64 (by omega) (by omega)]
  rfl
theorem and_mask {x : Int} (hx : digB x = true) : IntKind.i64.wrap (BitVec.ofInt IntKind.i64.bits x &&& BitVec.ofInt IntKind.i64.bits 2147483647).toNat = x % 2147483648 := by
 have hx := digB_t.1 hx
 obtain ⟨n, rfl⟩ := Int.eq_ofNat_of_zero_le hx.1
 have h1 : (BitVec.ofInt IntKind.i64.bits ((n : Nat) : Int) &&& BitVec.ofInt IntKind.i64.bits 2147483647).toNat = n % 2147483648 := by
  rw [BitVec.toNat_and]
  have a1 : (BitVec.ofInt IntKind.i64.bits (n : Int)).toNat = n := by
   rw [BitVec.toNat_ofInt]
   have : IntKind.i64.bits = 64 := rfl
   rw [this]
   omega
  have a2 : (BitVec.ofInt IntKind.i64.bits 2147483647).toNat = 2 ^ 31 - 1 := by decide
  rw [a1, a2, Nat.and_two_pow_sub_one_eq_mod]
 rw [h1, wr64 (by omega) (by omega)]
 omega
theorem n_hash {l : List Int} (hl : l.length ≤ 1000000000000) (hd : l.all digB = true) : F_impl_hash l = some (hashN l) := by
 unfold F_impl_hash
 have hd2 : ((l.length : Int) :: l).all digB = true := by
  rw [List.all_cons, hd, Bool.and_true]
  exact digB_t.2 ⟨by omega, by omega⟩
 refine eq_of_rn (rn_gd (by simp only [List.length_cons, List.length_nil]; omega) (rn_call rfl (rn_then (ψ := fun p => p = ((l.length : Int) :: l).foldl absH (1, 2)) (rn_rloop (fun n p => p = (((l.length : Int) :: l).take n).foldl absH (1, 2)) rfl ?_ ?_) ?_)))
 ·rintro n p hn rfl
  have ok := fold_ok ((((l.length : Int) :: l)).take n) (1, 2) ⟨by decide, by decide⟩
  have dg := all_dig hd2 hn
  have b := digB_t.1 dg
  have ef : (((l.length : Int) :: l)[n]).fdiv 2147483648 = ((l.length : Int) :: l)[n] / 2147483648 := Int.fdiv_eq_ediv_of_nonneg _ (by omega)
  have hn' : n < ((l.length : Int) :: l).length := hn
  refine rn_ix hn (rn_some ?_)
  show (_, _) = _
  simp only [List.singleton_append]
  rw [and_mask dg, ef, hs1_eq (.inl rfl) ok.1 (by omega), hs1_eq (.inr rfl) ok.2 (by omega), hs1_eq (.inl rfl) (hs1_bd _ _ _) (by omega), hs1_eq (.inr rfl) (hs1_bd _ _ _) (by omega),
   ← List.take_append_getElem hn', List.foldl_append]
  rfl
 ·rintro p rfl
  show ((((l.length : Int) :: l).take ([(l.length : Int)] ++ l).length).foldl absH (1, 2)) = _
  rw [List.singleton_append, List.take_length]
 ·rintro p rfl
  obtain ⟨h1, h2⟩ := fold_ok ((l.length : Int) :: l) (1, 2) ⟨by decide, by decide⟩
  refine rn_some ?_
  rw [wr64 (n := _ * 2147483648) (by omega) (by omega), wr64 (by omega) (by omega)]
  rfl
def hshL (s : ByteArray) (l : List Int) : Int := hashN ((s.size : Int) :: byL s ++ l)
theorem hshL_dig (s : ByteArray) (l : List Int) : digB (hshL s l) = true := hashN_dig _
def labB (s : ByteArray) (l : List Int) : Bool := decide (s.size ≤ 40) && decide (1 + s.size + l.length ≤ 400) && l.all digB
theorem lab_all {s : ByteArray} {l : List Int} (hs : s.size ≤ 1000000) : ((s.size : Int) :: byL s ++ l).all digB = l.all digB := by
 rw [List.cons_append, List.all_cons, List.all_append, byL_dig, digB_t.2 ⟨by omega, by omega⟩, Bool.true_and, Bool.true_and]
theorem n_hLabelled {s : ByteArray} {l : List Int} (hs : s.size ≤ 1000000) (hl : l.length ≤ 100000000000) (hd : l.all digB = true) : F_spec_hLabelled s l = some (hshL s l) := by
 unfold F_spec_hLabelled
 rw [n_with s l hs (by omega), Option.bind_some, n_hInts (by simp [byL_len]; omega) (by rw [lab_all hs]; exact hd)]
 rfl
theorem n_areDigests (l : List Int) : F_impl_areDigests l = some (decide (l.length ≤ 400) && l.all digB) := by
 unfold F_impl_areDigests
 have h1 : F_impl_areAll__impl_isDigest l = some (l.all digB) := areAll_gen (f := F_impl_areAll_1__impl_isDigest) fun x _ => by
  unfold F_impl_areAll_1__impl_isDigest
  rw [n_isDigest]; rfl
 rw [h1]
 by_cases h : l.length ≤ 400
 ·rw [if_pos (by simp; omega)]; simp [h]
 ·rw [if_neg (by simp; omega)]; simp [h]
theorem n_HashInts (l : List Int) : F_impl_HashInts l = some (if (decide (l.length ≤ 400) && l.all digB) = true then (hashN l, true) else (0, false)) := by
 unfold F_impl_HashInts
 rw [n_areDigests, Option.bind_some]
 cases h : (decide (l.length ≤ 400) && l.all digB) with
 | true =>
  simp only [Bool.and_eq_true, decide_eq_true_eq] at h
  rw [n_hash (by omega) h.2]; rfl
 | false => rfl
theorem n_HashLabelled (s : ByteArray) (l : List Int) : F_impl_HashLabelled s l = some (if labB s l = true then (hshL s l, true) else (0, false)) := by
 unfold F_impl_HashLabelled
 by_cases h1 : s.size ≤ 40
 ·by_cases h2 : l.length ≤ 400
  ·rw [if_neg (by simp; omega), Option.bind_some, if_neg (by simp; omega), n_labelled s l (by omega) (by omega), Option.bind_some, n_HashInts, lab_all (by omega)]
   have e : ((s.size : Int) :: byL s ++ l).length = 1 + s.size + l.length := by simp [byL_len]; omega
   rw [e]
   have e2 : labB s l = (decide (1 + s.size + l.length ≤ 400) && l.all digB) := by simp [labB, h1]
   rw [e2]
   cases decide (1 + s.size + l.length ≤ 400) <;> cases l.all digB <;> rfl
  ·rw [if_neg (by simp; omega), Option.bind_some, if_pos (by simp; omega)]
   have : labB s l = false := by
    have : ¬ 1 + s.size + l.length ≤ 400 := by omega
    simp [labB, this]
   rw [this]; rfl
 ·rw [if_pos (by simp; omega), Option.bind_some, if_pos rfl]
  have : labB s l = false := by simp [labB, h1]
  rw [this]; rfl
theorem rl_map {α β γ : Type} {l : List α} {f : α → β} {body : Int → List β → Option (Stp (List β) γ)} {stop : List β → γ} (a0 : List β) (hs : ∀ k (h : k < l.length) (s : List β), s.length = a0.length + k → body (k : Int) s = some (.go (s ++ [f l[k]]))) :
 rloop body stop l.length 0 a0 = some (stop (a0 ++ l.map f)) := by
 refine eq_of_rn (rn_rloop (fun k s => s = a0 ++ (l.take k).map f ∧ k ≤ l.length) ⟨by simp, by omega⟩ ?_ ?_)
 ·rintro k s hk ⟨rfl, _⟩
  refine ⟨_, hs k hk _ (by simp; omega), ?_, hk⟩
  rw [List.take_succ_eq_append_getElem hk, List.map_append, List.append_assoc]; rfl
 ·rintro s ⟨rfl, _⟩
  simp
theorem n_allN {γ : Type} {m : Nat} (p : Nat → Bool) (c d : γ) {body : Int → Unit → Option (Stp Unit (Unit ⊕ γ))} (h : ∀ k, k < m → body (k : Int) () = some (if p k = true then .go () else .out (.inr c))) :
 (rloop body (fun _ => .inl ()) m 0 ()).bind (Sum.elim (fun _ => some d) some) = some (if (List.range m).all p = true then d else c) := by
 rcases n_first (body := body) m p (fun _ => c) h with ⟨e, h1⟩ | ⟨k, h1, h2, h3, e⟩
 ·have : (List.range m).all p = true := by
   rw [List.all_eq_true]; intro x hx; exact h1 x (List.mem_range.1 hx)
  rw [e, this]; rfl
 ·have : (List.range m).all p = false := by
   rw [List.all_eq_false]; exact ⟨k, List.mem_range.2 h1, by simp [h2]⟩
  rw [e, this]; rfl
theorem cf_gen {α : Type} {l : List α} {p : α → Bool} {f : α → Option Bool} (hf : ∀ x ∈ l, f x = some (p x)) :
 ((((rloop (σ := Unit) (β := Unit ⊕ Int) (fun i8 s7 => (ix l i8).bind fun x17 => (f x17).bind fun z20 => if z20 = true then (some (.out (.inr i8))) else (some (.go ()))) (fun s7 => .inl ()) (l.length) 0 () : Option (Unit ⊕ Int)).bind (Sum.elim (fun (x5 : Unit) => some (-1)) some)).bind fun z1 => some (decide (0 ≤ z1)))) = some (l.any p) := by
 rcases n_first l.length (fun k => !(l[k]?).any p) (fun k => (k : Int)) (body := fun i8 s7 => (ix l i8).bind fun x17 => (f x17).bind fun z20 => if z20 = true then (some (.out (.inr i8))) else (some (.go ()))) (fun k hk => by
  rw [ix_at hk, Option.bind_some, hf _ (List.getElem_mem hk), Option.bind_some, List.getElem?_eq_getElem hk]
  cases h : p l[k] <;> simp [h]) with ⟨e, h1⟩ | ⟨k, h1, h2, h3, e⟩
 ·rw [e]
  have : l.any p = false := by
   rw [List.any_eq_false]
   intro x hx
   obtain ⟨k, hk, rfl⟩ := List.mem_iff_getElem.1 hx
   have := h1 k hk
   rw [List.getElem?_eq_getElem hk] at this
   simpa using this
  rw [this]; rfl
 ·rw [e]
  have : l.any p = true := by
   rw [List.any_eq_true]
   refine ⟨l[k], List.getElem_mem h1, ?_⟩
   rw [List.getElem?_eq_getElem h1] at h2
   simpa using h2
  rw [this]
  simp
def inB (a b x : Int) : Bool := decide (a ≤ x) && decide (x ≤ b)
theorem inB_t {a b x : Int} : inB a b x = true ↔ a ≤ x ∧ x ≤ b := by simp [inB]
theorem ite_or (a b : Bool) : (if a = true then some true else some b) = some (a || b) := by cases a <;> rfl
theorem n_inB (x a b : Int) : F_spec_l1In x a b = some (inB a b x) := n_l1In x a b
theorem n_winB (x a b : Int) : F_impl_within x a b = some (inB a b x) := n_within x a b
theorem n_l1Own {l : List Int} (h : l.length ≤ 1048576) : F_spec_l1Own l = some l := gd_t (by omega)
theorem flatI_take {α : Type} {L : List (List α)} {i : Nat} (h : i < L.length) : (L.take (i + 1)).flatten = (L.take i).flatten ++ L[i] := by
 rw [List.take_succ_eq_append_getElem h, List.flatten_append]; simp
theorem flatI_le {α : Type} (L : List (List α)) (i : Nat) : (L.take i).flatten.length ≤ L.flatten.length := by
 have e : L.flatten = (L.take i).flatten ++ (L.drop i).flatten := by rw [← List.flatten_append, List.take_append_drop]
 rw [e, List.length_append]; omega
theorem n_concatI (L : List (List Int)) (h : L.flatten.length ≤ 1000000000000) : F_slices_Concat_int_int L = some L.flatten := by
 unfold F_slices_Concat_int_int
 refine eq_of_rn (rn_then (ψ := fun n => n = (L.flatten.length : Int)) (rn_rloop (fun i s => s = ((L.take i).flatten.length : Int)) rfl ?_ ?_) ?_)
 ·rintro i s hi rfl
  have e := congrArg List.length (flatI_take hi)
  rw [List.length_append] at e
  have hl := flatI_le L (i + 1)
  refine rn_ix hi ?_
  rw [wr64 (by omega) (by omega)]
  refine rn_f (by simp only [decide_eq_false_iff_not]; omega) (rn_some ?_)
  show _ = _
  omega
 ·rintro s rfl
  rw [List.take_length]
 ·rintro n rfl
  refine rn_gd (by omega) (rn_then (ψ := fun r => r = L.flatten) (rn_rloop (fun i s => s = (L.take i).flatten) rfl ?_ ?_) fun r hr => rn_some hr)
  ·rintro i s hi rfl
   have e := congrArg List.length (flatI_take hi)
   rw [List.length_append] at e
   have hl := flatI_le L (i + 1)
   refine rn_ix hi (rn_gd (by omega) (rn_some ?_))
   show _ = _
   rw [flatI_take hi]
  ·rintro s rfl
   rw [List.take_length]
def chG (gr : Group) (s : ByteArray) (l : List Int) : Int := hshL s ([gr.P, gr.Q, gr.G] ++ l) % gr.Q
theorem chG_bd {gr : Group} (k : OkG gr) (s : ByteArray) (l : List Int) : 0 ≤ chG gr s l ∧ chG gr s l < gr.Q := by
 have := k.q
 exact ⟨Int.emod_nonneg _ (by omega), Int.emod_lt_of_pos _ (by omega)⟩
theorem grp_dig {gr : Group} (k : OkG gr) {l : List Int} : ([gr.P, gr.Q, gr.G] ++ l).all digB = l.all digB := by
 have hp := k.p
 have hq := k.q
 have hg := k.g
 rw [List.all_append]
 have : [gr.P, gr.Q, gr.G].all digB = true := by
  simp only [List.all_cons, List.all_nil, Bool.and_true, Bool.and_eq_true]
  exact ⟨digB_t.2 (by omega), digB_t.2 (by omega), digB_t.2 (by omega)⟩
 rw [this, Bool.true_and]
theorem n_hChallenge {gr : Group} (k : OkG gr) {s : ByteArray} {l : List Int} (hs : s.size ≤ 1000000) (hl : l.length ≤ 10000000000) (hd : l.all digB = true) : F_spec_hChallenge gr s l = some (chG gr s l) := by
 have hq := k.q
 have hb := digB_t.1 (hshL_dig s ([gr.P, gr.Q, gr.G] ++ l))
 unfold F_spec_hChallenge
 rw [gd_t (by simp only [List.length_cons, List.length_nil]; omega), n_hLabelled hs (by simp only [List.length_append, List.length_cons, List.length_nil]; omega) (by rw [grp_dig k]; exact hd), Option.bind_some, gd_t (by omega), Int.tmod_eq_emod_of_nonneg hb.1]
 rfl
theorem n_chlI {gr : Group} (k : OkG gr) (s : ByteArray) {l : List Int} (hl : l.length ≤ 10000000000) : F_impl_Group_challenge gr s l = some (if labB s ([gr.P, gr.Q, gr.G] ++ l) = true then (chG gr s l, true) else (0, false)) := by
 have hq := k.q
 have hb := digB_t.1 (hshL_dig s ([gr.P, gr.Q, gr.G] ++ l))
 unfold F_impl_Group_challenge
 rw [gd_t (by simp only [List.length_cons, List.length_nil]; omega), n_HashLabelled, Option.bind_some]
 cases labB s ([gr.P, gr.Q, gr.G] ++ l) with
 | false => rfl
 | true =>
  simp only [if_true, Bool.not_true, Bool.false_eq_true, if_false]
  rw [gd_t (by omega), Int.tmod_eq_emod_of_nonneg hb.1]
  rfl
theorem lab_t {gr : Group} (k : OkG gr) {s : ByteArray} {l : List Int} (hs : s.size ≤ 40) (hl : 4 + s.size + l.length ≤ 400) (hd : l.all digB = true) : labB s ([gr.P, gr.Q, gr.G] ++ l) = true := by
 unfold labB
 rw [grp_dig k, hd, Bool.and_true, Bool.and_eq_true, decide_eq_true_eq, decide_eq_true_eq]
 simp only [List.length_append, List.length_cons, List.length_nil]
 omega
theorem has_dig {gr : Group} (k : OkG gr) {l : List Int} (h : l.all (hasB gr) = true) : l.all digB = true := by
 have hp := k.p
 rw [List.all_eq_true] at h ⊢
 intro x hx
 have := has_bd (h x hx)
 exact digB_t.2 (by omega)
def prdG (gr : Group) : List Int → List Int → Int → Int
 | x :: l, e :: m, o => prdG gr l m (o * powG gr x e % gr.P)
 | _, _, o => o
theorem prdG_snoc (gr : Group) : ∀ (l m : List Int) (x e o : Int), l.length = m.length → prdG gr (l ++ [x]) (m ++ [e]) o = prdG gr l m o * powG gr x e % gr.P
 | [], [], x, e, o, _ => rfl
 | y :: l, f :: m, x, e, o, h => prdG_snoc gr l m x e _ (by simpa using h)
theorem prdG_cut (gr : Group) : ∀ (l m : List Int) (o : Int), prdG gr l (m.take l.length) o = prdG gr l m o
 | [], m, o => by cases m <;> rfl
 | y :: l, [], o => rfl
 | y :: l, f :: m, o => prdG_cut gr l m _
theorem prdG_bd {gr : Group} (h : 0 < gr.P) : ∀ (l m : List Int) (o : Int), 0 ≤ o ∧ o < gr.P → 0 ≤ prdG gr l m o ∧ prdG gr l m o < gr.P
 | x :: l, e :: m, o, _ => prdG_bd h l m _ ⟨Int.emod_nonneg _ (by omega), Int.emod_lt_of_pos _ h⟩
 | [], _, o, ho => ho
 | _ :: _, [], o, ho => ho
theorem mul_two {gr : Group} (k : OkG gr) {x y : Int} (hx : 0 ≤ x ∧ x < gr.P) (hy : 0 ≤ y) : mulG gr [x, y] = x * y % gr.P := by
 have hp := k.p
 simp only [mulG, List.foldl_cons, List.foldl_nil, Int.one_mul]
 rw [Int.emod_eq_of_lt hx.1 hx.2]
theorem n_gProd {gr : Group} (k : OkG gr) {l m : List Int} (hl : ∀ x ∈ l, 0 ≤ x ∧ x ≤ 2000000000) (hm : l.length ≤ m.length) : F_spec_gProd gr l m = some (prdG gr l m 1) := by
 have hp := k.p
 unfold F_spec_gProd
 refine eq_of_rn (rn_then (ψ := fun b => b = prdG gr l m 1) (rn_rloop (fun i s => s = prdG gr (l.take i) (m.take i) 1) rfl ?_ ?_) fun b hb => rn_some hb)
 ·rintro i s hi rfl
  have bd := prdG_bd (gr := gr) (by omega) (l.take i) (m.take i) 1 (by omega)
  have hx := hl l[i] (List.getElem_mem hi)
  have pb := powG_bd k l[i] (m[i]'(by omega))
  refine rn_ix hi (rn_ix (show i < m.length by omega) (rn_call (n_gExp k hx.1 hx.2 _) (rn_gd (by omega) (rn_some ?_))))
  show _ = prdG gr (l.take (i + 1)) (m.take (i + 1)) 1
  rw [List.take_succ_eq_append_getElem hi, List.take_succ_eq_append_getElem (show i < m.length by omega), prdG_snoc _ _ _ _ _ _ (by simp; omega)]
  have b1 := Int.mul_nonneg bd.1 pb.1
  have b2 : prdG gr (l.take i) (m.take i) 1 * powG gr l[i] (m[i]'(by omega)) ≤ 2000000000 * 2000000000 := Int.mul_le_mul (by omega) (by omega) pb.1 (by omega)
  rw [wr64 (by omega) (by omega), Int.tmod_eq_emod_of_nonneg b1]
 ·rintro s rfl
  rw [List.take_length, prdG_cut]
theorem n_powersI {gr : Group} (k : OkG gr) {l m : List Int} (hl : ∀ x ∈ l, 0 ≤ x ∧ x ≤ 2000000000) (hm : l.length ≤ m.length) : F_impl_Group_powers gr l m = some (prdG gr l m 1) := by
 have hp := k.p
 unfold F_impl_Group_powers
 refine eq_of_rn (rn_then (ψ := fun b => b = prdG gr l m 1) (rn_rloop (fun i s => s = prdG gr (l.take i) (m.take i) 1) rfl ?_ ?_) fun b hb => rn_some hb)
 ·rintro i s hi rfl
  have bd := prdG_bd (gr := gr) (by omega) (l.take i) (m.take i) 1 (by omega)
  have hx := hl l[i] (List.getElem_mem hi)
  have pb := powG_bd k l[i] (m[i]'(by omega))
  refine rn_ix hi (rn_ix (show i < m.length by omega) (rn_call (n_pow k hx.1 hx.2 _).1 (rn_call (n_mul k ?_) (rn_some ?_))))
  ·intro y hy
   simp only [List.mem_cons, List.not_mem_nil, or_false] at hy
   rcases hy with rfl | rfl <;> omega
  ·show _ = prdG gr (l.take (i + 1)) (m.take (i + 1)) 1
   rw [List.take_succ_eq_append_getElem hi, List.take_succ_eq_append_getElem (show i < m.length by omega), prdG_snoc _ _ _ _ _ _ (by simp; omega), mul_two k bd pb.1]
 ·rintro s rfl
  rw [List.take_length, prdG_cut]
structure LinS (gr : Group) (bs : List (List Int)) : Prop where
 n : 1 ≤ bs.length ∧ bs.length ≤ 8
 m : 1 ≤ (bs.headD []).length ∧ (bs.headD []).length ≤ 8
 r : ∀ r ∈ bs, r.length = (bs.headD []).length ∧ r.all (hasB gr) = true
theorem flatI_len : ∀ {bs : List (List Int)} {c : Nat}, (∀ r ∈ bs, r.length ≤ c) → bs.flatten.length ≤ bs.length * c
 | [], _, _ => by simp
 | r :: bs, c, h => by
  have h1 := h r (List.mem_cons_self ..)
  have h2 := flatI_len fun x hx => h x (List.mem_cons_of_mem r hx)
  rw [List.flatten_cons, List.length_append, List.length_cons, Nat.add_mul]
  omega
theorem LinS.flat {gr : Group} {bs : List (List Int)} (h : LinS gr bs) : bs.flatten.length ≤ 64 := by
 have := flatI_len (bs := bs) (c := 8) fun r hr => by rw [(h.r r hr).1]; exact h.m.2
 have := h.n
 omega
theorem LinS.dig {gr : Group} (k : OkG gr) {bs : List (List Int)} (h : LinS gr bs) : bs.flatten.all digB = true := by
 rw [List.all_eq_true]
 intro x hx
 obtain ⟨r, hr, hx⟩ := List.mem_flatten.1 hx
 exact List.all_eq_true.1 (has_dig k (h.r r hr).2) x hx
theorem LinS.hd {gr : Group} {bs : List (List Int)} (h : LinS gr bs) : ix bs 0 = some (bs.headD []) := by
 cases bs with
 | nil => have := h.n; simp at this
 | cons r l => rfl
theorem has_rng {gr : Group} (k : OkG gr) {l : List Int} (h : l.all (hasB gr) = true) : ∀ x ∈ l, 0 ≤ x ∧ x ≤ 2000000000 := fun x hx => by
 have hp := k.p
 have := has_bd (List.all_eq_true.1 h x hx)
 omega
theorem n_stmt {bs : List (List Int)} {im cs : List Int} (h1 : bs.flatten.length ≤ 1000000) (h2 : im.length ≤ 1048576) (h3 : cs.length ≤ 1048576) : F_spec_sStatement bs im cs = some (bs.flatten ++ im ++ cs) := by
 unfold F_spec_sStatement
 refine eq_of_rn (rn_then (ψ := fun r => r = bs.flatten) (rn_rloop (fun i s => s = (bs.take i).flatten) rfl ?_ ?_) ?_)
 ·rintro i s hi rfl
  have e := congrArg List.length (flatI_take hi)
  rw [List.length_append] at e
  have hl := flatI_le bs (i + 1)
  refine rn_ix hi (rn_gd (by omega) (rn_some ?_))
  show _ = _
  rw [flatI_take hi]
 ·rintro s rfl
  rw [List.take_length]
 ·rintro r rfl
  exact rn_gd (by omega) (rn_gd (by rw [List.length_append]; omega) (rn_some rfl))
theorem n_images {gr : Group} (k : OkG gr) {bs : List (List Int)} {es : List Int} (hb : LinS gr bs) (he : es.length = (bs.headD []).length) : F_impl_Group_images gr bs es = some (bs.map fun r => prdG gr r es 1) := by
 unfold F_impl_Group_images
 have hn := hb.n
 rw [rl_map (f := fun r => prdG gr r es 1) []]
 ·rfl
 ·intro i hi s hs
  have hr := hb.r _ (List.getElem_mem hi)
  rw [ix_at hi, Option.bind_some, n_powersI k (has_rng k hr.2) (by omega), Option.bind_some, gd_t (by simp at hs; omega)]
def verB (gr : Group) (s : ByteArray) (bs : List (List Int)) (im : List Int) (p : Proof) : Bool :=
 !(((p.Commits.length : Int) != (bs.length : Int)) || (((p.Challenges.length : Int) != 1) || (((p.Responses.length : Int) != ((bs.headD []).length : Int)) || (!p.Commits.all (hasB gr) || !p.Responses.all (expB gr))))) &&
 (!(p.Challenges.headD 0 != chG gr s (bs.flatten ++ im ++ p.Commits)) &&
 (List.range bs.length).all fun i => !(prdG gr (bs.getD i []) p.Responses 1 != mulG gr [p.Commits.getD i 0, powG gr (im.getD i 0) (p.Challenges.headD 0)]))
theorem n_sVerify {gr : Group} (k : OkG gr) {s : ByteArray} (hs : s.size ≤ 40) {bs : List (List Int)} {im : List Int} {p : Proof} (hb : LinS gr bs) (hi : im.length = bs.length) (hd : im.all (hasB gr) = true) (hc : p.Commits.length ≤ 1048576) :
 F_spec_sVerify gr s bs im p = some (verB gr s bs im p) := by
 have hp := k.p
 have hq := k.q
 unfold F_spec_sVerify verB
 simp only [hb.hd, n_gIs k, n_gExps (gr := gr) (by omega) (by omega), Option.bind_some, ite_or]
 cases hg : (((p.Commits.length : Int) != (bs.length : Int)) || (((p.Challenges.length : Int) != 1) || (((p.Responses.length : Int) != ((bs.headD []).length : Int)) || (!p.Commits.all (hasB gr) || !p.Responses.all (expB gr))))) with
 | true => rfl
 | false =>
  simp only [Bool.or_eq_false_iff, bne_eq_false_iff_eq, Bool.not_eq_false'] at hg
  obtain ⟨g1, g2, g3, g4, g5⟩ := hg
  have hf := hb.flat
  have hn := hb.n
  obtain ⟨c, hce⟩ : ∃ c, p.Challenges = [c] := by
   match h : p.Challenges, g2 with
   | [c], _ => exact ⟨c, rfl⟩
  have hdig : (bs.flatten ++ im ++ p.Commits).all digB = true := by
   rw [List.all_append, List.all_append, hb.dig k, has_dig k hd, has_dig k g4]; rfl
  simp only [Bool.false_eq_true, if_false, hce, show ix [c] 0 = some c from rfl, Option.bind_some, n_stmt (bs := bs) (im := im) (cs := p.Commits) (by omega) (by omega) hc]
  rw [n_hChallenge k (by omega) (by simp only [List.length_append]; omega) hdig, Option.bind_some]
  show _ = some (!false && (!(c != _) && _))
  by_cases hcc : c = chG gr s (bs.flatten ++ im ++ p.Commits)
  ·have e1 : (c != chG gr s (bs.flatten ++ im ++ p.Commits)) = false := by simpa using hcc
   rw [e1]
   simp only [Bool.false_eq_true, if_false, Bool.not_false, Bool.true_and]
   rw [n_allN (fun i => !(prdG gr (bs.getD i []) p.Responses 1 != mulG gr [p.Commits.getD i 0, powG gr (im.getD i 0) c])) false true]
   ·simp only [Bool.if_true_left, Bool.if_false_right, Bool.and_true, Bool.decide_eq_true, Bool.or_false]
    rfl
   ·intro i hi
    have hr := hb.r _ (List.getElem_mem hi)
    have h1 : i < p.Commits.length := by omega
    have h2 : i < im.length := by omega
    have ic := has_rng k g4 _ (List.getElem_mem h1)
    have ii := has_rng k hd _ (List.getElem_mem h2)
    have pb := powG_bd k im[i] c
    rw [ix_at hi, Option.bind_some, ix_at h1, Option.bind_some, ix_at h2, Option.bind_some, n_gProd k (has_rng k hr.2) (by omega), Option.bind_some, n_gExp k ii.1 ii.2, Option.bind_some, n_gMul k ?_, Option.bind_some]
    ·simp only [List.getD_eq_getElem?_getD, List.getElem?_eq_getElem hi, List.getElem?_eq_getElem h1, List.getElem?_eq_getElem h2, Option.getD_some]
     exact ite_n _ _ _
    ·intro y hy
     simp only [List.mem_cons, List.not_mem_nil, or_false] at hy
     rcases hy with rfl | rfl <;> omega
  ·have e1 : (c != chG gr s (bs.flatten ++ im ++ p.Commits)) = true := by simpa using hcc
   rw [e1]; rfl
theorem n_verifyI {gr : Group} (k : OkG gr) {s : ByteArray} (hs : s.size ≤ 40) {bs : List (List Int)} {im : List Int} {p : Proof} (hb : LinS gr bs) (hi : im.length = bs.length) (hd : im.all (hasB gr) = true) (hc : p.Commits.length ≤ 1048576) :
 F_impl_Group_verifyLinear gr s bs im p = some (verB gr s bs im p) := by
 have hp := k.p
 have hq := k.q
 unfold F_impl_Group_verifyLinear verB
 simp only [hb.hd, n_hasAll k, n_areExps (gr := gr) (by omega) (by omega), Option.bind_some, ite_or]
 cases hg : (((p.Commits.length : Int) != (bs.length : Int)) || (((p.Challenges.length : Int) != 1) || (((p.Responses.length : Int) != ((bs.headD []).length : Int)) || (!p.Commits.all (hasB gr) || !p.Responses.all (expB gr))))) with
 | true => rfl
 | false =>
  simp only [Bool.or_eq_false_iff, bne_eq_false_iff_eq, Bool.not_eq_false'] at hg
  obtain ⟨g1, g2, g3, g4, g5⟩ := hg
  have hf := hb.flat
  have hn := hb.n
  obtain ⟨c, hce⟩ : ∃ c, p.Challenges = [c] := by
   match h : p.Challenges, g2 with
   | [c], _ => exact ⟨c, rfl⟩
  have hdig : (bs.flatten ++ im ++ p.Commits).all digB = true := by
   rw [List.all_append, List.all_append, hb.dig k, has_dig k hd, has_dig k g4]; rfl
  have hfl : [bs.flatten, im, p.Commits].flatten = bs.flatten ++ im ++ p.Commits := by simp
  have hl : (bs.flatten ++ im ++ p.Commits).length ≤ 80 := by simp only [List.length_append]; omega
  simp only [Bool.false_eq_true, if_false, hce, show ix [c] 0 = some c from rfl, Option.bind_some, n_concatI bs (by omega), n_concatI [bs.flatten, im, p.Commits] (by rw [hfl]; omega), hfl]
  rw [n_chlI k s (by omega), if_pos (lab_t k hs (by omega) hdig), Option.bind_some]
  simp only [Bool.not_true, Bool.false_eq_true, if_false, Option.bind_some]
  show _ = some (!false && (!(c != _) && _))
  by_cases hcc : c = chG gr s (bs.flatten ++ im ++ p.Commits)
  ·have e1 : (c != chG gr s (bs.flatten ++ im ++ p.Commits)) = false := by simpa using hcc
   rw [e1, ← hcc]
   simp only [Bool.false_eq_true, if_false, Bool.not_false, Bool.true_and]
   rw [n_images k hb (by omega), Option.bind_some, n_allN (fun i => !(prdG gr (bs.getD i []) p.Responses 1 != mulG gr [p.Commits.getD i 0, powG gr (im.getD i 0) c])) false true]
   ·simp only [Bool.if_true_left, Bool.if_false_right, Bool.and_true, Bool.decide_eq_true, Bool.or_false, List.length_map]
    rfl
   ·intro i hi
    have hi' : i < bs.length := by simpa using hi
    have h1 : i < p.Commits.length := by omega
    have h2 : i < im.length := by omega
    have ic := has_rng k g4 _ (List.getElem_mem h1)
    have ii := has_rng k hd _ (List.getElem_mem h2)
    have pb := powG_bd k im[i] c
    rw [ix_at hi, Option.bind_some, ix_at h1, Option.bind_some, ix_at h2, Option.bind_some, (n_pow k ii.1 ii.2 _).1, Option.bind_some, n_mul k ?_, Option.bind_some]
    ·simp only [List.getElem_map, List.getD_eq_getElem?_getD, List.getElem?_eq_getElem hi', List.getElem?_eq_getElem h1, List.getElem?_eq_getElem h2, Option.getD_some]
     exact ite_n _ _ _
    ·intro y hy
     simp only [List.mem_cons, List.not_mem_nil, or_false] at hy
     rcases hy with rfl | rfl <;> omega
  ·have e1 : (c != chG gr s (bs.flatten ++ im ++ p.Commits)) = true := by simpa using hcc
   rw [e1]; rfl
theorem gen_has {gr : Group} (k : OkG gr) : hasB gr gr.G = true := by
 have hg := k.g
 simp only [hasB, Bool.and_eq_true, decide_eq_true_eq]
 exact ⟨by omega, k.o⟩
theorem rows_one {gr : Group} {x : Int} (h : hasB gr x = true) : LinS gr [[x]] := ⟨by simp, by simp, fun r hr => by
 rw [List.mem_singleton.1 hr]
 simp [h]⟩
def sgnB (gr : Group) (s : ByteArray) (key : Int) (p : Proof) : Bool := verB gr s [[gr.G]] [key] p
theorem ix_to {α : Type} {l : List α} {i : Int} (h0 : 0 ≤ i) (h : i < l.length) : ix l i = some (l[i.toNat]'(by omega)) := by
 obtain ⟨k, rfl⟩ := Int.eq_ofNat_of_zero_le h0
 exact ix_at (by omega)
theorem powG_G {gr : Group} (k : OkG gr) {a : Int} (ha : 0 ≤ a) : powG gr gr.G a = ((gr.G.toNat ^ a.toNat % gr.P.toNat : Nat) : Int) := by
 have hq := k.q
 obtain ⟨n, rfl⟩ := Int.eq_ofNat_of_zero_le ha
 obtain ⟨q, hQ⟩ := Int.eq_ofNat_of_zero_le (show 0 ≤ gr.Q by omega)
 unfold powG
 have ho := k.o
 rw [hQ] at ho ⊢
 rw [Int.toNat_natCast] at ho
 rw [← Int.natCast_emod, Int.toNat_natCast, Int.toNat_natCast, pow_per ho]
theorem powG_add {gr : Group} (k : OkG gr) {a b : Int} (ha : 0 ≤ a) (hb : 0 ≤ b) : mulG gr [powG gr gr.G a, powG gr gr.G b] = powG gr gr.G (a + b) := by
 have hp := k.p
 obtain ⟨P, hP⟩ := Int.eq_ofNat_of_zero_le (show 0 ≤ gr.P by omega)
 have hx := powG_bd k gr.G a
 rw [mul_two k (by omega) (powG_bd k gr.G b).1, powG_G k ha, powG_G k hb, powG_G k (by omega), hP]
 rw [← Int.natCast_mul, ← Int.natCast_emod, Int.toNat_natCast, ← Nat.mul_mod, ← Nat.pow_add, Int.toNat_add ha hb]
def atS (gr : Group) (x : Int) (s : Int × Int) (y : Int) : Int × Int := (mulG gr [s.1, powG gr y s.2], s.2 * x % gr.Q)
theorem n_sAt {gr : Group} {x : Int} {l : List Int} (k : OkG gr) (hx : 0 ≤ x) (hx2 : x ≤ 1000) (hl : ∀ y ∈ l, 0 ≤ y ∧ y ≤ 2000000000) : F_spec_sAt gr l x = some (l.foldl (atS gr x) (1, 1)).1 := by
 have hp := k.p
 have hq := k.q
 unfold F_spec_sAt
 refine eq_of_rn (rn_bind (rn_rloop (fun i s => s = (l.take i).foldl (atS gr x) (1, 1) ∧ (0 ≤ s.1 ∧ s.1 ≤ 2000000000) ∧ 0 ≤ s.2 ∧ s.2 ≤ 2000000000) ⟨rfl, by omega, by omega⟩ ?_ ?_))
 ·rintro i s hi ⟨hs, h1, h2⟩
  have hy := hl _ (List.getElem_mem hi)
  have hw := powG_bd k l[i] s.2
  have hb : ∀ z ∈ [s.1, powG gr l[i] s.2], 0 ≤ z ∧ z ≤ 2000000000 := by
   intro z hz
   rcases List.mem_cons.1 hz with rfl | hz
   ·exact h1
   ·rw [List.mem_singleton.1 hz]; omega
  have b1 : 0 ≤ s.2 * x := Int.mul_nonneg h2.1 hx
  have b2 : s.2 * x ≤ 2000000000 * 1000 := Int.mul_le_mul h2.2 hx2 hx (by omega)
  have b3 : 0 ≤ s.2 * x % gr.Q := Int.emod_nonneg _ (by omega)
  have b4 : s.2 * x % gr.Q < gr.Q := Int.emod_lt_of_pos _ (by omega)
  have hm := mulG_bd k hb
  rw [ix_at hi, Option.bind_some, n_gExp k hy.1 hy.2, Option.bind_some, n_gMul k hb, Option.bind_some, gd_t (by omega), wr64 (by omega) (by omega), Int.tmod_eq_emod_of_nonneg b1]
  refine ⟨_, rfl, ?_, ⟨hm.1, by show mulG gr _ ≤ _; omega⟩, b3, by show s.2 * x % gr.Q ≤ _; omega⟩
  rw [List.take_succ_eq_append_getElem hi, List.foldl_append, ← hs]; rfl
 ·rintro s ⟨hs, _⟩
  rw [List.take_length] at hs
  subst hs
  exact ⟨_, rfl, rfl⟩
theorem powG_cg {gr : Group} {a b : Int} (x : Int) (h : a % gr.Q = b % gr.Q) : powG gr x a = powG gr x b := by
 unfold powG; rw [h]
theorem pow_has {gr : Group} (k : OkG gr) {c : Int} (hc : 0 ≤ c) : hasB gr (powG gr gr.G c) = true := by
 have hb := powG_bd k gr.G c
 have hp := k.p
 have hq := k.q
 have h3 : (powG gr gr.G c).toNat ^ gr.Q.toNat % gr.P.toNat = 1 := by
  rw [powG_G k hc, Int.toNat_natCast, ← Nat.pow_mod, ← Nat.pow_mul, Nat.mul_comm, Nat.pow_mul, Nat.pow_mod, k.o, Nat.one_pow, Nat.mod_eq_of_lt (by omega)]
 have h1 : 1 ≤ powG gr gr.G c := by
  by_cases h0 : powG gr gr.G c = 0
  ·rw [h0, show (0 : Int).toNat = 0 from rfl, Nat.zero_pow (by omega), Nat.zero_mod] at h3
   omega
  ·omega
 simp only [hasB, Bool.and_eq_true, decide_eq_true_eq]
 exact ⟨⟨h1, hb.2⟩, h3⟩
theorem n_least (a b : Int) : F_spec_l1Least a b = some (if a < b then a else b) := by unfold F_spec_l1Least; by_cases h : a < b <;> simp [h]
theorem prd_one {gr : Group} (k : OkG gr) (x e : Int) : prdG gr [x] [e] 1 = powG gr x e := by
 have hb := powG_bd k x e
 show 1 * powG gr x e % gr.P = _
 rw [Int.one_mul, Int.emod_eq_of_lt hb.1 (by omega)]
def sgnE (gr : Group) (s : ByteArray) (x w : Int) : Int := chG gr s ([[gr.G]].flatten ++ [powG gr gr.G x] ++ [powG gr gr.G w])
def sgnP (gr : Group) (s : ByteArray) (x w : Int) : Proof := ⟨[powG gr gr.G w], [sgnE gr s x w], [(w + sgnE gr s x w * x) % gr.Q]⟩
theorem sgn_ok {gr : Group} (k : OkG gr) (s : ByteArray) {x w : Int} (hx : 0 ≤ x) (hw : 0 ≤ w) : sgnB gr s (powG gr gr.G x) (sgnP gr s x w) = true := by
 have hq := k.q
 have he : 0 ≤ sgnE gr s x w ∧ sgnE gr s x w < gr.Q := chG_bd k s _
 have hE : chG gr s [gr.G, powG gr gr.G x, powG gr gr.G w] = sgnE gr s x w := rfl
 have h1 : expB gr ((w + sgnE gr s x w * x) % gr.Q) = true := by
  have a := Int.emod_nonneg (w + sgnE gr s x w * x) (show gr.Q ≠ 0 by omega)
  have b := Int.emod_lt_of_pos (w + sgnE gr s x w * x) (show 0 < gr.Q by omega)
  simp only [expB, Bool.and_eq_true, decide_eq_true_eq]; omega
 have h2 : prdG gr [gr.G] [(w + sgnE gr s x w * x) % gr.Q] 1 = mulG gr [powG gr gr.G w, powG gr (powG gr gr.G x) (sgnE gr s x w)] := by
  rw [prd_one k, powG_mul k (gen_has k) hx he.1, powG_add k hw (Int.mul_nonneg hx he.1)]
  refine powG_cg _ ?_
  rw [mod_cg, Int.mul_comm x]
 unfold sgnB verB sgnP
 generalize sgnE gr s x w = c at he hE h1 h2 ⊢
 simp only [List.length_cons, List.length_nil, List.headD_cons, List.all_cons, List.all_nil, pow_has k hw, h1, Bool.and_true, Bool.not_true, Bool.or_false]
 simp [h2, List.range_succ, hE]
structure Gb (gr : Group) : Prop where
 p : 1 ≤ gr.P ∧ gr.P ≤ 2000000000
 q : 1 ≤ gr.Q ∧ gr.Q ≤ 2000000000
 g : 0 ≤ gr.G ∧ gr.G ≤ 2000000000
theorem OkG.gb {gr : Group} (k : OkG gr) : Gb gr := by
 have hp := k.p
 have hq := k.q
 have hg := k.g
 exact ⟨by omega, by omega, by omega⟩
theorem powG_b {gr : Group} (k : Gb gr) (x e : Int) : 0 ≤ powG gr x e ∧ powG gr x e ≤ gr.P - 1 := by
 have hp := k.p
 unfold powG
 have := Nat.mod_lt (x.toNat ^ (e % gr.Q).toNat) (show 0 < gr.P.toNat by omega)
 omega
theorem n_gExpB {gr : Group} (k : Gb gr) {x : Int} (h0 : 0 ≤ x) (h1 : x ≤ 2000000000) (e : Int) : F_spec_gExp gr x e = some (powG gr x e) := by
 have hp := k.p
 have hq := k.q
 have b1 := Int.emod_nonneg e (show gr.Q ≠ 0 by omega)
 have b2 := Int.emod_lt_of_pos e (show 0 < gr.Q by omega)
 unfold F_spec_gExp
 rw [n_nMod (by omega) hq.2, Option.bind_some, (n_powI h0 h1 hp.1 hp.2 b1 (by omega)).2]; rfl
theorem n_gProd1 {gr : Group} (k : Gb gr) (w : Int) : F_spec_gProd gr [gr.G] [w] = some (powG gr gr.G w) := by
 have hp := k.p
 have hg := k.g
 have hb := powG_b k gr.G w
 unfold F_spec_gProd
 refine eq_of_rn (rn_then (ψ := fun s => s = powG gr gr.G w) (rn_rloop (fun i s => s = if i = 0 then 1 else powG gr gr.G w) rfl ?_ fun s h => h) fun s h => rn_some h)
 rintro i s hi rfl
 have hi : i < 1 := hi
 obtain rfl : i = 0 := by omega
 refine rn_ix (l := [gr.G]) (by simp) (rn_ix (l := [w]) (by simp) (rn_call (n_gExpB k hg.1 hg.2 _) (rn_gd (by omega) (rn_some ?_))))
 show (IntKind.i64.wrap (1 * powG gr gr.G w)).tmod gr.P = powG gr gr.G w
 rw [Int.one_mul, wr64 (by omega) (by omega), Int.tmod_eq_emod_of_nonneg hb.1, Int.emod_eq_of_lt hb.1 (by omega)]
theorem n_images1 {gr : Group} (k : Gb gr) (w : Int) : F_spec_sImages gr [[gr.G]] [w] = some [powG gr gr.G w] := by
 unfold F_spec_sImages
 rw [rl_map (l := [[gr.G]]) (f := fun _ => powG gr gr.G w) []]
 ·rfl
 ·intro i hi s hs
  have hi : i < 1 := hi
  obtain rfl : i = 0 := by omega
  rw [ix_at (l := [[gr.G]]) (k := 0) (by simp), Option.bind_some]
  show (F_spec_gProd gr [gr.G] [w]).bind _ = _
  rw [n_gProd1 k, Option.bind_some, gd_t (by have := hs; simp only [List.length_nil] at this; omega)]
theorem dig_3 {gr : Group} (k : Gb gr) (x w : Int) : ([gr.P, gr.Q, gr.G] ++ ([[gr.G]].flatten ++ [powG gr gr.G x] ++ [powG gr gr.G w])).all digB = true := by
 have hp := k.p
 have hq := k.q
 have hg := k.g
 have b1 := powG_b k gr.G x
 have b2 := powG_b k gr.G w
 simp [digB]; omega
theorem sgnE_bd {gr : Group} (k : Gb gr) (s : ByteArray) (x w : Int) : 0 ≤ sgnE gr s x w ∧ sgnE gr s x w < gr.Q := by
 have hq := k.q
 exact ⟨Int.emod_nonneg _ (by omega), Int.emod_lt_of_pos _ (by omega)⟩
theorem n_rowsG {gr : Group} (k : OkG gr) : F_impl_Group_areRows gr [[gr.G]] = some true := by
 have h1 : F_slices_IndexFunc_int_int__impl_Group_areRows_1 [[gr.G]] [[gr.G]] gr.P gr.Q gr.G = some (-1) := by
  unfold F_slices_IndexFunc_int_int__impl_Group_areRows_1
  refine eq_of_rn (rn_then (ψ := fun v => v = .inl ()) (rn_rloop (fun _ _ => True) trivial ?_ fun s _ => rfl) ?_)
  ·rintro i s hi _
   have hi : i < 1 := hi
   obtain rfl : i = 0 := by omega
   refine rn_ix (l := [[gr.G]]) (by simp) ?_
   have e : F_impl_Group_areRows_1_ [gr.G] [[gr.G]] gr.P gr.Q gr.G = some false := by
    unfold F_impl_Group_areRows_1_
    have hh : F_impl_Group_hasAll ⟨gr.P, gr.Q, gr.G⟩ [gr.G] = some true := by
     rw [show (⟨gr.P, gr.Q, gr.G⟩ : Group) = gr from rfl, n_hasAll k]
     simp [gen_has k]
    simp [ix, hh]
   exact rn_call e (rn_f rfl (rn_some trivial))
  ·rintro _ rfl
   exact rn_some rfl
 unfold F_impl_Group_areRows F_slices_ContainsFunc_int_int__impl_Group_areRows_1
 rw [n_winB, show ix [[gr.G]] 0 = some [gr.G] from rfl, h1]
 rfl
theorem n_ProveK (gr : Group) {s : ByteArray} (hs : s.size ≤ 40) (x w : Int) : F_impl_ProveKnowledge gr s gr.G x w = some (if (okG gr && (expB gr x && expB gr w)) = true then (sgnP gr s x w, true) else (⟨[], [], []⟩, false)) := by
 unfold F_impl_ProveKnowledge F_impl_ProveLinear__mv2_mv3_mv4 F_impl_isLabel
 rw [n_validG]
 cases hg : okG gr with
 | false => rfl
 | true =>
  have k := okG_t.1 hg
  have hq := k.q
  have hp := k.p
  have ha : ∀ y, F_impl_Group_areExps gr [y] = some (expB gr y) := fun y => by
   rw [n_areExps (gr := gr) (by omega) (by omega)]; simp
  have e : decide ((s.size : Int) ≤ 40) = true := decide_eq_true (by omega)
  rw [n_rowsG k, ha, ha, e, show ix [[gr.G]] 0 = some [gr.G] from rfl]
  cases h1 : expB gr x with
  | false => rfl
  | true =>
   cases h2 : expB gr w with
   | false => rfl
   | true =>
    simp only [expB, Bool.and_eq_true, decide_eq_true_eq] at h1 h2
    have hb := rows_one (gen_has k)
    have b1 := powG_bd k gr.G x
    have b2 := powG_bd k gr.G w
    have hc : F_impl_Group_challenge gr s ([[gr.G]].flatten ++ [powG gr gr.G x] ++ [powG gr gr.G w]) = some (sgnE gr s x w, true) := by
     rw [n_chlI k s (by simp), if_pos (lab_t k hs (by simp; omega) ?_)]
     ·rfl
     ·have := dig_3 k.gb x w
      rw [List.all_append] at this
      exact (Bool.and_eq_true_iff.1 this).2
    have he := sgnE_bd k.gb s x w
    simp only [Option.bind_some, Bool.not_true, Bool.false_eq_true, if_false, Bool.and_self, if_true, List.length_cons, List.length_nil, bne_self_eq_false]
    rw [show sgnP gr s x w = ⟨[powG gr gr.G w], [sgnE gr s x w], [(w + sgnE gr s x w * x) % gr.Q]⟩ from rfl]
    unfold F_impl_Group_proveLinear
    rw [n_images k (es := [w]) hb rfl, n_images k (es := [x]) hb rfl, n_concatI _ (by simp)]
    simp only [List.map_cons, List.map_nil, prd_one k, Option.bind_some]
    rw [n_concatI _ (by simp)]
    simp only [Option.bind_some]
    rw [show [[[gr.G]].flatten, [powG gr gr.G x], [powG gr gr.G w]].flatten = [[gr.G]].flatten ++ [powG gr gr.G x] ++ [powG gr gr.G w] from rfl, hc]
    simp only [Option.bind_some, Bool.not_true, Bool.false_eq_true, if_false]
    generalize sgnE gr s x w = c at he hc
    have hm : 0 ≤ c * x := Int.mul_nonneg he.1 h1.1
    have hm2 : c * x ≤ 2000000000 * 2100000000 := Int.mul_le_mul (by omega) (by omega) h1.1 (by omega)
    have hl : rloop (σ := List Int × List Int × List Int) (β := List Int × List Int × List Int) (fun i21 s20 => (ix [w] i21).bind fun x27 => (ix [x] i21).bind fun x28 => (F_impl_Group_exp gr (IntKind.i64.wrap (x27 + (IntKind.i64.wrap (c * x28))))).bind fun z29 => gd ((s20.2.2.length + 1) * 8 ≤ 140737488355328 ∧ s20.2.2.length + 1 ≤ 4611686018427387904) <|
     some (.go (s20.1, s20.2.1, s20.2.2 ++ [z29]))) (fun s20 => (s20.1, s20.2.1, s20.2.2)) ([w].length) 0 ([powG gr gr.G w], [c], []) = some ([powG gr gr.G w], [c], [(w + c * x) % gr.Q]) := by
     refine eq_of_rn (rn_rloop (fun i s => s = if i = 0 then ([powG gr gr.G w], [c], []) else ([powG gr gr.G w], [c], [(w + c * x) % gr.Q])) rfl ?_ fun s h => h)
     rintro i s hi rfl
     have hi : i < 1 := hi
     obtain rfl : i = 0 := by omega
     refine rn_ix (l := [w]) (by simp) (rn_ix (l := [x]) (by simp) ?_)
     show Rn ((F_impl_Group_exp gr (IntKind.i64.wrap (w + IntKind.i64.wrap (c * x)))).bind _) _
     unfold F_impl_Group_exp
     rw [wr64 (n := c * x) (by omega) (by omega), wr64 (n := w + c * x) (by omega) (by omega), n_mod (by omega) (by omega)]
     exact rn_gd (by simp) (rn_some rfl)
    rw [hl]
    rfl
theorem Gb.w {gr : Group} (k : Gb gr) : Gw gr := by
 have a := k.p
 have b := k.q
 have c := k.g
 exact ⟨by omega, by omega, by omega⟩
theorem n_commitAt {gr : Group} {x : Int} {l : List Int} (k : OkG gr) (hx : 0 ≤ x) (hx2 : x ≤ 1000) (hl : ∀ y ∈ l, 0 ≤ y ∧ y ≤ 2000000000) : F_impl_Group_commitAt gr l x = some (l.foldl (atS gr x) (1, 1)).1 := by
 have hp := k.p
 have hq := k.q
 unfold F_impl_Group_commitAt
 refine eq_of_rn (rn_then (ψ := fun r => r = (l.foldl (atS gr x) (1, 1)).1) (rn_rloop (fun i s => s = (l.take i).foldl (atS gr x) (1, 1) ∧ (0 ≤ s.1 ∧ s.1 ≤ 2000000000) ∧ 0 ≤ s.2 ∧ s.2 ≤ 2000000000) ⟨rfl, by omega, by omega⟩ ?_ ?_) fun r hr => rn_some hr)
 ·rintro i s hi ⟨hs, h1, h2⟩
  have hy := hl _ (List.getElem_mem hi)
  have hw := powG_bd k l[i] s.2
  have hb : ∀ z ∈ [s.1, powG gr l[i] s.2], 0 ≤ z ∧ z ≤ 2000000000 := by
   intro z hz
   rcases List.mem_cons.1 hz with rfl | hz
   ·exact h1
   ·rw [List.mem_singleton.1 hz]; omega
  have b1 : 0 ≤ s.2 * x := Int.mul_nonneg h2.1 hx
  have b2 : s.2 * x ≤ 2000000000 * 1000 := Int.mul_le_mul h2.2 hx2 hx (by omega)
  have b3 : 0 ≤ s.2 * x % gr.Q := Int.emod_nonneg _ (by omega)
  have b4 : s.2 * x % gr.Q < gr.Q := Int.emod_lt_of_pos _ (by omega)
  have hm := mulG_bd k hb
  unfold F_impl_Group_exp
  rw [ix_at hi, Option.bind_some, (n_pow k hy.1 hy.2 _).1, Option.bind_some, n_mul k hb, Option.bind_some, wr64 (by omega) (by omega), n_mod (by omega) (by omega), Option.bind_some, Option.bind_some]
  refine ⟨_, rfl, ?_, ⟨hm.1, by show mulG gr _ ≤ _; omega⟩, b3, by show s.2 * x % gr.Q ≤ _; omega⟩
  rw [List.take_succ_eq_append_getElem hi, List.foldl_append, ← hs]; rfl
 ·rintro s ⟨hs, _⟩
  rw [List.take_length] at hs
  rw [hs]
def fitB (gr : Group) (l : List Int) (x v : Int) : Bool := powG gr gr.G v == (l.foldl (atS gr x) (1, 1)).1
theorem n_isShare {gr : Group} {x v : Int} {l : List Int} (k : OkG gr) (hx : 0 ≤ x) (hx2 : x ≤ 1000) (hl : ∀ y ∈ l, 0 ≤ y ∧ y ≤ 2000000000) : F_impl_Group_isShare gr l x v = some (fitB gr l x v) ∧ F_spec_sFits gr l x v = some (fitB gr l x v) := by
 have hp := k.p
 have hg := k.g
 unfold F_impl_Group_isShare F_spec_sFits
 rw [(n_pow k (by omega) (by omega) v).1, n_gExp k (by omega) (by omega), Option.bind_some, Option.bind_some, n_commitAt k hx hx2 hl, n_sAt k hx hx2 hl]
 exact ⟨rfl, rfl⟩
def badP (gr : Group) (d : Dealing) (i : Nat) : Bool := !fitB gr d.Commits ((i : Int) + 1) (d.Shares.getD i 0)
def badV (gr : Group) (d : Dealing) (n : Nat) : List Int := ((List.range n).filter (badP gr d)).map fun i : Nat => (i : Int) + 1
theorem badV_succ (gr : Group) (d : Dealing) (n : Nat) : badV gr d (n + 1) = badV gr d n ++ (if badP gr d n = true then [(n : Int) + 1] else []) := by
 unfold badV
 rw [List.range_succ, List.filter_append, List.map_append]
 congr 1
 by_cases h : badP gr d n = true
 ·rw [if_pos h]; simp [h]
 ·rw [if_neg h]; simp [h]
theorem badV_len (gr : Group) (d : Dealing) (n : Nat) : (badV gr d n).length ≤ n := by
 unfold badV
 rw [List.length_map]
 exact Nat.le_trans (List.length_filter_le _ _) (by simp)
theorem badV_bd {gr : Group} {d : Dealing} {n : Nat} : ∀ x ∈ badV gr d n, 1 ≤ x ∧ x ≤ n := by
 intro x hx
 unfold badV at hx
 obtain ⟨i, hi, rfl⟩ := List.mem_map.1 hx
 have := List.mem_range.1 (List.mem_filter.1 hi).1
 omega
theorem n_badB {gr : Group} {d : Dealing} (k : OkG gr) (hd : d.Shares.length ≤ 900) (hl : ∀ y ∈ d.Commits, 0 ≤ y ∧ y ≤ 2000000000) : F_impl_Group_bad gr d = some (badV gr d d.Shares.length) ∧ F_spec_sBad gr d = some (badV gr d d.Shares.length) := by
 have gen : ∀ (E : Int → Int → Option Bool), (∀ x v, 0 ≤ x → x ≤ 1000 → E x v = some (fitB gr d.Commits x v)) → Rn (rloop (fun i5 s4 =>
  (((ix d.Shares i5).bind fun x14 => (E (IntKind.i64.wrap (i5 + 1)) x14).bind fun z15 =>
    if (!z15) = true then (gd ((s4.length + 1) * 8 ≤ 140737488355328 ∧ s4.length + 1 ≤ 4611686018427387904) <| some (s4 ++ [IntKind.i64.wrap (i5 + 1)])) else (some s4) : Option (List Int))).bind fun x13 => some (.go x13)) (fun s4 => s4) d.Shares.length 0 []) (· = badV gr d d.Shares.length) := by
  intro E hE
  refine rn_rloop (fun i s => s = badV gr d i) rfl ?_ fun s h => h
  rintro i s hi hs
  have hbl := badV_len gr d i
  refine rn_then (ψ := fun r => r = badV gr d (i + 1)) ?_ fun r hr => rn_some hr
  rw [wr64 (by omega) (by omega)]
  refine rn_ix hi (rn_call (hE _ _ (by omega) (by omega)) ?_)
  have e : badP gr d i = !fitB gr d.Commits ((i : Int) + 1) d.Shares[i] := by unfold badP; rw [List.getD_eq_getElem?_getD, List.getElem?_eq_getElem hi]; rfl
  rw [badV_succ, e, ← hs]
  refine rn_if (fun h => rn_gd (by rw [hs]; omega) (rn_some ?_)) fun h => rn_some ?_
  ·rw [if_pos h]
  ·rw [if_neg (by rw [h]; decide), List.append_nil]
 constructor
 ·unfold F_impl_Group_bad
  exact eq_of_rn (rn_then (gen _ fun x v h1 h2 => (n_isShare k h1 h2 hl).1) fun r hr => rn_some hr)
 ·unfold F_spec_sBad
  exact eq_of_rn (rn_then (gen _ fun x v h1 h2 => (n_isShare k h1 h2 hl).2) fun r hr => rn_some hr)
def dlV (gr : Group) (f : List Int) (n : Nat) : Dealing := ⟨f.map (powG gr gr.G), (ptsM n).map (polyV gr.Q f)⟩
theorem n_dealB {gr : Group} (k : OkG gr) {f : List Int} (hf : ∀ x ∈ f, 0 ≤ x ∧ x ≤ 2000000000) (hl : f.length ≤ 1000) {n : Nat} (hn : n ≤ 1000) : F_impl_Group_deal gr f (n : Int) = some (dlV gr f n) ∧ F_spec_sDeal gr f (n : Int) = some (dlV gr f n) := by
 have hp := k.p
 have hq := k.q
 have hg := k.g
 have gen : ∀ (E W : Int → Option Int), (∀ x, E x = some (powG gr gr.G x)) → (∀ x, 0 ≤ x → x ≤ 1000 → W x = some (polyV gr.Q f x)) → Rn (((rloop (σ := (List Int) × (List Int)) (fun i14 s13 => (ix f i14).bind fun x20 => (E x20).bind fun z21 =>
  gd ((s13.1.length + 1) * 8 ≤ 140737488355328 ∧ s13.1.length + 1 ≤ 4611686018427387904) <| some (.go (s13.1 ++ [z21], s13.2))) (fun s13 => (s13.1, s13.2)) (f.length) 0 ([], []) : Option (((List Int) × (List Int)))).bind fun x3 =>
  ((wloop (σ := (List Int) × (List Int) × Int) (fun s36 => if decide (s36.2.2 ≤ (n : Int)) = true then ((W s36.2.2).bind fun z42 =>
  gd ((s36.2.1.length + 1) * 8 ≤ 140737488355328 ∧ s36.2.1.length + 1 ≤ 4611686018427387904) <| some (.go (s36.1, s36.2.1 ++ [z42], IntKind.i64.wrap (s36.2.2 + 1)))) else (some (.out (s36.1, s36.2.1)))) (x3.1, x3.2, 1) : Option (((List Int) × (List Int)))).bind fun x28 => some (Dealing.mk x28.1 x28.2)))) (· = dlV gr f n) := by
  intro E W hE hW
  refine rn_then (ψ := fun r => r = (f.map (powG gr gr.G), [])) (rn_rloop (fun j s => s = ((f.take j).map (powG gr gr.G), [])) rfl ?_ ?_) fun r hr => ?_
  ·rintro j s hj rfl
   refine rn_ix hj (rn_call (hE _) (rn_gd (by simp; omega) (rn_some ?_)))
   show (_, _) = (_, _)
   rw [List.take_succ_eq_append_getElem hj, List.map_append]; rfl
  ·rintro s rfl
   rw [List.take_length]
  subst hr
  refine rn_then (ψ := fun x => x = (f.map (powG gr gr.G), (ptsM n).map (polyV gr.Q f))) (rn_cloop n (fun j s => s = (f.map (powG gr gr.G), (ptsM j).map (polyV gr.Q f), (j : Int) + 1)) rfl ?_ ?_) fun x hx => rn_some (by rw [hx]; rfl)
  ·rintro j s hj rfl
   refine rn_t (by simp; omega) (rn_call (hW _ (by show 0 ≤ (j : Int) + 1; omega) (by show (j : Int) + 1 ≤ 1000; omega)) (rn_gd (by simp [ptsM]; omega) (rn_some ?_)))
   show (_, _, _) = (_, _, _)
   rw [wr64 (by show -9223372036854775808 ≤ (j : Int) + 1 + 1; omega) (by show (j : Int) + 1 + 1 ≤ _; omega), ptsM_succ, List.map_append]
   simp
  ·rintro s rfl
   exact rn_f (by simp; omega) (rn_some rfl)
 constructor
 ·unfold F_impl_Group_deal
  exact eq_of_rn (gen _ _ (fun x => (n_pow k (by omega) (by omega) x).1) fun x h1 h2 => n_evalPoly (by omega) (by omega) h1 (by omega) hf (by omega))
 ·unfold F_spec_sDeal
  exact eq_of_rn (gen _ _ (fun x => n_gExp k (by omega) (by omega) x) fun x h1 h2 => n_yEval (by omega) (by omega) h1 (by omega) hf (by omega))
structure PlOk (gr : Group) (cs : List (List Int)) (fs : List Fault) : Prop where
 k : OkG gr
 q : 7 < gr.Q
 n : 1 ≤ cs.length ∧ cs.length ≤ 7
 t : 1 ≤ (cs.headD []).length ∧ (cs.headD []).length ≤ cs.length
 fl : fs.length ≤ 20
 c : ∀ f ∈ cs, f.length = (cs.headD []).length ∧ f.all (expB gr) = true
 f : ∀ x ∈ fs, (1 ≤ x.Dealer ∧ x.Dealer ≤ cs.length) ∧ (1 ≤ x.Trustee ∧ x.Trustee ≤ cs.length) ∧ expB gr x.Delta = true
open Classical in
noncomputable def plB (gr : Group) (cs : List (List Int)) (fs : List Fault) : Bool := decide (PlOk gr cs fs)
theorem plB_t {gr : Group} {cs : List (List Int)} {fs : List Fault} : plB gr cs fs = true ↔ PlOk gr cs fs := by
 unfold plB; simp
def upF (gr : Group) (sh : List Int) (f : Fault) : List Int := sh.set (f.Trustee - 1).toNat ((sh.getD (f.Trustee - 1).toNat 0 + f.Delta) % gr.Q)
def shfF (gr : Group) (fs : List Fault) (i : Nat) (sh : List Int) : List Int := fs.foldl (fun s f => if f.Dealer = (i : Int) + 1 then upF gr s f else s) sh
def wilF (fs : List Fault) (i : Nat) : Bool := fs.all fun f => !decide (f.Dealer = (i : Int) + 1) || f.Answers
def plD (gr : Group) (cs : List (List Int)) (fs : List Fault) (i : Nat) : Dealing := ⟨(cs.getD i []).map (powG gr gr.G), shfF gr fs i ((ptsM cs.length).map (polyV gr.Q (cs.getD i [])))⟩
def plA (gr : Group) (cs : List (List Int)) (fs : List Fault) (i : Nat) : List Int := if wilF fs i = true then (badV gr (plD gr cs fs i) cs.length).map (polyV gr.Q (cs.getD i [])) else []
noncomputable def plV (gr : Group) (cs : List (List Int)) (fs : List Fault) : List Dealing × List (List Int) × Bool := if plB gr cs fs = true then ((List.range cs.length).map (plD gr cs fs), (List.range cs.length).map (plA gr cs fs), true) else ([], [], false)
theorem exp_iff {gr : Group} {x : Int} : expB gr x = true ↔ 0 ≤ x ∧ x < gr.Q := by
 unfold expB
 simp only [Bool.and_eq_true, decide_eq_true_eq]
 omega
theorem up_ok {gr : Group} (hq : 0 < gr.Q) {sh : List Int} (h : ∀ x ∈ sh, 0 ≤ x ∧ x < gr.Q) (f : Fault) : (upF gr sh f).length = sh.length ∧ ∀ x ∈ upF gr sh f, 0 ≤ x ∧ x < gr.Q := by
 refine ⟨by simp [upF], fun x hx => ?_⟩
 rcases List.mem_or_eq_of_mem_set hx with h1 | rfl
 ·exact h x h1
 ·exact ⟨Int.emod_nonneg _ (by omega), Int.emod_lt_of_pos _ hq⟩
theorem shfF_ok {gr : Group} (hq : 0 < gr.Q) (i : Nat) : ∀ (fs : List Fault) {sh : List Int}, (∀ x ∈ sh, 0 ≤ x ∧ x < gr.Q) → (shfF gr fs i sh).length = sh.length ∧ ∀ x ∈ shfF gr fs i sh, 0 ≤ x ∧ x < gr.Q := by
 intro fs
 induction fs with
 | nil => intro sh h; exact ⟨rfl, h⟩
 | cons f fs ih =>
  intro sh h
  have e : shfF gr (f :: fs) i sh = shfF gr fs i (if f.Dealer = (i : Int) + 1 then upF gr sh f else sh) := rfl
  rw [e]
  split
  ·have := up_ok hq h f
   have h2 := ih this.2
   exact ⟨h2.1.trans this.1, h2.2⟩
  ·exact ih h
theorem shfF_snoc (gr : Group) (fs : List Fault) (f : Fault) (i : Nat) (sh : List Int) : shfF gr (fs ++ [f]) i sh = if f.Dealer = (i : Int) + 1 then upF gr (shfF gr fs i sh) f else shfF gr fs i sh := by
 unfold shfF; rw [List.foldl_append]; rfl
theorem wil_snoc (fs : List Fault) (f : Fault) (i : Nat) : wilF (fs ++ [f]) i = (wilF fs i && (!decide (f.Dealer = (i : Int) + 1) || f.Answers)) := by
 unfold wilF; rw [List.all_append]; simp
theorem pts_sh {gr : Group} (hq : 0 < gr.Q) (f : List Int) (n : Nat) : ((ptsM n).map (polyV gr.Q f)).length = n ∧ ∀ x ∈ (ptsM n).map (polyV gr.Q f), 0 ≤ x ∧ x < gr.Q := by
 refine ⟨by simp [ptsM], fun x hx => ?_⟩
 obtain ⟨y, _, rfl⟩ := List.mem_map.1 hx
 exact polyV_bd hq f y
theorem plD_ok {gr : Group} {cs : List (List Int)} {fs : List Fault} (h : PlOk gr cs fs) {i : Nat} (hi : i < cs.length) :
 (plD gr cs fs i).Shares.length = cs.length ∧ (∀ x ∈ (plD gr cs fs i).Shares, 0 ≤ x ∧ x < gr.Q) ∧ (plD gr cs fs i).Commits.length = (cs.headD []).length ∧ ∀ x ∈ (plD gr cs fs i).Commits, hasB gr x = true := by
 have hq := h.k.q
 have h1 := pts_sh (gr := gr) (by omega) (cs.getD i []) cs.length
 have h2 := shfF_ok (gr := gr) (by omega) i fs h1.2
 have e : cs.getD i [] = cs[i] := by rw [List.getD_eq_getElem?_getD, List.getElem?_eq_getElem hi]; rfl
 have hc := h.c _ (List.getElem_mem hi)
 refine ⟨h2.1.trans h1.1, h2.2, by show ((cs.getD i []).map _).length = _; rw [List.length_map, e]; exact hc.1, fun x hx => ?_⟩
 obtain ⟨y, hy, rfl⟩ := List.mem_map.1 (show x ∈ (cs.getD i []).map _ from hx)
 rw [e] at hy
 exact pow_has h.k (exp_iff.1 (List.all_eq_true.1 hc.2 y hy)).1
theorem has_all_rng {gr : Group} (k : OkG gr) {l : List Int} (h : ∀ x ∈ l, hasB gr x = true) : ∀ x ∈ l, 0 ≤ x ∧ x ≤ 2000000000 := has_rng k (List.all_eq_true.2 h)
theorem hd_at {α : Type} {l : List (List α)} (h : 1 ≤ l.length) : ix l 0 = some (l.headD []) := by
 cases l with
 | nil => simp at h
 | cons x l => rfl
theorem n_arePlays {gr : Group} (k : OkG gr) (hq : 7 < gr.Q) (cs : List (List Int)) (fs : List Fault) : F_impl_Group_arePlays gr cs fs = some (plB gr cs fs) := by
 have hp := k.p
 have hq2 := k.q
 unfold F_impl_Group_arePlays
 refine eq_of_rn ?_
 have iff : ∀ {b : Bool}, (b = true ↔ PlOk gr cs fs) → b = plB gr cs fs := fun {b} h => by
  cases hb : plB gr cs fs
  ·cases b
   ·rfl
   ·have := plB_t.2 (h.1 rfl); rw [hb] at this; cases this
  ·exact h.2 (plB_t.1 hb)
 refine rn_then (ψ := fun b => b = !(inB 1 7 cs.length && (inB 1 cs.length (cs.headD []).length && decide (fs.length ≤ 20)))) ?_ fun b hb => ?_
 ·refine rn_call (n_winB _ _ _) (rn_if (fun h => rn_some ?_) fun h => ?_)
  ·rw [Bool.not_eq_true'] at h; rw [h]; rfl
  ·have h : inB 1 7 cs.length = true := by simpa using h
   refine rn_call (hd_at (by have := inB_t.1 h; omega)) (rn_call (n_winB _ _ _) (rn_if (fun h2 => rn_some ?_) fun h2 => rn_some ?_))
   ·rw [Bool.not_eq_true'] at h2; rw [h, h2]; rfl
   ·have h2 : inB 1 (cs.length : Int) (cs.headD []).length = true := by simpa using h2
    rw [h, h2]
    have : decide (20 < (fs.length : Int)) = !decide (fs.length ≤ 20) := by
     by_cases h : fs.length ≤ 20
     ·rw [decide_eq_true h, decide_eq_false (by omega)]; rfl
     ·rw [decide_eq_false h, decide_eq_true (by omega)]; rfl
    rw [this]; rfl
 subst hb
 refine rn_if (fun h => rn_some (iff ⟨fun x => (by cases x), fun x => ?_⟩)) fun h => ?_
 ·rw [Bool.not_eq_true'] at h
  have e1 : inB 1 7 (cs.length : Int) = true := inB_t.2 (by have := x.n; omega)
  have e2 : inB 1 (cs.length : Int) (cs.headD []).length = true := inB_t.2 (by have := x.t; omega)
  rw [e1, e2, decide_eq_true x.fl] at h; cases h
 ·have h : inB 1 7 (cs.length : Int) = true ∧ inB 1 (cs.length : Int) (cs.headD []).length = true ∧ decide (fs.length ≤ 20) = true := by simpa using h
  obtain ⟨h1, h2, h3⟩ := h
  have h1 := inB_t.1 h1
  have h2 := inB_t.1 h2
  have h3 := of_decide_eq_true h3
  have hh := hd_at (l := cs) (by omega)
  have c1 : F_slices_ContainsFunc_int_int__impl_Group_arePlays_1 cs cs gr.P gr.Q gr.G = some (cs.any fun f => !(decide (f.length = (cs.headD []).length) && f.all (expB gr))) := cf_gen (f := fun f => F_impl_Group_arePlays_1_ f cs gr.P gr.Q gr.G) fun f _ => by
   unfold F_impl_Group_arePlays_1_
   rw [hh, Option.bind_some, show (⟨gr.P, gr.Q, gr.G⟩ : Group) = gr from rfl, n_areExps (by omega) (by omega)]
   generalize (cs.headD []).length = t
   by_cases e : f.length = t
   ·subst e; simp
   ·have : ((f.length : Int) != (t : Int)) = true := bne_iff_ne.2 (by omega)
    rw [this, if_pos rfl, decide_eq_false e]; rfl
  have c2 : F_slices_ContainsFunc_impl_Fault_impl_Fault__impl_Group_arePlays_2 fs cs.length gr.P gr.Q gr.G = some (fs.any fun x => !(inB 1 cs.length x.Dealer && (inB 1 cs.length x.Trustee && expB gr x.Delta))) := cf_gen (f := fun x => F_impl_Group_arePlays_2_ x cs.length gr.P gr.Q gr.G) fun x _ => by
   unfold F_impl_Group_arePlays_2_
   rw [show (⟨gr.P, gr.Q, gr.G⟩ : Group) = gr from rfl, n_isExp (by omega) (by omega), n_winB, n_winB]
   cases inB 1 (cs.length : Int) x.Dealer <;> cases inB 1 (cs.length : Int) x.Trustee <;> simp
  refine rn_then (ψ := fun b => b = plB gr cs fs) (rn_call c1 ?_) fun b hb => rn_some hb
  refine rn_if (fun h => rn_call c2 (rn_some (iff ?_))) fun h => rn_some (iff ⟨fun x => (by cases x), fun x => ?_⟩)
  ·rw [Bool.not_eq_true'] at h
   rw [List.any_eq_false] at h
   rw [Bool.not_eq_true', List.any_eq_false]
   constructor
   ·intro hf
    refine ⟨k, hq, by omega, by omega, h3, fun f hf' => ?_, fun x hx => ?_⟩
    ·have := h f hf'; simpa using this
    ·have := hf x hx
     simp only [Bool.not_eq_true', Bool.not_eq_false, Bool.and_eq_true] at this
     exact ⟨inB_t.1 this.1, inB_t.1 this.2.1, this.2.2⟩
   ·intro x y hy
    have := x.f y hy
    simp only [Bool.not_eq_true', Bool.not_eq_false, Bool.and_eq_true]
    exact ⟨inB_t.2 this.1, inB_t.2 this.2.1, this.2.2⟩
  ·rw [Bool.not_eq_false'] at h
   rw [List.any_eq_true] at h
   obtain ⟨f, hf, h⟩ := h
   have := x.c f hf
   rw [decide_eq_true this.1, this.2] at h
   cases h
theorem n_expm {gr : Group} (k : OkG gr) (v : Int) : F_impl_Group_exp gr v = some (v % gr.Q) := by
 have hp := k.p
 have hq := k.q
 unfold F_impl_Group_exp
 rw [n_mod (by omega) (by omega)]; rfl
theorem plB_f {gr : Group} {cs : List (List Int)} {fs : List Fault} (h : ¬ PlOk gr cs fs) : plV gr cs fs = ([], [], false) := by
 unfold plV
 rw [if_neg fun x => h (plB_t.1 x)]
theorem plB_v {gr : Group} {cs : List (List Int)} {fs : List Fault} (h : PlOk gr cs fs) : plV gr cs fs = ((List.range cs.length).map (plD gr cs fs), (List.range cs.length).map (plA gr cs fs), true) := by
 unfold plV
 rw [if_pos (plB_t.2 h)]
theorem getD_at {α : Type} {l : List α} {d : α} {i : Nat} (h : i < l.length) : l.getD i d = l[i] := by
 rw [List.getD_eq_getElem?_getD, List.getElem?_eq_getElem h]; rfl
theorem n_ans {gr : Group} (k : OkG gr) {f : List Int} (hf : ∀ x ∈ f, 0 ≤ x ∧ x ≤ 2000000000) (hl : f.length ≤ 1000) {l : List Int} (h : ∀ x ∈ l, 1 ≤ x ∧ x ≤ 1000) (hl2 : l.length ≤ 1000) (w : Bool) (E : Int → Option Int) (hE : ∀ x, 0 ≤ x → x ≤ 1000 → E x = some (polyV gr.Q f x)) :
 Rn (rloop (fun i196 s195 => (((ix l i196).bind fun x205 => if w = true then ((E x205).bind fun z207 => gd ((s195.length + 1) * 8 ≤ 140737488355328 ∧ s195.length + 1 ≤ 4611686018427387904) <| some (s195 ++ [z207])) else (some s195) : Option (List Int))).bind fun x204 => some (.go x204)) (fun s195 => s195) l.length 0 []) (· = if w = true then l.map (polyV gr.Q f) else []) := by
 refine rn_rloop (fun i s => s = if w = true then (l.take i).map (polyV gr.Q f) else []) (by simp) ?_ ?_
 ·rintro i s hi rfl
  have hx := h _ (List.getElem_mem hi)
  refine rn_then (ψ := fun r => r = if w = true then (l.take (i + 1)).map (polyV gr.Q f) else []) (rn_ix hi ?_) fun r hr => rn_some hr
  refine rn_if (fun hw => rn_call (hE _ (by omega) (by omega)) (rn_gd ?_ (rn_some ?_))) fun hw => rn_some ?_
  ·rw [if_pos hw]; simp; omega
  ·rw [if_pos hw, if_pos hw, List.take_succ_eq_append_getElem hi, List.map_append]; rfl
  ·rw [hw]; simp
 ·rintro s rfl
  rw [List.take_length]
theorem exps_rng {gr : Group} (k : OkG gr) {l : List Int} (h : l.all (expB gr) = true) : ∀ x ∈ l, 0 ≤ x ∧ x ≤ 2000000000 := fun x hx => by
 have hp := k.p
 have hq := k.q
 have := exp_iff.1 (List.all_eq_true.1 h x hx)
 omega
theorem n_playI (gr : Group) (cs : List (List Int)) (fs : List Fault) : F_impl_PlayDealers gr cs fs = some (plV gr cs fs) := by
 unfold F_impl_PlayDealers
 refine eq_of_rn (rn_then (ψ := fun b => b = !plB gr cs fs) ?_ fun b hb => ?_)
 ·refine rn_call (n_isSharing gr) (rn_if (fun h => rn_some ?_) fun h => ?_)
  ·cases hb : plB gr cs fs with
   | false => rfl
   | true =>
    have P := plB_t.1 hb
    rw [okG_t.2 P.k, decide_eq_true P.q] at h; cases h
  ·have h : okG gr = true ∧ 7 < gr.Q := by simpa using h
   exact rn_call (n_arePlays (okG_t.1 h.1) h.2 cs fs) (rn_some rfl)
 subst hb
 refine rn_if (fun h => rn_some ?_) fun h => ?_
 ·rw [plB_f fun P => by rw [plB_t.2 P] at h; cases h]
 have P : PlOk gr cs fs := plB_t.1 (by simpa using h)
 have hp := P.k.p
 have hq := P.k.q
 have hn := P.n
 rw [plB_v P]
 refine rn_then (ψ := fun r => r = ((List.range cs.length).map (plD gr cs fs), (List.range cs.length).map (plA gr cs fs))) (rn_rloop (fun i s => s = ((List.range i).map (plD gr cs fs), (List.range i).map (plA gr cs fs))) rfl ?_ fun s hs => hs) fun r hr => rn_some (by rw [hr])
 rintro i s hi rfl
 have hc := P.c _ (List.getElem_mem hi)
 have hf := exps_rng P.k hc.2
 have ht := P.t
 have e : cs.getD i [] = cs[i] := getD_at hi
 have D := plD_ok P hi
 refine rn_ix hi (rn_call (n_dealB P.k hf (by omega) (by omega)).1 ?_)
 refine rn_then (ψ := fun r => r = ((plD gr cs fs i).Commits, (plD gr cs fs i).Shares, wilF fs i)) (rn_rloop (fun j s => s = ((plD gr cs fs i).Commits, shfF gr (fs.take j) i ((ptsM cs.length).map (polyV gr.Q (cs.getD i []))), wilF (fs.take j) i)) ?_ ?_ ?_) fun r hr => ?_
 ·show (_, _, _) = (_, _, _)
  rw [e]; simp only [plD, e]; rfl
 ·rintro j s hj rfl
  refine rn_then (ψ := fun x => x = ((plD gr cs fs i).Commits, shfF gr (fs.take (j + 1)) i ((ptsM cs.length).map (polyV gr.Q (cs.getD i []))), wilF (fs.take (j + 1)) i)) ?_ fun x hx => rn_some (by rw [hx]; rfl)
  have hx := P.f _ (List.getElem_mem hj)
  have S := shfF_ok (gr := gr) (by omega) i (fs.take j) (pts_sh (gr := gr) (by omega) (cs.getD i []) cs.length).2
  rw [(pts_sh (gr := gr) (by omega) (cs.getD i []) cs.length).1] at S
  rw [wr64 (by omega) (by omega), List.take_succ_eq_append_getElem hj, shfF_snoc, wil_snoc]
  generalize hS : shfF gr (fs.take j) i ((ptsM cs.length).map (polyV gr.Q (cs.getD i []))) = sh at S ⊢
  refine rn_ix hj (rn_if (fun h => ?_) fun h => ?_)
  ·have h : fs[j].Dealer = (i : Int) + 1 := eq_of_beq h
   have hd := exp_iff.1 hx.2.2
   rw [wr64 (by omega) (by omega)]
   have hlt : (fs[j].Trustee - 1).toNat < sh.length := by omega
   have hv := S.2 _ (List.getElem_mem hlt)
   refine rn_call (ix_to (l := sh) (by omega) (by omega)) ?_
   rw [wr64 (by omega) (by omega)]
   refine rn_call (n_expm P.k _) ?_
   have e1 : (if fs[j].Dealer = (i : Int) + 1 then upF gr sh fs[j] else sh) = sh.set (fs[j].Trustee - 1).toNat ((sh[(fs[j].Trustee - 1).toNat] + fs[j].Delta) % gr.Q) := by
    rw [if_pos h]; unfold upF; rw [getD_at hlt]
   rw [e1, decide_eq_true h]
   refine rn_if (fun w => rn_some ?_) fun w => rn_some ?_
   ·rw [show wilF (fs.take j) i = true from w]; rfl
   ·rw [show wilF (fs.take j) i = false from w]; rfl
  ·have h : ¬ fs[j].Dealer = (i : Int) + 1 := by simpa using h
   refine rn_some ?_
   rw [if_neg h, decide_eq_false h]
   simp
 ·rintro s rfl
  rw [List.take_length]; rfl
 subst hr
 refine rn_call (n_badB P.k (by show (plD gr cs fs i).Shares.length ≤ 900; omega) (has_all_rng P.k D.2.2.2)).1 ?_
 show Rn ((rloop _ _ (badV gr (plD gr cs fs i) (plD gr cs fs i).Shares.length).length 0 []).bind _) _
 rw [D.1]
 have hbl := badV_len gr (plD gr cs fs i) cs.length
 refine rn_then (n_ans P.k hf (by omega) (fun x hx => by have := badV_bd x hx; omega) (by omega) (wilF fs i) _ fun x h1 h2 => n_evalPoly (by omega) (by omega) h1 (by omega) hf (by omega)) fun r hr => ?_
 refine rn_gd (by simp; omega) (rn_gd (by simp; omega) (rn_some ?_))
 subst hr
 show (_, _) = (_, _)
 rw [List.range_succ, List.map_append, List.map_append]
 have : plA gr cs fs i = if wilF fs i = true then (badV gr (plD gr cs fs i) cs.length).map (polyV gr.Q cs[i]) else [] := by unfold plA; rw [e]
 rw [List.map_singleton, List.map_singleton, this]
theorem map_set_range {α : Type} {f g : Nat → α} {n d : Nat} (h : ∀ i, i < n → i ≠ d → g i = f i) : ((List.range n).map f).set d (g d) = (List.range n).map g := by
 apply List.ext_getElem (by simp)
 intro i h1 h2
 have hi : i < n := by simpa using h2
 rw [List.getElem_set]
 split
 ·rename_i e; subst e; simp
 ·rename_i e; simp [h i hi fun x => e x.symm]
theorem n_playS (gr : Group) (cs : List (List Int)) (fs : List Fault) : F_spec_PlayDealers gr cs fs = some (plV gr cs fs) := by
 unfold F_spec_PlayDealers
 refine eq_of_rn (rn_then (ψ := fun b => b = false ↔ (OkG gr ∧ 7 < gr.Q ∧ (1 ≤ cs.length ∧ cs.length ≤ 7) ∧ (1 ≤ (cs.headD []).length ∧ (cs.headD []).length ≤ cs.length) ∧ fs.length ≤ 20)) ?_ fun b hb => ?_)
 ·refine rn_call (n_sGroup gr) (rn_if (fun h => rn_some ⟨fun x => (by cases x), fun x => ?_⟩) fun h => ?_)
  ·rw [okG_t.2 x.1, decide_eq_true x.2.1] at h; cases h
  have h : okG gr = true ∧ 7 < gr.Q := by simpa using h
  refine rn_call (n_inB _ _ _) (rn_if (fun h2 => rn_some ⟨fun x => (by cases x), fun x => ?_⟩) fun h2 => ?_)
  ·rw [inB_t.2 (by omega)] at h2; cases h2
  have h2 := inB_t.1 (show inB 1 7 (cs.length : Int) = true by simpa using h2)
  refine rn_call (hd_at (by omega)) (rn_call (n_inB _ _ _) (rn_if (fun h3 => rn_some ⟨fun x => (by cases x), fun x => ?_⟩) fun h3 => rn_some ?_))
  ·rw [inB_t.2 (by omega)] at h3; cases h3
  have h3 := inB_t.1 (show inB 1 (cs.length : Int) (cs.headD []).length = true by simpa using h3)
  rw [decide_eq_false_iff_not]
  exact ⟨fun x => ⟨okG_t.1 h.1, h.2, by omega, by omega, by omega⟩, fun x => by omega⟩
 refine rn_if (fun h => rn_some ?_) fun h => ?_
 ·rw [plB_f fun P => by have := hb.2 ⟨P.k, P.q, P.n, P.t, P.fl⟩; rw [h] at this; cases this]
 obtain ⟨k, q7, hn, ht, hfl⟩ := hb.1 h
 have hp := k.p
 have hq := k.q
 let shs : Nat → List Int := fun i => (ptsM cs.length).map (polyV gr.Q (cs.getD i []))
 refine rn_then (ψ := fun r => (r = .inl ((List.range cs.length).map fun i => dlV gr (cs.getD i []) cs.length) ∧ ∀ f ∈ cs, f.length = (cs.headD []).length ∧ f.all (expB gr) = true) ∨ (r = .inr ([], [], false) ∧ ¬ PlOk gr cs fs))
  (rn_rloop (fun j s => s = ((List.range j).map fun i => dlV gr (cs.getD i []) cs.length) ∧ ∀ f ∈ cs.take j, f.length = (cs.headD []).length ∧ f.all (expB gr) = true) ⟨rfl, fun f hf => by simp at hf⟩ ?_ ?_) fun r hr => ?_
 ·rintro i s hi ⟨rfl, hs⟩
  refine rn_ix hi (rn_then (ψ := fun b => b = false ↔ (cs[i].length = (cs.headD []).length ∧ cs[i].all (expB gr) = true)) ?_ fun b hb => ?_)
  ·refine rn_call (hd_at (by omega)) (rn_if (fun h => rn_some ⟨fun x => (by cases x), fun x => ?_⟩) fun h => rn_call (n_gExps (by omega) (by omega) _) (rn_some ?_))
   ·rw [x.1] at h; simp at h
   ·have h : cs[i].length = (cs.headD []).length := by
     have := bne_eq_false_iff_eq.1 h; omega
    rw [Bool.not_eq_false']
    exact ⟨fun x => ⟨h, x⟩, fun x => x.2⟩
  refine rn_if (fun h => rn_some (.inr ⟨rfl, fun P => ?_⟩)) fun h => ?_
  ·have := hb.2 (P.c _ (List.getElem_mem hi)); rw [h] at this; cases this
  have hc := hb.1 h
  refine rn_call (n_dealB k (exps_rng k hc.2) (by omega) (by omega)).2 (rn_gd (by simp; omega) (rn_some ⟨?_, fun f hf => ?_⟩))
  ·rw [List.range_succ, List.map_append, List.map_singleton, getD_at hi]
  ·rw [List.take_succ_eq_append_getElem hi] at hf
   rcases List.mem_append.1 hf with hf | hf
   ·exact hs f hf
   ·rw [List.mem_singleton.1 hf]; exact hc
 ·rintro s ⟨rfl, hs⟩
  rw [List.take_length] at hs
  exact .inl ⟨rfl, hs⟩
 rcases hr with ⟨rfl, hcs⟩ | ⟨rfl, hno⟩
 case inr => exact rn_some (by rw [plB_f hno])
 show Rn (gd _ _) _
 refine rn_gd (by omega) (rn_call rfl ?_)
 let ds : List Fault → List Dealing := fun l => (List.range cs.length).map fun i => ⟨(cs.getD i []).map (powG gr gr.G), shfF gr l i (shs i)⟩
 let sl : List Fault → List Bool := fun l => (List.range cs.length).map fun i => !wilF l i
 refine rn_then (ψ := fun r => (r = .inl (ds fs, sl fs) ∧ PlOk gr cs fs) ∨ (r = .inr ([], [], false) ∧ ¬ PlOk gr cs fs))
  (rn_rloop (fun j s => s = (ds (fs.take j), sl (fs.take j)) ∧ ∀ x ∈ fs.take j, (1 ≤ x.Dealer ∧ x.Dealer ≤ cs.length) ∧ (1 ≤ x.Trustee ∧ x.Trustee ≤ cs.length) ∧ expB gr x.Delta = true) ⟨?_, fun f hf => by simp at hf⟩ ?_ ?_) fun r hr => ?_
 ·show (_, _) = (_, _)
  have : sl (fs.take 0) = List.replicate cs.length false := by
   apply List.ext_getElem (by simp [sl])
   intro i h1 h2
   simp [sl, wilF]
  rw [this]; rfl
 ·rintro j s hj ⟨rfl, hs⟩
  refine rn_then (ψ := fun x => (x = .inl (ds (fs.take (j + 1)), sl (fs.take (j + 1))) ∧ ((1 ≤ fs[j].Dealer ∧ fs[j].Dealer ≤ cs.length) ∧ (1 ≤ fs[j].Trustee ∧ fs[j].Trustee ≤ cs.length) ∧ expB gr fs[j].Delta = true)) ∨ (x = .inr (.out (.inr ([], [], false))) ∧ ¬ PlOk gr cs fs)) ?_ fun x hx => ?_
  ·refine rn_ix hj (rn_then (ψ := fun b => b = false ↔ ((1 ≤ fs[j].Dealer ∧ fs[j].Dealer ≤ cs.length) ∧ (1 ≤ fs[j].Trustee ∧ fs[j].Trustee ≤ cs.length) ∧ expB gr fs[j].Delta = true)) ?_ fun b hb => ?_)
   ·refine rn_call (n_inB _ _ _) (rn_if (fun h => rn_some ⟨fun x => (by cases x), fun x => ?_⟩) fun h => rn_call (n_inB _ _ _) (rn_if (fun h2 => rn_some ⟨fun x => (by cases x), fun x => ?_⟩) fun h2 => rn_call (n_gExps (by omega) (by omega) _) (rn_some ?_)))
    ·rw [inB_t.2 x.1] at h; cases h
    ·rw [inB_t.2 x.2.1] at h2; cases h2
    ·have h := inB_t.1 (show inB 1 (cs.length : Int) fs[j].Dealer = true by simpa using h)
     have h2 := inB_t.1 (show inB 1 (cs.length : Int) fs[j].Trustee = true by simpa using h2)
     rw [Bool.not_eq_false', List.all_cons, List.all_nil, Bool.and_true]
     exact ⟨fun x => ⟨h, h2, x⟩, fun x => x.2.2⟩
   refine rn_if (fun h => rn_some (.inr ⟨rfl, fun P => ?_⟩)) fun h => ?_
   ·have := hb.2 (P.f _ (List.getElem_mem hj)); rw [h] at this; cases this
   obtain ⟨h1, h2, h3⟩ := hb.1 h
   have hd := exp_iff.1 h3
   obtain ⟨d, hd1⟩ := Int.eq_ofNat_of_zero_le (show 0 ≤ fs[j].Dealer - 1 by omega)
   have hdn : d < cs.length := by omega
   rw [wr64 (by omega) (by omega), wr64 (n := fs[j].Trustee - 1) (by omega) (by omega), hd1]
   have S := shfF_ok (gr := gr) (by omega) d (fs.take j) (pts_sh (gr := gr) (by omega) (cs.getD d []) cs.length).2
   rw [(pts_sh (gr := gr) (by omega) (cs.getD d []) cs.length).1] at S
   have hlt : (fs[j].Trustee - 1).toNat < (shfF gr (fs.take j) d (shs d)).length := by show _ < (shfF _ _ _ _).length; rw [S.1]; omega
   have hv := S.2 _ (List.getElem_mem hlt)
   refine rn_ix (k := d) (l := ds (fs.take j)) (by simp [ds]; exact hdn) ?_
   have e0 : (ds (fs.take j))[d]'(by simp [ds]; exact hdn) = ⟨(cs.getD d []).map (powG gr gr.G), shfF gr (fs.take j) d (shs d)⟩ := by simp [ds]
   rw [e0]
   refine rn_call (ix_to (l := shfF gr (fs.take j) d (shs d)) (by omega) (by omega)) (rn_gd (by omega) ?_)
   refine rn_ix (k := d) (l := sl (fs.take j)) (by simp [sl]; exact hdn) ?_
   have e1 : (sl (fs.take j))[d]'(by simp [sl]; exact hdn) = !wilF (fs.take j) d := by simp [sl]
   rw [e1, wr64 (by omega) (by omega), Int.tmod_eq_emod_of_nonneg (by omega)]
   have hD : ∀ i : Nat, fs[j].Dealer = (i : Int) + 1 ↔ i = d := fun i => by omega
   have g1 : ds (fs.take (j + 1)) = (ds (fs.take j)).set d ⟨(cs.getD d []).map (powG gr gr.G), (shfF gr (fs.take j) d (shs d)).set (fs[j].Trustee - 1).toNat (((shfF gr (fs.take j) d (shs d))[(fs[j].Trustee - 1).toNat] + fs[j].Delta) % gr.Q)⟩ := by
    have := map_set_range (n := cs.length) (d := d) (f := fun i => (⟨(cs.getD i []).map (powG gr gr.G), shfF gr (fs.take j) i (shs i)⟩ : Dealing)) (g := fun i => (⟨(cs.getD i []).map (powG gr gr.G), shfF gr (fs.take (j + 1)) i (shs i)⟩ : Dealing)) fun i _ hi => by
     rw [List.take_succ_eq_append_getElem hj, shfF_snoc, if_neg fun x => hi ((hD i).1 x)]
    show (List.range cs.length).map _ = _
    rw [← this, List.take_succ_eq_append_getElem hj, shfF_snoc, if_pos ((hD d).2 rfl)]
    unfold upF; rw [getD_at hlt]
   have g2 : sl (fs.take (j + 1)) = (sl (fs.take j)).set d (!(wilF (fs.take j) d && fs[j].Answers)) := by
    have := map_set_range (n := cs.length) (d := d) (f := fun i => !wilF (fs.take j) i) (g := fun i => !wilF (fs.take (j + 1)) i) fun i _ hi => by
     rw [List.take_succ_eq_append_getElem hj, wil_snoc, decide_eq_false fun x => hi ((hD i).1 x)]; simp
    show (List.range cs.length).map _ = _
    rw [← this, List.take_succ_eq_append_getElem hj, wil_snoc, decide_eq_true ((hD d).2 rfl)]; rfl
   rw [g1, g2]
   refine rn_if (fun w => rn_some (.inl ⟨?_, h1, h2, h3⟩)) fun w => rn_some (.inl ⟨?_, h1, h2, h3⟩)
   ·have w : wilF (fs.take j) d = false := by simpa using w
    rw [w]; rfl
   ·have w : wilF (fs.take j) d = true := by simpa using w
    rw [w]; rfl
  ·rcases hx with ⟨rfl, hv⟩ | ⟨rfl, hno⟩
   ·refine rn_some ⟨rfl, fun f hf => ?_⟩
    rw [List.take_succ_eq_append_getElem hj] at hf
    rcases List.mem_append.1 hf with hf | hf
    ·exact hs f hf
    ·rw [List.mem_singleton.1 hf]; exact hv
   ·exact rn_some (.inr ⟨rfl, hno⟩)
 ·rintro s ⟨rfl, hs⟩
  rw [List.take_length] at hs ⊢
  exact .inl ⟨rfl, ⟨k, q7, hn, ht, hfl, hcs, hs⟩⟩
 rcases hr with ⟨rfl, P⟩ | ⟨rfl, hno⟩
 case inr => exact rn_some (by rw [plB_f hno])
 rw [plB_v P]
 have eds : ds fs = (List.range cs.length).map (plD gr cs fs) := rfl
 show Rn (Option.bind _ _) _
 refine rn_then (ψ := fun r => r = (List.range cs.length).map (plA gr cs fs)) ?_ fun r hr => rn_some (by rw [hr, eds])
 have hlen : (ds fs).length = cs.length := by simp [ds]
 rw [hlen]
 refine rn_rloop (fun i s => s = (List.range i).map (plA gr cs fs)) rfl ?_ fun s hs => hs
 rintro i s hi rfl
 have hc := hcs _ (List.getElem_mem hi)
 have hf := exps_rng k hc.2
 have e : cs.getD i [] = cs[i] := getD_at hi
 have D := plD_ok P hi
 refine rn_ix (l := ds fs) (by rw [hlen]; exact hi) ?_
 have e0 : (ds fs)[i]'(by rw [hlen]; exact hi) = plD gr cs fs i := by simp [ds]; rfl
 rw [e0]
 refine rn_call (n_badB k (by omega) (has_all_rng k D.2.2.2)).2 ?_
 rw [D.1]
 have hbl := badV_len gr (plD gr cs fs i) cs.length
 have A := n_ans k hf (by omega) (l := badV gr (plD gr cs fs i) cs.length) (fun x hx => by have := badV_bd x hx; omega) (by omega) (wilF fs i) (F_spec_yEval gr.Q cs[i]) fun x h1 h2 => n_yEval (by omega) (by omega) h1 (by omega) hf (by omega)
 refine rn_then (ψ := fun r => r = plA gr cs fs i) ?_ fun r hr => rn_gd (by simp; omega) (rn_some ?_)
 ·have : plA gr cs fs i = if wilF fs i = true then (badV gr (plD gr cs fs i) cs.length).map (polyV gr.Q cs[i]) else [] := by unfold plA; rw [e]
  rw [this]
  refine (rn_rloop (fun j s => s = if wilF fs i = true then ((badV gr (plD gr cs fs i) cs.length).take j).map (polyV gr.Q cs[i]) else []) (by simp) ?_ ?_)
  ·rintro j s hj rfl
   have hx := badV_bd _ (List.getElem_mem hj)
   refine rn_then (ψ := fun r => r = if wilF fs i = true then ((badV gr (plD gr cs fs i) cs.length).take (j + 1)).map (polyV gr.Q cs[i]) else []) (rn_ix hj (rn_ix (k := i) (l := sl fs) (by simp [sl]; exact hi) ?_)) fun r hr => rn_some hr
   have e1 : (sl fs)[i]'(by simp [sl]; exact hi) = !wilF fs i := by simp [sl]
   rw [e1]
   refine rn_if (fun w => ?_) fun w => rn_some ?_
   ·have w : wilF fs i = true := by simpa using w
    refine rn_ix hi (rn_call (n_yEval (by omega) (by omega) (by omega) (by omega) hf (by omega)) (rn_gd ?_ (rn_some ?_)))
    ·rw [if_pos w]; simp; omega
    ·rw [if_pos w, if_pos w, List.take_succ_eq_append_getElem hj, List.map_append]; rfl
   ·have w : wilF fs i = false := by simpa using w
    rw [w]; simp
  ·rintro s rfl
   rw [List.take_length]
 ·subst hr
  show _ = _
  rw [List.range_succ, List.map_append, List.map_singleton]
theorem n_sBases1 {gr : Group} (k : OkG gr) (x : Int) : F_spec_sBases gr [[x]] = some (hasB gr x) := by
 unfold F_spec_sBases
 have hx : ix [[x]] 0 = some [x] := rfl
 have h := n_all [[x]] (fun r => r.all (hasB gr)) false (body := fun i13 s12 => (ix [[x]] i13).bind fun x19 => (((ix [[x]] 0).bind fun x23 => if ((x19.length : Int) != (x23.length : Int)) = true then (some true) else ((F_spec_gIs gr x19).bind fun z25 => some (!z25)) : Option Bool)).bind fun x22 => if x22 = true then (some (.out (.inr false))) else (some (.go ()))) fun i hi => by
  have hi : i < 1 := hi
  obtain rfl : i = 0 := by omega
  show (ix [[x]] 0).bind _ = _
  simp only [hx, Option.bind_some, n_gIs k]
  show _ = some (if [x].all (hasB gr) = true then _ else _)
  cases [x].all (hasB gr) <;> simp
 rw [n_inB, Option.bind_some]
 have e1 : inB 1 8 (([[x]] : List (List Int)).length : Int) = true := by simp [inB]
 have e2 : inB 1 8 (([x] : List Int).length : Int) = true := by simp [inB]
 rw [e1]
 simp only [hx, Option.bind_some, n_inB, e2, Bool.not_true, Bool.false_eq_true, if_false]
 have h' := h
 simp only [hx, Option.bind_some, Bool.not_false] at h'
 rw [h']
 simp
theorem n_VerifyK {gr : Group} (k : OkG gr) {s : ByteArray} (hs : s.size ≤ 40) {y : Int} {p : Proof} (hp : p.Commits.length ≤ 1048576) :
 F_spec_VerifyKnowledge gr s gr.G y p = some (if hasB gr y = true then (sgnB gr s y p, true) else (false, false)) ∧ F_impl_VerifyKnowledge gr s gr.G y p = some (if hasB gr y = true then (sgnB gr s y p, true) else (false, false)) := by
 have e : decide ((s.size : Int) ≤ 40) = true := decide_eq_true (by omega)
 unfold F_spec_VerifyKnowledge F_impl_VerifyKnowledge F_spec_VerifyLinear F_impl_VerifyLinear F_spec_sLabel F_impl_isLabel
 simp only [n_l2Good, n_validG, okG_t.2 k, e, n_rowsG k, n_sBases1 k, gen_has k, n_gIs k, n_hasAll k, List.all_cons, List.all_nil, Bool.and_true, Option.bind_some, Bool.not_true, Bool.false_eq_true, if_false, if_true, List.length_cons, List.length_nil, bne_self_eq_false]
 cases hy : hasB gr y with
 | false => exact ⟨rfl, rfl⟩
 | true =>
  have hl := rows_one (gen_has k)
  have hi : [y].all (hasB gr) = true := by simp [hy]
  simp only [Bool.not_true, Bool.false_eq_true, if_false, if_true]
  rw [n_sVerify k hs hl rfl hi hp, n_verifyI k hs hl rfl hi hp]
  exact ⟨rfl, rfl⟩
abbrev dlrS : ByteArray := ⟨#[100, 101, 97, 108, 101, 114]⟩
noncomputable def dealC (gr : Group) (d : Dealing) : Bool := (okG gr && decide (7 < gr.Q)) && (inB 1 7 d.Commits.length && (d.Commits.all (hasB gr) && (inB d.Commits.length 7 d.Shares.length && d.Shares.all (expB gr))))
theorem n_hasDealing {gr : Group} (k : OkG gr) (d : Dealing) : F_impl_Group_hasDealing gr d = some (inB 1 7 d.Commits.length && (d.Commits.all (hasB gr) && (inB d.Commits.length 7 d.Shares.length && d.Shares.all (expB gr)))) ∧
 F_spec_sDealing gr d = some (inB 1 7 d.Commits.length && (d.Commits.all (hasB gr) && (inB d.Commits.length 7 d.Shares.length && d.Shares.all (expB gr)))) := by
 have hq := k.q
 have hp := k.p
 unfold F_impl_Group_hasDealing F_spec_sDealing F_impl_Group_areCommits F_spec_sCommits
 simp only [n_winB, n_inB, n_hasAll k, n_gIs k, n_areExps (gr := gr) (by omega) (by omega), n_gExps (gr := gr) (by omega) (by omega), Option.bind_some]
 cases inB 1 7 (d.Commits.length : Int) <;> cases d.Commits.all (hasB gr) <;> cases inB (d.Commits.length : Int) 7 (d.Shares.length : Int) <;> simp
theorem n_validDeal (gr : Group) (d : Dealing) : F_impl_IsValidDealing gr d = some (dealC gr d) := by
 unfold F_impl_IsValidDealing dealC
 rw [n_isSharing, Option.bind_some]
 cases h : (okG gr && decide (7 < gr.Q)) with
 | false => rfl
 | true =>
  have k : OkG gr := okG_t.1 (Bool.and_eq_true_iff.1 h).1
  rw [if_pos rfl, (n_hasDealing k d).1]; rfl
theorem n_VerifyDealer (gr : Group) (d : Dealing) {p : Proof} (hp : p.Commits.length ≤ 1048576) : ∃ v : Bool × Bool, F_impl_VerifyDealer gr d p = some v ∧ F_spec_VerifyDealer gr d p = some v ∧ (dealC gr d = true → v = (sgnB gr dlrS (d.Commits.headD 0) p, true)) := by
 have go : F_spec_VerifyDealer gr d p = F_impl_VerifyDealer gr d p ∧ ∃ v : Bool × Bool, F_impl_VerifyDealer gr d p = some v ∧ (dealC gr d = true → v = (sgnB gr dlrS (d.Commits.headD 0) p, true)) := by
  unfold F_impl_VerifyDealer F_spec_VerifyDealer
  rw [n_validDeal, n_sGroup, Option.bind_some, Option.bind_some]
  cases h : (okG gr && decide (7 < gr.Q)) with
  | false => unfold dealC; rw [h]; exact ⟨rfl, _, rfl, fun x => by cases x⟩
  | true =>
   have k : OkG gr := okG_t.1 (Bool.and_eq_true_iff.1 h).1
   simp only [Bool.not_true, Bool.false_eq_true, if_false, (n_hasDealing k d).2, Option.bind_some]
   have e : dealC gr d = (inB 1 7 d.Commits.length && (d.Commits.all (hasB gr) && (inB d.Commits.length 7 d.Shares.length && d.Shares.all (expB gr)))) := by unfold dealC; rw [h]; rfl
   rw [← e]
   cases hd : dealC gr d with
   | false => exact ⟨rfl, _, rfl, fun x => by cases x⟩
   | true =>
    rw [e] at hd
    simp only [Bool.and_eq_true] at hd
    have hl := inB_t.1 hd.1
    obtain ⟨c, cs, hc⟩ : ∃ c cs, d.Commits = c :: cs := by
     cases hx : d.Commits with
     | nil => rw [hx] at hl; simp at hl
     | cons c cs => exact ⟨c, cs, rfl⟩
    have hh : hasB gr c = true := by
     have := hd.2.1; rw [hc] at this; simpa using (List.all_eq_true.1 this c (by simp))
    have hi : ix d.Commits 0 = some c := by rw [hc]; rfl
    have hv := n_VerifyK k (s := dlrS) (by decide) (y := c) hp
    simp only [Bool.not_true, Bool.false_eq_true, if_false, hi, Option.bind_some]
    rw [hv.1, hv.2, if_pos hh]
    refine ⟨rfl, _, rfl, fun _ => ?_⟩
    rw [hc]; rfl
 obtain ⟨h1, v, h2, h3⟩ := go
 exact ⟨v, h2, h1.trans h2, h3⟩
theorem n_ProveDealer {gr : Group} (k : OkG gr) (hq : 7 < gr.Q) {f : List Int} (hl : 1 ≤ f.length ∧ f.length ≤ 7) (hf : f.all (expB gr) = true) {w : Int} (hw : expB gr w = true) : F_impl_ProveDealer gr f w = some (sgnP gr dlrS (f.headD 0) w, true) := by
 have hp := k.p
 have hq2 := k.q
 obtain ⟨c, cs, rfl⟩ : ∃ c cs, f = c :: cs := by
  cases f with
  | nil => simp at hl
  | cons c cs => exact ⟨c, cs, rfl⟩
 have hc : expB gr c = true := List.all_eq_true.1 hf c (by simp)
 unfold F_impl_ProveDealer
 have e1 : inB 1 7 ((c :: cs).length : Int) = true := inB_t.2 (by omega)
 have hi : ix (c :: cs) 0 = some c := rfl
 simp only [n_isSharing, okG_t.2 k, decide_eq_true hq, n_winB, e1, n_areExps (gr := gr) (by omega) (by omega), hf, hi, n_ProveK gr (s := dlrS) (by decide), hc, hw, Option.bind_some, Bool.not_true, Bool.false_eq_true, if_false, if_true, Bool.and_self]
 rfl
theorem n_keyGen {gr : Group} {cs : List (List Int)} {fs : List Fault} (P : PlOk gr cs fs) : F_impl_IsKeyGenInput gr ((List.range cs.length).map (plD gr cs fs)) = some true := by
 have hp := P.k.p
 have hq2 := P.k.q
 have hn := P.n
 have ht := P.t
 have mem : ∀ d ∈ (List.range cs.length).map (plD gr cs fs), d.Shares.length = cs.length ∧ (∀ x ∈ d.Shares, 0 ≤ x ∧ x < gr.Q) ∧ d.Commits.length = (cs.headD []).length ∧ ∀ x ∈ d.Commits, hasB gr x = true := fun d hd => by
  obtain ⟨i, hi, rfl⟩ := List.mem_map.1 hd
  exact plD_ok P (List.mem_range.1 hi)
 generalize hL : (List.range cs.length).map (plD gr cs fs) = L at mem
 have hlen : L.length = cs.length := by rw [← hL]; simp
 have h0 : ∃ d0, ix L 0 = some d0 ∧ d0 ∈ L := by
  cases L with
  | nil => simp at hlen; omega
  | cons d l => exact ⟨d, rfl, by simp⟩
 obtain ⟨d0, h0, m0⟩ := h0
 have c1 : F_slices_ContainsFunc_impl_Dealing_impl_Dealing__impl_Group_hasDealings_1 L gr.P gr.Q gr.G = some (L.any fun _ => false) := cf_gen (f := fun d => F_impl_Group_hasDealings_1_ d gr.P gr.Q gr.G) fun d hd => by
  have D := mem d hd
  unfold F_impl_Group_hasDealings_1_
  rw [show (⟨gr.P, gr.Q, gr.G⟩ : Group) = gr from rfl, (n_hasDealing P.k d).1]
  have e1 : inB 1 7 (d.Commits.length : Int) = true := inB_t.2 (by omega)
  have e2 : inB (d.Commits.length : Int) 7 (d.Shares.length : Int) = true := inB_t.2 (by omega)
  have e3 : d.Commits.all (hasB gr) = true := List.all_eq_true.2 D.2.2.2
  have e4 : d.Shares.all (expB gr) = true := List.all_eq_true.2 fun x hx => exp_iff.2 (D.2.1 x hx)
  rw [e1, e2, e3, e4]; rfl
 have c2 : F_slices_ContainsFunc_impl_Dealing_impl_Dealing__impl_IsKeyGenInput_1 L L = some (L.any fun _ => false) := cf_gen (f := fun d => F_impl_IsKeyGenInput_1_ d L) fun d hd => by
  have D := mem d hd
  have D0 := mem d0 m0
  unfold F_impl_IsKeyGenInput_1_ F_impl_sameShape
  rw [h0, Option.bind_some, D.1, D.2.2.1, D0.1, D0.2.2.1, hlen]
  simp
 have ef : (L.any fun _ => false) = false := by simp
 unfold F_impl_IsKeyGenInput F_impl_Group_hasDealings
 simp only [n_isSharing, okG_t.2 P.k, decide_eq_true P.q, c1, c2, ef, Option.bind_some, Bool.and_self, if_true, Bool.not_false]
 rw [decide_eq_true (show 0 < (L.length : Int) by omega), decide_eq_true (show (L.length : Int) ≤ 7 by omega)]
 rfl
theorem n_complaints {gr : Group} {cs : List (List Int)} {fs : List Fault} (P : PlOk gr cs fs) : F_impl_ComplaintsIn gr ((List.range cs.length).map (plD gr cs fs)) = some ((List.range cs.length).map fun i => badV gr (plD gr cs fs i) cs.length, true) := by
 have hn := P.n
 unfold F_impl_ComplaintsIn
 rw [n_keyGen P, Option.bind_some]
 refine eq_of_rn (rn_f rfl (rn_then (ψ := fun r => r = (List.range cs.length).map fun i => badV gr (plD gr cs fs i) cs.length) ?_ fun r hr => rn_some (by rw [hr])))
 have hlen : ((List.range cs.length).map (plD gr cs fs)).length = cs.length := by simp
 rw [hlen]
 refine rn_rloop (fun i s => s = (List.range i).map fun i => badV gr (plD gr cs fs i) cs.length) rfl ?_ fun s hs => hs
 rintro i s hi rfl
 have D := plD_ok P hi
 refine rn_ix (l := (List.range cs.length).map (plD gr cs fs)) (by simpa using hi) ?_
 rw [show ((List.range cs.length).map (plD gr cs fs))[i]'(by simpa using hi) = plD gr cs fs i by simp]
 refine rn_call (n_badB P.k (by omega) (has_all_rng P.k D.2.2.2)).1 (rn_gd (by simp; omega) (rn_some ?_))
 show _ = _
 rw [List.range_succ, List.map_append, List.map_singleton, D.1]
theorem n_qualified {gr : Group} {cs : List (List Int)} {fs : List Fault} (P : PlOk gr cs fs) : ∃ who, F_impl_QualifiedIn gr ((List.range cs.length).map (plD gr cs fs)) ((List.range cs.length).map (plA gr cs fs)) = some (who, true) ∧ who.length ≤ 7 ∧ ∀ i, i < cs.length → badV gr (plD gr cs fs i) cs.length = [] → (i : Int) + 1 ∈ who := by
 have hp := P.k.p
 have hq2 := P.k.q
 have hn := P.n
 have ht := P.t
 have al : ∀ i, (plA gr cs fs i).length ≤ 7 ∧ (plA gr cs fs i).all (expB gr) = true := fun i => by
  unfold plA
  split
  ·refine ⟨by rw [List.length_map]; exact Nat.le_trans (badV_len _ _ _) hn.2, List.all_eq_true.2 fun x hx => ?_⟩
   obtain ⟨y, _, rfl⟩ := List.mem_map.1 hx
   exact exp_iff.2 (polyV_bd (by omega) _ _)
  ·exact ⟨by simp, rfl⟩
 have c1 : F_slices_ContainsFunc_int_int__impl_Group_areAnswers_1 ((List.range cs.length).map (plA gr cs fs)) gr.P gr.Q gr.G = some (((List.range cs.length).map (plA gr cs fs)).any fun _ => false) := cf_gen (f := fun d => F_impl_Group_areAnswers_1_ d gr.P gr.Q gr.G) fun d hd => by
  obtain ⟨i, _, rfl⟩ := List.mem_map.1 hd
  have := al i
  unfold F_impl_Group_areAnswers_1_
  rw [show (⟨gr.P, gr.Q, gr.G⟩ : Group) = gr from rfl, n_areExps (by omega) (by omega), this.2, decide_eq_false (by omega)]
  rfl
 have ef : (((List.range cs.length).map (plA gr cs fs)).any fun _ => false) = false := by simp
 have l1 : ((List.range cs.length).map (plD gr cs fs)).length = cs.length := by simp
 have l2 : ((List.range cs.length).map (plA gr cs fs)).length = cs.length := by simp
 unfold F_impl_QualifiedIn F_impl_Group_areAnswers
 rw [n_keyGen P, c1, ef, l1, l2]
 suffices h : Rn (F_impl_Group_qualified gr ((List.range cs.length).map (plD gr cs fs)) ((List.range cs.length).map (plA gr cs fs))) (fun who => who.length ≤ cs.length ∧ ∀ i, i < cs.length → badV gr (plD gr cs fs i) cs.length = [] → (i : Int) + 1 ∈ who) by
  obtain ⟨who, h1, h2, h3⟩ := h
  refine ⟨who, ?_, by omega, h3⟩
  simp [h1]
 unfold F_impl_Group_qualified
 refine rn_then (ψ := fun who => who.length ≤ cs.length ∧ ∀ i, i < cs.length → badV gr (plD gr cs fs i) cs.length = [] → (i : Int) + 1 ∈ who) ?_ fun r hr => rn_some hr
 rw [l1]
 refine rn_rloop (fun j who => who.length ≤ j ∧ ∀ i, i < j → badV gr (plD gr cs fs i) cs.length = [] → (i : Int) + 1 ∈ who) ⟨by simp, fun i hi => by omega⟩ ?_ fun s hs => hs
 rintro i s hi ⟨hs1, hs2⟩
 have D := plD_ok P hi
 refine rn_then (ψ := fun (who : List Int) => who.length ≤ i + 1 ∧ ∀ j, j < i + 1 → badV gr (plD gr cs fs j) cs.length = [] → (j : Int) + 1 ∈ who) ?_ fun r hr => rn_some hr
 refine rn_ix (l := (List.range cs.length).map (plD gr cs fs)) (by simpa using hi) (rn_ix (l := (List.range cs.length).map (plA gr cs fs)) (by simpa using hi) ?_)
 rw [show ((List.range cs.length).map (plD gr cs fs))[i]'(by simpa using hi) = plD gr cs fs i by simp, show ((List.range cs.length).map (plA gr cs fs))[i]'(by simpa using hi) = plA gr cs fs i by simp]
 refine rn_then (ψ := fun b => badV gr (plD gr cs fs i) cs.length = [] → b = true) ?_ fun b hb => ?_
 ·unfold F_impl_Group_isQualified
  refine rn_call (n_badB P.k (by omega) (has_all_rng P.k D.2.2.2)).1 ?_
  rw [D.1]
  have hbd := badV_bd (gr := gr) (d := plD gr cs fs i) (n := cs.length)
  have hA : plA gr cs fs i = if wilF fs i = true then (badV gr (plD gr cs fs i) cs.length).map (polyV gr.Q (cs.getD i [])) else [] := rfl
  generalize badV gr (plD gr cs fs i) cs.length = B at hbd hA ⊢
  refine rn_then (ψ := fun b => b = false ↔ (B.length < (plD gr cs fs i).Commits.length ∧ (plA gr cs fs i).length = B.length)) (rn_if (fun h => rn_some ⟨fun x => (by cases x), fun x => ?_⟩) fun h => rn_some ?_) fun b hb => ?_
  ·have := of_decide_eq_true h; omega
  ·have := of_decide_eq_false h
   rw [bne_eq_false_iff_eq]
   omega
  refine rn_if (fun h => rn_some fun hB => ?_) fun h => ?_
  ·subst hB
   have : plA gr cs fs i = [] := by rw [hA]; simp
   have := hb.2 ⟨by show 0 < _; omega, by rw [this]⟩
   rw [h] at this; cases this
  ·have hl := (hb.1 h).2
   refine rn_then (ψ := fun r => B = [] → r = .inl ()) (rn_rloop (fun j _ => True) trivial ?_ fun s _ _ => rfl) fun r hr => ?_
   ·rintro j s hj _
    have hx := hbd _ (List.getElem_mem hj)
    refine rn_ix hj (rn_ix (k := j) (l := plA gr cs fs i) (by omega) (rn_call (n_isShare P.k (by omega) (by omega) (has_all_rng P.k D.2.2.2)).1 (rn_if (fun _ => rn_some fun hB => ?_) fun _ => rn_some trivial)))
    rw [hB] at hj; simp at hj
   ·cases r with
    | inl u => exact rn_some fun _ => rfl
    | inr b => exact rn_some fun hB => by have := hr hB; cases this
 ·rw [wr64 (by omega) (by omega)]
  refine rn_if (fun h => rn_gd (by omega) (rn_some ⟨by simp; omega, fun j hj hB => ?_⟩)) fun h => rn_some ⟨by omega, fun j hj hB => ?_⟩
  ·rcases Nat.lt_or_ge j i with h1 | h1
   ·exact List.mem_append_left _ (hs2 j h1 hB)
   ·obtain rfl : j = i := by omega
    exact List.mem_append_right _ (by simp)
  ·rcases Nat.lt_or_ge j i with h1 | h1
   ·exact hs2 j h1 hB
   ·obtain rfl : j = i := by omega
    have := hb hB; rw [h] at this; cases this
theorem n_polys {code c0 : List Int} {at_ seed n : Int} {gr : Group} {k t : Nat} (hb : Bt code) (h : Cu code n (c0, at_, seed)) (hn : n ≤ 3000000000000000) (hg : Gw gr) (hk : k ≤ 20) (ht : t ≤ 20) :
 Rn (F_spec_l1Cur_polynomials__io0_flat c0 at_ seed gr (k : Int) (t : Int)) (fun z => z.1.length = k ∧ (∀ l ∈ z.1, l.length = t) ∧ Cu code (n + 2000) z.2) := by
 unfold F_spec_l1Cur_polynomials__io0_flat
 refine rn_then (ψ := fun x => x.2.length = k ∧ (∀ l ∈ x.2, l.length = t) ∧ Cu code (n + 2000) x.1) (rn_cloop k (fun j s => s.2.1 = (k : Int) - j ∧ s.2.2.length = j ∧ (∀ l ∈ s.2.2, l.length = t) ∧ Cu code (n + 80 * j) s.1) ⟨by simp, rfl, fun l hl => by simp at hl, by simpa using h⟩ ?_ ?_) fun x hx => rn_some hx
 ·rintro j ⟨⟨d0, d1, d2⟩, m, out⟩ hj ⟨h1, h2, h3, h4⟩
  have h1 : m = (k : Int) - j := h1
  subst h1
  refine rn_t (by simp; omega) (rn_then (n_coins hb h4 (by omega) hg (by omega)) fun z ⟨z1, z2, z3⟩ => rn_gd (by show (out.length + 1) * 24 ≤ _ ∧ out.length + 1 ≤ _; have : out.length = j := h2; omega) (rn_some ⟨?_, ?_, ?_, z3.mono (by omega)⟩))
  ·show IntKind.i64.wrap ((k : Int) - j - 1) = _
   rw [wr64 (by omega) (by omega)]; omega
  ·show (out ++ [z.1]).length = j + 1
   have : out.length = j := h2
   simp [this]
  ·intro l hl
   rcases List.mem_append.1 (show l ∈ out ++ [z.1] from hl) with hl | hl
   ·exact h3 l hl
   ·rw [List.mem_singleton.1 hl]; exact z1
 ·rintro ⟨⟨d0, d1, d2⟩, m, out⟩ ⟨h1, h2, h3, h4⟩
  have h1 : m = (k : Int) - k := h1
  subst h1
  exact rn_f (by simp) (rn_some ⟨h2, h3, h4.mono (by omega)⟩)
theorem n_faultsD {code c0 : List Int} {at_ seed n a : Int} {gr : Group} (hb : Bt code) (h : Cu code n (c0, at_, seed)) (hn : n ≤ 3000000000000000) (hg : Gw gr) (ha : a ≤ 1000) :
 Rn (F_spec_l1Cur_faults__io0 c0 at_ seed gr a) (fun z => Cu code (n + 200) z.2) := by
 have hq := hg.q
 unfold F_spec_l1Cur_faults__io0
 refine rn_then (n_pick hb h (by omega)) fun z ⟨z1, z2, z3, z4, z5⟩ => ?_
 have z3 := z3 (by omega)
 obtain ⟨m, hm⟩ := Int.eq_ofNat_of_zero_le z1
 refine rn_then (ψ := fun x => x.2.length ≤ 4 ∧ Cu code (n + 100) x.1) (rn_cloop m (fun j s => s.2.2 = (m : Int) - j ∧ s.2.1.length = j ∧ Cu code (n + 2 + 20 * j) s.1) ⟨by rw [hm]; simp, rfl, z5.mono (by omega)⟩ ?_ ?_) fun x hx => ?_
 ·rintro j ⟨⟨d0, d1, d2⟩, out, q⟩ hj ⟨h1, h2, h3⟩
  have h1 : q = (m : Int) - j := h1
  have h2 : out.length = j := h2
  subst h1
  refine rn_t (by simp; omega) (rn_then (n_pick hb h3 (by omega)) fun y ⟨_, _, _, _, y5⟩ => rn_then (n_pick hb y5 (by omega)) fun x ⟨_, _, _, _, x5⟩ => rn_then (n_expo hb x5 (by omega) (by omega)) fun w ⟨_, _, _, w4⟩ => rn_then (n_one hb w4 (by omega)) fun v v1 => rn_gd (by show (out.length + 1) * 32 ≤ _ ∧ out.length + 1 ≤ _; omega) (rn_some ⟨?_, ?_, v1.mono (by omega)⟩))
  ·show IntKind.i64.wrap ((m : Int) - j - 1) = _
   rw [wr64 (by omega) (by omega)]; omega
  ·show (out ++ [_]).length = j + 1
   simp [h2]
 ·rintro ⟨⟨d0, d1, d2⟩, out, q⟩ ⟨h1, h2, h3⟩
  have h1 : q = (m : Int) - m := h1
  have h2 : out.length = m := h2
  subst h1
  exact rn_f (by simp) (rn_some ⟨by show out.length ≤ 4; omega, h3.mono (by omega)⟩)
 ·obtain ⟨x1, x2⟩ := hx
  refine rn_then (n_one hb x2 (by omega)) fun y y1 => ?_
  refine rn_then (ψ := fun r => Cu code (n + 200) r.1) (rn_if (fun _ => ?_) fun _ => rn_some (y1.mono (by omega))) fun r hr => rn_some hr
  refine rn_then (n_amongM hb y1 (by omega) (by simp)) fun w ⟨_, w1⟩ => rn_then (n_amongM hb w1 (by omega) (by simp)) fun v ⟨_, v1⟩ => rn_then (n_anyExpo hb v1 (by omega) hg) fun u ⟨_, _, u1⟩ => rn_gd (by omega) (rn_some (u1.mono (by omega)))
theorem n_DPD {code : List Int} (hb : Bt code) : Rn (F_spec_DrawPlayDealers code) (fun _ => True) := by
 unfold F_spec_DrawPlayDealers
 refine rn_then (n_shared hb (cu0 code) (by omega)) fun z ⟨z1, z2⟩ => ?_
 refine rn_then (n_pick hb z2 (by omega)) fun y ⟨y1, y2, y3, y4, y5⟩ => ?_
 have y3 := y3 (by omega)
 rw [wr64 (n := 1 + y.1) (by omega) (by omega)]
 refine rn_then (n_pick hb y5 (by omega)) fun x ⟨x1, x2, x3, x4, x5⟩ => ?_
 have hx : x.1 ≤ 4 := by
  rcases Int.lt_or_le 1 (1 + y.1) with h | h
  ·have := x3 h; omega
  ·have := x2 h; omega
 rw [wr64 (n := 1 + x.1) (by omega) (by omega), wr64 (n := 1 + y.1 + 1) (by omega) (by omega)]
 obtain ⟨n, hn⟩ := Int.eq_ofNat_of_zero_le (show 0 ≤ 1 + y.1 by omega)
 obtain ⟨t, ht⟩ := Int.eq_ofNat_of_zero_le (show 0 ≤ 1 + x.1 by omega)
 obtain ⟨n1, hn1⟩ := Int.eq_ofNat_of_zero_le (show 0 ≤ 1 + y.1 + 1 by omega)
 rw [hn1, hn, ht]
 refine rn_then (n_polys hb x5 (by omega) z1 (by omega) (by omega)) fun w ⟨w1, w2, w3⟩ => ?_
 refine rn_then (n_pick hb w3 (by omega)) fun v ⟨_, _, _, _, v5⟩ => ?_
 refine rn_then (ψ := fun r => Cu code 10000 r.1) ?_ fun r hr => rn_then (n_faultsD hb hr (by omega) z1 (by omega)) fun _ _ => rn_some trivial
 refine rn_if (fun _ => ?_) fun _ => rn_if (fun _ => rn_some (v5.mono (by omega))) fun _ => rn_if (fun _ => ?_) fun _ => rn_some (v5.mono (by omega))
 ·have hl : 0 < w.1.length := by omega
  refine rn_ix (k := 0) hl ?_
  have := w2 _ (List.getElem_mem hl)
  exact rn_then (n_anyCoins hb v5 (by omega) z1 (by omega)) fun u ⟨_, u1⟩ => rn_some (u1.mono (by omega))
 ·exact rn_then (n_polys hb v5 (by omega) z1 (by omega) (by omega)) fun u ⟨_, _, u1⟩ => rn_some (u1.mono (by omega))
theorem n_sProveL {gr : Group} (k : Gb gr) {s : ByteArray} (hs : s.size ≤ 1000) {x w : Int} (hx : 0 ≤ x ∧ x ≤ 2100000000) (hw : 0 ≤ w ∧ w ≤ 2100000000) : Rn (F_spec_sProve gr s [[gr.G]] [x] [w]) (fun p => p.Commits.length ≤ 1 ∧ p.Challenges.length ≤ 1 ∧ p.Responses.length ≤ 1) := by
 have hq := k.q
 have hc : F_spec_hChallenge gr s ([[gr.G]].flatten ++ [powG gr gr.G x] ++ [powG gr gr.G w]) = some (sgnE gr s x w) := by
  unfold F_spec_hChallenge
  rw [gd_t (by simp), n_hLabelled (by omega) (by simp) (dig_3 k x w), Option.bind_some, gd_t (by omega), Int.tmod_eq_emod_of_nonneg (digB_t.1 (hshL_dig s _)).1]; rfl
 unfold F_spec_sProve
 rw [n_images1 k, n_images1 k, Option.bind_some, Option.bind_some, n_stmt (by simp) (by simp) (by simp), Option.bind_some, hc, Option.bind_some]
 refine rn_then (ψ := fun s => s.1.length ≤ 1 ∧ s.2.1.length ≤ 1 ∧ s.2.2.length ≤ 1) (rn_rloop (fun i s => s.1.length ≤ 1 ∧ s.2.1.length ≤ 1 ∧ s.2.2.length ≤ i) (by simp) ?_ fun s h => h) fun s h => rn_some h
 rintro i s hi ⟨h1, h2, h⟩
 have hi : i < 1 := hi
 obtain rfl : i = 0 := by omega
 have h : s.2.2.length ≤ 0 := h
 exact rn_ix (l := [x]) (by simp) (rn_ix (l := [w]) (by simp) (rn_gd (by omega) (rn_gd (by omega) (rn_some ⟨h1, h2, by show (s.2.2 ++ [_]).length ≤ 1; rw [List.length_append]; exact Nat.add_le_add h (Nat.le_refl 1)⟩))))
theorem n_PDS {gr : Group} {f : List Int} {w : Int} : Rn (F_spec_ProveDealer gr f w) (fun z => (z.1.Commits.length ≤ 1 ∧ z.1.Challenges.length ≤ 1 ∧ z.1.Responses.length ≤ 1) ∧ (z.2 = true → OkG gr ∧ f.all (expB gr) = true ∧ f.length ≤ 7)) := by
 unfold F_spec_ProveDealer
 refine rn_then (ψ := fun b => b = false → OkG gr ∧ inB 1 7 f.length = true ∧ f.all (expB gr) = true) ?_ fun b hb => ?_
 ·refine rn_call (n_sGroup gr) (rn_if (fun _ => rn_some fun x => by cases x) fun h => ?_)
  have h : okG gr = true ∧ 7 < gr.Q := by simpa using h
  have k := okG_t.1 h.1
  have hp := k.p
  have hq := k.q
  refine rn_call (n_inB _ _ _) (rn_if (fun _ => rn_some fun x => by cases x) fun h2 => rn_call (n_gExps (by omega) (by omega) f) (rn_some fun x => ⟨k, by simpa using h2, by simpa using x⟩))
 refine rn_if (fun _ => rn_some ⟨by simp, fun x => by cases x⟩) fun h => ?_
 obtain ⟨k, h2, h3⟩ := hb h
 have hp := k.p
 have hq := k.q
 have h2 := inB_t.1 h2
 obtain ⟨c, cs, rfl⟩ : ∃ c cs, f = c :: cs := by
  cases f with
  | nil => simp at h2
  | cons c cs => exact ⟨c, cs, rfl⟩
 have hc := exp_iff.1 (List.all_eq_true.1 h3 c (by simp))
 refine rn_ix (k := 0) (l := c :: cs) (by simp) ?_
 unfold F_spec_ProveKnowledge F_spec_ProveLinear F_spec_sLabel
 have e : decide (((⟨#[100, 101, 97, 108, 101, 114]⟩ : ByteArray).size : Int) ≤ 40) = true := by decide
 simp only [n_l2Good, okG_t.2 k, e, n_sBases1 k, gen_has k, n_gExps (gr := gr) (by omega) (by omega), List.all_cons, List.all_nil, Bool.and_true, Option.bind_some, Bool.not_true, Bool.false_eq_true, if_false, if_true, show ix [[gr.G]] 0 = some [gr.G] from rfl, List.length_cons, List.length_nil, bne_self_eq_false]
 have hcx : expB gr ((c :: cs)[0]) = true := exp_iff.2 hc
 rw [hcx]
 simp only [Option.bind_some, Bool.not_true, Bool.false_eq_true, if_false]
 cases hw : expB gr w with
 | false => exact rn_some ⟨by simp, fun x => by cases x⟩
 | true =>
  have hw := exp_iff.1 hw
  simp only [Bool.not_true, Bool.false_eq_true, if_false]
  refine rn_then (ψ := fun z => (z.1.Commits.length ≤ 1 ∧ z.1.Challenges.length ≤ 1 ∧ z.1.Responses.length ≤ 1) ∧ z.2 = true) (rn_then (ψ := fun z => (z.1.Commits.length ≤ 1 ∧ z.1.Challenges.length ≤ 1 ∧ z.1.Responses.length ≤ 1) ∧ z.2 = true) (rn_then (n_sProveL k.gb (by decide) (by show 0 ≤ c ∧ c ≤ _; omega) (by omega)) fun p hp => rn_some ⟨hp, rfl⟩) fun z hz => rn_some hz) fun z hz => rn_some ⟨hz.1, fun _ => ⟨k, h3, by simp only [List.length_cons] at h2 ⊢; omega⟩⟩
theorem n_pickLt {code c0 : List Int} {at_ seed n : Int} {m : Nat} (hb : Bt code) (h : Cu code n (c0, at_, seed)) (hn : n ≤ 8000000000000000) (hm : 1 ≤ m) : Rn (F_spec_l1Cur_pick__io0 c0 at_ seed (m : Int)) (fun z => (∃ i : Nat, z.1 = (i : Int) ∧ i < m) ∧ Cu code (n + 2) z.2) := by
 obtain ⟨z, h1, h2, h3, h4, _, h5⟩ := n_pick (m := (m : Int)) hb h hn
 obtain ⟨i, hi⟩ := Int.eq_ofNat_of_zero_le h2
 refine ⟨z, h1, ⟨i, hi, ?_⟩, h5⟩
 rcases Nat.lt_or_ge 1 m with h6 | h6
 ·have := h4 (by omega); omega
 ·have := h3 (by omega); omega
def lp (k : Nat) (p : Proof) : Prop := p.Commits.length ≤ k ∧ p.Challenges.length ≤ k ∧ p.Responses.length ≤ k
theorem bent_tail {code : List Int} {n : Int} {k : Nat} {c : List Int × Int × Int} {a b d : List Int} (hb : Bt code) (hc : Cu code n c) (hn : n ≤ 5000000000000000) (ha : a.length ≤ k) (hb2 : b.length ≤ k) (hd : d.length ≤ k) (hk : k ≤ 100000) :
 Rn ((F_spec_l1Cur_pick__io0 c.1 c.2.1 c.2.2 10).bind fun z16 =>
  ((if (z16.1 == 0) = true then (gd ((a.length + 1) * 8 ≤ 140737488355328 ∧ a.length + 1 ≤ 4611686018427387904) <| some (a ++ [1], b, d)) else (if (z16.1 == 1) = true then (some (a, b, [])) else (if (z16.1 == 2) = true then (gd ((b.length + 1) * 8 ≤ 140737488355328 ∧ b.length + 1 ≤ 4611686018427387904) <| some (a, b ++ [0], d)) else (some (a, b, d)))) : Option (((List Int) × (List Int) × (List Int)))).bind fun x19 =>
  some ((Proof.mk x19.1 x19.2.1 x19.2.2), (z16.2.1, z16.2.2.1, z16.2.2.2)))) (fun z => lp (k + 1) z.1 ∧ Cu code (n + 2) z.2) := by
 refine rn_then (n_pick hb hc (by omega)) fun z ⟨_, _, _, _, z5⟩ => ?_
 refine rn_then (ψ := fun (r : List Int × List Int × List Int) => r.1.length ≤ k + 1 ∧ r.2.1.length ≤ k + 1 ∧ r.2.2.length ≤ k + 1) (rn_if (fun _ => rn_gd (by omega) (rn_some ⟨by simp; omega, by show b.length ≤ _; omega, by show d.length ≤ _; omega⟩)) fun _ => rn_if (fun _ => rn_some ⟨by show a.length ≤ _; omega, by show b.length ≤ _; omega, by simp⟩) fun _ => rn_if (fun _ => rn_gd (by omega) (rn_some ⟨by show a.length ≤ _; omega, by simp; omega, by show d.length ≤ _; omega⟩)) fun _ => rn_some ⟨by show a.length ≤ _; omega, by show b.length ≤ _; omega, by show d.length ≤ _; omega⟩) fun r hr => rn_some ⟨hr, z5⟩
theorem bent_mid {code : List Int} {n : Int} {gr : Group} {c : List Int × Int × Int} {l : List Int} {β : Type} {f : List Int → β} (hb : Bt code) (hc : Cu code n c) (hn : n ≤ 4000000000000000) (hg : Gw gr) (hl : l.length ≤ 100000) :
 Rn (if decide (0 < (l.length : Int)) = true then ((F_spec_l1Cur_pick__io0 c.1 c.2.1 c.2.2 (l.length : Int)).bind fun z11 => (ix l z11.1).bind fun x12 => (F_spec_l1Cur_expo__io0 z11.2.1 z11.2.2.1 z11.2.2.2 gr).bind fun z13 => (F_spec_l1Cur_element__io0 z13.2.1 z13.2.2.1 z13.2.2.2 gr).bind fun z14 =>
  (F_spec_l1Cur_among__io0_mv1 z14.2.1 z14.2.2.1 z14.2.2.2 [z13.1, z14.1, (-1), gr.Q, IntKind.i64.wrap (x12 + 1)]).bind fun z15 => some ((z15.2.1, z15.2.2.1, z15.2.2.2), f (l.set z11.1.toNat z15.1))) else (some ((c.1, c.2.1, c.2.2), f l))) (fun x => (∃ l', l'.length = l.length ∧ x.2 = f l') ∧ Cu code (n + 12) x.1) := by
 have hq := hg.q
 refine rn_if (fun h => ?_) fun _ => rn_some ⟨⟨l, rfl, rfl⟩, hc.mono (by omega)⟩
 have h := of_decide_eq_true h
 refine rn_then (n_pickLt hb hc (by omega) (by omega)) fun z ⟨⟨i, hi, hl'⟩, z2⟩ => ?_
 rw [hi]
 refine rn_ix hl' (rn_then (n_expo hb z2 (by omega) (by omega)) fun y ⟨_, _, _, y4⟩ => rn_then (n_element hb y4 (by omega) hg) fun x ⟨_, _, x3⟩ => rn_then (n_amongM hb x3 (by omega) (by simp)) fun w ⟨_, w2⟩ => rn_some ⟨⟨_, ?_, rfl⟩, w2.mono (by omega)⟩)
 simp
theorem n_bent {code c0 : List Int} {at_ seed n : Int} {gr : Group} {p : Proof} {k : Nat} (hb : Bt code) (h : Cu code n (c0, at_, seed)) (hn : n ≤ 3000000000000000) (hg : Gw gr) (hp : lp k p) (hk : k ≤ 100000) :
 Rn (F_spec_l1Cur_bent__io0 c0 at_ seed gr p) (fun z => lp (k + 1) z.1 ∧ Cu code (n + 30) z.2) := by
 obtain ⟨p1, p2, p3⟩ := hp
 unfold F_spec_l1Cur_bent__io0
 rw [n_l1Own (by omega), Option.bind_some, n_l1Own (by omega), Option.bind_some, n_l1Own (by omega), Option.bind_some]
 refine rn_then (n_one hb h (by omega)) fun z z1 => rn_if (fun _ => rn_some ⟨⟨by show p.Commits.length ≤ _; omega, by show p.Challenges.length ≤ _; omega, by show p.Responses.length ≤ _; omega⟩, z1.mono (by omega)⟩) fun _ => ?_
 refine rn_then (n_pickLt (m := 3) hb z1 (by omega) (by omega)) fun y ⟨⟨i, hi, h3⟩, y2⟩ => ?_
 refine rn_if (fun _ => ?_) fun h0 => rn_if (fun _ => ?_) fun h1 => rn_if (fun _ => ?_) fun h2 => ?_
 ·refine rn_then (bent_mid (c := y.2) (f := fun l => (l, p.Challenges, p.Responses)) hb y2 (by omega) hg (by omega)) fun x ⟨⟨l, e1, e2⟩, x2⟩ => ?_
  rw [e2]
  exact Rn_mono (bent_tail (k := k) hb x2 (by omega) (by show l.length ≤ k; omega) p2 p3 hk) fun z hz => ⟨hz.1, hz.2.mono (by omega)⟩
 ·refine rn_then (bent_mid (c := y.2) (f := fun l => (p.Commits, l, p.Responses)) hb y2 (by omega) hg (by omega)) fun x ⟨⟨l, e1, e2⟩, x2⟩ => ?_
  rw [e2]
  exact Rn_mono (bent_tail (k := k) hb x2 (by omega) p1 (by show l.length ≤ k; omega) p3 hk) fun z hz => ⟨hz.1, hz.2.mono (by omega)⟩
 ·refine rn_then (bent_mid (c := y.2) (f := fun l => (p.Commits, p.Challenges, l)) hb y2 (by omega) hg (by omega)) fun x ⟨⟨l, e1, e2⟩, x2⟩ => ?_
  rw [e2]
  exact Rn_mono (bent_tail (k := k) hb x2 (by omega) p1 p2 (by show l.length ≤ k; omega) hk) fun z hz => ⟨hz.1, hz.2.mono (by omega)⟩
 ·rw [hi] at h0 h1 h2
  have h0 : ¬ (i : Int) = 0 := by simpa using h0
  have h1 : ¬ (i : Int) = 1 := by simpa using h1
  have h2 : ¬ (i : Int) = 2 := by simpa using h2
  omega
theorem n_dealing1 {code c0 : List Int} {at_ seed n : Int} {gr : Group} (hb : Bt code) (h : Cu code n (c0, at_, seed)) (hn : n ≤ 4000000000000000) (hg : Gw gr) : Rn (F_spec_l1Cur_dealing__io0 c0 at_ seed gr) (fun z => ((1 ≤ z.1.Shares.length ∧ z.1.Shares.length ≤ 5) ∧ 1 ≤ z.1.Commits.length ∧ z.1.Commits.length ≤ 5) ∧ Cu code (n + 40) z.2) := by
 unfold F_spec_l1Cur_dealing__io0
 refine rn_then (n_pick hb h (by omega)) fun z ⟨z1, z2, z3, z4, z5⟩ => ?_
 have z3 := z3 (by omega)
 refine rn_call (n_sGroup gr) (rn_if (fun _ => rn_some ⟨by show (1 ≤ 1 ∧ 1 ≤ 5) ∧ 1 ≤ 1 ∧ 1 ≤ 5; omega, z5.mono (by omega)⟩) fun g => ?_)
 have k : OkG gr := okG_t.1 (by simp at g; exact g.1)
 have hq := k.q
 obtain ⟨a, ha⟩ := Int.eq_ofNat_of_zero_le z1
 rw [wr64 (n := 1 + z.1) (by omega) (by omega)]
 refine rn_then (n_pick hb z5 (by omega)) fun y ⟨y1, y2, y3, y4, y5⟩ => ?_
 obtain ⟨b, hb'⟩ := Int.eq_ofNat_of_zero_le y1
 have hb5 : b ≤ 4 := by
  rcases Int.lt_or_le 1 (1 + z.1) with h | h
  ·have := y3 h; omega
  ·have := y2 h; omega
 rw [wr64 (n := 1 + y.1) (by omega) (by omega), show 1 + y.1 = ((1 + b : Nat) : Int) by omega, show 1 + z.1 = ((1 + a : Nat) : Int) by omega]
 refine rn_then (n_coins hb y5 (by omega) hg (by omega)) fun x ⟨x1, x2, x3⟩ => ?_
 refine rn_then (n_sDealT k (fun c hc => by have := x2 c hc; omega) (by omega) (by omega)) fun d ⟨d1, d2⟩ => rn_some ⟨by show (1 ≤ d.Shares.length ∧ d.Shares.length ≤ 5) ∧ 1 ≤ d.Commits.length ∧ d.Commits.length ≤ 5; omega, x3.mono (by omega)⟩
theorem n_anyDealing {code c0 : List Int} {at_ seed n : Int} {gr : Group} (hb : Bt code) (h : Cu code n (c0, at_, seed)) (hn : n ≤ 3000000000000000) (hg : Gw gr) : Rn (F_spec_l1Cur_anyDealing__io0 c0 at_ seed gr) (fun z => Cu code (n + 60) z.2) := by
 have hq := hg.q
 unfold F_spec_l1Cur_anyDealing__io0
 refine rn_then (n_dealing1 hb h (by omega) hg) fun z ⟨⟨⟨z1, z1'⟩, z2, z2'⟩, z3⟩ => ?_
 refine rn_then (n_pick hb z3 (by omega)) fun y ⟨_, _, _, _, y5⟩ => ?_
 refine rn_then (ψ := fun r => Cu code (n + 60) r.1) ?_ fun r hr => rn_some hr
 refine rn_if (fun _ => rn_some (y5.mono (by omega))) fun _ => rn_if (fun _ => ?_) fun _ => rn_if (fun _ => ?_) fun _ => ?_
 ·rw [wr64 (by omega) (by omega)]
  exact rn_gd (by omega) (rn_gd (by omega) (rn_some (y5.mono (by omega))))
 ·refine rn_then (n_pickLt hb y5 (by omega) (by omega)) fun x ⟨⟨i, hi, h3⟩, x2⟩ => rn_then (n_amongM hb x2 (by omega) (by simp)) fun w ⟨_, w2⟩ => ?_
  rw [hi]
  exact rn_ix h3 (rn_some (w2.mono (by omega)))
 ·refine rn_then (ψ := fun _ => True) (rn_if (fun _ => rn_some trivial) fun _ => rn_some trivial) fun b _ => rn_if (fun _ => ?_) fun _ => rn_if (fun _ => ?_) fun _ => rn_some (y5.mono (by omega))
  ·refine rn_then (n_pickLt hb y5 (by omega) (by omega)) fun x ⟨⟨i, hi, h3⟩, x2⟩ => rn_then (n_expo hb x2 (by omega) (by omega)) fun w ⟨_, _, _, w2⟩ => ?_
   rw [hi]
   exact rn_ix h3 (rn_some (w2.mono (by omega)))
  ·refine rn_then (n_pickLt hb y5 (by omega) (by omega)) fun x ⟨⟨i, hi, h3⟩, x2⟩ => rn_then (n_anyElement hb x2 (by omega) hg) fun w ⟨_, _, w2⟩ => ?_
   rw [hi]
   exact rn_ix h3 (rn_some (w2.mono (by omega)))
theorem n_DVD {code : List Int} (hb : Bt code) : Rn (F_spec_DrawVerifyDealer code) (fun z => z.2.2.Commits.length ≤ 1000) := by
 unfold F_spec_DrawVerifyDealer F_spec_DrawProveDealer
 refine rn_then (ψ := fun z => Gw z.1 ∧ z.2.1.length ≤ 10) ?_ fun z ⟨z1, z1'⟩ => ?_
 ·refine rn_then (n_shared hb (cu0 code) (by omega)) fun z ⟨z1, z2⟩ => ?_
  refine rn_then (n_pick hb z2 (by omega)) fun y ⟨y1, y2, y3, y4, y5⟩ => ?_
  have y3 := y3 (by omega)
  rw [wr64 (n := 1 + y.1) (by omega) (by omega)]
  obtain ⟨n, hn⟩ := Int.eq_ofNat_of_zero_le (show 0 ≤ 1 + y.1 by omega)
  rw [hn]
  refine rn_then (n_anyCoins hb y5 (by omega) z1 (by omega)) fun x ⟨x1, x2⟩ => rn_then (n_anyExpo hb x2 (by omega) z1) fun w _ => rn_some ⟨z1, by show x.1.length ≤ 10; omega⟩
 refine rn_then n_PDS fun y ⟨⟨y1, y2, y3⟩, y4⟩ => ?_
 refine rn_then (n_anyDealing hb (cu0 code) (by omega) z1) fun x x1 => ?_
 refine rn_then (ψ := fun r => Cu code 100 r.1 ∧ (r.2 = true → y.2 = true)) (rn_if (fun h => rn_then (n_one hb x1 (by omega)) fun w w1 => rn_some ⟨w1.mono (by omega), fun _ => h⟩) fun h => rn_some ⟨x1.mono (by omega), fun h => by cases h⟩) fun r ⟨r1, r2⟩ => ?_
 refine rn_then (ψ := fun s => Cu code 110 s.1) (rn_if (fun h => ?_) fun _ => rn_some (r1.mono (by omega))) fun s hs => ?_
 ·obtain ⟨k, hf, hl⟩ := y4 (r2 h)
  have hp := k.p
  have hq := k.q
  refine rn_then (n_pick hb r1 (by omega)) fun w ⟨w1, w2, w3, w4, w5⟩ => ?_
  have w3 := w3 (by omega)
  rw [wr64 (by omega) (by omega)]
  obtain ⟨m, hm⟩ := Int.eq_ofNat_of_zero_le (show 0 ≤ (if (7 : Int) < (z.2.1.length : Int) + w.1 then 7 else (z.2.1.length : Int) + w.1) by split <;> omega)
  refine rn_call (n_least _ _) ?_
  rw [hm]
  exact rn_call (n_dealB k (exps_rng k hf) (by omega) (by split at hm <;> omega)).2 (rn_some (w5.mono (by omega)))
 ·exact rn_then (n_bent (k := 1) hb hs (by omega) z1 ⟨y1, y2, y3⟩ (by omega)) fun w ⟨w1, _⟩ => rn_some (by show w.1.Commits.length ≤ 1000; have := w1.1; omega)
theorem n_qD {d : Dealing} : F_laws_qDealing d d = some true := by
 unfold F_laws_qDealing
 rw [n_qI, Option.bind_some, n_qI]; rfl
theorem law22 (a b : List Int) (h0 : ∀ x ∈ a, 0 ≤ x ∧ x ≤ 255) (h1 : ∀ x ∈ b, 0 ≤ x ∧ x ≤ 255) (hl0 : a.length ≤ 1048576) (hl1 : b.length ≤ 1048576) : F_laws_FnDealers a b = some true := by
 unfold F_laws_FnDealers
 refine eq_of_rn (rn_if (fun _ => rn_some rfl) fun _ => ?_)
 refine rn_then (n_DPD ⟨h0, hl0⟩) fun z _ => rn_call (n_playI z.1 z.2.1 z.2.2) (rn_call (n_playS z.1 z.2.1 z.2.2) ?_)
 refine rn_then (n_DVD ⟨h1, hl1⟩) fun y hy => ?_
 obtain ⟨v, v1, v2, _⟩ := n_VerifyDealer y.1 y.2.1 (p := y.2.2) (by omega)
 refine rn_call v1 (rn_call v2 ?_)
 refine rn_then (ψ := fun b => b = false) ?_ fun b hb => ?_
 ·exact rn_f (by simp) (rn_f (by simp) (rn_f (by simp) (rn_f (by simp) (rn_some (by simp)))))
 subst hb
 refine rn_f rfl ?_
 generalize hgr : z.1 = gr
 generalize hcs : z.2.1 = cs
 generalize hfs : z.2.2 = fs
 refine rn_then (ψ := fun r => r = .inl ()) (rn_rloop (fun _ _ => True) trivial ?_ fun s _ => rfl) fun r hr => ?_
 ·rintro i s hi _
  have hi2 : i < (plV gr cs fs).2.1.length := by
   unfold plV at hi ⊢
   split
   ·rename_i h; rw [if_pos h] at hi; simpa using hi
   ·rename_i h; rw [if_neg h] at hi; simp at hi
  refine rn_then (ψ := fun b => b = false) ?_ fun b hb => rn_f hb (rn_some trivial)
  refine rn_ix hi (rn_ix hi (rn_call n_qD (rn_f rfl ?_)))
  exact rn_ix hi2 (rn_ix hi2 (rn_call n_qI (rn_some rfl)))
 subst hr
 by_cases P : PlOk gr cs fs
 case neg => rw [plB_f P]; simp only [Sum.elim_inl, Bool.not_false, if_true]; exact rn_some rfl
 rw [plB_v P]
 simp only [Sum.elim_inl]
 refine rn_f rfl ?_
 obtain ⟨who, w1, w2, w3⟩ := n_qualified P
 refine rn_call (n_complaints P) (rn_call w1 ?_)
 refine rn_then (ψ := fun b => b = false) (rn_f rfl (rn_f rfl (rn_f (by simp) (rn_call (n_keyGen P) (rn_some rfl))))) fun b hb => rn_f hb ?_
 have hn := P.n
 have ht := P.t
 have hp := P.k.p
 have hq := P.k.q
 have hq7 := P.q
 refine rn_then (ψ := fun r => r = .inl ()) (rn_rloop (fun _ _ => True) trivial ?_ fun s _ => rfl) fun r hr => by subst hr; exact rn_some rfl
 rintro i s hi _
 have hi : i < cs.length := by simpa using hi
 have D := plD_ok P hi
 have hc := P.c _ (List.getElem_mem hi)
 have e : cs.getD i [] = cs[i] := getD_at hi
 refine rn_then (ψ := fun m => (i : Int) + 1 ∈ who → m = true) (rn_rloop (fun j (m : Bool) => (i : Int) + 1 ∈ who.take j → m = true) (fun x => by simp at x) ?_ ?_) fun m hm => ?_
 ·rintro j m hj hs
  rw [wr64 (by omega) (by omega)]
  refine rn_then (ψ := fun m' => (i : Int) + 1 ∈ who.take (j + 1) → m' = true) (rn_ix hj (rn_if (fun _ => rn_some fun _ => rfl) fun h => rn_some fun x => ?_)) fun r hr => rn_some hr
  rw [List.take_succ_eq_append_getElem hj] at x
  rcases List.mem_append.1 x with x | x
  ·have := hs x; rw [h] at this; cases this
  ·rw [← List.mem_singleton.1 x]; simp
 ·intro m hm x
  exact hm (by rw [List.take_length]; exact x)
 refine rn_then (ψ := fun b => b = false) ?_ fun b hb => rn_f hb ?_
 ·refine rn_ix (l := (List.range cs.length).map fun i => badV gr (plD gr cs fs i) cs.length) (by simpa using hi) ?_
  rw [show ((List.range cs.length).map fun i => badV gr (plD gr cs fs i) cs.length)[i]'(by simpa using hi) = badV gr (plD gr cs fs i) cs.length by simp]
  refine rn_if (fun h => rn_some ?_) fun _ => rn_some rfl
  have h : (badV gr (plD gr cs fs i) cs.length).length = 0 := by simpa using h
  rw [hm (w3 i hi (List.eq_nil_of_length_eq_zero h))]; rfl
 ·refine rn_ix hi ?_
  have hw : expB gr (i : Int) = true := exp_iff.2 (by omega)
  refine rn_call (n_ProveDealer P.k P.q (by omega) hc.2 hw) ?_
  refine rn_ix (l := (List.range cs.length).map (plD gr cs fs)) (by simpa using hi) ?_
  rw [show ((List.range cs.length).map (plD gr cs fs))[i]'(by simpa using hi) = plD gr cs fs i by simp]
  obtain ⟨v, v1, _, v3⟩ := n_VerifyDealer gr (plD gr cs fs i) (p := sgnP gr dlrS (cs[i].headD 0) i) (by simp [sgnP])
  have hd : dealC gr (plD gr cs fs i) = true := by
   unfold dealC
   rw [okG_t.2 P.k, decide_eq_true P.q, inB_t.2 (by omega), inB_t.2 (by omega), List.all_eq_true.2 D.2.2.2, List.all_eq_true.2 fun x hx => exp_iff.2 (D.2.1 x hx)]; rfl
  have v3 := v3 hd
  have hcm : (plD gr cs fs i).Commits.headD 0 = powG gr gr.G (cs[i].headD 0) := by
   show ((cs.getD i []).map _).headD 0 = _
   rw [e]
   cases hx : cs[i] with
   | nil => have h9 := hc.1; rw [hx] at h9; simp only [List.length_nil] at h9; omega
   | cons c l => rfl
  have hx0 : 0 ≤ cs[i].headD 0 := by
   cases hx : cs[i] with
   | nil => simp
   | cons c l => rw [hx] at hc; exact (exp_iff.1 (List.all_eq_true.1 hc.2 c (by simp))).1
  rw [hcm, sgn_ok P.k dlrS hx0 (by omega)] at v3
  subst v3
  refine rn_call v1 (rn_then (ψ := fun b => b = false) (rn_f rfl (rn_f rfl (rn_some rfl))) fun b hb => rn_f hb (rn_some trivial))
end Go.Pm
