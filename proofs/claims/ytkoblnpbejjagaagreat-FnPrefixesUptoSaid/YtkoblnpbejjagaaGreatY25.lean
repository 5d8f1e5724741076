/-
  FnPrefixes: plain laws.
  No condition.
-/
import Derived.Test.YtkoblnpbejjagaaGreatM25b
import Derived.Test.YtkoblnpbejjagaaGreatPmZ
namespace Go.Pm
open Go.Am
set_option linter.unusedVariables false
set_option linter.unusedSimpArgs false
theorem rloop_congr {σ β : Type} {body body' : Int → σ → Option (Stp σ β)} {stop : σ → β} : ∀ (m : Nat) (i : Int) (s : σ), (∀ (k : Nat) (s : σ), k < m → body (i + (k : Int)) s = body' (i + (k : Int)) s) → rloop body stop m i s = rloop body' stop m i s := by
 intro m
 induction m with
 | zero => intro i s _; rfl
 | succ m ih =>
  intro i s h
  have h0 := h 0 s (by omega)
  simp at h0
  simp only [rloop, h0]
  congr 1
  funext x
  cases x with
  | go s' =>
   refine ih (i + 1) s' fun k s hk => ?_
   have := h (k + 1) s (by omega)
   have e : i + ((k + 1 : Nat) : Int) = i + 1 + (k : Int) := by push_cast; omega
   rwa [e] at this
  | out b => rfl
theorem n_within (a b c : Int) : F_impl_within a b c = some (decide (b ≤ a) && decide (a ≤ c)) := by
 unfold F_impl_within
 by_cases h : b ≤ a <;> simp [h]
theorem n_l1In (a b c : Int) : F_spec_l1In a b c = some (decide (b ≤ a) && decide (a ≤ c)) := by
 unfold F_spec_l1In
 by_cases h : b ≤ a <;> simp [h]
theorem n_isModulus (a : Int) : F_impl_isModulus a = some (decide (2 ≤ a) && decide (a ≤ 2000000000)) := by
 unfold F_impl_isModulus
 rw [n_within]; rfl
theorem tmod_cast (a b : Nat) : (a : Int).tmod (b : Int) = ((a % b : Nat) : Int) := by rw [Int.tmod_eq_emod_of_nonneg (by omega)]; exact (Int.natCast_emod _ _).symm
theorem tdiv_cast (a b : Nat) : (a : Int).tdiv (b : Int) = ((a / b : Nat) : Int) := by rw [Int.tdiv_eq_ediv_of_nonneg (by omega)]; exact (Int.natCast_ediv _ _).symm
theorem mul_cast (a b : Nat) : (a : Int) * (b : Int) = ((a * b : Nat) : Int) := (Int.natCast_mul _ _).symm
theorem and_one {e : Nat} (he : e ≤ 9223372036854775807) : IntKind.i64.wrap (BitVec.ofInt IntKind.i64.bits (e : Int) &&& BitVec.ofInt IntKind.i64.bits 1).toNat = ((e % 2 : Nat) : Int) := by
 have h1 : (BitVec.ofInt IntKind.i64.bits (e : Int) &&& BitVec.ofInt IntKind.i64.bits 1).toNat = e % 2 := by
  rw [BitVec.toNat_and]
  have a1 : (BitVec.ofInt IntKind.i64.bits (e : Int)).toNat = e := by
   rw [BitVec.toNat_ofInt]
   have : IntKind.i64.bits = 64 := rfl
   rw [this]
   omega
  have a2 : (BitVec.ofInt IntKind.i64.bits 1).toNat = 1 := by decide
  rw [a1, a2, Nat.and_one_is_mod]
 rw [h1, wr64 (by omega) (by omega)]
theorem n_power {a e m : Nat} (ha : a ≤ 2000000000) (hm : 1 ≤ m) (hm2 : m ≤ 2000000000) (he : e ≤ 9223372036854775807) : F_impl_power (a : Int) (e : Int) (m : Int) = some ((a ^ e % m : Nat) : Int) := by
 unfold F_impl_power
 refine eq_of_rn (rn_gd (by omega) (rn_then (φ := (· = ((a ^ e % m : Nat) : Int))) (rn_wloop (φ := (· = ((a ^ e % m : Nat) : Int))) (fun s => ∃ x y o : Nat, s = ((x : Int), (y : Int), (o : Int)) ∧ x ≤ 2000000000 ∧ y ≤ e ∧ o < m ∧ o * x ^ y % m = a ^ e % m) (fun s => s.2.1.toNat)
  ⟨a, e, 1 % m, by rw [show (1 : Int) = ((1 : Nat) : Int) from rfl, tmod_cast], ha, Nat.le_refl _, Nat.mod_lt _ (by omega), by rw [Nat.mod_mul_mod, Nat.one_mul]⟩ ?_) fun x hx => rn_some hx))
 rintro s ⟨x, y, o, rfl, hx, hy, ho, hi⟩
 refine rn_if (fun h0 => ?_) fun h0 => ?_
 ·have h0 : 0 < y := by simpa using h0
  have hox : o * x ≤ 4000000000000000000 := Nat.le_trans (Nat.mul_le_mul (show o ≤ 2000000000 by omega) hx) (by decide)
  have hxx : x * x ≤ 4000000000000000000 := Nat.le_trans (Nat.mul_le_mul hx hx) (by decide)
  refine rn_then (ψ := fun o' => ∃ k : Nat, o' = (k : Int) ∧ k < m ∧ k * (x * x) ^ (y / 2) % m = a ^ e % m) ?_ ?_
  ·simp only [and_one (show y ≤ 9223372036854775807 by omega)]
   refine rn_if (fun h1 => rn_gd (by omega) (rn_some ⟨o * x % m, ?_, Nat.mod_lt _ (by omega), ?_⟩)) fun h1 => rn_some ⟨o, rfl, ho, ?_⟩
   ·rw [mul_cast, wr64 (by omega) (by omega), tmod_cast]
   ·have h1 : y % 2 = 1 := by
     have : ((y % 2 : Nat) : Int) = 1 := by simpa using h1
     omega
    rw [Nat.mod_mul_mod, ← hi, ← Nat.pow_two, ← Nat.pow_mul, Nat.mul_assoc, ← Nat.pow_succ']
    congr 3; omega
   ·have h1 : y % 2 = 0 := by
     have : ¬ ((y % 2 : Nat) : Int) = 1 := by simpa using h1
     omega
    rw [← hi, ← Nat.pow_two, ← Nat.pow_mul]
    congr 3; omega
  ·rintro o' ⟨k, rfl, hk, hk2⟩
   refine rn_gd (by omega) (rn_some ⟨⟨x * x % m, y / 2, k, ?_, by have := Nat.mod_lt (x * x) (show 0 < m by omega); omega, by omega, hk, ?_⟩, ?_⟩)
   ·rw [mul_cast, wr64 (by omega) (by omega), tmod_cast]
    have e3 : (y : Int).fdiv 2 = ((y / 2 : Nat) : Int) := by rw [Int.fdiv_eq_ediv_of_nonneg _ (by omega)]; rfl
    show (_, (y : Int).fdiv 2, _) = _
    rw [e3]
   ·rw [Nat.mul_mod, ← Nat.pow_mod, ← Nat.mul_mod]
    exact hk2
   ·show ((y : Int).fdiv 2).toNat < (y : Int).toNat
    rw [Int.fdiv_eq_ediv_of_nonneg _ (by omega)]
    omega
 ·have h0 : y = 0 := by
   have : ¬ (0 < y) := by simpa using h0
   omega
  subst h0
  refine rn_some ?_
  show (o : Int) = _
  rw [Nat.pow_zero, Nat.mul_one, Nat.mod_eq_of_lt ho] at hi
  rw [hi]
theorem n_nPower {a e m : Nat} (ha : a ≤ 2000000000) (hm : 1 ≤ m) (hm2 : m ≤ 2000000000) (he : e ≤ 9223372036854775807) : F_spec_nPower (a : Int) (e : Int) (m : Int) = some ((a ^ e % m : Nat) : Int) := by
 unfold F_spec_nPower
 refine eq_of_rn (rn_gd (by omega) (rn_then (φ := (· = ((a ^ e % m : Nat) : Int))) (rn_wloop (φ := (· = ((a ^ e % m : Nat) : Int))) (fun s => ∃ x y o : Nat, s = ((x : Int), (y : Int), (o : Int)) ∧ x ≤ 2000000000 ∧ y ≤ e ∧ o < m ∧ o * x ^ y % m = a ^ e % m) (fun s => s.2.1.toNat)
  ⟨a, e, 1 % m, by rw [show (1 : Int) = ((1 : Nat) : Int) from rfl, tmod_cast], ha, Nat.le_refl _, Nat.mod_lt _ (by omega), by rw [Nat.mod_mul_mod, Nat.one_mul]⟩ ?_) fun x hx => rn_some hx))
 rintro s ⟨x, y, o, rfl, hx, hy, ho, hi⟩
 refine rn_if (fun h0 => ?_) fun h0 => ?_
 ·have h0 : 0 < y := by simpa using h0
  have hox : o * x ≤ 4000000000000000000 := Nat.le_trans (Nat.mul_le_mul (show o ≤ 2000000000 by omega) hx) (by decide)
  have hxx : x * x ≤ 4000000000000000000 := Nat.le_trans (Nat.mul_le_mul hx hx) (by decide)
  have e2 : (y : Int).tmod 2 = ((y % 2 : Nat) : Int) := tmod_cast y 2
  refine rn_then (ψ := fun o' => ∃ k : Nat, o' = (k : Int) ∧ k < m ∧ k * (x * x) ^ (y / 2) % m = a ^ e % m) ?_ ?_
  ·simp only [e2]
   refine rn_if (fun h1 => rn_gd (by omega) (rn_some ⟨o * x % m, ?_, Nat.mod_lt _ (by omega), ?_⟩)) fun h1 => rn_some ⟨o, rfl, ho, ?_⟩
   ·rw [mul_cast, wr64 (by omega) (by omega), tmod_cast]
   ·have h1 : y % 2 = 1 := by
     have : ((y % 2 : Nat) : Int) = 1 := by simpa using h1
     omega
    rw [Nat.mod_mul_mod, ← hi, ← Nat.pow_two, ← Nat.pow_mul, Nat.mul_assoc, ← Nat.pow_succ']
    congr 3; omega
   ·have h1 : y % 2 = 0 := by
     have : ¬ ((y % 2 : Nat) : Int) = 1 := by simpa using h1
     omega
    rw [← hi, ← Nat.pow_two, ← Nat.pow_mul]
    congr 3; omega
  ·rintro o' ⟨k, rfl, hk, hk2⟩
   have e3 : (y : Int).tdiv 2 = ((y / 2 : Nat) : Int) := tdiv_cast y 2
   refine rn_gd (by omega) (rn_some ⟨⟨x * x % m, y / 2, k, ?_, by have := Nat.mod_lt (x * x) (show 0 < m by omega); omega, by omega, hk, ?_⟩, ?_⟩)
   ·simp only [e3]
    rw [mul_cast, wr64 (n := ((x * x : Nat) : Int)) (by omega) (by omega), tmod_cast, wr64 (n := ((y / 2 : Nat) : Int)) (by omega) (by omega)]
   ·rw [Nat.mul_mod, ← Nat.pow_mod, ← Nat.mul_mod]
    exact hk2
   ·show (IntKind.i64.wrap ((y : Int).tdiv 2)).toNat < (y : Int).toNat
    rw [e3, wr64 (by omega) (by omega)]
    omega
 ·have h0 : y = 0 := by
   have : ¬ (0 < y) := by simpa using h0
   omega
  subst h0
  refine rn_some ?_
  show (o : Int) = _
  rw [Nat.pow_zero, Nat.mul_one, Nat.mod_eq_of_lt ho] at hi
  rw [hi]
theorem n_mod {a q : Int} (h0 : 0 < q) (h1 : q ≤ 2000000000) : F_impl_mod a q = some (a % q) := by
 unfold F_impl_mod
 rw [gd_t (by omega), gd_t (by omega)]
 have b1 : a.tmod q < q := Int.tmod_lt_of_pos a h0
 have b2 : -q < a.tmod q := by
  have := Int.lt_tmod_of_pos a h0
  omega
 rw [wr64 (by omega) (by omega), Int.tmod_eq_emod_of_nonneg (by omega)]
 congr 1
 rw [Int.add_emod_right]
 rw [Int.tmod_def, Int.sub_emod, Int.mul_emod_right, Int.sub_zero, Int.emod_emod]
theorem n_nMod {a q : Int} (h0 : 0 < q) (h1 : q ≤ 2000000000) : F_spec_nMod a q = some (a % q) := by
 unfold F_spec_nMod
 rw [gd_t (by omega), gd_t (by omega)]
 have b1 : a.tmod q < q := Int.tmod_lt_of_pos a h0
 have b2 : -q < a.tmod q := by
  have := Int.lt_tmod_of_pos a h0
  omega
 rw [wr64 (by omega) (by omega), Int.tmod_eq_emod_of_nonneg (by omega)]
 congr 1
 rw [Int.add_emod_right]
 rw [Int.tmod_def, Int.sub_emod, Int.mul_emod_right, Int.sub_zero, Int.emod_emod]
def Pr (n : Nat) : Prop := 2 ≤ n ∧ ∀ d, 2 ≤ d → d * d ≤ n → n % d ≠ 0
open Classical in
noncomputable def prB (n : Int) : Bool := decide (Pr n.toNat)
theorem prB_t {n : Nat} : prB (n : Int) = true ↔ Pr n := by simp [prB]
theorem n_nPrime (n : Int) (h : n ≤ 2000000000) : F_spec_nPrime n = some (prB n) := by
 unfold F_spec_nPrime
 refine eq_of_rn (rn_if (fun h0 => rn_some ?_) fun h0 => ?_)
 ·have h0 : n < 2 := by simpa using h0
  symm
  unfold prB
  rw [decide_eq_false_iff_not]
  intro hp
  have := hp.1
  omega
 ·have h0 : ¬ n < 2 := by simpa using h0
  obtain ⟨n, rfl⟩ := Int.eq_ofNat_of_zero_le (show 0 ≤ n by omega)
  refine rn_then (ψ := fun b => (b = .inl () ∧ Pr n) ∨ (b = .inr false ∧ ¬ Pr n)) (rn_wloop (fun s => ∃ d : Nat, s = (d : Int) ∧ 2 ≤ d ∧ d ≤ 44723 ∧ ∀ k, 2 ≤ k → k < d → k * k ≤ n → n % k ≠ 0) (fun s => 50000 - s.toNat) ⟨2, rfl, by omega, by omega, fun k h1 h2 => by omega⟩ ?_) ?_
  ·rintro s ⟨d, rfl, hd, hd2, hi⟩
   have hdd : d * d ≤ 2000146729 := Nat.le_trans (Nat.mul_le_mul hd2 hd2) (by decide)
   rw [mul_cast, wr64 (by omega) (by omega)]
   refine rn_if (fun h1 => rn_gd (by omega) (rn_if (fun h2 => rn_some (.inr ⟨rfl, ?_⟩)) fun h2 => rn_some ?_)) fun h1 => rn_some (.inl ⟨rfl, by omega, fun k hk hkn => ?_⟩)
   ·have h1 : d * d ≤ n := by have := of_decide_eq_true h1; omega
    rw [tmod_cast] at h2
    have h2 : n % d = 0 := by have : ((n % d : Nat) : Int) = 0 := by simpa using h2
                              omega
    exact fun hp => hp.2 d hd h1 h2
   ·have h1 : d * d ≤ n := by have := of_decide_eq_true h1; omega
    rw [tmod_cast] at h2
    have h2 : n % d ≠ 0 := by have : ¬ ((n % d : Nat) : Int) = 0 := by simpa using h2
                              omega
    have hd3 : d ≤ 44722 := by
     rcases Nat.lt_or_ge d 44723 with h | h
     ·omega
     ·have : 44723 * 44723 ≤ d * d := Nat.mul_le_mul h h
      omega
    rw [wr64 (by omega) (by omega)]
    refine ⟨⟨d + 1, rfl, by omega, by omega, fun k h3 h4 h5 => ?_⟩, by omega⟩
    rcases Nat.lt_or_ge k d with h | h
    ·exact hi k h3 h h5
    ·have : k = d := by omega
     subst this
     exact h2
   ·have h1 : n < d * d := by have := of_decide_eq_false h1; omega
    rcases Nat.lt_or_ge k d with h | h
    ·exact hi k hk h hkn
    ·have := Nat.mul_le_mul h h
     omega
  ·rintro b (⟨rfl, hp⟩ | ⟨rfl, hp⟩)
   ·exact rn_some (prB_t.2 hp).symm
   ·refine rn_some ?_
    symm
    unfold prB
    rw [decide_eq_false_iff_not]
    exact hp
theorem n_isPrime (n : Int) : F_impl_isPrime n = some (decide (n ≤ 2000000000) && prB n) := by
 unfold F_impl_isPrime
 by_cases h : 2 ≤ n ∧ n ≤ 2000000000
 ·obtain ⟨n, rfl⟩ := Int.eq_ofNat_of_zero_le (show 0 ≤ n by omega)
  have e2 : ((n : Int)).tmod 2 = ((n % 2 : Nat) : Int) := tmod_cast n 2
  have em : (decide (2 ≤ (n : Int)) && decide ((n : Int) ≤ 2000000000)) = true := by simp only [Bool.and_eq_true, decide_eq_true_eq]; exact h
  rw [show (decide ((n : Int) ≤ 2000000000) && prB (n : Int)) = prB (n : Int) by simp [h.2]]
  refine eq_of_rn (rn_then (ψ := fun b => b = decide (n % 2 = 0 ∧ n ≠ 2)) (rn_call (n_isModulus _) ?_) ?_)
  ·rw [em]
   refine rn_f rfl ?_
   rw [e2]
   refine rn_if (fun h1 => rn_some ?_) fun h1 => rn_some ?_
   ·have h1 : n % 2 = 0 := by have : ((n % 2 : Nat) : Int) = 0 := by simpa using h1
                              omega
    have : ((n : Int) != 2) = decide (n ≠ 2) := by
     by_cases hn : n = 2
     ·subst hn; rfl
     ·have hn' : ¬ (n : Int) = 2 := by omega
      simp [hn, hn']
    rw [this]; simp [h1]
   ·have h1 : n % 2 ≠ 0 := by have : ¬ ((n % 2 : Nat) : Int) = 0 := by simpa using h1
                              omega
    simp [h1]
  ·rintro b rfl
   refine rn_if (fun h1 => rn_some ?_) fun h1 => ?_
   ·have h1 := of_decide_eq_true h1
    symm
    unfold prB
    rw [decide_eq_false_iff_not]
    intro hp
    have hn : 4 ≤ n := by omega
    exact hp.2 2 (by omega) hn h1.1
   ·have h1 := of_decide_eq_false h1
    refine rn_then (ψ := fun b => (b = .inl () ∧ Pr n) ∨ (b = .inr false ∧ ¬ Pr n)) (rn_wloop (fun s => ∃ d : Nat, s = (d : Int) ∧ 3 ≤ d ∧ d % 2 = 1 ∧ d ≤ 44725 ∧ ∀ k, 2 ≤ k → k < d → k * k ≤ n → n % k ≠ 0) (fun s => 50000 - s.toNat) ⟨3, rfl, by omega, by omega, by omega, fun k h2 h3 h4 => ?_⟩ ?_) ?_
    ·have : k = 2 := by omega
     subst this
     intro h5
     exact h1 ⟨h5, by omega⟩
    ·rintro s ⟨d, rfl, hd, hodd, hd2, hi⟩
     have hdd : d * d ≤ 2000325625 := Nat.le_trans (Nat.mul_le_mul hd2 hd2) (by decide)
     rw [mul_cast, wr64 (by omega) (by omega)]
     refine rn_if (fun h1 => rn_gd (by omega) (rn_if (fun h2 => rn_some (.inr ⟨rfl, ?_⟩)) fun h2 => rn_some ?_)) fun h1 => rn_some (.inl ⟨rfl, by omega, fun k hk hkn => ?_⟩)
     ·have h1 : d * d ≤ n := by have := of_decide_eq_true h1; omega
      rw [tmod_cast] at h2
      have h2 : n % d = 0 := by have : ((n % d : Nat) : Int) = 0 := by simpa using h2
                                omega
      exact fun hp => hp.2 d (by omega) h1 h2
     ·have h3 : d * d ≤ n := by have := of_decide_eq_true h1; omega
      rw [tmod_cast] at h2
      have h2 : n % d ≠ 0 := by have : ¬ ((n % d : Nat) : Int) = 0 := by simpa using h2
                                omega
      have hd3 : d ≤ 44722 := by
       rcases Nat.lt_or_ge d 44723 with h | h
       ·omega
       ·have : 44723 * 44723 ≤ d * d := Nat.mul_le_mul h h
        omega
      rw [wr64 (by omega) (by omega)]
      refine ⟨⟨d + 2, rfl, by omega, by omega, by omega, fun k h4 h5 h6 h7 => ?_⟩, by omega⟩
      rcases Nat.lt_or_ge k d with h | h
      ·exact hi k h4 h h6 h7
      ·rcases (show k = d ∨ k = d + 1 by omega) with e | e
       ·subst e; exact h2 h7
       ·
        have h8 : n % 2 = 0 := by
         have a1 : k ∣ n := Nat.dvd_of_mod_eq_zero h7
         have a2 : 2 ∣ k := Nat.dvd_of_mod_eq_zero (by omega)
         exact Nat.mod_eq_zero_of_dvd (Nat.dvd_trans a2 a1)
        have h9 : 2 * 2 ≤ n := by
         have := Nat.mul_le_mul h4 h4
         omega
        exact hi 2 (by omega) (by omega) h9 h8
     ·have h1 : n < d * d := by have := of_decide_eq_false h1; omega
      rcases Nat.lt_or_ge k d with h | h
      ·exact hi k hk h hkn
      ·have := Nat.mul_le_mul h h
       omega
    ·rintro b (⟨rfl, hp⟩ | ⟨rfl, hp⟩)
     ·exact rn_some (prB_t.2 hp).symm
     ·refine rn_some ?_
      symm
      unfold prB
      rw [decide_eq_false_iff_not]
      exact hp
 ·have em : (decide (2 ≤ n) && decide (n ≤ 2000000000)) = false := by
   rw [Bool.and_eq_false_iff, decide_eq_false_iff_not, decide_eq_false_iff_not]; omega
  rw [n_isModulus, em]
  simp only [Option.bind_some, Bool.not_false, if_true]
  congr 1
  symm
  rw [Bool.and_eq_false_iff, decide_eq_false_iff_not]
  by_cases hn : n ≤ 2000000000
  ·right
   unfold prB
   rw [decide_eq_false_iff_not]
   intro hp
   have := hp.1
   omega
  ·exact .inl hn
structure OkG (gr : Group) : Prop where
 p : 3 ≤ gr.P ∧ gr.P ≤ 2000000000
 q : 2 ≤ gr.Q ∧ gr.Q ≤ gr.P - 1
 d : (gr.P.toNat - 1) % gr.Q.toNat = 0
 g : 2 ≤ gr.G ∧ gr.G ≤ gr.P - 1
 pp : Pr gr.P.toNat
 pq : Pr gr.Q.toNat
 o : gr.G.toNat ^ gr.Q.toNat % gr.P.toNat = 1
open Classical in
noncomputable def okG (gr : Group) : Bool := decide (OkG gr)
theorem okG_t {gr : Group} : okG gr = true ↔ OkG gr := by simp [okG]
theorem okG_f {gr : Group} (h : ¬ OkG gr) : okG gr = false := by simp [okG, h]
theorem okG_of {gr : Group} {b : Bool} (h1 : b = true → OkG gr) (h2 : OkG gr → b = true) : b = okG gr := by
 cases hb : b with
 | true => exact (okG_t.2 (h1 hb)).symm
 | false => exact (okG_f fun h => by rw [h2 h] at hb; cases hb).symm
theorem cast_eq {a : Int} (h : 0 ≤ a) : a = ((a.toNat : Nat) : Int) := by omega
theorem n_powI {a e m : Int} (ha : 0 ≤ a) (ha2 : a ≤ 2000000000) (hm : 1 ≤ m) (hm2 : m ≤ 2000000000) (he : 0 ≤ e) (he2 : e ≤ 9223372036854775807) : F_impl_power a e m = some ((a.toNat ^ e.toNat % m.toNat : Nat) : Int) ∧ F_spec_nPower a e m = some ((a.toNat ^ e.toNat % m.toNat : Nat) : Int) := by
 have h1 := n_power (a := a.toNat) (e := e.toNat) (m := m.toNat) (by omega) (by omega) (by omega) (by omega)
 have h2 := n_nPower (a := a.toNat) (e := e.toNat) (m := m.toNat) (by omega) (by omega) (by omega) (by omega)
 rw [← cast_eq ha, ← cast_eq he, ← cast_eq (show 0 ≤ m by omega)] at h1 h2
 exact ⟨h1, h2⟩
theorem and_iff_t {a b : Bool} : (a && b) = true ↔ a = true ∧ b = true := by simp
theorem n_validG (gr : Group) : F_impl_IsValidGroup gr = some (okG gr) := by
 unfold F_impl_IsValidGroup
 refine eq_of_rn (rn_then (ψ := fun b => b = okG gr) ?_ fun b hb => rn_some hb)
 refine rn_call (n_within _ _ _) (rn_if (fun h => ?_) fun h => ?_)
 ·have hp : 3 ≤ gr.P ∧ gr.P ≤ 2000000000 := by simpa using h
  rw [wr64 (n := gr.P - 1) (by omega) (by omega)]
  refine rn_call (n_within _ _ _) (rn_if (fun h => ?_) fun h => ?_)
  ·have hq : 2 ≤ gr.Q ∧ gr.Q ≤ gr.P - 1 := by simpa using h
   have ed : (gr.P - 1).tmod gr.Q = (((gr.P.toNat - 1) % gr.Q.toNat : Nat) : Int) := by
    rw [cast_eq (show 0 ≤ gr.P - 1 by omega), cast_eq (show 0 ≤ gr.Q by omega), tmod_cast]
    simp only [Int.toNat_natCast]
    congr 2; omega
   refine rn_gd (by omega) ?_
   rw [ed]
   refine rn_if (fun h => ?_) fun h => ?_
   ·have hd : (gr.P.toNat - 1) % gr.Q.toNat = 0 := by
     have : (((gr.P.toNat - 1) % gr.Q.toNat : Nat) : Int) = 0 := by simpa using h
     omega
    refine rn_call (n_within _ _ _) (rn_if (fun h => ?_) fun h => ?_)
    ·have hg : 2 ≤ gr.G ∧ gr.G ≤ gr.P - 1 := by simpa using h
     refine rn_call (n_isPrime _) (rn_if (fun h => ?_) fun h => ?_)
     ·have hpp : Pr gr.P.toNat := by
       rw [and_iff_t, cast_eq (show 0 ≤ gr.P by omega), prB_t] at h
       exact h.2
      refine rn_call (n_isPrime _) (rn_if (fun h => ?_) fun h => ?_)
      ·have hpq : Pr gr.Q.toNat := by
        rw [and_iff_t, cast_eq (show 0 ≤ gr.Q by omega), prB_t] at h
        exact h.2
       refine rn_call (n_powI (a := gr.G) (e := gr.Q) (m := gr.P) (by omega) (by omega) (by omega) (by omega) (by omega) (by omega)).1 (rn_some (okG_of (fun h => ⟨hp, hq, hd, hg, hpp, hpq, ?_⟩) fun h => ?_))
       ·have : ((gr.G.toNat ^ gr.Q.toNat % gr.P.toNat : Nat) : Int) = 1 := by simpa using h
        omega
       ·rw [h.o]; rfl
      ·refine rn_some (okG_f fun hk => ?_).symm
       have : (decide (gr.Q ≤ 2000000000) && prB gr.Q) = true := by
        rw [and_iff_t, cast_eq (show 0 ≤ gr.Q by omega), prB_t]
        exact ⟨by simp; omega, hk.pq⟩
       rw [this] at h; cases h
     ·refine rn_some (okG_f fun hk => ?_).symm
      have : (decide (gr.P ≤ 2000000000) && prB gr.P) = true := by
       rw [and_iff_t, cast_eq (show 0 ≤ gr.P by omega), prB_t]
       exact ⟨by simp; omega, hk.pp⟩
      rw [this] at h; cases h
    ·refine rn_some (okG_f fun hk => ?_).symm
     have := hk.g
     simp at h; omega
   ·refine rn_some (okG_f fun hk => ?_).symm
    rw [hk.d] at h; cases h
  ·refine rn_some (okG_f fun hk => ?_).symm
   have := hk.q
   simp at h; omega
 ·refine rn_some (okG_f fun hk => ?_).symm
  have := hk.p
  simp at h; omega
theorem n_l2Good (gr : Group) : F_spec_l2Good gr = some (okG gr) := by
 unfold F_spec_l2Good
 refine eq_of_rn (rn_then (ψ := fun b => b = okG gr) ?_ fun b hb => rn_some hb)
 refine rn_call (n_l1In _ _ _) (rn_if (fun h => ?_) fun h => ?_)
 ·have hp : 3 ≤ gr.P ∧ gr.P ≤ 2000000000 := by simpa using h
  rw [wr64 (n := gr.P - 1) (by omega) (by omega)]
  refine rn_call (n_l1In _ _ _) (rn_if (fun h => ?_) fun h => ?_)
  ·have hq : 2 ≤ gr.Q ∧ gr.Q ≤ gr.P - 1 := by simpa using h
   have ed : (gr.P - 1).tmod gr.Q = (((gr.P.toNat - 1) % gr.Q.toNat : Nat) : Int) := by
    rw [cast_eq (show 0 ≤ gr.P - 1 by omega), cast_eq (show 0 ≤ gr.Q by omega), tmod_cast]
    simp only [Int.toNat_natCast]
    congr 2; omega
   refine rn_gd (by omega) ?_
   rw [ed]
   refine rn_if (fun h => ?_) fun h => ?_
   ·have hd : (gr.P.toNat - 1) % gr.Q.toNat = 0 := by
     have : (((gr.P.toNat - 1) % gr.Q.toNat : Nat) : Int) = 0 := by simpa using h
     omega
    refine rn_call (n_l1In _ _ _) (rn_if (fun h => ?_) fun h => ?_)
    ·have hg : 2 ≤ gr.G ∧ gr.G ≤ gr.P - 1 := by simpa using h
     refine rn_call (n_powI (a := gr.G) (e := gr.Q) (m := gr.P) (by omega) (by omega) (by omega) (by omega) (by omega) (by omega)).2 (rn_if (fun h => ?_) fun h => ?_)
     ·have ho : gr.G.toNat ^ gr.Q.toNat % gr.P.toNat = 1 := by
       have : ((gr.G.toNat ^ gr.Q.toNat % gr.P.toNat : Nat) : Int) = 1 := by simpa using h
       omega
      refine rn_call (n_nPrime _ (by omega)) (rn_if (fun h => ?_) fun h => ?_)
      ·have hpq : Pr gr.Q.toNat := by
        rw [cast_eq (show 0 ≤ gr.Q by omega), prB_t] at h
        exact h
       refine rn_call (n_nPrime _ (by omega)) (rn_some (okG_of (fun h => ⟨hp, hq, hd, hg, ?_, hpq, ho⟩) fun h => ?_))
       ·rw [cast_eq (show 0 ≤ gr.P by omega), prB_t] at h
        exact h
       ·rw [cast_eq (show 0 ≤ gr.P by omega), prB_t]
        exact h.pp
      ·refine rn_some (okG_f fun hk => ?_).symm
       have : prB gr.Q = true := by
        rw [cast_eq (show 0 ≤ gr.Q by omega), prB_t]
        exact hk.pq
       rw [this] at h; cases h
     ·refine rn_some (okG_f fun hk => ?_).symm
      rw [hk.o] at h; cases h
    ·refine rn_some (okG_f fun hk => ?_).symm
     have := hk.g
     simp at h; omega
   ·refine rn_some (okG_f fun hk => ?_).symm
    rw [hk.d] at h; cases h
  ·refine rn_some (okG_f fun hk => ?_).symm
   have := hk.q
   simp at h; omega
 ·refine rn_some (okG_f fun hk => ?_).symm
  have := hk.p
  simp at h; omega
def hasB (gr : Group) (x : Int) : Bool := decide (1 ≤ x) && decide (x ≤ gr.P - 1) && decide (x.toNat ^ gr.Q.toNat % gr.P.toNat = 1)
def expB (gr : Group) (x : Int) : Bool := decide (0 ≤ x) && decide (x ≤ gr.Q - 1)
theorem n_has {gr : Group} (k : OkG gr) (x : Int) : F_impl_Group_has gr x = some (hasB gr x) := by
 have hp := k.p
 have hq := k.q
 unfold F_impl_Group_has hasB
 rw [wr64 (n := gr.P - 1) (by omega) (by omega), n_within]
 refine eq_of_rn (rn_then (ψ := fun b => b = _) ?_ fun b hb => rn_some hb)
 refine rn_call rfl (rn_if (fun h => ?_) fun h => ?_)
 ·have hx : 1 ≤ x ∧ x ≤ gr.P - 1 := by simpa using h
  refine rn_call (n_powI (a := x) (e := gr.Q) (m := gr.P) (by omega) (by omega) (by omega) (by omega) (by omega) (by omega)).1 (rn_some ?_)
  rw [h, Bool.true_and]
  by_cases h1 : x.toNat ^ gr.Q.toNat % gr.P.toNat = 1
  ·simp [h1]
  ·have : ¬ ((x.toNat ^ gr.Q.toNat % gr.P.toNat : Nat) : Int) = 1 := by omega
   rw [beq_false_of_ne this, decide_eq_false h1]
 ·rw [h]; exact rn_some rfl
theorem n_gIs {gr : Group} (k : OkG gr) (l : List Int) : F_spec_gIs gr l = some (l.all (hasB gr)) := by
 have hp := k.p
 have hq := k.q
 unfold F_spec_gIs
 rw [wr64 (n := gr.P - 1) (by omega) (by omega)]
 refine eq_of_rn (rn_then (ψ := fun b => (b = .inl () ∧ l.all (hasB gr) = true) ∨ (b = .inr false ∧ l.all (hasB gr) = false)) (rn_rloop (fun i s => (l.take i).all (hasB gr) = true) rfl ?_ ?_) ?_)
 ·rintro i s hi hI
  refine rn_ix hi (rn_then (ψ := fun b => b = !hasB gr l[i]) ?_ ?_)
  ·refine rn_call (n_l1In _ _ _) (rn_if (fun h => rn_some ?_) fun h => ?_)
   ·have h : (decide (1 ≤ l[i]) && decide (l[i] ≤ gr.P - 1)) = false := by rwa [Bool.not_eq_true'] at h
    simp [hasB, h]
   ·have h : (decide (1 ≤ l[i]) && decide (l[i] ≤ gr.P - 1)) = true := by simpa using h
    have hx : 1 ≤ l[i] ∧ l[i] ≤ gr.P - 1 := by simpa using h
    refine rn_call (n_powI (a := l[i]) (e := gr.Q) (m := gr.P) (by omega) (by omega) (by omega) (by omega) (by omega) (by omega)).2 (rn_some ?_)
    simp only [hasB, h, Bool.true_and]
    by_cases h1 : l[i].toNat ^ gr.Q.toNat % gr.P.toNat = 1
    ·simp [h1]
    ·have : ¬ ((l[i].toNat ^ gr.Q.toNat % gr.P.toNat : Nat) : Int) = 1 := by omega
     simp only [bne, beq_false_of_ne this, decide_eq_false h1]
  ·rintro b rfl
   refine rn_if (fun h => rn_some (.inr ⟨rfl, ?_⟩)) fun h => rn_some ?_
   ·have h : hasB gr l[i] = false := by simpa using h
    rw [List.all_eq_false]
    exact ⟨l[i], List.getElem_mem hi, by simp [h]⟩
   ·have h : hasB gr l[i] = true := by simpa using h
    show (l.take (i + 1)).all (hasB gr) = true
    rw [List.take_succ_eq_append_getElem hi, List.all_append, hI]
    simp [h]
 ·rintro s hI
  rw [List.take_length] at hI
  exact .inl ⟨rfl, hI⟩
 ·rintro b (⟨rfl, h⟩ | ⟨rfl, h⟩)
  ·exact rn_some h.symm
  ·exact rn_some h.symm
theorem n_l1All (l : List Int) (a b : Int) : F_spec_l1All l a b = some (l.all fun x => decide (a ≤ x) && decide (x ≤ b)) := by
 unfold F_spec_l1All
 refine eq_of_rn (rn_then (ψ := fun c => (c = .inl () ∧ (l.all fun x => decide (a ≤ x) && decide (x ≤ b)) = true) ∨ (c = .inr false ∧ (l.all fun x => decide (a ≤ x) && decide (x ≤ b)) = false)) (rn_rloop (fun i s => ((l.take i).all fun x => decide (a ≤ x) && decide (x ≤ b)) = true) rfl ?_ ?_) ?_)
 ·rintro i s hi hI
  refine rn_ix hi (rn_call (n_l1In _ _ _) (rn_if (fun h => rn_some (.inr ⟨rfl, ?_⟩)) fun h => rn_some ?_))
  ·rw [List.all_eq_false]
   exact ⟨l[i], List.getElem_mem hi, by rw [Bool.not_eq_true'] at h; rw [h]; simp⟩
  ·show ((l.take (i + 1)).all fun x => decide (a ≤ x) && decide (x ≤ b)) = true
   rw [List.take_succ_eq_append_getElem hi, List.all_append, hI]
   simpa using h
 ·rintro s hI
  rw [List.take_length] at hI
  exact .inl ⟨rfl, hI⟩
 ·rintro c (⟨rfl, h⟩ | ⟨rfl, h⟩)
  ·exact rn_some h.symm
  ·exact rn_some h.symm
theorem n_gExps {gr : Group} (h : 0 ≤ gr.Q) (h2 : gr.Q ≤ 2000000000) (l : List Int) : F_spec_gExps gr l = some (l.all (expB gr)) := by
 unfold F_spec_gExps
 rw [wr64 (by omega) (by omega), n_l1All]; rfl
theorem n_isExp {gr : Group} (h : 0 ≤ gr.Q) (h2 : gr.Q ≤ 2000000000) (x : Int) : F_impl_Group_isExp gr x = some (expB gr x) := by
 unfold F_impl_Group_isExp
 rw [wr64 (by omega) (by omega), n_within]; rfl
def powG (gr : Group) (x e : Int) : Int := ((x.toNat ^ (e % gr.Q).toNat % gr.P.toNat : Nat) : Int)
theorem powG_bd {gr : Group} (k : OkG gr) (x e : Int) : 0 ≤ powG gr x e ∧ powG gr x e ≤ gr.P - 1 := by
 have hp := k.p
 unfold powG
 have := Nat.mod_lt (x.toNat ^ (e % gr.Q).toNat) (y := gr.P.toNat) (by omega)
 omega
theorem n_pow {gr : Group} (k : OkG gr) {x : Int} (h0 : 0 ≤ x) (h1 : x ≤ 2000000000) (e : Int) : F_impl_Group_pow gr x e = some (powG gr x e) ∧ F_spec_gExp gr x e = some (powG gr x e) := by
 have hp := k.p
 have hq := k.q
 have b1 : 0 ≤ e % gr.Q := Int.emod_nonneg _ (by omega)
 have b2 : e % gr.Q < gr.Q := Int.emod_lt_of_pos _ (by omega)
 have hw := n_powI (a := x) (e := e % gr.Q) (m := gr.P) (by omega) (by omega) (by omega) (by omega) b1 (by omega)
 unfold F_impl_Group_pow F_spec_gExp
 rw [n_mod (by omega) (by omega), n_nMod (by omega) (by omega), Option.bind_some, Option.bind_some, hw.1, hw.2]
 exact ⟨rfl, rfl⟩
theorem n_gExp {gr : Group} (k : OkG gr) {x : Int} (h0 : 0 ≤ x) (h1 : x ≤ 2000000000) (e : Int) : F_spec_gExp gr x e = some (powG gr x e) := by
 have hp := k.p
 have hq := k.q
 have b1 : 0 ≤ e % gr.Q := Int.emod_nonneg _ (by omega)
 have b2 : e % gr.Q < gr.Q := Int.emod_lt_of_pos _ (by omega)
 have hw := n_powI (a := x) (e := e % gr.Q) (m := gr.P) (by omega) (by omega) (by omega) (by omega) b1 (by omega)
 unfold F_spec_gExp
 rw [n_nMod (by omega) (by omega), Option.bind_some, hw.2]
 rfl
def mulG (gr : Group) (l : List Int) : Int := l.foldl (fun o x => o * x % gr.P) 1
theorem foldG_bd {gr : Group} (h : 1 ≤ gr.P) : ∀ (l : List Int) (o : Int), 0 ≤ o → o ≤ gr.P → (∀ x ∈ l, 0 ≤ x) → 0 ≤ l.foldl (fun o x => o * x % gr.P) o ∧ l.foldl (fun o x => o * x % gr.P) o ≤ gr.P := by
 intro l
 induction l with
 | nil => intro o h0 h1 _; exact ⟨h0, h1⟩
 | cons x l ih =>
  intro o h0 h1 h2
  exact ih _ (Int.emod_nonneg _ (by omega)) (Int.le_of_lt (Int.emod_lt_of_pos (o * x) (show 0 < gr.P by omega))) fun y hy => h2 y (List.mem_cons_of_mem _ hy)
theorem mul_eq (gr : Group) (l : List Int) : F_spec_gMul gr l = F_impl_Group_mul gr l := rfl
theorem n_mul {gr : Group} (k : OkG gr) {l : List Int} (hl : ∀ x ∈ l, 0 ≤ x ∧ x ≤ 2000000000) : F_impl_Group_mul gr l = some (mulG gr l) := by
 have hp := k.p
 unfold F_impl_Group_mul
 refine eq_of_rn (rn_then (ψ := fun b => b = mulG gr l) (rn_rloop (fun i s => s = (l.take i).foldl (fun o x => o * x % gr.P) 1) rfl ?_ ?_) fun b hb => rn_some hb)
 ·rintro i s hi rfl
  have hb := foldG_bd (gr := gr) (by omega) (l.take i) 1 (by omega) (by omega) fun x hx => (hl x (List.mem_of_mem_take hx)).1
  have hx := hl l[i] (List.getElem_mem hi)
  refine rn_ix hi (rn_gd (by omega) (rn_some ?_))
  show _ = (l.take (i + 1)).foldl _ _
  rw [List.take_succ_eq_append_getElem hi, List.foldl_append]
  generalize (l.take i).foldl (fun o x => o * x % gr.P) 1 = o at hb ⊢
  have b1 : 0 ≤ o * l[i] := Int.mul_nonneg hb.1 hx.1
  have b2 : o * l[i] ≤ 2000000000 * 2000000000 := Int.mul_le_mul (by omega) hx.2 hx.1 (by omega)
  show (IntKind.i64.wrap (o * l[i])).tmod gr.P = o * l[i] % gr.P
  rw [wr64 (by omega) (by omega), Int.tmod_eq_emod_of_nonneg b1]
 ·rintro s rfl
  rw [List.take_length]; rfl
theorem n_gMul {gr : Group} (k : OkG gr) {l : List Int} (hl : ∀ x ∈ l, 0 ≤ x ∧ x ≤ 2000000000) : F_spec_gMul gr l = some (mulG gr l) := by rw [mul_eq]; exact n_mul k hl
theorem n_hasAll {gr : Group} (k : OkG gr) (l : List Int) : F_impl_Group_hasAll gr l = some (l.all (hasB gr)) := by
 unfold F_impl_Group_hasAll F_impl_areAll__impl_Group_has F_slices_ContainsFunc_int_int__impl_areAll_1_impl_Group_has F_slices_IndexFunc_int_int__impl_areAll_1_impl_Group_has
 refine eq_of_rn (rn_then (ψ := fun b => b = l.all (hasB gr)) (rn_then (ψ := fun b => b = !l.all (hasB gr)) (rn_then (ψ := fun j => (j = -1 ∧ l.all (hasB gr) = true) ∨ (0 ≤ j ∧ l.all (hasB gr) = false)) (rn_then (ψ := fun b => (b = .inl () ∧ l.all (hasB gr) = true) ∨ (∃ j, b = .inr j ∧ 0 ≤ j ∧ l.all (hasB gr) = false)) (rn_rloop (fun i s => (l.take i).all (hasB gr) = true) rfl ?_ ?_) ?_) ?_) ?_) ?_)
 ·rintro i s hi hI
  have hc : F_impl_areAll_1__impl_Group_has l[i] gr = some (!hasB gr l[i]) := by
   unfold F_impl_areAll_1__impl_Group_has
   rw [n_has k]; rfl
  refine rn_ix hi (rn_call hc (rn_if (fun h => rn_some (.inr ⟨i, rfl, by omega, ?_⟩)) fun h => rn_some ?_))
  ·rw [List.all_eq_false]
   exact ⟨l[i], List.getElem_mem hi, by rw [Bool.not_eq_true'] at h; rw [h]; simp⟩
  ·show (l.take (i + 1)).all (hasB gr) = true
   rw [List.take_succ_eq_append_getElem hi, List.all_append, hI]
   simpa using h
 ·rintro s hI
  rw [List.take_length] at hI
  exact .inl ⟨rfl, hI⟩
 ·rintro b (⟨rfl, h⟩ | ⟨j, rfl, h0, h⟩)
  ·exact rn_some (.inl ⟨rfl, h⟩)
  ·exact rn_some (.inr ⟨h0, h⟩)
 ·rintro j (⟨rfl, h⟩ | ⟨h0, h⟩)
  ·exact rn_some (by rw [h]; rfl)
  ·exact rn_some (by rw [h]; simpa using h0)
 ·rintro b rfl
  exact rn_some (by simp)
 ·rintro b rfl
  exact rn_some rfl
theorem has_bd {gr : Group} {x : Int} (h : hasB gr x = true) : 1 ≤ x ∧ x ≤ gr.P - 1 := by
 simp only [hasB, Bool.and_eq_true, decide_eq_true_eq] at h
 exact h.1
theorem ite_n {α : Type} (b : Bool) (u v : α) : (if b = true then some u else some v) = some (if (!b) = true then v else u) := by cases b <;> rfl
theorem ite_m {α : Type} (b : Bool) (u v : α) : (if (!b) = true then some u else some v) = some (if b = true then v else u) := by cases b <;> rfl
theorem n_first {β : Type} {body : Int → Unit → Option (Stp Unit (Unit ⊕ β))} (m : Nat) (p : Nat → Bool) (val : Nat → β) (h : ∀ k, k < m → body (k : Int) () = some (if p k = true then .go () else .out (.inr (val k)))) :
 (rloop body (fun _ => .inl ()) m 0 () = some (.inl ()) ∧ ∀ k, k < m → p k = true) ∨ ∃ k, k < m ∧ p k = false ∧ (∀ j, j < k → p j = true) ∧ rloop body (fun _ => .inl ()) m 0 () = some (.inr (val k)) := by
 have key : Rn (rloop body (fun _ => Sum.inl ()) m 0 ()) (fun b => (b = .inl () ∧ ∀ k, k < m → p k = true) ∨ ∃ k, k < m ∧ p k = false ∧ (∀ j, j < k → p j = true) ∧ b = .inr (val k)) := by
  refine rn_rloop (fun k _ => ∀ j, j < k → p j = true) (fun j hj => by omega) ?_ fun s hs => .inl ⟨rfl, hs⟩
  intro k s hk hI
  refine ⟨_, h k hk, ?_⟩
  cases hp : p k with
  | true =>
   intro j hj
   rcases Nat.lt_or_ge j k with h | h
   ·exact hI j h
   ·have : j = k := by omega
    rw [this]; exact hp
  | false => exact .inr ⟨k, hk, hp, hI, rfl⟩
 obtain ⟨b, e, h1 | ⟨k, h1, h2, h3, h4⟩⟩ := key
 ·exact .inl ⟨by rw [e, h1.1], h1.2⟩
 ·exact .inr ⟨k, h1, h2, h3, by rw [e, h4]⟩
theorem areAll_gen {l : List Int} {p : Int → Bool} {f : Int → Option Bool} (hf : ∀ x ∈ l, f x = some (!p x)) :
 ((((rloop (σ := Unit) (β := Unit ⊕ Int) (fun i8 s7 => (ix l i8).bind fun x17 => (f x17).bind fun z20 => if z20 = true then (some (.out (.inr i8))) else (some (.go ()))) (fun s7 => .inl ()) (l.length) 0 () : Option (Unit ⊕ Int)).bind (Sum.elim (fun (x5 : Unit) => some (-1)) some)).bind fun z1 => some (decide (0 ≤ z1))).bind fun z1 => some (!z1)) = some (l.all p) := by
 rcases n_first l.length (fun k => (l[k]?).any p) (fun k => (k : Int)) (body := fun i8 s7 => (ix l i8).bind fun x17 => (f x17).bind fun z20 => if z20 = true then (some (.out (.inr i8))) else (some (.go ()))) (fun k hk => by
  rw [ix_at hk, Option.bind_some, hf _ (List.getElem_mem hk), Option.bind_some, List.getElem?_eq_getElem hk]
  exact ite_m _ _ _) with ⟨e, h1⟩ | ⟨k, h1, h2, h3, e⟩
 ·rw [e]
  have : l.all p = true := by
   rw [List.all_eq_true]
   intro x hx
   obtain ⟨k, hk, rfl⟩ := List.mem_iff_getElem.1 hx
   have := h1 k hk
   rw [List.getElem?_eq_getElem hk] at this
   exact this
  rw [this]; rfl
 ·rw [e]
  have : l.all p = false := by
   rw [List.all_eq_false]
   refine ⟨l[k], List.getElem_mem h1, ?_⟩
   rw [List.getElem?_eq_getElem h1] at h2
   simpa using h2
  rw [this]
  simp
def dg (q : Nat) : Nat → Nat → List Int
 | 0, _ => []
 | k + 1, n => ((n % q : Nat) : Int) :: dg q k (n / q)
theorem exp_bd {gr : Group} {x : Int} (h : expB gr x = true) : 0 ≤ x ∧ x ≤ gr.Q - 1 := by
 simpa only [expB, Bool.and_eq_true, decide_eq_true_eq] using h
theorem n_areExps {gr : Group} (h : 0 ≤ gr.Q) (h2 : gr.Q ≤ 2000000000) (l : List Int) : F_impl_Group_areExps gr l = some (l.all (expB gr)) := by
 have h1 : F_impl_areAll__impl_Group_isExp l gr = some (l.all (expB gr)) := areAll_gen (f := fun x => F_impl_areAll_1__impl_Group_isExp x gr) fun x _ => by
  unfold F_impl_areAll_1__impl_Group_isExp
  rw [n_isExp h h2]; rfl
 unfold F_impl_Group_areExps
 rw [h1]; rfl
structure Bt (code : List Int) : Prop where
 b : ∀ x ∈ code, 0 ≤ x ∧ x ≤ 255
 l : code.length ≤ 1048576
structure Cu (code : List Int) (n : Int) (c : List Int × Int × Int) : Prop where
 e : c.1 = code
 lo : 0 ≤ c.2.1
 hi : c.2.1 ≤ n
theorem Cu.mono {code : List Int} {n m : Int} {c : List Int × Int × Int} (h : Cu code n c) (hn : n ≤ m) : Cu code m c := ⟨h.e, h.lo, Int.le_trans h.hi hn⟩
theorem low8 (x : BitVec IntKind.u64.bits) : 0 ≤ IntKind.i64.wrap (IntKind.u64.wrap ((x &&& BitVec.ofInt IntKind.u64.bits 255).toNat : Int)) ∧ IntKind.i64.wrap (IntKind.u64.wrap ((x &&& BitVec.ofInt IntKind.u64.bits 255).toNat : Int)) ≤ 255 := by
 have hy : (x &&& BitVec.ofInt IntKind.u64.bits 255).toNat ≤ 255 := by
  rw [BitVec.toNat_and]
  exact Nat.le_trans Nat.and_le_right (by decide)
 generalize (x &&& BitVec.ofInt IntKind.u64.bits 255).toNat = y at hy ⊢
 rw [wrU (by omega) (by omega), wr64 (by omega) (by omega)]
 omega
theorem n_next {code c0 : List Int} {at_ seed n : Int} (hb : Bt code) (h : Cu code n (c0, at_, seed)) (hn : n ≤ 9000000000000000) : Rn (F_spec_l1Cur_next__io0 c0 at_ seed) (fun z => 0 ≤ z.1 ∧ z.1 ≤ 255 ∧ Cu code (n + 1) z.2) := by
 obtain ⟨h1, h2, h3⟩ := h
 have h1 : c0 = code := h1
 have h2 : 0 ≤ at_ := h2
 have h3 : at_ ≤ n := h3
 subst h1
 have hw : IntKind.i64.wrap (at_ + 1) = at_ + 1 := wr64 (by omega) (by omega)
 unfold F_spec_l1Cur_next__io0
 refine rn_then (ψ := fun v => 0 ≤ v ∧ v ≤ 255) ?_ fun v hv => ?_
 ·refine rn_if (fun g => ?_) fun g => rn_some (by omega)
  obtain ⟨k, rfl⟩ := Int.eq_ofNat_of_zero_le h2
  have hk : k < c0.length := by simp at g; omega
  have := hb.b _ (List.getElem_mem hk)
  exact rn_ix hk (rn_some (by rw [wr64 (by omega) (by omega)]; exact this))
 ·simp only [hw]
  refine rn_if (fun g => rn_some ⟨hv.1, hv.2, rfl, by show 0 ≤ at_ + 1; omega, by show at_ + 1 ≤ n + 1; omega⟩) fun g => rn_some ?_
  exact ⟨(low8 _).1, (low8 _).2, rfl, by show 0 ≤ at_ + 1; omega, by show at_ + 1 ≤ n + 1; omega⟩
theorem n_pick {code c0 : List Int} {at_ seed n m : Int} (hb : Bt code) (h : Cu code n (c0, at_, seed)) (hn : n ≤ 8000000000000000) : Rn (F_spec_l1Cur_pick__io0 c0 at_ seed m) (fun z => 0 ≤ z.1 ∧ (m ≤ 1 → z.1 = 0) ∧ (1 < m → z.1 < m) ∧ z.1 ≤ 65535 ∧ Cu code (n + 2) z.2) := by
 unfold F_spec_l1Cur_pick__io0
 refine rn_if (fun g => rn_some ⟨Int.le_refl 0, fun _ => rfl, fun h => by simp at g; omega, by show (0 : Int) ≤ _; omega, h.mono (by omega)⟩) fun g => ?_
 have g : 1 < m := by simpa using g
 refine rn_then (n_next hb h (by omega)) fun z ⟨z1, z2, z3⟩ => ?_
 refine rn_then (ψ := fun x => 0 ≤ x.2 ∧ x.2 ≤ 65535 ∧ Cu code (n + 2) x.1) ?_ fun x ⟨x1, x2, x3⟩ => ?_
 ·refine rn_if (fun _ => rn_then (n_next hb z3 (by omega)) fun y ⟨y1, y2, y3⟩ => rn_some ?_) fun _ => rn_some ⟨z1, by show z.1 ≤ _; omega, z3.mono (by omega)⟩
  rw [wr64 (n := z.1 * 256) (by omega) (by omega), wr64 (by omega) (by omega)]
  exact ⟨by show 0 ≤ z.1 * 256 + y.1; omega, by show z.1 * 256 + y.1 ≤ _; omega, y3.mono (by omega)⟩
 ·refine rn_gd (by omega) (rn_some ?_)
  rw [Int.tmod_eq_emod_of_nonneg x1]
  have b1 := Int.emod_nonneg x.2 (show m ≠ 0 by omega)
  have b2 := Int.emod_lt_of_pos x.2 (show 0 < m by omega)
  have b3 : x.2 % m ≤ x.2 := by
   rcases Int.lt_or_le x.2 m with h | h
   ·rw [Int.emod_eq_of_lt x1 h]; exact Int.le_refl _
   ·omega
  exact ⟨b1, fun h => by omega, fun _ => b2, by show x.2 % m ≤ _; omega, x3⟩
theorem n_one {code c0 : List Int} {at_ seed n m : Int} (hb : Bt code) (h : Cu code n (c0, at_, seed)) (hn : n ≤ 8000000000000000) : Rn (F_spec_l1Cur_one__io0 c0 at_ seed m) (fun z => Cu code (n + 2) z.2) := by
 unfold F_spec_l1Cur_one__io0
 exact rn_then (n_pick hb h hn) fun z hz => rn_some hz.2.2.2.2
theorem n_amongM {code c0 : List Int} {at_ seed n : Int} {l : List Int} (hb : Bt code) (h : Cu code n (c0, at_, seed)) (hn : n ≤ 8000000000000000) (hl : l ≠ []) : Rn (F_spec_l1Cur_among__io0_mv1 c0 at_ seed l) (fun z => z.1 ∈ l ∧ Cu code (n + 2) z.2) := by
 unfold F_spec_l1Cur_among__io0_mv1
 refine rn_then (n_pick hb h hn) fun z ⟨z1, z2, z3, z4, z5⟩ => ?_
 have h0 : 0 < l.length := List.length_pos_iff.2 hl
 obtain ⟨k, hk⟩ := Int.eq_ofNat_of_zero_le z1
 have hlt : k < l.length := by
  rcases Nat.lt_or_ge 1 l.length with h | h
  ·have := z3 (by omega); omega
  ·have := z2 (by omega); omega
 rw [hk]
 exact rn_ix hlt (rn_some ⟨List.getElem_mem hlt, z5⟩)
theorem Pr_gcd {n d : Nat} (h : Pr n) (hd : d % n ≠ 0) : Nat.gcd n d = 1 := by
 obtain ⟨k, hk⟩ := Nat.gcd_dvd_left n d
 have hn := h.1
 have h0 : 0 < Nat.gcd n d := Nat.gcd_pos_of_pos_left d (by omega)
 have hdv := Nat.gcd_dvd_right n d
 generalize Nat.gcd n d = g at hk h0 hdv
 apply Classical.byContradiction
 intro hg
 have hg2 : 2 ≤ g := by omega
 have hk2 : 2 ≤ k := by
  rcases Nat.lt_or_ge k 2 with h | h
  ·have : k = 0 ∨ k = 1 := by omega
   rcases this with rfl | rfl
   ·omega
   ·rw [Nat.mul_one] at hk
    rw [← hk] at hdv
    exact absurd (Nat.mod_eq_zero_of_dvd hdv) hd
  ·exact h
 rcases Nat.le_total g k with h' | h'
 ·exact h.2 g hg2 (by rw [hk]; exact Nat.mul_le_mul_left g h') (by rw [hk]; exact Nat.mul_mod_right g k)
 ·exact h.2 k hk2 (by rw [hk]; exact Nat.mul_le_mul_right k h') (by rw [hk]; exact Nat.mul_mod_left g k)
theorem Pr_mul {n : Nat} (h : Pr n) {a b : Int} (hab : (a * b) % (n : Int) = 0) : a % (n : Int) = 0 ∨ b % (n : Int) = 0 := by
 have h1 : n ∣ a.natAbs * b.natAbs := by
  rw [← Int.natAbs_mul]
  exact Int.ofNat_dvd_left.1 (Int.dvd_of_emod_eq_zero hab)
 by_cases ha : a.natAbs % n = 0
 ·exact .inl (Int.emod_eq_zero_of_dvd (Int.ofNat_dvd_left.2 (Nat.dvd_of_mod_eq_zero ha)))
 ·exact .inr (Int.emod_eq_zero_of_dvd (Int.ofNat_dvd_left.2 (Nat.Coprime.dvd_of_dvd_mul_left (Pr_gcd h ha) h1)))
def evP (f : List Int) (x : Int) : Int := f.foldr (fun c a => a * x + c) 0
theorem evP_cons (c : Int) (f : List Int) (x : Int) : evP (c :: f) x = evP f x * x + c := rfl
def dvP (r : Int) : List Int → List Int
 | [] => []
 | [_] => []
 | _ :: c :: f => evP (c :: f) r :: dvP r (c :: f)
theorem dvP_len (r : Int) : ∀ f : List Int, (dvP r f).length = f.length - 1
 | [] => rfl
 | [_] => rfl
 | _ :: c :: f => by
  show (dvP r (c :: f)).length + 1 = _
  rw [dvP_len r (c :: f)]; simp
theorem dvP_ev (r x : Int) : ∀ f : List Int, evP f x = evP (dvP r f) x * (x - r) + evP f r
 | [] => by simp [dvP, evP]
 | [c] => by simp [dvP, evP]
 | d :: c :: f => by
  have ih := dvP_ev r x (c :: f)
  show evP (c :: f) x * x + d = (evP (dvP r (c :: f)) x * x + evP (c :: f) r) * (x - r) + (evP (c :: f) r * r + d)
  rw [ih]
  grind
theorem dvP_last (r : Int) : ∀ f : List Int, 2 ≤ f.length → (dvP r f).getLastD 0 = f.getLastD 0
 | [], h => absurd h (by simp)
 | [_], h => absurd h (by simp)
 | [d, c], _ => by simp [dvP, evP]
 | e :: d :: c :: f, _ => by
  have ih := dvP_last r (d :: c :: f) (by simp)
  show (evP (d :: c :: f) r :: evP (c :: f) r :: dvP r (c :: f)).getLastD 0 = _
  have : dvP r (d :: c :: f) = evP (c :: f) r :: dvP r (c :: f) := rfl
  rw [this] at ih
  simpa [List.getLastD] using ih
theorem rootsP {p : Nat} (hp : Pr p) : ∀ (n : Nat) (f : List Int), f.length = n + 1 → f.getLastD 0 % (p : Int) ≠ 0 → ∀ rs : List Int, rs.Pairwise (fun a b => (b - a) % (p : Int) ≠ 0) → (∀ r ∈ rs, evP f r % (p : Int) = 0) → rs.length ≤ n
 | 0, f, hl, hf, rs, hd, hr => by
  match f, hl with
  | [c], _ =>
   cases rs with
   | nil => simp
   | cons r rs =>
    have := hr r (List.mem_cons_self ..)
    simp [evP] at this
    exact absurd (by first | exact this | exact Int.emod_eq_zero_of_dvd this) (by simpa [List.getLastD] using hf)
 | n + 1, f, hl, hf, rs, hd, hr => by
  cases rs with
  | nil => simp
  | cons r rs =>
   have h1 := List.pairwise_cons.1 hd
   have := rootsP hp n (dvP r f) (by rw [dvP_len]; omega) (by rw [dvP_last r f (by omega)]; exact hf) rs h1.2 fun s hs => by
    have e := dvP_ev r s f
    have hs0 := hr s (List.mem_cons_of_mem _ hs)
    have hr0 := hr r (List.mem_cons_self ..)
    have hm : (evP (dvP r f) s * (s - r)) % (p : Int) = 0 := by
     rw [show evP (dvP r f) s * (s - r) = evP f s - evP f r by omega, Int.sub_emod, hs0, hr0]; simp
    rcases Pr_mul hp hm with h | h
    ·exact h
    ·exact absurd h (h1.1 s hs)
   simpa using this
theorem evP_mono (k : Nat) (x : Int) : evP (List.replicate k 0 ++ [1]) x = x ^ k := by
 induction k with
 | zero => simp [evP]
 | succ k ih => rw [List.replicate_succ, List.cons_append, evP_cons, ih, Int.pow_succ]; omega
theorem unity_roots {p n : Nat} (hp : Pr p) (hn : 1 ≤ n) (rs : List Int) (hd : rs.Pairwise (fun a b => (b - a) % (p : Int) ≠ 0)) (hr : ∀ r ∈ rs, r ^ n % (p : Int) = 1) : rs.length ≤ n := by
 have h2 := hp.1
 have hone : (1 : Int) % (p : Int) = 1 := Int.emod_eq_of_lt (by omega) (by omega)
 obtain ⟨k, rfl⟩ : ∃ k, n = k + 1 := ⟨n - 1, by omega⟩
 refine rootsP hp (k + 1) (-1 :: (List.replicate k 0 ++ [1])) (by simp) ?_ rs hd fun r hr' => ?_
 ·have : (-1 :: (List.replicate k (0 : Int) ++ [1])).getLastD 0 = 1 := by
   rw [← List.cons_append, List.getLastD_concat]
  rw [this, hone]; omega
 ·rw [evP_cons, evP_mono, ← Int.pow_succ, Int.add_emod, hr r hr']
  have : ((-1 : Int) % (p : Int)) = p - 1 := by
   have := Int.add_mul_emod_self_left (-1) (p : Int) 1
   rw [← this, Int.mul_one, Int.emod_eq_of_lt (by omega) (by omega)]; omega
  rw [this, show 1 + ((p : Int) - 1) = p by omega, Int.emod_self]
theorem not_unity {p n : Nat} (hp : Pr p) (hn : 1 ≤ n) (hnp : n < p - 1) : ∃ h : Nat, 2 ≤ h ∧ h < p ∧ h ^ n % p ≠ 1 := by
 apply Classical.byContradiction
 intro hc
 have h2 := hp.1
 have h1 : ∀ h : Nat, 1 ≤ h → h < p → h ^ n % p = 1 := fun h a b => by
  rcases Nat.lt_or_ge h 2 with c | c
  ·have : h = 1 := by omega
   subst this
   rw [Nat.one_pow, Nat.mod_eq_of_lt (by omega)]
  ·exact Classical.byContradiction fun d => hc ⟨h, c, b, d⟩
 have := unity_roots hp hn ((List.range (p - 1)).map fun k => ((k + 1 : Nat) : Int)) ?_ ?_
 ·simp at this; omega
 ·rw [List.pairwise_map]
  refine List.Pairwise.imp_of_mem ?_ List.pairwise_lt_range
  intro a b ha hb hab
  have hb := List.mem_range.1 hb
  rw [show ((b + 1 : Nat) : Int) - ((a + 1 : Nat) : Int) = ((b - a : Nat) : Int) by omega, ← Int.natCast_emod, Nat.mod_eq_of_lt (by omega)]
  omega
 ·intro r hr
  obtain ⟨k, hk, rfl⟩ := List.mem_map.1 hr
  have hk := List.mem_range.1 hk
  rw [← Int.natCast_pow, ← Int.natCast_emod, h1 (k + 1) (by omega) (by omega)]; rfl
structure Gs (gr : Group) : Prop where
 p : 0 ≤ gr.P ∧ gr.P ≤ 2000000000
 q : 0 ≤ gr.Q ∧ gr.Q ≤ 1000000000
 g : 0 ≤ gr.G ∧ gr.G ≤ 2000000000
theorem mg_dvd {q k : Nat} (hq : 2 ≤ q) : ((1 + (k : Int) * (q : Int)) - 1).tdiv (q : Int) = (k : Int) := by
 rw [show (1 + (k : Int) * (q : Int)) - 1 = (k : Int) * (q : Int) by omega, Int.mul_tdiv_cancel _ (by omega)]
theorem n_MakeGroup {q : Nat} (hq2 : q ≤ 1000000) : Rn (F_spec_MakeGroup (q : Int)) (fun z => Gs z.1 ∧ (z.2 = true → z.1.Q = q ∧ 3 ≤ z.1.P) ∧ (∀ k : Nat, 1 ≤ k → Pr (1 + k * q) → 1 + k * q ≤ 2000000000 → Pr q → z.2 = true)) := by
 unfold F_spec_MakeGroup
 refine rn_then (ψ := fun b => b = !(decide (2 ≤ q) && prB (q : Int))) ?_ ?_
 ·refine rn_call (n_l1In _ _ _) ?_
  by_cases h : 2 ≤ q
  ·refine rn_f (by simp; omega) (rn_call (n_nPrime _ (by omega)) (rn_some ?_))
   simp [h]
  ·refine rn_t (by simp; omega) (rn_some ?_)
   simp [h]
 ·rintro _ rfl
  cases hc : (decide (2 ≤ q) && prB (q : Int))
  ·refine rn_t rfl (rn_some ⟨⟨⟨by decide, by decide⟩, ⟨by decide, by decide⟩, by decide, by decide⟩, fun h => (by cases h), fun k h1 h2 h3 h4 => ?_⟩)
   rw [prB_t.2 h4] at hc
   have := h4.1
   simp at hc; omega
  ·have hq : 2 ≤ q := by simp at hc; exact hc.1
   have hpq : Pr q := by simp at hc; exact prB_t.1 hc.2
   refine rn_f rfl ?_
   refine rn_then (ψ := fun b => (b = .inl () ∧ ∀ k : Nat, 1 ≤ k → Pr (1 + k * q) → ¬ 1 + k * q ≤ 2000000000) ∨ ∃ z : Group × Bool, b = .inr z ∧ Gs z.1 ∧ z.2 = true ∧ z.1.Q = q ∧ 3 ≤ z.1.P) ?_ ?_
   ·rw [wr64 (by omega) (by omega)]
    refine rn_wloop (fun s => ∃ k : Nat, 1 ≤ k ∧ s = 1 + (k : Int) * (q : Int) ∧ s ≤ 2001000001 ∧ ∀ j : Nat, 1 ≤ j → j < k → ¬ Pr (1 + j * q)) (fun s => (2001000001 - s).toNat) ⟨1, by omega, by omega, by omega, fun j h1 h2 => by omega⟩ ?_
    rintro s ⟨k, hk, rfl, hs, hn⟩
    have hkq : k * 2 ≤ k * q := Nat.mul_le_mul_left k hq
    have hkc : (k : Int) * (q : Int) = ((k * q : Nat) : Int) := mul_cast k q
    refine rn_if (fun g => ?_) fun g => ?_
    ·have g : 1 + (k : Int) * (q : Int) ≤ 2000000000 := by simpa using g
     refine rn_call (n_nPrime _ (by omega)) ?_
     have hcast : 1 + (k : Int) * (q : Int) = ((1 + k * q : Nat) : Int) := by omega
     cases hp : prB (1 + (k : Int) * (q : Int))
     ·refine rn_t rfl (rn_some ?_)
      have e : IntKind.i64.wrap (1 + (k : Int) * (q : Int) + (q : Int)) = 1 + ((k + 1 : Nat) : Int) * (q : Int) := by
       rw [wr64 (by omega) (by omega)]; grind
      refine ⟨⟨k + 1, by omega, e, by rw [wr64 (by omega) (by omega)]; omega, fun j h1 h2 => ?_⟩, ?_⟩
      ·rcases Nat.lt_or_ge j k with h | h
       ·exact hn j h1 h
       ·have : j = k := by omega
        subst this
        intro hpr
        rw [hcast, prB_t.2 hpr] at hp
        cases hp
      ·rw [wr64 (by omega) (by omega)]; omega
     ·refine rn_f rfl ?_
      have hpr : Pr (1 + k * q) := by rw [hcast] at hp; exact prB_t.1 hp
      obtain ⟨h0, a1, a2, a3⟩ := not_unity hpr hk (by omega)
      have hdv : IntKind.i64.wrap ((IntKind.i64.wrap (1 + (k : Int) * (q : Int) - 1)).tdiv (q : Int)) = (k : Int) := by
       rw [wr64 (n := 1 + (k : Int) * (q : Int) - 1) (by omega) (by omega), mg_dvd hq, wr64 (by omega) (by omega)]
      simp only [hdv]
      simp only [hcast]
      refine rn_then (ψ := fun h => 2 ≤ h ∧ h ≤ (h0 : Int)) (rn_wloop (fun s => 2 ≤ s ∧ s ≤ (h0 : Int)) (fun s => (h0 - s).toNat) (by omega) ?_) ?_
      ·rintro s ⟨s1, s2⟩
       have hpw := (n_powI (a := s) (e := (k : Int)) (m := ((1 + k * q : Nat) : Int)) (by omega) (by omega) (by omega) (by omega) (by omega) (by omega)).2
       refine rn_gd (by omega) (rn_call hpw ?_)
       refine rn_if (fun g => rn_some ?_) fun g => rn_some ⟨s1, s2⟩
       rw [wr64 (by omega) (by omega)]
       have hne : s ≠ (h0 : Int) := fun e => by
        subst e
        apply a3
        have g : ((((h0 : Int).toNat ^ (k : Int).toNat % ((1 + k * q : Nat) : Int).toNat : Nat)) : Int) = 1 := by simpa only [beq_iff_eq] using g
        rw [Int.toNat_natCast, Int.toNat_natCast, Int.toNat_natCast] at g
        omega
       refine ⟨⟨by omega, by omega⟩, ?_⟩
       omega
      ·rintro h ⟨s1, s2⟩
       have hpw := (n_powI (a := h) (e := (k : Int)) (m := ((1 + k * q : Nat) : Int)) (by omega) (by omega) (by omega) (by omega) (by omega) (by omega)).2
       refine rn_gd (by omega) (rn_call hpw (rn_some ?_))
       have hlt : h.toNat ^ (k : Int).toNat % ((1 + k * q : Nat) : Int).toNat < 1 + k * q := by
        rw [Int.toNat_natCast (1 + k * q)]
        exact Nat.mod_lt _ (by omega)
       refine .inr ⟨_, rfl, ⟨⟨by show (0 : Int) ≤ ((1 + k * q : Nat) : Int); omega, by show ((1 + k * q : Nat) : Int) ≤ _; omega⟩, ⟨by show (0 : Int) ≤ (q : Int); omega, by show (q : Int) ≤ _; omega⟩, ?_, ?_⟩, rfl, rfl, by show (3 : Int) ≤ ((1 + k * q : Nat) : Int); omega⟩
       ·show (0 : Int) ≤ ((_ : Nat) : Int); omega
       ·show ((_ : Nat) : Int) ≤ 2000000000; omega
    ·refine rn_some (.inl ⟨rfl, fun j h1 h2 h3 => ?_⟩)
     have g : ¬ 1 + (k : Int) * (q : Int) ≤ 2000000000 := by simpa using g
     rcases Nat.lt_or_ge j k with h | h
     ·exact hn j h1 h h2
     ·have : k * q ≤ j * q := Nat.mul_le_mul_right q h
      omega
   ·rintro b (⟨rfl, h⟩ | ⟨z, rfl, h1, h2, h3, h4⟩)
    ·exact rn_some ⟨⟨⟨by decide, by decide⟩, ⟨by decide, by decide⟩, by decide, by decide⟩, fun h => (by cases h), fun k h1 h2 h3 h4 => absurd h3 (h k h1 h2)⟩
    ·exact rn_some ⟨h1, fun _ => ⟨h3, h4⟩, fun _ _ _ _ _ => h2⟩
theorem Pr64 {n : Nat} (hn : n < 64) (h2 : 2 ≤ n) (h : ∀ d, d < 8 → 2 ≤ d → d * d ≤ n → n % d ≠ 0) : Pr n := by
 refine ⟨h2, fun d h1 h3 => ?_⟩
 rcases Nat.lt_or_ge d 8 with h8 | h8
 ·exact h d h8 h1 h3
 ·have : 8 * 8 ≤ d * d := Nat.mul_le_mul h8 h8
  omega
structure Gw (gr : Group) : Prop where
 p : -10 ≤ gr.P ∧ gr.P ≤ 2100000000
 q : -10 ≤ gr.Q ∧ gr.Q ≤ 2100000000
 g : -10 ≤ gr.G ∧ gr.G ≤ 2100000000
theorem Gs.w {gr : Group} (h : Gs gr) : Gw gr := ⟨by have := h.p; omega, by have := h.q; omega, by have := h.g; omega⟩
theorem tiny_q {x : Int} (hx : x ∈ [(3 : Int), 5, 5, 7, 11, 11, 13, 23]) : ∃ q k : Nat, x = (q : Int) ∧ 3 ≤ q ∧ q ≤ 23 ∧ 1 ≤ k ∧ Pr (1 + k * q) ∧ 1 + k * q ≤ 2000000000 ∧ Pr q := by
 simp only [List.mem_cons, List.not_mem_nil, or_false] at hx
 rcases hx with rfl | rfl | rfl | rfl | rfl | rfl | rfl | rfl
 ·exact ⟨3, 2, rfl, by decide, by decide, by decide, Pr64 (by decide) (by decide) (by decide), by decide, Pr64 (by decide) (by decide) (by decide)⟩
 ·exact ⟨5, 2, rfl, by decide, by decide, by decide, Pr64 (by decide) (by decide) (by decide), by decide, Pr64 (by decide) (by decide) (by decide)⟩
 ·exact ⟨5, 2, rfl, by decide, by decide, by decide, Pr64 (by decide) (by decide) (by decide), by decide, Pr64 (by decide) (by decide) (by decide)⟩
 ·exact ⟨7, 4, rfl, by decide, by decide, by decide, Pr64 (by decide) (by decide) (by decide), by decide, Pr64 (by decide) (by decide) (by decide)⟩
 ·exact ⟨11, 2, rfl, by decide, by decide, by decide, Pr64 (by decide) (by decide) (by decide), by decide, Pr64 (by decide) (by decide) (by decide)⟩
 ·exact ⟨11, 2, rfl, by decide, by decide, by decide, Pr64 (by decide) (by decide) (by decide), by decide, Pr64 (by decide) (by decide) (by decide)⟩
 ·exact ⟨13, 4, rfl, by decide, by decide, by decide, Pr64 (by decide) (by decide) (by decide), by decide, Pr64 (by decide) (by decide) (by decide)⟩
 ·exact ⟨23, 2, rfl, by decide, by decide, by decide, Pr64 (by decide) (by decide) (by decide), by decide, Pr64 (by decide) (by decide) (by decide)⟩
theorem n_tiny {code c0 : List Int} {at_ seed n : Int} (hb : Bt code) (h : Cu code n (c0, at_, seed)) (hn : n ≤ 7000000000000000) : Rn (F_spec_l1Cur_tiny__io0 c0 at_ seed) (fun z => Gs z.1 ∧ 3 ≤ z.1.Q ∧ z.1.Q ≤ 23 ∧ 3 ≤ z.1.P ∧ Cu code (n + 2) z.2) := by
 unfold F_spec_l1Cur_tiny__io0
 refine rn_then (n_amongM hb h (by omega) (by simp)) fun z ⟨z1, z2⟩ => ?_
 obtain ⟨q, k, e, q1, q2, k1, k2, k3, k4⟩ := tiny_q z1
 rw [e]
 refine rn_then (n_MakeGroup (by omega)) fun y ⟨y1, y2, y3⟩ => rn_some ?_
 have y4 := y2 (y3 k k1 k2 k3 k4)
 exact ⟨y1, by show 3 ≤ y.1.Q; omega, by show y.1.Q ≤ 23; omega, y4.2, z2⟩
theorem n_gExpT {gr : Group} (h : Gs gr) (hq : 1 ≤ gr.Q) (hp : 1 ≤ gr.P) {x : Int} (hx : 0 ≤ x ∧ x ≤ 2000000000) (e : Int) : Rn (F_spec_gExp gr x e) (fun v => 0 ≤ v ∧ v ≤ 2000000000) := by
 have h1 := h.p
 have h2 := h.q
 have b1 : 0 ≤ e % gr.Q := Int.emod_nonneg _ (by omega)
 have b2 : e % gr.Q < gr.Q := Int.emod_lt_of_pos _ (by omega)
 have hw := (n_powI (a := x) (e := e % gr.Q) (m := gr.P) (by omega) (by omega) (by omega) (by omega) b1 (by omega)).2
 unfold F_spec_gExp
 refine rn_call (n_nMod (by omega) (by omega)) (rn_call hw (rn_some ?_))
 have hlt : x.toNat ^ (e % gr.Q).toNat % gr.P.toNat < gr.P.toNat := Nat.mod_lt _ (by omega)
 omega
theorem cu0 (code : List Int) : Cu code 0 (code, 0, 0) := ⟨rfl, Int.le_refl 0, Int.le_refl 0⟩
theorem n_expo {code c0 : List Int} {at_ seed n : Int} {gr : Group} (hb : Bt code) (h : Cu code n (c0, at_, seed)) (hn : n ≤ 7000000000000000) (hg : gr.Q ≤ 2100000000) : Rn (F_spec_l1Cur_expo__io0 c0 at_ seed gr) (fun z => 0 ≤ z.1 ∧ z.1 ≤ 2100000000 ∧ (2 ≤ gr.Q → z.1 < gr.Q) ∧ Cu code (n + 4) z.2) := by
 unfold F_spec_l1Cur_expo__io0
 refine rn_if (fun g => rn_some ⟨Int.le_refl 0, by show (0 : Int) ≤ _; omega, fun h => by simp at g; omega, h.mono (by omega)⟩) fun g => ?_
 have g : 2 ≤ gr.Q := by simp at g; omega
 refine rn_then (n_pick hb h (by omega)) fun z ⟨z1, z2, z3, z4, z5⟩ => ?_
 refine rn_then (n_pick hb z5 (by omega)) fun y ⟨y1, y2, y3, y4, y5⟩ => rn_gd (by omega) (rn_some ?_)
 rw [wr64 (n := z.1 * 60000) (by omega) (by omega), wr64 (by omega) (by omega), Int.tmod_eq_emod_of_nonneg (by omega)]
 have b1 := Int.emod_nonneg (z.1 * 60000 + y.1) (show gr.Q ≠ 0 by omega)
 have b2 := Int.emod_lt_of_pos (z.1 * 60000 + y.1) (show 0 < gr.Q by omega)
 exact ⟨b1, by show _ % gr.Q ≤ _; omega, fun _ => b2, y5.mono (by omega)⟩
theorem n_anyExpo {code c0 : List Int} {at_ seed n : Int} {gr : Group} (hb : Bt code) (h : Cu code n (c0, at_, seed)) (hn : n ≤ 6000000000000000) (hg : Gw gr) : Rn (F_spec_l1Cur_anyExpo__io0 c0 at_ seed gr) (fun z => -100 ≤ z.1 ∧ z.1 ≤ 2100000000 ∧ Cu code (n + 6) z.2) := by
 have g2 := hg.q
 unfold F_spec_l1Cur_anyExpo__io0
 refine rn_then (n_one hb h (by omega)) fun z z1 => ?_
 rw [wr64 (by omega) (by omega)]
 refine rn_if (fun _ => ?_) fun _ => ?_
 ·refine rn_then (n_amongM hb z1 (by omega) (by simp)) fun y ⟨y1, y2⟩ => rn_some ?_
  simp only [List.mem_cons, List.not_mem_nil, or_false] at y1
  exact ⟨by show -100 ≤ y.1; omega, by show y.1 ≤ _; omega, y2.mono (by omega)⟩
 ·exact rn_then (n_expo hb z1 (by omega) (by omega)) fun y ⟨y1, y2, _, y3⟩ => rn_some ⟨by show -100 ≤ y.1; omega, y2, y3.mono (by omega)⟩
theorem n_coins {code c0 : List Int} {at_ seed n : Int} {gr : Group} {k : Nat} (hb : Bt code) (h : Cu code n (c0, at_, seed)) (hn : n ≤ 5000000000000000) (hg : Gw gr) (hk : k ≤ 1000000) : Rn (F_spec_l1Cur_coins__io0 c0 at_ seed gr (k : Int)) (fun z => z.1.length = k ∧ (∀ x ∈ z.1, 0 ≤ x ∧ x ≤ 2100000000 ∧ (2 ≤ gr.Q → x < gr.Q)) ∧ Cu code (n + 4 * k) z.2) := by
 unfold F_spec_l1Cur_coins__io0
 refine rn_then (ψ := fun r => r.2.length = k ∧ (∀ x ∈ r.2, 0 ≤ x ∧ x ≤ 2100000000 ∧ (2 ≤ gr.Q → x < gr.Q)) ∧ Cu code (n + 4 * k) r.1) (rn_cloop k (fun j s => s.2.1 = (k : Int) - j ∧ s.2.2.length = j ∧ (∀ x ∈ s.2.2, 0 ≤ x ∧ x ≤ 2100000000 ∧ (2 ≤ gr.Q → x < gr.Q)) ∧ Cu code (n + 4 * j) s.1) ⟨by show (k : Int) = _; omega, rfl, by simp, h.mono (by omega)⟩ ?_ ?_) fun r hr => rn_some hr
 ·rintro j s hj ⟨h1, h2, h3, h4⟩
  refine rn_t (by rw [h1]; simp; omega) (rn_then (n_expo hb h4 (by omega) hg.q.2) fun z ⟨z1, z2, z3, z4⟩ => rn_gd (by omega) (rn_some ⟨?_, by simp [h2], fun x hx => ?_, z4.mono (by omega)⟩))
  ·show IntKind.i64.wrap (s.2.1 - 1) = _
   rw [h1, wr64 (by omega) (by omega)]; omega
  ·rcases List.mem_append.1 hx with h | h
   ·exact h3 x h
   ·rw [List.mem_singleton.1 h]; exact ⟨z1, z2, z3⟩
 ·rintro s ⟨h1, h2, h3, h4⟩
  exact rn_f (by rw [h1]; simp) (rn_some ⟨h2, h3, h4⟩)
theorem n_nModW {a q : Int} (h0 : 0 < q) (h1 : q ≤ 4000000000000000000) : F_spec_nMod a q = some (a % q) := by
 unfold F_spec_nMod
 rw [gd_t (by omega), gd_t (by omega)]
 have b1 : a.tmod q < q := Int.tmod_lt_of_pos a h0
 have b2 : -q < a.tmod q := by
  have := Int.lt_tmod_of_pos a h0
  omega
 rw [wr64 (by omega) (by omega), Int.tmod_eq_emod_of_nonneg (by omega)]
 congr 1
 rw [Int.add_emod_right]
 rw [Int.tmod_def, Int.sub_emod, Int.mul_emod_right, Int.sub_zero, Int.emod_emod]
theorem tmod_bd (a : Int) {m : Int} (h : 0 < m) : -m < a.tmod m ∧ a.tmod m < m := by
 have h1 := Int.tmod_lt_of_pos a h
 have h2 := Int.lt_tmod_of_pos a h
 omega
theorem n_nPowerT (a : Int) {e m : Int} (h1 : 1 ≤ m) (h2 : 0 ≤ e) (h3 : e ≤ 4000000000000000000) : Rn (F_spec_nPower a e m) (fun v => -m < v ∧ v < m) := by
 unfold F_spec_nPower
 refine rn_gd (by omega) (rn_then (ψ := fun v => -m < v ∧ v < m) (rn_wloop (fun s => (-m < s.2.2 ∧ s.2.2 < m) ∧ 0 ≤ s.2.1 ∧ s.2.1 ≤ e) (fun s => s.2.1.toNat) ⟨tmod_bd _ (by omega), h2, Int.le_refl _⟩ ?_) fun x hx => rn_some hx)
 rintro s ⟨hs, h4, h5⟩
 refine rn_if (fun g => ?_) fun _ => rn_some hs
 have g : 0 < s.2.1 := by simpa using g
 refine rn_then (ψ := fun v => -m < v ∧ v < m) (rn_if (fun _ => rn_gd (by omega) (rn_some (tmod_bd _ (by omega)))) fun _ => rn_some hs) fun x hx => rn_gd (by omega) (rn_some ?_)
 have e1 : s.2.1.tdiv 2 = s.2.1 / 2 := Int.tdiv_eq_ediv_of_nonneg (by omega)
 have e2 : IntKind.i64.wrap (s.2.1.tdiv 2) = s.2.1 / 2 := by rw [e1, wr64 (by omega) (by omega)]
 exact ⟨⟨hx, by show 0 ≤ IntKind.i64.wrap _; rw [e2]; omega, by show IntKind.i64.wrap _ ≤ e; rw [e2]; omega⟩, by show (IntKind.i64.wrap _).toNat < _; rw [e2]; omega⟩
theorem n_gExpW {gr : Group} (hq : 1 ≤ gr.Q ∧ gr.Q ≤ 4000000000000000000) (hp : 1 ≤ gr.P) (x e : Int) : Rn (F_spec_gExp gr x e) (fun v => -gr.P < v ∧ v < gr.P) := by
 unfold F_spec_gExp
 refine rn_call (n_nModW (by omega) hq.2) (rn_then (n_nPowerT x hp (Int.emod_nonneg _ (by omega)) ?_) fun v hv => rn_some hv)
 have := Int.emod_lt_of_pos e (show 0 < gr.Q by omega)
 omega
theorem n_element {code c0 : List Int} {at_ seed n : Int} {gr : Group} (hb : Bt code) (h : Cu code n (c0, at_, seed)) (hn : n ≤ 6000000000000000) (hg : Gw gr) : Rn (F_spec_l1Cur_element__io0 c0 at_ seed gr) (fun z => -2200000000 ≤ z.1 ∧ z.1 ≤ 2200000000 ∧ Cu code (n + 4) z.2) := by
 have g1 := hg.p
 have g2 := hg.q
 unfold F_spec_l1Cur_element__io0
 refine rn_then (ψ := fun b => b = false → 3 ≤ gr.P ∧ 1 ≤ gr.Q) (rn_if (fun _ => rn_some fun h => by cases h) fun a => rn_some fun b => by simp at a b; omega) fun b hb' => rn_if (fun _ => rn_some ⟨by show -2200000000 ≤ (1 : Int); decide, by show (1 : Int) ≤ _; decide, h.mono (by omega)⟩) fun e => ?_
 obtain ⟨k1, k2⟩ := hb' e
 refine rn_call (n_nModW (by omega) (by omega)) (rn_then (n_expo hb h (by omega) (by omega)) fun z ⟨z1, z2, _, z3⟩ => rn_then (n_gExpW ⟨k2, by omega⟩ (by omega) _ _) fun v hv => rn_some ⟨by show _ ≤ v; omega, by show v ≤ _; omega, z3⟩)
theorem n_anyElement {code c0 : List Int} {at_ seed n : Int} {gr : Group} (hb : Bt code) (h : Cu code n (c0, at_, seed)) (hn : n ≤ 5000000000000000) (hg : Gw gr) : Rn (F_spec_l1Cur_anyElement__io0 c0 at_ seed gr) (fun z => -2200000000 ≤ z.1 ∧ z.1 ≤ 2200000000 ∧ Cu code (n + 6) z.2) := by
 have g1 := hg.p
 unfold F_spec_l1Cur_anyElement__io0
 refine rn_then (n_one hb h (by omega)) fun z z1 => rn_if (fun _ => ?_) fun _ => rn_then (n_element hb z1 (by omega) hg) fun y ⟨y1, y2, y3⟩ => rn_some ⟨y1, y2, y3.mono (by omega)⟩
 rw [wr64 (n := gr.P - 1) (by omega) (by omega)]
 refine rn_then (n_amongM hb z1 (by omega) (by simp)) fun y ⟨y1, y2⟩ => rn_some ?_
 simp only [List.mem_cons, List.not_mem_nil, or_false] at y1
 exact ⟨by show -2200000000 ≤ y.1; omega, by show y.1 ≤ _; omega, y2.mono (by omega)⟩
def byL (s : ByteArray) : List Int := s.data.toList.map fun b => (b.toNat : Int)
theorem byL_len (s : ByteArray) : (byL s).length = s.size := by
 show (s.data.toList.map _).length = s.data.size
 rw [List.length_map, Array.length_toList]
theorem byL_bd (s : ByteArray) : ∀ x ∈ byL s, 0 ≤ x ∧ x ≤ 255 := by
 intro x hx
 obtain ⟨b, _, rfl⟩ := List.mem_map.1 hx
 have := b.toNat_lt
 omega
theorem ixs_at {s : ByteArray} {k : Nat} (h : k < s.size) : ixs s (k : Int) = some ((byL s)[k]'(by rw [byL_len]; exact h)) := by
 have h2 : k < s.data.size := h
 simp [ixs, byL, h]
 rfl
theorem n_with (s : ByteArray) (l : List Int) (hs : s.size ≤ 1000000) (hl : l.length ≤ 1000000000000) : F_spec_l3With s l = some ((s.size : Int) :: byL s ++ l) := by
 unfold F_spec_l3With
 refine eq_of_rn (rn_then (ψ := fun x => x = (s.size : Int) :: byL s) (rn_cloop s.size (fun n p => n ≤ s.size ∧ p = ((s.size : Int) :: (byL s).take n, (n : Int))) ⟨by omega, by simp⟩ ?_ ?_) ?_)
 ·rintro n p hn ⟨_, rfl⟩
  have hn2 : n < (byL s).length := by rw [byL_len]; exact hn
  have hb := byL_bd s _ (List.getElem_mem hn2)
  refine rn_if (fun _ => ?_) fun h => absurd h (by simp; omega)
  refine rn_call (ixs_at hn) (rn_gd ?_ (rn_some ⟨by omega, ?_⟩))
  ·simp only [List.length_cons, List.length_take, byL_len]; omega
  ·show ((s.size : Int) :: (byL s).take n ++ [_], _) = _
   rw [wr64 (by omega) (by omega), wr64 (by omega) (by omega), List.cons_append, List.take_append_getElem hn2]
   rfl
 ·rintro p ⟨_, rfl⟩
  refine rn_if (fun h => absurd h (by simp)) fun _ => rn_some ?_
  show (s.size : Int) :: (byL s).take s.size = _
  rw [List.take_of_length_le (by rw [byL_len]; omega)]
 ·rintro _ rfl
  refine rn_gd ?_ (rn_some rfl)
  simp only [List.length_cons, byL_len]; omega
theorem n_labelled (s : ByteArray) (l : List Int) (hs : s.size ≤ 1000000) (hl : l.length ≤ 1000000000000) : F_impl_labelled s l = some ((s.size : Int) :: byL s ++ l) := n_with s l hs hl
def digB (x : Int) : Bool := decide (0 ≤ x) && decide (x ≤ 4611686018427387903)
theorem digB_t {x : Int} : digB x = true ↔ 0 ≤ x ∧ x ≤ 4611686018427387903 := by simp [digB]
theorem n_isDigest (x : Int) : F_impl_isDigest x = some (digB x) := by
 unfold F_impl_isDigest
 rw [n_within]; rfl
theorem n_l3Digest (x : Int) : F_spec_l3Digest x = some (digB x) := by
 unfold F_spec_l3Digest
 rw [n_l1In]; rfl
theorem byL_dig (s : ByteArray) : (byL s).all digB = true := by
 rw [List.all_eq_true]
 intro x hx
 have := byL_bd s x hx
 exact digB_t.2 ⟨by omega, by omega⟩
def hs1 (c s k : Int) : Int := (c * s + k + 1) % 2147483647
def absH (p : Int × Int) (x : Int) : Int × Int := (hs1 48271 (hs1 48271 p.1 (x % 2147483648)) (x / 2147483648), hs1 69621 (hs1 69621 p.2 (x % 2147483648)) (x / 2147483648))
def hashN (l : List Int) : Int := let p := (((l.length : Int) :: l).foldl absH (1, 2)); p.1 * 2147483648 + p.2
theorem hs1_bd (c s k : Int) : 0 ≤ hs1 c s k ∧ hs1 c s k ≤ 2147483646 := by unfold hs1; omega
theorem hs1_eq {c s k : Int} (hc : c = 48271 ∨ c = 69621) (hs : 0 ≤ s ∧ s ≤ 2147483646) (hk : 0 ≤ k ∧ k ≤ 2147483648) : (IntKind.i64.wrap ((IntKind.i64.wrap ((IntKind.i64.wrap (c * s)) + k)) + 1)).tmod 2147483647 = hs1 c s k := by
 rcases hc with rfl | rfl
 ·rw [wr64 (n := 48271 * s) (by omega) (by omega), wr64 (n := 48271 * s + k) (by omega) (by omega), wr64 (by omega) (by omega), Int.tmod_eq_emod_of_nonneg (by omega)]; rfl
 ·rw [wr64 (n := 69621 * s) (by omega) (by omega), wr64 (n := 69621 * s + k) (by omega) (by omega), wr64 (by omega) (by omega), Int.tmod_eq_emod_of_nonneg (by omega)]; rfl
def okP (p : Int × Int) : Prop := (0 ≤ p.1 ∧ p.1 ≤ 2147483646) ∧ (0 ≤ p.2 ∧ p.2 ≤ 2147483646)
theorem absH_ok (p : Int × Int) (x : Int) : okP (absH p x) := ⟨hs1_bd _ _ _, hs1_bd _ _ _⟩
theorem fold_ok : ∀ (l : List Int) (p : Int × Int), okP p → okP (l.foldl absH p)
 | [], _, h => h
 | x :: l, p, _ => fold_ok l _ (absH_ok p x)
theorem hashN_dig (l : List Int) : digB (hashN l) = true := by
 obtain ⟨h1, h2⟩ := fold_ok ((l.length : Int) :: l) (1, 2) ⟨by decide, by decide⟩
 refine digB_t.2 ?_
 unfold hashN
 dsimp only
 omega
theorem n_absorb {p : Int × Int} {x : Int} (hp : okP p) (hx : digB x = true) : F_spec_l3State_absorb__io0 p.1 p.2 x = some (absH p x) := by
 obtain ⟨h1, h2⟩ := hp
 have hx := digB_t.1 hx
 have e1 : x.tmod 2147483648 = x % 2147483648 := Int.tmod_eq_emod_of_nonneg hx.1
 have e2 : IntKind.i64.wrap (x.tdiv 2147483648) = x / 2147483648 := by
  rw [Int.tdiv_eq_ediv_of_nonneg hx.1, wr64 (by omega) (by omega)]
 have b1 : 0 ≤ x % 2147483648 ∧ x % 2147483648 ≤ 2147483648 := by omega
 have b2 : 0 ≤ x / 2147483648 ∧ x / 2147483648 ≤ 2147483648 := by omega
 have h0 : ix [x % 2147483648, x / 2147483648] 0 = some (x % 2147483648) := rfl
 have h1' : ix [x % 2147483648, x / 2147483648] 1 = some (x / 2147483648) := rfl
 unfold F_spec_l3State_absorb__io0
 rw [e1, e2, Option.bind_some, wloop_eq]
 simp only [List.length_cons, List.length_nil, show decide ((0 : Int) < ((0 + 1 + 1 : Nat) : Int)) = true from rfl, if_true, h0, Option.bind_some, hs1_eq (.inl rfl) h1 b1, hs1_eq (.inr rfl) h2 b1]
 rw [wloop_eq]
 simp only [show IntKind.i64.wrap (0 + 1) = 1 from rfl, show decide ((1 : Int) < ((0 + 1 + 1 : Nat) : Int)) = true from rfl, if_true, h1', Option.bind_some, hs1_eq (.inl rfl) (hs1_bd _ _ _) b2, hs1_eq (.inr rfl) (hs1_bd _ _ _) b2]
 rw [wloop_eq]
 simp only [show IntKind.i64.wrap (1 + 1) = 2 from rfl, show decide ((2 : Int) < ((0 + 1 + 1 : Nat) : Int)) = false from rfl, Bool.false_eq_true, if_false, Option.bind_some]
 rfl
theorem all_dig {l : List Int} (h : l.all digB = true) {k : Nat} (hk : k < l.length) : digB l[k] = true := List.all_eq_true.1 h _ (List.getElem_mem hk)
theorem n_hInts {l : List Int} (hl : l.length ≤ 1000000000000) (hd : l.all digB = true) : F_spec_hInts l = some (hashN l) := by
 unfold F_spec_hInts
 have e0 := n_absorb (p := (1, 2)) (x := (l.length : Int)) ⟨by decide, by decide⟩ (digB_t.2 ⟨by omega, by omega⟩)
 refine eq_of_rn (rn_call e0 (rn_then (ψ := fun p => p = ((l.length : Int) :: l).foldl absH (1, 2)) (rn_rloop (fun n p => p = ((l.length : Int) :: l.take n).foldl absH (1, 2)) rfl ?_ ?_) ?_))
 ·rintro n p hn rfl
  refine rn_ix hn (rn_call (n_absorb (fold_ok _ _ ⟨by decide, by decide⟩) (all_dig hd hn)) (rn_some ?_))
  show absH _ _ = _
  rw [← List.take_append_getElem hn, ← List.cons_append, List.foldl_append]
  rfl
 ·rintro p rfl
  show (((l.length : Int) :: l.take l.length).foldl absH (1, 2)) = _
  rw [List.take_length]
 ·rintro p rfl
  obtain ⟨h1, h2⟩ := fold_ok ((l.length : Int) :: l) (1, 2) ⟨by decide, by decide⟩
  refine rn_some ?_
  rw [wr64 (n := _ * 2147483648) (by omega) (by omega), wr64 (by omega) (by omega)]
  rfl
theorem and_mask {x : Int} (hx : digB x = true) : IntKind.i64.wrap (BitVec.ofInt IntKind.i64.bits x &&& BitVec.ofInt IntKind.i64.bits 2147483647).toNat = x % 2147483648 := by
 have hx := digB_t.1 hx
 obtain ⟨n, rfl⟩ := Int.eq_ofNat_of_zero_le hx.1
 have h1 : (BitVec.ofInt IntKind.i64.bits ((n : Nat) : Int) &&& BitVec.ofInt IntKind.i64.bits 2147483647).toNat = n % 2147483648 := by
  rw [BitVec.toNat_and]
  have a1 : (BitVec.ofInt IntKind.i64.bits (n : Int)).toNat = n := by
   rw [BitVec.toNat_ofInt]
   have : IntKind.i64.bits = 64 := rfl
   rw [this]
   omega
  have a2 : (BitVec.ofInt IntKind.i64.bits 2147483647).toNat = 2 ^ 31 - 1 := by decide
  rw [a1, a2, Nat.and_two_pow_sub_one_eq_mod]
 rw [h1, wr64 (by omega) (by omega)]
 omega
theorem n_hash {l : List Int} (hl : l.length ≤ 1000000000000) (hd : l.all digB = true) : F_impl_hash l = some (hashN l) := by
 unfold F_impl_hash
 have hd2 : ((l.length : Int) :: l).all digB = true := by
  rw [List.all_cons, hd, Bool.and_true]
  exact digB_t.2 ⟨by omega, by omega⟩
 refine eq_of_rn (rn_gd (by simp only [List.length_cons, List.length_nil]; omega) (rn_call rfl (rn_then (ψ := fun p => p = ((l.length : Int) :: l).foldl absH (1, 2)) (rn_rloop (fun n p => p = (((l.length : Int) :: l).take n).foldl absH (1, 2)) rfl ?_ ?_) ?_)))
 ·rintro n p hn rfl
  have ok := fold_ok ((((l.length : Int) :: l)).take n) (1, 2) ⟨by decide, by decide⟩
  have dg := all_dig hd2 hn
  have b := digB_t.1 dg
  have ef : (((l.length : Int) :: l)[n]).fdiv 2147483648 = ((l.length : Int) :: l)[n] / 2147483648 := Int.fdiv_eq_ediv_of_nonneg _ (by omega)
  have hn' : n < ((l.length : Int) :: l).length := hn
  refine rn_ix hn (rn_some ?_)
  show (_, _) = _
  simp only [List.singleton_append]
  rw [and_mask dg, ef, hs1_eq (.inl rfl) ok.1 (by omega), hs1_eq (.inr rfl) ok.2 (by omega), hs1_eq (.inl rfl) (hs1_bd _ _ _) (by omega), hs1_eq (.inr rfl) (hs1_bd _ _ _) (by omega),
   ← List.take_append_getElem hn', List.foldl_append]
  rfl
 ·rintro p rfl
  show ((((l.length : Int) :: l).take ([(l.length : Int)] ++ l).length).foldl absH (1, 2)) = _
  rw [List.singleton_append, List.take_length]
 ·rintro p rfl
  obtain ⟨h1, h2⟩ := fold_ok ((l.length : Int) :: l) (1, 2) ⟨by decide, by decide⟩
  refine rn_some ?_
  rw [wr64 (n := _ * 2147483648) (by omega) (by omega), wr64 (by omega) (by omega)]
  rfl
def hshL (s : ByteArray) (l : List Int) : Int := hashN ((s.size : Int) :: byL s ++ l)
theorem hshL_dig (s : ByteArray) (l : List Int) : digB (hshL s l) = true := hashN_dig _
def labB (s : ByteArray) (l : List Int) : Bool := decide (s.size ≤ 40) && decide (1 + s.size + l.length ≤ 400) && l.all digB
theorem lab_all {s : ByteArray} {l : List Int} (hs : s.size ≤ 1000000) : ((s.size : Int) :: byL s ++ l).all digB = l.all digB := by
 rw [List.cons_append, List.all_cons, List.all_append, byL_dig, digB_t.2 ⟨by omega, by omega⟩, Bool.true_and, Bool.true_and]
theorem n_hLabelled {s : ByteArray} {l : List Int} (hs : s.size ≤ 1000000) (hl : l.length ≤ 100000000000) (hd : l.all digB = true) : F_spec_hLabelled s l = some (hshL s l) := by
 unfold F_spec_hLabelled
 rw [n_with s l hs (by omega), Option.bind_some, n_hInts (by simp [byL_len]; omega) (by rw [lab_all hs]; exact hd)]
 rfl
theorem n_areDigests (l : List Int) : F_impl_areDigests l = some (decide (l.length ≤ 400) && l.all digB) := by
 unfold F_impl_areDigests
 have h1 : F_impl_areAll__impl_isDigest l = some (l.all digB) := areAll_gen (f := F_impl_areAll_1__impl_isDigest) fun x _ => by
  unfold F_impl_areAll_1__impl_isDigest
  rw [n_isDigest]; rfl
 rw [h1]
 by_cases h : l.length ≤ 400
 ·rw [if_pos (by simp; omega)]; simp [h]
 ·rw [if_neg (by simp; omega)]; simp [h]
theorem n_HashInts (l : List Int) : F_impl_HashInts l = some (if (decide (l.length ≤ 400) && l.all digB) = true then (hashN l, true) else (0, false)) := by
 unfold F_impl_HashInts
 rw [n_areDigests, Option.bind_some]
 cases h : (decide (l.length ≤ 400) && l.all digB) with
 | true =>
  simp only [Bool.and_eq_true, decide_eq_true_eq] at h
  rw [n_hash (by omega) h.2]; rfl
 | false => rfl
theorem n_HashLabelled (s : ByteArray) (l : List Int) : F_impl_HashLabelled s l = some (if labB s l = true then (hshL s l, true) else (0, false)) := by
 unfold F_impl_HashLabelled
 by_cases h1 : s.size ≤ 40
 ·by_cases h2 : l.length ≤ 400
  ·rw [if_neg (by simp; omega), Option.bind_some, if_neg (by simp; omega), n_labelled s l (by omega) (by omega), Option.bind_some, n_HashInts, lab_all (by omega)]
   have e : ((s.size : Int) :: byL s ++ l).length = 1 + s.size + l.length := by simp [byL_len]; omega
   rw [e]
   have e2 : labB s l = (decide (1 + s.size + l.length ≤ 400) && l.all digB) := by simp [labB, h1]
   rw [e2]
   cases decide (1 + s.size + l.length ≤ 400) <;> cases l.all digB <;> rfl
  ·rw [if_neg (by simp; omega), Option.bind_some, if_pos (by simp; omega)]
   have : labB s l = false := by
    have : ¬ 1 + s.size + l.length ≤ 400 := by omega
    simp [labB, this]
   rw [this]; rfl
 ·rw [if_pos (by simp; omega), Option.bind_some, if_pos rfl]
  have : labB s l = false := by simp [labB, h1]
  rw [this]; rfl
theorem ceq {n : Int} {k : Nat} (h : n = (k : Int)) (hk : k ≤ 4194304) : IntKind.i64.wrap n = (k : Int) := by rw [wr64 (by omega) (by omega), h]
theorem rl_map {α β γ : Type} {l : List α} {f : α → β} {body : Int → List β → Option (Stp (List β) γ)} {stop : List β → γ} (a0 : List β) (hs : ∀ k (h : k < l.length) (s : List β), s.length = a0.length + k → body (k : Int) s = some (.go (s ++ [f l[k]]))) :
 rloop body stop l.length 0 a0 = some (stop (a0 ++ l.map f)) := by
 refine eq_of_rn (rn_rloop (fun k s => s = a0 ++ (l.take k).map f ∧ k ≤ l.length) ⟨by simp, by omega⟩ ?_ ?_)
 ·rintro k s hk ⟨rfl, _⟩
  refine ⟨_, hs k hk _ (by simp; omega), ?_, hk⟩
  rw [List.take_succ_eq_append_getElem hk, List.map_append, List.append_assoc]; rfl
 ·rintro s ⟨rfl, _⟩
  simp
theorem n_allN {γ : Type} {m : Nat} (p : Nat → Bool) (c d : γ) {body : Int → Unit → Option (Stp Unit (Unit ⊕ γ))} (h : ∀ k, k < m → body (k : Int) () = some (if p k = true then .go () else .out (.inr c))) :
 (rloop body (fun _ => .inl ()) m 0 ()).bind (Sum.elim (fun _ => some d) some) = some (if (List.range m).all p = true then d else c) := by
 rcases n_first (body := body) m p (fun _ => c) h with ⟨e, h1⟩ | ⟨k, h1, h2, h3, e⟩
 ·have : (List.range m).all p = true := by
   rw [List.all_eq_true]; intro x hx; exact h1 x (List.mem_range.1 hx)
  rw [e, this]; rfl
 ·have : (List.range m).all p = false := by
   rw [List.all_eq_false]; exact ⟨k, List.mem_range.2 h1, by simp [h2]⟩
  rw [e, this]; rfl
theorem cf_gen {α : Type} {l : List α} {p : α → Bool} {f : α → Option Bool} (hf : ∀ x ∈ l, f x = some (p x)) :
 ((((rloop (σ := Unit) (β := Unit ⊕ Int) (fun i8 s7 => (ix l i8).bind fun x17 => (f x17).bind fun z20 => if z20 = true then (some (.out (.inr i8))) else (some (.go ()))) (fun s7 => .inl ()) (l.length) 0 () : Option (Unit ⊕ Int)).bind (Sum.elim (fun (x5 : Unit) => some (-1)) some)).bind fun z1 => some (decide (0 ≤ z1)))) = some (l.any p) := by
 rcases n_first l.length (fun k => !(l[k]?).any p) (fun k => (k : Int)) (body := fun i8 s7 => (ix l i8).bind fun x17 => (f x17).bind fun z20 => if z20 = true then (some (.out (.inr i8))) else (some (.go ()))) (fun k hk => by
  rw [ix_at hk, Option.bind_some, hf _ (List.getElem_mem hk), Option.bind_some, List.getElem?_eq_getElem hk]
  cases h : p l[k] <;> simp [h]) with ⟨e, h1⟩ | ⟨k, h1, h2, h3, e⟩
 ·rw [e]
  have : l.any p = false := by
   rw [List.any_eq_false]
   intro x hx
   obtain ⟨k, hk, rfl⟩ := List.mem_iff_getElem.1 hx
   have := h1 k hk
   rw [List.getElem?_eq_getElem hk] at this
   simpa using this
  rw [this]; rfl
 ·rw [e]
  have : l.any p = true := by
   rw [List.any_eq_true]
   refine ⟨l[k], List.getElem_mem h1, ?_⟩
   rw [List.getElem?_eq_getElem h1] at h2
   simpa using h2
  rw [this]
  simp
def inB (a b x : Int) : Bool := decide (a ≤ x) && decide (x ≤ b)
theorem inB_t {a b x : Int} : inB a b x = true ↔ a ≤ x ∧ x ≤ b := by simp [inB]
theorem ite_and (a b : Bool) : (if a = true then some b else some false) = some (a && b) := by cases a <;> rfl
theorem ite_or (a b : Bool) : (if a = true then some true else some b) = some (a || b) := by cases a <;> rfl
theorem n_inB (x a b : Int) : F_spec_l1In x a b = some (inB a b x) := n_l1In x a b
theorem n_winB (x a b : Int) : F_impl_within x a b = some (inB a b x) := n_within x a b
theorem all_take {α : Type} {l : List α} {p : α → Bool} (h : l.all p = true) (k : Nat) : (l.take k).all p = true := by
 rw [List.all_eq_true] at h ⊢
 exact fun x hx => h x (List.mem_of_mem_take hx)
theorem n_l1Own {l : List Int} (h : l.length ≤ 1048576) : F_spec_l1Own l = some l := gd_t (by omega)
theorem flatI_take {α : Type} {L : List (List α)} {i : Nat} (h : i < L.length) : (L.take (i + 1)).flatten = (L.take i).flatten ++ L[i] := by
 rw [List.take_succ_eq_append_getElem h, List.flatten_append]; simp
theorem flatI_le {α : Type} (L : List (List α)) (i : Nat) : (L.take i).flatten.length ≤ L.flatten.length := by
 have e : L.flatten = (L.take i).flatten ++ (L.drop i).flatten := by rw [← List.flatten_append, List.take_append_drop]
 rw [e, List.length_append]; omega
theorem n_concatI (L : List (List Int)) (h : L.flatten.length ≤ 1000000000000) : F_slices_Concat_int_int L = some L.flatten := by
 unfold F_slices_Concat_int_int
 refine eq_of_rn (rn_then (ψ := fun n => n = (L.flatten.length : Int)) (rn_rloop (fun i s => s = ((L.take i).flatten.length : Int)) rfl ?_ ?_) ?_)
 ·rintro i s hi rfl
  have e := congrArg List.length (flatI_take hi)
  rw [List.length_append] at e
  have hl := flatI_le L (i + 1)
  refine rn_ix hi ?_
  rw [wr64 (by omega) (by omega)]
  refine rn_f (by simp only [decide_eq_false_iff_not]; omega) (rn_some ?_)
  show _ = _
  omega
 ·rintro s rfl
  rw [List.take_length]
 ·rintro n rfl
  refine rn_gd (by omega) (rn_then (ψ := fun r => r = L.flatten) (rn_rloop (fun i s => s = (L.take i).flatten) rfl ?_ ?_) fun r hr => rn_some hr)
  ·rintro i s hi rfl
   have e := congrArg List.length (flatI_take hi)
   rw [List.length_append] at e
   have hl := flatI_le L (i + 1)
   refine rn_ix hi (rn_gd (by omega) (rn_some ?_))
   show _ = _
   rw [flatI_take hi]
  ·rintro s rfl
   rw [List.take_length]
def chG (gr : Group) (s : ByteArray) (l : List Int) : Int := hshL s ([gr.P, gr.Q, gr.G] ++ l) % gr.Q
theorem chG_bd {gr : Group} (k : OkG gr) (s : ByteArray) (l : List Int) : 0 ≤ chG gr s l ∧ chG gr s l < gr.Q := by
 have := k.q
 exact ⟨Int.emod_nonneg _ (by omega), Int.emod_lt_of_pos _ (by omega)⟩
theorem grp_dig {gr : Group} (k : OkG gr) {l : List Int} : ([gr.P, gr.Q, gr.G] ++ l).all digB = l.all digB := by
 have hp := k.p
 have hq := k.q
 have hg := k.g
 rw [List.all_append]
 have : [gr.P, gr.Q, gr.G].all digB = true := by
  simp only [List.all_cons, List.all_nil, Bool.and_true, Bool.and_eq_true]
  exact ⟨digB_t.2 (by omega), digB_t.2 (by omega), digB_t.2 (by omega)⟩
 rw [this, Bool.true_and]
theorem n_hChallenge {gr : Group} (k : OkG gr) {s : ByteArray} {l : List Int} (hs : s.size ≤ 1000000) (hl : l.length ≤ 10000000000) (hd : l.all digB = true) : F_spec_hChallenge gr s l = some (chG gr s l) := by
 have hq := k.q
 have hb := digB_t.1 (hshL_dig s ([gr.P, gr.Q, gr.G] ++ l))
 unfold F_spec_hChallenge
 rw [gd_t (by simp only [List.length_cons, List.length_nil]; omega), n_hLabelled hs (by simp only [List.length_append, List.length_cons, List.length_nil]; omega) (by rw [grp_dig k]; exact hd), Option.bind_some, gd_t (by omega), Int.tmod_eq_emod_of_nonneg hb.1]
 rfl
theorem n_chlI {gr : Group} (k : OkG gr) (s : ByteArray) {l : List Int} (hl : l.length ≤ 10000000000) : F_impl_Group_challenge gr s l = some (if labB s ([gr.P, gr.Q, gr.G] ++ l) = true then (chG gr s l, true) else (0, false)) := by
 have hq := k.q
 have hb := digB_t.1 (hshL_dig s ([gr.P, gr.Q, gr.G] ++ l))
 unfold F_impl_Group_challenge
 rw [gd_t (by simp only [List.length_cons, List.length_nil]; omega), n_HashLabelled, Option.bind_some]
 cases labB s ([gr.P, gr.Q, gr.G] ++ l) with
 | false => rfl
 | true =>
  simp only [if_true, Bool.not_true, Bool.false_eq_true, if_false]
  rw [gd_t (by omega), Int.tmod_eq_emod_of_nonneg hb.1]
  rfl
theorem lab_t {gr : Group} (k : OkG gr) {s : ByteArray} {l : List Int} (hs : s.size ≤ 40) (hl : 4 + s.size + l.length ≤ 400) (hd : l.all digB = true) : labB s ([gr.P, gr.Q, gr.G] ++ l) = true := by
 unfold labB
 rw [grp_dig k, hd, Bool.and_true, Bool.and_eq_true, decide_eq_true_eq, decide_eq_true_eq]
 simp only [List.length_append, List.length_cons, List.length_nil]
 omega
theorem has_dig {gr : Group} (k : OkG gr) {l : List Int} (h : l.all (hasB gr) = true) : l.all digB = true := by
 have hp := k.p
 rw [List.all_eq_true] at h ⊢
 intro x hx
 have := has_bd (h x hx)
 exact digB_t.2 (by omega)
theorem exp_dig {gr : Group} (k : OkG gr) {l : List Int} (h : l.all (expB gr) = true) : l.all digB = true := by
 have hp := k.p
 have hq := k.q
 rw [List.all_eq_true] at h ⊢
 intro x hx
 have := exp_bd (h x hx)
 exact digB_t.2 (by omega)
def prdG (gr : Group) : List Int → List Int → Int → Int
 | x :: l, e :: m, o => prdG gr l m (o * powG gr x e % gr.P)
 | _, _, o => o
theorem prdG_snoc (gr : Group) : ∀ (l m : List Int) (x e o : Int), l.length = m.length → prdG gr (l ++ [x]) (m ++ [e]) o = prdG gr l m o * powG gr x e % gr.P
 | [], [], x, e, o, _ => rfl
 | y :: l, f :: m, x, e, o, h => prdG_snoc gr l m x e _ (by simpa using h)
theorem prdG_cut (gr : Group) : ∀ (l m : List Int) (o : Int), prdG gr l (m.take l.length) o = prdG gr l m o
 | [], m, o => by cases m <;> rfl
 | y :: l, [], o => rfl
 | y :: l, f :: m, o => prdG_cut gr l m _
theorem prdG_bd {gr : Group} (h : 0 < gr.P) : ∀ (l m : List Int) (o : Int), 0 ≤ o ∧ o < gr.P → 0 ≤ prdG gr l m o ∧ prdG gr l m o < gr.P
 | x :: l, e :: m, o, _ => prdG_bd h l m _ ⟨Int.emod_nonneg _ (by omega), Int.emod_lt_of_pos _ h⟩
 | [], _, o, ho => ho
 | _ :: _, [], o, ho => ho
theorem mul_two {gr : Group} (k : OkG gr) {x y : Int} (hx : 0 ≤ x ∧ x < gr.P) (hy : 0 ≤ y) : mulG gr [x, y] = x * y % gr.P := by
 have hp := k.p
 simp only [mulG, List.foldl_cons, List.foldl_nil, Int.one_mul]
 rw [Int.emod_eq_of_lt hx.1 hx.2]
theorem n_gProd {gr : Group} (k : OkG gr) {l m : List Int} (hl : ∀ x ∈ l, 0 ≤ x ∧ x ≤ 2000000000) (hm : l.length ≤ m.length) : F_spec_gProd gr l m = some (prdG gr l m 1) := by
 have hp := k.p
 unfold F_spec_gProd
 refine eq_of_rn (rn_then (ψ := fun b => b = prdG gr l m 1) (rn_rloop (fun i s => s = prdG gr (l.take i) (m.take i) 1) rfl ?_ ?_) fun b hb => rn_some hb)
 ·rintro i s hi rfl
  have bd := prdG_bd (gr := gr) (by omega) (l.take i) (m.take i) 1 (by omega)
  have hx := hl l[i] (List.getElem_mem hi)
  have pb := powG_bd k l[i] (m[i]'(by omega))
  refine rn_ix hi (rn_ix (show i < m.length by omega) (rn_call (n_gExp k hx.1 hx.2 _) (rn_gd (by omega) (rn_some ?_))))
  show _ = prdG gr (l.take (i + 1)) (m.take (i + 1)) 1
  rw [List.take_succ_eq_append_getElem hi, List.take_succ_eq_append_getElem (show i < m.length by omega), prdG_snoc _ _ _ _ _ _ (by simp; omega)]
  have b1 := Int.mul_nonneg bd.1 pb.1
  have b2 : prdG gr (l.take i) (m.take i) 1 * powG gr l[i] (m[i]'(by omega)) ≤ 2000000000 * 2000000000 := Int.mul_le_mul (by omega) (by omega) pb.1 (by omega)
  rw [wr64 (by omega) (by omega), Int.tmod_eq_emod_of_nonneg b1]
 ·rintro s rfl
  rw [List.take_length, prdG_cut]
theorem n_powersI {gr : Group} (k : OkG gr) {l m : List Int} (hl : ∀ x ∈ l, 0 ≤ x ∧ x ≤ 2000000000) (hm : l.length ≤ m.length) : F_impl_Group_powers gr l m = some (prdG gr l m 1) := by
 have hp := k.p
 unfold F_impl_Group_powers
 refine eq_of_rn (rn_then (ψ := fun b => b = prdG gr l m 1) (rn_rloop (fun i s => s = prdG gr (l.take i) (m.take i) 1) rfl ?_ ?_) fun b hb => rn_some hb)
 ·rintro i s hi rfl
  have bd := prdG_bd (gr := gr) (by omega) (l.take i) (m.take i) 1 (by omega)
  have hx := hl l[i] (List.getElem_mem hi)
  have pb := powG_bd k l[i] (m[i]'(by omega))
  refine rn_ix hi (rn_ix (show i < m.length by omega) (rn_call (n_pow k hx.1 hx.2 _).1 (rn_call (n_mul k ?_) (rn_some ?_))))
  ·intro y hy
   simp only [List.mem_cons, List.not_mem_nil, or_false] at hy
   rcases hy with rfl | rfl <;> omega
  ·show _ = prdG gr (l.take (i + 1)) (m.take (i + 1)) 1
   rw [List.take_succ_eq_append_getElem hi, List.take_succ_eq_append_getElem (show i < m.length by omega), prdG_snoc _ _ _ _ _ _ (by simp; omega), mul_two k bd pb.1]
 ·rintro s rfl
  rw [List.take_length, prdG_cut]
structure LinS (gr : Group) (bs : List (List Int)) : Prop where
 n : 1 ≤ bs.length ∧ bs.length ≤ 8
 m : 1 ≤ (bs.headD []).length ∧ (bs.headD []).length ≤ 8
 r : ∀ r ∈ bs, r.length = (bs.headD []).length ∧ r.all (hasB gr) = true
theorem flatI_len : ∀ {bs : List (List Int)} {c : Nat}, (∀ r ∈ bs, r.length ≤ c) → bs.flatten.length ≤ bs.length * c
 | [], _, _ => by simp
 | r :: bs, c, h => by
  have h1 := h r (List.mem_cons_self ..)
  have h2 := flatI_len fun x hx => h x (List.mem_cons_of_mem r hx)
  rw [List.flatten_cons, List.length_append, List.length_cons, Nat.add_mul]
  omega
theorem LinS.flat {gr : Group} {bs : List (List Int)} (h : LinS gr bs) : bs.flatten.length ≤ 64 := by
 have := flatI_len (bs := bs) (c := 8) fun r hr => by rw [(h.r r hr).1]; exact h.m.2
 have := h.n
 omega
theorem LinS.dig {gr : Group} (k : OkG gr) {bs : List (List Int)} (h : LinS gr bs) : bs.flatten.all digB = true := by
 rw [List.all_eq_true]
 intro x hx
 obtain ⟨r, hr, hx⟩ := List.mem_flatten.1 hx
 exact List.all_eq_true.1 (has_dig k (h.r r hr).2) x hx
theorem LinS.hd {gr : Group} {bs : List (List Int)} (h : LinS gr bs) : ix bs 0 = some (bs.headD []) := by
 cases bs with
 | nil => have := h.n; simp at this
 | cons r l => rfl
theorem has_rng {gr : Group} (k : OkG gr) {l : List Int} (h : l.all (hasB gr) = true) : ∀ x ∈ l, 0 ≤ x ∧ x ≤ 2000000000 := fun x hx => by
 have hp := k.p
 have := has_bd (List.all_eq_true.1 h x hx)
 omega
theorem n_stmt {bs : List (List Int)} {im cs : List Int} (h1 : bs.flatten.length ≤ 1000000) (h2 : im.length ≤ 1048576) (h3 : cs.length ≤ 1048576) : F_spec_sStatement bs im cs = some (bs.flatten ++ im ++ cs) := by
 unfold F_spec_sStatement
 refine eq_of_rn (rn_then (ψ := fun r => r = bs.flatten) (rn_rloop (fun i s => s = (bs.take i).flatten) rfl ?_ ?_) ?_)
 ·rintro i s hi rfl
  have e := congrArg List.length (flatI_take hi)
  rw [List.length_append] at e
  have hl := flatI_le bs (i + 1)
  refine rn_ix hi (rn_gd (by omega) (rn_some ?_))
  show _ = _
  rw [flatI_take hi]
 ·rintro s rfl
  rw [List.take_length]
 ·rintro r rfl
  exact rn_gd (by omega) (rn_gd (by rw [List.length_append]; omega) (rn_some rfl))
theorem n_images {gr : Group} (k : OkG gr) {bs : List (List Int)} {es : List Int} (hb : LinS gr bs) (he : es.length = (bs.headD []).length) : F_impl_Group_images gr bs es = some (bs.map fun r => prdG gr r es 1) := by
 unfold F_impl_Group_images
 have hn := hb.n
 rw [rl_map (f := fun r => prdG gr r es 1) []]
 ·rfl
 ·intro i hi s hs
  have hr := hb.r _ (List.getElem_mem hi)
  rw [ix_at hi, Option.bind_some, n_powersI k (has_rng k hr.2) (by omega), Option.bind_some, gd_t (by simp at hs; omega)]
def verB (gr : Group) (s : ByteArray) (bs : List (List Int)) (im : List Int) (p : Proof) : Bool :=
 !(((p.Commits.length : Int) != (bs.length : Int)) || (((p.Challenges.length : Int) != 1) || (((p.Responses.length : Int) != ((bs.headD []).length : Int)) || (!p.Commits.all (hasB gr) || !p.Responses.all (expB gr))))) &&
 (!(p.Challenges.headD 0 != chG gr s (bs.flatten ++ im ++ p.Commits)) &&
 (List.range bs.length).all fun i => !(prdG gr (bs.getD i []) p.Responses 1 != mulG gr [p.Commits.getD i 0, powG gr (im.getD i 0) (p.Challenges.headD 0)]))
theorem n_sVerify {gr : Group} (k : OkG gr) {s : ByteArray} (hs : s.size ≤ 40) {bs : List (List Int)} {im : List Int} {p : Proof} (hb : LinS gr bs) (hi : im.length = bs.length) (hd : im.all (hasB gr) = true) (hc : p.Commits.length ≤ 1048576) :
 F_spec_sVerify gr s bs im p = some (verB gr s bs im p) := by
 have hp := k.p
 have hq := k.q
 unfold F_spec_sVerify verB
 simp only [hb.hd, n_gIs k, n_gExps (gr := gr) (by omega) (by omega), Option.bind_some, ite_or]
 cases hg : (((p.Commits.length : Int) != (bs.length : Int)) || (((p.Challenges.length : Int) != 1) || (((p.Responses.length : Int) != ((bs.headD []).length : Int)) || (!p.Commits.all (hasB gr) || !p.Responses.all (expB gr))))) with
 | true => rfl
 | false =>
  simp only [Bool.or_eq_false_iff, bne_eq_false_iff_eq, Bool.not_eq_false'] at hg
  obtain ⟨g1, g2, g3, g4, g5⟩ := hg
  have hf := hb.flat
  have hn := hb.n
  obtain ⟨c, hce⟩ : ∃ c, p.Challenges = [c] := by
   match h : p.Challenges, g2 with
   | [c], _ => exact ⟨c, rfl⟩
  have hdig : (bs.flatten ++ im ++ p.Commits).all digB = true := by
   rw [List.all_append, List.all_append, hb.dig k, has_dig k hd, has_dig k g4]; rfl
  simp only [Bool.false_eq_true, if_false, hce, show ix [c] 0 = some c from rfl, Option.bind_some, n_stmt (bs := bs) (im := im) (cs := p.Commits) (by omega) (by omega) hc]
  rw [n_hChallenge k (by omega) (by simp only [List.length_append]; omega) hdig, Option.bind_some]
  show _ = some (!false && (!(c != _) && _))
  by_cases hcc : c = chG gr s (bs.flatten ++ im ++ p.Commits)
  ·have e1 : (c != chG gr s (bs.flatten ++ im ++ p.Commits)) = false := by simpa using hcc
   rw [e1]
   simp only [Bool.false_eq_true, if_false, Bool.not_false, Bool.true_and]
   rw [n_allN (fun i => !(prdG gr (bs.getD i []) p.Responses 1 != mulG gr [p.Commits.getD i 0, powG gr (im.getD i 0) c])) false true]
   ·simp only [Bool.if_true_left, Bool.if_false_right, Bool.and_true, Bool.decide_eq_true, Bool.or_false]
    rfl
   ·intro i hi
    have hr := hb.r _ (List.getElem_mem hi)
    have h1 : i < p.Commits.length := by omega
    have h2 : i < im.length := by omega
    have ic := has_rng k g4 _ (List.getElem_mem h1)
    have ii := has_rng k hd _ (List.getElem_mem h2)
    have pb := powG_bd k im[i] c
    rw [ix_at hi, Option.bind_some, ix_at h1, Option.bind_some, ix_at h2, Option.bind_some, n_gProd k (has_rng k hr.2) (by omega), Option.bind_some, n_gExp k ii.1 ii.2, Option.bind_some, n_gMul k ?_, Option.bind_some]
    ·simp only [List.getD_eq_getElem?_getD, List.getElem?_eq_getElem hi, List.getElem?_eq_getElem h1, List.getElem?_eq_getElem h2, Option.getD_some]
     exact ite_n _ _ _
    ·intro y hy
     simp only [List.mem_cons, List.not_mem_nil, or_false] at hy
     rcases hy with rfl | rfl <;> omega
  ·have e1 : (c != chG gr s (bs.flatten ++ im ++ p.Commits)) = true := by simpa using hcc
   rw [e1]; rfl
theorem n_verifyI {gr : Group} (k : OkG gr) {s : ByteArray} (hs : s.size ≤ 40) {bs : List (List Int)} {im : List Int} {p : Proof} (hb : LinS gr bs) (hi : im.length = bs.length) (hd : im.all (hasB gr) = true) (hc : p.Commits.length ≤ 1048576) :
 F_impl_Group_verifyLinear gr s bs im p = some (verB gr s bs im p) := by
 have hp := k.p
 have hq := k.q
 unfold F_impl_Group_verifyLinear verB
 simp only [hb.hd, n_hasAll k, n_areExps (gr := gr) (by omega) (by omega), Option.bind_some, ite_or]
 cases hg : (((p.Commits.length : Int) != (bs.length : Int)) || (((p.Challenges.length : Int) != 1) || (((p.Responses.length : Int) != ((bs.headD []).length : Int)) || (!p.Commits.all (hasB gr) || !p.Responses.all (expB gr))))) with
 | true => rfl
 | false =>
  simp only [Bool.or_eq_false_iff, bne_eq_false_iff_eq, Bool.not_eq_false'] at hg
  obtain ⟨g1, g2, g3, g4, g5⟩ := hg
  have hf := hb.flat
  have hn := hb.n
  obtain ⟨c, hce⟩ : ∃ c, p.Challenges = [c] := by
   match h : p.Challenges, g2 with
   | [c], _ => exact ⟨c, rfl⟩
  have hdig : (bs.flatten ++ im ++ p.Commits).all digB = true := by
   rw [List.all_append, List.all_append, hb.dig k, has_dig k hd, has_dig k g4]; rfl
  have hfl : [bs.flatten, im, p.Commits].flatten = bs.flatten ++ im ++ p.Commits := by simp
  have hl : (bs.flatten ++ im ++ p.Commits).length ≤ 80 := by simp only [List.length_append]; omega
  simp only [Bool.false_eq_true, if_false, hce, show ix [c] 0 = some c from rfl, Option.bind_some, n_concatI bs (by omega), n_concatI [bs.flatten, im, p.Commits] (by rw [hfl]; omega), hfl]
  rw [n_chlI k s (by omega), if_pos (lab_t k hs (by omega) hdig), Option.bind_some]
  simp only [Bool.not_true, Bool.false_eq_true, if_false, Option.bind_some]
  show _ = some (!false && (!(c != _) && _))
  by_cases hcc : c = chG gr s (bs.flatten ++ im ++ p.Commits)
  ·have e1 : (c != chG gr s (bs.flatten ++ im ++ p.Commits)) = false := by simpa using hcc
   rw [e1, ← hcc]
   simp only [Bool.false_eq_true, if_false, Bool.not_false, Bool.true_and]
   rw [n_images k hb (by omega), Option.bind_some, n_allN (fun i => !(prdG gr (bs.getD i []) p.Responses 1 != mulG gr [p.Commits.getD i 0, powG gr (im.getD i 0) c])) false true]
   ·simp only [Bool.if_true_left, Bool.if_false_right, Bool.and_true, Bool.decide_eq_true, Bool.or_false, List.length_map]
    rfl
   ·intro i hi
    have hi' : i < bs.length := by simpa using hi
    have h1 : i < p.Commits.length := by omega
    have h2 : i < im.length := by omega
    have ic := has_rng k g4 _ (List.getElem_mem h1)
    have ii := has_rng k hd _ (List.getElem_mem h2)
    have pb := powG_bd k im[i] c
    rw [ix_at hi, Option.bind_some, ix_at h1, Option.bind_some, ix_at h2, Option.bind_some, (n_pow k ii.1 ii.2 _).1, Option.bind_some, n_mul k ?_, Option.bind_some]
    ·simp only [List.getElem_map, List.getD_eq_getElem?_getD, List.getElem?_eq_getElem hi', List.getElem?_eq_getElem h1, List.getElem?_eq_getElem h2, Option.getD_some]
     exact ite_n _ _ _
    ·intro y hy
     simp only [List.mem_cons, List.not_mem_nil, or_false] at hy
     rcases hy with rfl | rfl <;> omega
  ·have e1 : (c != chG gr s (bs.flatten ++ im ++ p.Commits)) = true := by simpa using hcc
   rw [e1]; rfl
theorem gen_has {gr : Group} (k : OkG gr) : hasB gr gr.G = true := by
 have hg := k.g
 simp only [hasB, Bool.and_eq_true, decide_eq_true_eq]
 exact ⟨by omega, k.o⟩
theorem rows_one {gr : Group} {x : Int} (h : hasB gr x = true) : LinS gr [[x]] := ⟨by simp, by simp, fun r hr => by
 rw [List.mem_singleton.1 hr]
 simp [h]⟩
def sgnB (gr : Group) (s : ByteArray) (key : Int) (p : Proof) : Bool := verB gr s [[gr.G]] [key] p
theorem n_signed {gr : Group} (k : OkG gr) {s : ByteArray} (hs : s.size ≤ 40) {key : Int} (hk : hasB gr key = true) {p : Proof} (hc : p.Commits.length ≤ 1048576) : F_spec_oSigned gr s key p = some (sgnB gr s key p) ∧ F_impl_Group_isSigned gr s key p = some (sgnB gr s key p) := by
 have hr := rows_one (gen_has k)
 have hd : [key].all (hasB gr) = true := by simp [hk]
 unfold F_spec_oSigned F_impl_Group_isSigned
 rw [n_sVerify k hs hr rfl hd hc, n_verifyI k hs hr rfl hd hc]
 exact ⟨rfl, rfl⟩
theorem sgn_form {gr : Group} (k : OkG gr) {s : ByteArray} {key : Int} {p : Proof} (h : sgnB gr s key p = true) : ∃ a b c, p = ⟨[a], [b], [c]⟩ ∧ digB a = true ∧ digB b = true ∧ digB c = true := by
 unfold sgnB verB at h
 simp only [Bool.and_eq_true, Bool.not_eq_true', Bool.or_eq_false_iff, bne_eq_false_iff_eq, Bool.not_eq_false'] at h
 obtain ⟨⟨g1, g2, g3, g4, g5⟩, g6, _⟩ := h
 have hq := k.q
 have hp := k.p
 obtain ⟨cs, ch, rs⟩ := p
 match cs, ch, rs, g1, g2, g3 with
 | [a], [b], [c], _, _, _ =>
  have h1 := has_dig k g4
  have h2 := exp_dig k g5
  have h3 := chG_bd k s ([[gr.G]].flatten ++ [key] ++ [a])
  refine ⟨a, b, c, rfl, by simpa using h1, ?_, by simpa using h2⟩
  have : b = chG gr s ([[gr.G]].flatten ++ [key] ++ [a]) := g6
  exact digB_t.2 (by omega)
def hxS : ByteArray := ⟨#[48, 49, 50, 51, 52, 53, 54, 55, 56, 57, 97, 98, 99, 100, 101, 102]⟩
def hxC (n : Int) : Int := (ixs hxS n).getD 0
theorem hx_at {n : Int} (h : 0 ≤ n ∧ n < 16) : ixs hxS n = some (hxC n) := by
 obtain ⟨k, rfl⟩ := Int.eq_ofNat_of_zero_le h.1
 have : ∀ k : Fin 16, ixs hxS (k.val : Int) = some (hxC (k.val : Int)) := by decide
 exact this ⟨k, by omega⟩
def hxD (d : Int) (k : Nat) : Int := d / 16 ^ k % 16
theorem hxD_bd (d : Int) (k : Nat) : 0 ≤ hxD d k ∧ hxD d k < 16 := by unfold hxD; omega
def hxL (d : Int) : List Int := (List.range 16).map fun i => hxC (hxD d (15 - i))
theorem bytes_size (l : List Int) : (bytesOf l).size = l.length := by
 show ((l.map fun n => UInt8.ofNat n.toNat).toArray).size = _
 simp
def hxT (d : Int) : ByteArray := bytesOf (hxL d)
theorem hxT_size (d : Int) : (hxT d).size = 16 := by unfold hxT; rw [bytes_size]; simp [hxL]
theorem n_textS {d : Int} (h : digB d = true) : F_spec_DigestText d = some (hxT d, true) := by
 have hd := digB_t.1 h
 unfold F_spec_DigestText
 rw [n_l3Digest, h, Option.bind_some]
 simp only [Bool.not_true, Bool.false_eq_true, if_false]
 rw [gd_t (by omega), Option.bind_some]
 have key := rn_cloop (σ := Int × List Int × Int) (β := List Int) (step := fun s17 =>
  if decide (0 ≤ s17.2.2) = true then (
  (ixs (⟨#[48, 49, 50, 51, 52, 53, 54, 55, 56, 57, 97, 98, 99, 100, 101, 102]⟩ : ByteArray) (s17.1.tmod 16)).bind fun x23 =>
  (ix s17.2.1 s17.2.2).bind fun x24 =>
  some (.go (IntKind.i64.wrap (s17.1.tdiv 16), s17.2.1.set s17.2.2.toNat x23, IntKind.i64.wrap (s17.2.2 - 1)))) else (
  some (.out s17.2.1))) (s0 := (d, List.replicate 16 0, 15)) (φ := fun l => l = hxL d) 16
  (fun j p => p.1 = d / 16 ^ j ∧ p.2.1.length = 16 ∧ p.2.2 = 15 - (j : Int) ∧ ∀ i (h : i < p.2.1.length), 15 < i + j → p.2.1[i] = hxC (hxD d (15 - i))) ⟨by simp, by simp, rfl, fun i h1 h2 => by simp at h1; omega⟩ ?_ ?_
 ·obtain ⟨l, e, rfl⟩ := key
  rw [e]; rfl
 ·rintro j ⟨a, l, c⟩ hj ⟨rfl, h2, rfl, h4⟩
  simp only at h2 h4
  have hp : (0 : Int) < 16 ^ j := Int.pow_pos (by omega)
  have h0 : 0 ≤ d / 16 ^ j := Int.ediv_nonneg hd.1 (by omega)
  have h1 : d / 16 ^ j ≤ d := Int.ediv_le_self _ hd.1
  obtain ⟨i, hi, e1⟩ : ∃ i : Nat, i < 16 ∧ 15 - (j : Int) = (i : Int) := ⟨15 - j, by omega, by omega⟩
  have hil : i < l.length := by omega
  have e2 : (d / 16 ^ j).tmod 16 = hxD d j := Int.tmod_eq_emod_of_nonneg h0
  have e3 : IntKind.i64.wrap ((d / 16 ^ j).tdiv 16) = d / 16 ^ (j + 1) := by
   rw [Int.tdiv_eq_ediv_of_nonneg h0, wr64 (by omega) (by omega), Int.ediv_ediv_of_nonneg (by omega), Int.pow_succ]
  dsimp only
  rw [e1]
  refine rn_t (by simp) (rn_call (by rw [e2]; exact hx_at (hxD_bd d j)) (rn_call (ix_at hil) (rn_some ⟨e3, by simpa using h2, ?_, fun t ht h5 => ?_⟩)))
  ·show IntKind.i64.wrap ((i : Int) - 1) = _
   rw [wr64 (by omega) (by omega)]; omega
  ·simp only [Int.toNat_natCast, List.getElem_set]
   split
   ·rename_i e; subst e
    have : 15 - i = j := by omega
    rw [this]
   ·exact h4 t (by simpa using ht) (by omega)
 ·rintro ⟨a, l, c⟩ ⟨rfl, h2, rfl, h4⟩
  simp only at h2 h4
  refine ⟨.out l, rfl, ?_⟩
  refine List.ext_getElem (by simp [hxL, h2]) fun i h5 h6 => ?_
  rw [h4 i h5 (by omega)]
  simp [hxL]
theorem and15 {x : Int} (hx : 0 ≤ x ∧ x ≤ 9223372036854775807) : IntKind.i64.wrap (BitVec.ofInt IntKind.i64.bits x &&& BitVec.ofInt IntKind.i64.bits 15).toNat = x % 16 := by
 obtain ⟨n, rfl⟩ := Int.eq_ofNat_of_zero_le hx.1
 have h1 : (BitVec.ofInt IntKind.i64.bits ((n : Nat) : Int) &&& BitVec.ofInt IntKind.i64.bits 15).toNat = n % 16 := by
  rw [BitVec.toNat_and]
  have a1 : (BitVec.ofInt IntKind.i64.bits (n : Int)).toNat = n := by
   rw [BitVec.toNat_ofInt]
   have : IntKind.i64.bits = 64 := rfl
   rw [this]
   omega
  have a2 : (BitVec.ofInt IntKind.i64.bits 15).toNat = 2 ^ 4 - 1 := by decide
  rw [a1, a2, Nat.and_two_pow_sub_one_eq_mod]
 rw [h1, wr64 (by omega) (by omega)]
 omega
theorem n_textI {d : Int} (h : digB d = true) : F_impl_DigestText d = some (hxT d, true) := by
 have hd := digB_t.1 h
 unfold F_impl_DigestText
 rw [n_isDigest, h, Option.bind_some]
 simp only [Bool.not_true, Bool.false_eq_true, if_false]
 refine eq_of_rn (rn_then (ψ := fun l => l = hxL d) (rn_cloop 16 (fun j p => p = ((List.range j).map fun i => hxC (hxD d (15 - i)), 15 - (j : Int))) rfl ?_ ?_) ?_)
 ·rintro j p hj rfl
  obtain ⟨i, hi, e1⟩ : ∃ i : Nat, i < 16 ∧ 15 - (j : Int) = (i : Int) := ⟨15 - j, by omega, by omega⟩
  have ei : 15 - j = i := by omega
  have e4 : (IntKind.u64.wrap (IntKind.i64.wrap (4 * (i : Int)))) = ((4 * i : Nat) : Int) := by
   rw [wr64 (by omega) (by omega), wrU (by omega) (by omega)]; omega
  have hm : min (4 * i) IntKind.i64.bits = 4 * i := Nat.min_eq_left (by show 4 * i ≤ 64; omega)
  have e16 : (2 : Int) ^ (4 * i) = 16 ^ i := by rw [Int.pow_mul]; rfl
  have hp : (0 : Int) < 16 ^ i := Int.pow_pos (by omega)
  have h0 : 0 ≤ d / 16 ^ i := Int.ediv_nonneg hd.1 (by omega)
  have h1 : d / 16 ^ i ≤ d := Int.ediv_le_self _ hd.1
  have ed : d.fdiv (16 ^ i) = d / 16 ^ i := Int.fdiv_eq_ediv_of_nonneg _ (by omega)
  rw [e1]
  refine rn_t (by simp) ?_
  dsimp only
  rw [e4, Int.toNat_natCast, hm, e16, ed, and15 (by omega)]
  refine rn_gd (by omega) (rn_call (hx_at (hxD_bd d i)) (rn_gd (by simp; omega) (rn_some ?_)))
  show (_, _) = _
  rw [List.range_succ, List.map_append, wr64 (by omega) (by omega)]
  have e5 : (i : Int) - 1 = 15 - ((j + 1 : Nat) : Int) := by omega
  rw [e5, ← ei]; rfl
 ·rintro p rfl
  exact rn_f rfl (rn_some rfl)
 ·rintro l rfl; exact rn_some rfl
theorem n_oText {d : Int} (h : digB d = true) : F_spec_oText d = some (hxT d) := by
 unfold F_spec_oText
 rw [n_textS h]; rfl
theorem n_signLabel {s : ByteArray} {d : Int} (hs : s.size ≤ 1000) (h : digB d = true) : F_impl_signLabel s d = some (s ++ hxT d) := by
 unfold F_impl_signLabel
 rw [n_textI h, Option.bind_some, gd_t (by rw [hxT_size]; omega)]
def cnt1 (l : List Int) : List Int := (l.length : Int) :: l
def encP (p : Proof) : List Int := cnt1 p.Commits ++ cnt1 p.Challenges ++ cnt1 p.Responses
theorem n_l4Put {a l : List Int} (ha : a.length ≤ 10000000) (hl : l.length ≤ 10000000) : F_spec_l4Put__mv0 a l = some (a ++ cnt1 l) := by
 unfold F_spec_l4Put__mv0
 rw [gd_t (by omega), gd_t (by simp; omega)]
 simp [cnt1]
theorem n_cProof {p : Proof} (h1 : p.Commits.length ≤ 1048576) (h2 : p.Challenges.length ≤ 1048576) (h3 : p.Responses.length ≤ 1048576) : F_spec_cProof p = some (encP p) := by
 unfold F_spec_cProof
 rw [n_l4Put (by simp) (by omega), Option.bind_some, n_l4Put (by simp [cnt1]; omega) (by omega), Option.bind_some, n_l4Put (by simp [cnt1]; omega) (by omega), Option.bind_some]
 simp [encP]
theorem n_cntI {l : List Int} (h : l.length ≤ 10000000) : F_impl_counted l = some (cnt1 l) := by
 unfold F_impl_counted
 rw [gd_t (by simp; omega)]; rfl
def recB (l : List Int) : Bool := decide ((l.length : Int) ≤ 400) && l.all digB
theorem n_isRecord (l : List Int) : F_impl_isRecord l = some (recB l) := by
 unfold F_impl_isRecord
 have h1 : F_impl_areAll__impl_isDigest l = some (l.all digB) := areAll_gen (f := F_impl_areAll_1__impl_isDigest) fun x _ => by
  unfold F_impl_areAll_1__impl_isDigest
  rw [n_isDigest]; rfl
 rw [h1, Option.bind_some, ite_and]; rfl
theorem n_record (l : List Int) : F_impl_record l = some (if recB l = true then (l, true) else ([], false)) := by
 unfold F_impl_record
 rw [n_isRecord]
 cases recB l <;> rfl
theorem n_EncodeProof {p : Proof} (h1 : p.Commits.length ≤ 1048576) (h2 : p.Challenges.length ≤ 1048576) (h3 : p.Responses.length ≤ 1048576) : F_impl_EncodeProof p = some (if recB (encP p) = true then (encP p, true) else ([], false)) := by
 have e : [cnt1 p.Commits, cnt1 p.Challenges, cnt1 p.Responses].flatten = encP p := by simp [encP]
 unfold F_impl_EncodeProof
 rw [n_cntI (by omega), Option.bind_some, n_cntI (by omega), Option.bind_some, n_cntI (by omega), Option.bind_some, n_concatI _ (by rw [e]; simp [encP, cnt1]; omega), Option.bind_some, e, n_record]
 cases recB (encP p) <;> rfl
theorem frec_eq {β : Type} {f : Nat → Option β} {n : Nat} {b : β} (h : f n = some b) (mono : ∀ n b, f n = some b → f (n + 1) = some b) : frec f = some b := by
 obtain ⟨b', m, h1, h2⟩ := frec_is h
 have up : ∀ k n b, f n = some b → f (n + k) = some b := by
  intro k
  induction k with
  | zero => intro n b h; exact h
  | succ k ih => intro n b h; exact mono _ _ (ih n b h)
 have a := up m n b h
 have c := up n m b' h2
 rw [Nat.add_comm m n, a] at c
 cases c; exact h1
def Ole {α : Type} (a b : Option α) : Prop := ∀ r, a = some r → b = some r
theorem ole_refl {α : Type} (a : Option α) : Ole a a := fun _ h => h
theorem ole_bind {α β : Type} {a b : Option α} {f g : α → Option β} (h : Ole a b) (hf : ∀ x, Ole (f x) (g x)) : Ole (a.bind f) (b.bind g) := fun r hr => by
 rw [Option.bind_eq_some_iff] at hr ⊢
 obtain ⟨x, h1, h2⟩ := hr
 exact ⟨x, h _ h1, hf x _ h2⟩
theorem ole_gd {α : Type} {p : Prop} [Decidable p] {a b : Option α} (h : Ole a b) : Ole (gd p a) (gd p b) := fun r hr => by
 unfold gd at hr ⊢
 split at hr
 ·rename_i hp; rw [if_pos hp]; exact h r hr
 ·cases hr
theorem ole_if {α : Type} {c : Prop} [Decidable c] {a b a' b' : Option α} (h : Ole a b) (h' : Ole a' b') : Ole (if c then a else a') (if c then b else b') := by
 split <;> assumption
theorem rootS_mono : ∀ (n : Nat) (l : List Int), Ole (F_spec_kRoot_r n l) (F_spec_kRoot_r (n + 1) l)
 | 0, _ => fun r h => by cases h
 | n + 1, l => by
  have ih := rootS_mono n
  rw [F_spec_kRoot_r, F_spec_kRoot_r]
  repeat' first | exact ole_refl _ | exact ih _ | apply ole_gd | apply ole_if | (refine ole_bind ?_ fun _ => ?_)
theorem rootI_mono : ∀ (n : Nat) (l : List Int), Ole (F_impl_rootOf_r n l) (F_impl_rootOf_r (n + 1) l)
 | 0, _ => fun r h => by cases h
 | n + 1, l => by
  have ih := rootI_mono n
  rw [F_impl_rootOf_r, F_impl_rootOf_r]
  repeat' first | exact ole_refl _ | exact ih _ | apply ole_gd | apply ole_if | (refine ole_bind ?_ fun _ => ?_)
theorem pathS_mono : ∀ (n : Nat) (m : Int) (l : List Int) (b : Bool), Ole (F_spec_kConsistency_r n m l b) (F_spec_kConsistency_r (n + 1) m l b)
 | 0, _, _, _ => fun r h => by cases h
 | n + 1, m, l, b => by
  have ih := pathS_mono n
  rw [F_spec_kConsistency_r, F_spec_kConsistency_r]
  repeat' first | exact ole_refl _ | exact ih _ _ _ | apply ole_gd | apply ole_if | (refine ole_bind ?_ fun _ => ?_)
theorem pathI_mono : ∀ (n : Nat) (m : Int) (l : List Int) (b : Bool), Ole (F_impl_prefixPath_r n m l b) (F_impl_prefixPath_r (n + 1) m l b)
 | 0, _, _, _ => fun r h => by cases h
 | n + 1, m, l, b => by
  have ih := pathI_mono n
  rw [F_impl_prefixPath_r, F_impl_prefixPath_r]
  repeat' first | exact ole_refl _ | exact ih _ _ _ | apply ole_gd | apply ole_if | (refine ole_bind ?_ fun _ => ?_)
def Spl (n s : Int) : Prop := (∃ j : Nat, s = 2 ^ j) ∧ s < n ∧ n ≤ 2 * s
theorem pow2_mono {i j : Nat} (h : i < j) : 2 * (2 : Int) ^ i ≤ 2 ^ j := by
 obtain ⟨d, rfl⟩ : ∃ d, j = i + 1 + d := ⟨j - (i + 1), by omega⟩
 rw [Int.pow_add, Int.pow_succ]
 have h1 : (0 : Int) < 2 ^ i := Int.pow_pos (by omega)
 have h2 : (0 : Int) < 2 ^ d := Int.pow_pos (by omega)
 have h3 : 2 ^ i * 2 * 1 ≤ (2 : Int) ^ i * 2 * 2 ^ d := Int.mul_le_mul_of_nonneg_left (by omega) (by omega)
 omega
theorem Spl_uniq {n s t : Int} (h : Spl n s) (h' : Spl n t) : s = t := by
 obtain ⟨⟨i, rfl⟩, h1, h2⟩ := h
 obtain ⟨⟨j, rfl⟩, h3, h4⟩ := h'
 rcases Nat.lt_trichotomy i j with h | h | h
 ·have := pow2_mono h; omega
 ·rw [h]
 ·have := pow2_mono h; omega
theorem n_kSplit {n : Int} (h1 : 2 ≤ n) (h2 : n ≤ 1000000) : Rn (F_spec_kSplit n) (Spl n) := by
 unfold F_spec_kSplit
 refine rn_then (ψ := Spl n) (rn_wloop (fun s => (∃ j : Nat, s = 2 ^ j) ∧ 1 ≤ s ∧ s < n) (fun s => (n - s).toNat) ⟨⟨0, rfl⟩, by omega, by omega⟩ ?_) fun a h => rn_some h
 rintro s ⟨⟨j, hj⟩, h3, h4⟩
 rw [wr64 (n := 2 * s) (by omega) (by omega), wr64 (n := s * 2) (by omega) (by omega)]
 refine rn_if (fun h => rn_some ⟨⟨⟨j + 1, by rw [Int.pow_succ, hj]⟩, by omega, ?_⟩, ?_⟩) fun h => rn_some ⟨⟨j, hj⟩, h4, ?_⟩
 ·have : 2 * s < n := by simpa using h
  omega
 ·have : 2 * s < n := by simpa using h
  omega
 ·have : ¬ 2 * s < n := by simpa using h
  omega
theorem n_half {n : Int} (h1 : 2 ≤ n) (h2 : n ≤ 64) : Rn (F_impl_half n) (Spl n) := by
 obtain ⟨k, hk⟩ : ∃ k : Nat, n = (k : Int) := ⟨n.toNat, by omega⟩
 subst hk
 have key : ∀ k : Fin 63, ∃ j : Fin 6, F_impl_half ((k.val + 2 : Nat) : Int) = some (2 ^ j.val) ∧ (2 : Int) ^ j.val < ((k.val + 2 : Nat) : Int) ∧ ((k.val + 2 : Nat) : Int) ≤ 2 * 2 ^ j.val := by decide +kernel
 obtain ⟨j, e, h3, h4⟩ := key ⟨k - 2, by omega⟩
 have ek : k - 2 + 2 = k := by omega
 simp only [ek] at e h3 h4
 exact ⟨_, e, ⟨j.val, rfl⟩, h3, h4⟩
theorem n_split {n : Nat} (h1 : 2 ≤ n) (h2 : n ≤ 64) : ∃ s : Nat, F_spec_kSplit (n : Int) = some (s : Int) ∧ F_impl_half (n : Int) = some (s : Int) ∧ 1 ≤ s ∧ s < n := by
 obtain ⟨s, e1, p1⟩ := n_kSplit (n := n) (by omega) (by omega)
 obtain ⟨t, e2, p2⟩ := n_half (n := n) (by omega) (by omega)
 have := Spl_uniq p1 p2
 subst this
 obtain ⟨⟨j, rfl⟩, h3, h4⟩ := p1
 have hp : (0 : Int) < 2 ^ j := Int.pow_pos (by omega)
 obtain ⟨s, hs⟩ : ∃ s : Nat, (2 : Int) ^ j = (s : Int) := ⟨((2 : Int) ^ j).toNat, by omega⟩
 rw [hs] at e1 e2 h3 h4 hp
 exact ⟨s, e1, e2, by omega, by omega⟩
def nodS : ByteArray := ⟨#[110, 111, 100, 101]⟩
theorem n_node {a b : Int} (ha : digB a = true) (hb : digB b = true) : F_spec_kNode a b = some (hshL nodS [a, b]) ∧ F_impl_nodeOf a b = some (hshL nodS [a, b]) := by
 have hd : [a, b].all digB = true := by simp [ha, hb]
 unfold F_spec_kNode F_impl_nodeOf
 have e1 : F_spec_hLabelled (⟨#[110, 111, 100, 101]⟩ : ByteArray) [a, b] = some (hshL nodS [a, b]) := n_hLabelled (by decide) (by simp) hd
 have e2 : F_impl_HashLabelled (⟨#[110, 111, 100, 101]⟩ : ByteArray) [a, b] = some (hshL nodS [a, b], true) := by
  rw [n_HashLabelled, if_pos]; rfl
  simp only [labB, hd, Bool.and_true]; rfl
 rw [e1, e2]
 exact ⟨rfl, rfl⟩
theorem cut_l (l : List Int) (s : Nat) : (l.take ((s : Nat) : Int).toNat).drop 0 = l.take s := by simp
theorem cut_r (l : List Int) (s : Nat) : (l.take l.length).drop ((s : Nat) : Int).toNat = l.drop s := by simp
theorem dig_take {l : List Int} (h : l.all digB = true) (s : Nat) : (l.take s).all digB = true := all_take h s
theorem dig_drop {l : List Int} (h : l.all digB = true) (s : Nat) : (l.drop s).all digB = true := by
 rw [List.all_eq_true] at h ⊢
 exact fun x hx => h x (List.mem_of_mem_drop hx)
theorem n_root_r : ∀ (n : Nat) (l : List Int), l.length ≤ n → l.length ≤ 64 → l.all digB = true → ∃ r, F_spec_kRoot_r (n + 1) l = some r ∧ F_impl_rootOf_r (n + 1) l = some r ∧ digB r = true
 | n, [], _, _, _ => by
  have e1 : F_spec_hLabelled (⟨#[101, 109, 112, 116, 121]⟩ : ByteArray) [] = some (hshL ⟨#[101, 109, 112, 116, 121]⟩ []) := n_hLabelled (by decide) (by simp) rfl
  have e2 : F_impl_HashLabelled (⟨#[101, 109, 112, 116, 121]⟩ : ByteArray) [] = some (hshL ⟨#[101, 109, 112, 116, 121]⟩ [], true) := by
   rw [n_HashLabelled, if_pos]; rfl
  rw [F_spec_kRoot_r, F_impl_rootOf_r, e1, e2]
  exact ⟨_, rfl, rfl, hshL_dig _ _⟩
 | n, [x], _, _, h => by
  rw [F_spec_kRoot_r, F_impl_rootOf_r]
  exact ⟨x, rfl, rfl, by simpa using h⟩
 | 0, x :: y :: l, h, _, _ => by simp at h
 | n + 1, x :: y :: l, h, h64, hd => by
  generalize hL : x :: y :: l = L at h h64 hd ⊢
  have h2 : 2 ≤ L.length := by rw [← hL]; simp
  obtain ⟨s, e1, e2, s1, s2⟩ := n_split h2 h64
  obtain ⟨a, a1, a2, a3⟩ := n_root_r n (L.take s) (by rw [List.length_take]; omega) (by rw [List.length_take]; omega) (dig_take hd s)
  obtain ⟨b, b1, b2, b3⟩ := n_root_r n (L.drop s) (by rw [List.length_drop]; omega) (by rw [List.length_drop]; omega) (dig_drop hd s)
  obtain ⟨c1, c2⟩ := n_node a3 b3
  rw [F_spec_kRoot_r, F_impl_rootOf_r]
  have z0 : ((L.length : Int) == 0) = false := beq_false_of_ne (by omega)
  have z1 : ((L.length : Int) == 1) = false := beq_false_of_ne (by omega)
  simp only [z0, z1, Bool.false_eq_true, if_false, e1, e2, Option.bind_some, cut_l, cut_r]
  have g1 : (0 : Int) ≤ (s : Int) := by omega
  have g2 : 0 ≤ ((s : Nat) : Int).toNat ∧ ((s : Nat) : Int).toNat ≤ L.length := by simp; omega
  have g3 : ((s : Nat) : Int).toNat ≤ L.length ∧ L.length ≤ L.length := by simp; omega
  simp only [gd_t g1, gd_t g2, gd_t g3, a1, a2, b1, b2, c1, c2, Option.bind_some]
  exact ⟨_, rfl, rfl, hshL_dig _ _⟩
theorem n_root {l : List Int} (h : l.length ≤ 64) (hd : l.all digB = true) : ∃ r, F_spec_kRoot l = some r ∧ F_impl_rootOf l = some r ∧ digB r = true := by
 obtain ⟨r, h1, h2, h3⟩ := n_root_r l.length l (Nat.le_refl _) h hd
 exact ⟨r, frec_eq (f := fun n_ => F_spec_kRoot_r n_ l) h1 fun n b => rootS_mono n l b, frec_eq (f := fun n_ => F_impl_rootOf_r n_ l) h2 fun n b => rootI_mono n l b, h3⟩
theorem n_path_r : ∀ (n : Nat) (m : Nat) (l : List Int) (w : Bool), l.length ≤ n → 1 ≤ m → m ≤ l.length → l.length ≤ 64 → l.all digB = true →
 ∃ r, F_spec_kConsistency_r (n + 1) (m : Int) l w = some r ∧ F_impl_prefixPath_r (n + 1) (m : Int) l w = some r ∧ r.all digB = true ∧ r.length ≤ l.length
 | n, m, l, w, h, h1, hm, h64, hd => by
  rw [F_spec_kConsistency_r, F_impl_prefixPath_r]
  obtain ⟨q, q1, q2, q3⟩ := n_root h64 hd
  rcases Nat.eq_or_lt_of_le hm with e | e
  ·have z : ((m : Int) == (l.length : Int)) = true := by simp; omega
   simp only [z, if_true, q1, q2, Option.bind_some]
   cases w with
   | true => exact ⟨[], rfl, rfl, rfl, by simp⟩
   | false => exact ⟨[q], rfl, rfl, by simp [q3], by simp; omega⟩
  ·have z : ((m : Int) == (l.length : Int)) = false := by simp; omega
   obtain ⟨s, e1, e2, s1, s2⟩ := n_split (n := l.length) (by omega) h64
   cases n with
   | zero => omega
   | succ n =>
   have g1 : (0 : Int) ≤ (s : Int) := by omega
   have g2 : 0 ≤ ((s : Nat) : Int).toNat ∧ ((s : Nat) : Int).toNat ≤ l.length := by simp; omega
   have g3 : ((s : Nat) : Int).toNat ≤ l.length ∧ l.length ≤ l.length := by simp; omega
   obtain ⟨u, u1, u2, u3⟩ := n_root (l := l.take s) (by rw [List.length_take]; omega) (dig_take hd s)
   obtain ⟨v, v1, v2, v3⟩ := n_root (l := l.drop s) (by rw [List.length_drop]; omega) (dig_drop hd s)
   simp only [z, Bool.false_eq_true, if_false, e1, e2, Option.bind_some, cut_l, cut_r, gd_t g1, gd_t g2, gd_t g3, u1, u2, v1, v2]
   by_cases hs : m ≤ s
   ·obtain ⟨r, r1, r2, r3, r4⟩ := n_path_r n m (l.take s) w (by rw [List.length_take]; omega) h1 (by rw [List.length_take]; omega) (by rw [List.length_take]; omega) (dig_take hd s)
    rw [List.length_take] at r4
    have g4 : (r.length + 1) * 8 ≤ 140737488355328 ∧ r.length + 1 ≤ 4611686018427387904 := by omega
    have z2 : decide ((m : Int) ≤ (s : Int)) = true := by simp; omega
    simp only [z2, if_true, r1, r2, Option.bind_some, gd_t g4]
    exact ⟨_, rfl, rfl, by rw [List.all_append, r3]; simp [v3], by rw [List.length_append]; simp; omega⟩
   ·obtain ⟨r, r1, r2, r3, r4⟩ := n_path_r n (m - s) (l.drop s) false (by rw [List.length_drop]; omega) (by omega) (by rw [List.length_drop]; omega) (by rw [List.length_drop]; omega) (dig_drop hd s)
    rw [List.length_drop] at r4
    have g4 : (r.length + 1) * 8 ≤ 140737488355328 ∧ r.length + 1 ≤ 4611686018427387904 := by omega
    have z2 : decide ((m : Int) ≤ (s : Int)) = false := by simp; omega
    have z3 : IntKind.i64.wrap ((m : Int) - (s : Int)) = ((m - s : Nat) : Int) := ceq (by omega) (by omega)
    simp only [z2, z3, Bool.false_eq_true, if_false, r1, r2, Option.bind_some, gd_t g4]
    exact ⟨_, rfl, rfl, by rw [List.all_append, r3]; simp [u3], by rw [List.length_append]; simp; omega⟩
theorem n_path {m : Nat} {l : List Int} (h1 : 1 ≤ m) (hm : m ≤ l.length) (h : l.length ≤ 64) (hd : l.all digB = true) (w : Bool) : ∃ r, F_spec_kConsistency (m : Int) l w = some r ∧ F_impl_prefixPath (m : Int) l w = some r ∧ r.all digB = true ∧ r.length ≤ l.length := by
 obtain ⟨r, r1, r2, r3⟩ := n_path_r l.length m l w (Nat.le_refl _) h1 hm h hd
 exact ⟨r, frec_eq (f := fun n_ => F_spec_kConsistency_r n_ m l w) r1 fun n b => pathS_mono n m l w b, frec_eq (f := fun n_ => F_impl_prefixPath_r n_ m l w) r2 fun n b => pathI_mono n m l w b, r3⟩
theorem n_allDig (l : List Int) : F_impl_areAll__impl_isDigest l = some (l.all digB) := areAll_gen (f := F_impl_areAll_1__impl_isDigest) fun x _ => by
 unfold F_impl_areAll_1__impl_isDigest
 rw [n_isDigest]; rfl
theorem n_allDigS (l : List Int) : F_spec_l1All l 0 4611686018427387903 = some (l.all digB) := n_l1All l _ _
def plaB (kind author : Int) (data : List Int) : Bool := inB 1 9 kind && (inB 0 39 author && (decide ((data.length : Int) ≤ 380) && data.all digB))
abbrev entS : ByteArray := ⟨#[101, 110, 116, 114, 121]⟩
abbrev entS' : ByteArray := ⟨#[101, 110, 116, 114, 121, 32]⟩
abbrev heaS : ByteArray := ⟨#[104, 101, 97, 100]⟩
abbrev heaS' : ByteArray := ⟨#[104, 101, 97, 100, 32]⟩
abbrev leaS : ByteArray := ⟨#[108, 101, 97, 102]⟩
def eD (kind author at_ : Int) (data : List Int) : Int := hshL entS ([kind, author, at_] ++ data)
theorem n_oPlain (e : Entry) : F_spec_oPlain e = some (plaB e.Kind e.Author e.Data) := by
 unfold F_spec_oPlain plaB
 simp only [n_inB, n_allDigS, Option.bind_some, ite_and]
theorem n_plainI (kind author : Int) (data : List Int) : F_impl_isPlainEntry kind author data = some (plaB kind author data) := by
 unfold F_impl_isPlainEntry plaB
 simp only [n_winB, n_allDig, Option.bind_some, ite_and]
theorem pla_dig {kind author : Int} {data : List Int} (h : plaB kind author data = true) {i : Int} (hi : 0 ≤ i ∧ i ≤ 63) : ([kind, author, i] ++ data).all digB = true ∧ data.length ≤ 380 := by
 simp only [plaB, Bool.and_eq_true, decide_eq_true_eq, inB_t] at h
 obtain ⟨h1, h2, h3, h4⟩ := h
 refine ⟨?_, by omega⟩
 rw [List.all_append, h4, Bool.and_true]
 simp only [List.all_cons, List.all_nil, Bool.and_true, Bool.and_eq_true]
 exact ⟨digB_t.2 (by omega), digB_t.2 (by omega), digB_t.2 (by omega)⟩
theorem n_oDigest {e : Entry} {i : Int} (h : plaB e.Kind e.Author e.Data = true) (hi : 0 ≤ i ∧ i ≤ 63) : F_spec_oDigest e i = some (eD e.Kind e.Author i e.Data) := by
 obtain ⟨h1, h2⟩ := pla_dig h hi
 unfold F_spec_oDigest
 rw [gd_t (by simp only [List.length_cons, List.length_nil]; omega), n_hLabelled (s := entS) (by decide) (by simp only [List.length_append, List.length_cons, List.length_nil]; omega) h1]
 rfl
theorem n_EntryDigest (kind author i : Int) {data : List Int} (hl : data.length ≤ 1048576) : F_impl_EntryDigest kind author i data = some (if (plaB kind author data && inB 0 63 i) = true then (eD kind author i data, true) else (0, false)) := by
 unfold F_impl_EntryDigest
 simp only [n_plainI, n_winB, Option.bind_some, ite_or]
 cases hp : plaB kind author data with
 | false => rfl
 | true =>
  cases hi : inB 0 63 i with
  | false => rfl
  | true =>
   obtain ⟨h1, h2⟩ := pla_dig hp (inB_t.1 hi)
   simp only [Bool.not_true, Bool.or_self, Bool.false_eq_true, if_false, Bool.and_self, if_true]
   rw [gd_t (by simp only [List.length_cons, List.length_nil]; omega), n_HashLabelled, if_pos]
   ·rfl
   ·simp only [labB, h1, Bool.and_true, Bool.and_eq_true, decide_eq_true_eq, List.length_append, List.length_cons, List.length_nil]
    exact ⟨by decide, by show 1 + 5 + _ ≤ 400; omega⟩
def accB (gr : Group) (key i : Int) (e : Entry) : Bool := plaB e.Kind e.Author e.Data && sgnB gr (entS' ++ hxT (eD e.Kind e.Author i e.Data)) key e.Sign
def lensP (p : Proof) : Prop := p.Commits.length ≤ 1048576 ∧ p.Challenges.length ≤ 1048576 ∧ p.Responses.length ≤ 1048576
def lensE (e : Entry) : Prop := e.Data.length ≤ 1048576 ∧ lensP e.Sign
def lensB (b : Board) : Prop := b.Keys.length ≤ 1048576 ∧ b.Entries.length ≤ 1048576 ∧ ∀ e ∈ b.Entries, lensE e
theorem lab_size (s : ByteArray) (d : Int) : (s ++ hxT d).size = s.size + 16 := by rw [ByteArray.size_append, hxT_size]
theorem n_accepts {gr : Group} (k : OkG gr) {key i : Int} (hk : hasB gr key = true) (hi : 0 ≤ i ∧ i ≤ 63) {e : Entry} (hl : lensE e) : F_spec_oAccepts gr key i e = some (accB gr key i e) ∧ F_impl_Group_isEntry gr key i e = some (accB gr key i e) := by
 unfold F_spec_oAccepts F_impl_Group_isEntry F_spec_oLabel
 rw [n_oPlain, n_EntryDigest _ _ _ hl.1]
 cases hp : plaB e.Kind e.Author e.Data with
 | false => simp [accB, hp]
 | true =>
  have hd : digB (eD e.Kind e.Author i e.Data) = true := hshL_dig _ _
  have hs : (entS' ++ hxT (eD e.Kind e.Author i e.Data)).size ≤ 40 := by rw [lab_size]; decide
  obtain ⟨s1, s2⟩ := n_signed k hs hk hl.2.1
  rw [inB_t.2 hi, n_oDigest hp hi]
  simp only [Bool.and_self, if_true, Option.bind_some]
  rw [n_oText hd, Option.bind_some, gd_t (by rw [hxT_size]; decide), Option.bind_some, show F_impl_signLabel (⟨#[101, 110, 116, 114, 121, 32]⟩ : ByteArray) (eD e.Kind e.Author i e.Data) = some (entS' ++ hxT (eD e.Kind e.Author i e.Data)) from n_signLabel (by decide) hd]
  simp only [Option.bind_some]
  rw [show F_spec_oSigned gr ((⟨#[101, 110, 116, 114, 121, 32]⟩ : ByteArray) ++ hxT (eD e.Kind e.Author i e.Data)) key e.Sign = _ from s1, s2]
  simp [accB, hp]
noncomputable def brdB (gr : Group) (b : Board) : Bool :=
 !(decide (40 < (b.Keys.length : Int)) || (!b.Keys.all (hasB gr) || decide (64 < (b.Entries.length : Int)))) &&
 (List.range b.Entries.length).all fun i => !(!inB 0 ((b.Keys.length : Int) - 1) (b.Entries.getD i ⟨0, 0, [], ⟨[], [], []⟩⟩).Author || !accB gr (b.Keys.getD (b.Entries.getD i ⟨0, 0, [], ⟨[], [], []⟩⟩).Author.toNat 0) i (b.Entries.getD i ⟨0, 0, [], ⟨[], [], []⟩⟩))
theorem ix_to {α : Type} {l : List α} {i : Int} (h0 : 0 ≤ i) (h : i < l.length) : ix l i = some (l[i.toNat]'(by omega)) := by
 obtain ⟨k, rfl⟩ := Int.eq_ofNat_of_zero_le h0
 exact ix_at (by omega)
theorem n_board {gr : Group} (k : OkG gr) {b : Board} (hl : lensB b) : F_spec_oBoard gr b = some (brdB gr b) ∧ F_impl_Group_isBoard gr b = some (brdB gr b) := by
 obtain ⟨l1, l2, l3⟩ := hl
 have ek : F_impl_Group_areKeys gr b.Keys = some (!(decide (40 < (b.Keys.length : Int)) || !b.Keys.all (hasB gr))) := by
  unfold F_impl_Group_areKeys
  rw [n_hasAll k, Option.bind_some, ite_and, Option.bind_some]
  by_cases h : (b.Keys.length : Int) ≤ 40
  ·have : ¬ 40 < (b.Keys.length : Int) := by omega
   simp [h, this]
  ·have : 40 < (b.Keys.length : Int) := by omega
   simp [h, this]
 unfold F_spec_oBoard F_impl_Group_isBoard brdB
 simp only [n_gIs k, ek, Option.bind_some, ite_or]
 rw [show (!(!(decide (40 < (b.Keys.length : Int)) || !b.Keys.all (hasB gr))) || decide (64 < (b.Entries.length : Int))) = (decide (40 < (b.Keys.length : Int)) || (!b.Keys.all (hasB gr) || decide (64 < (b.Entries.length : Int)))) by rw [Bool.not_not, Bool.or_assoc]]
 cases hg : (decide (40 < (b.Keys.length : Int)) || (!b.Keys.all (hasB gr) || decide (64 < (b.Entries.length : Int)))) with
 | true => exact ⟨rfl, rfl⟩
 | false =>
  simp only [Bool.or_eq_false_iff, decide_eq_false_iff_not, Bool.not_eq_false'] at hg
  obtain ⟨g1, g2, g3⟩ := hg
  simp only [Bool.false_eq_true, if_false, Bool.not_false, Bool.true_and]
  have w : IntKind.i64.wrap ((b.Keys.length : Int) - 1) = (b.Keys.length : Int) - 1 := wr64 (by omega) (by omega)
  constructor
  all_goals
   rw [n_allN (fun i => !(!inB 0 ((b.Keys.length : Int) - 1) (b.Entries.getD i ⟨0, 0, [], ⟨[], [], []⟩⟩).Author || !accB gr (b.Keys.getD (b.Entries.getD i ⟨0, 0, [], ⟨[], [], []⟩⟩).Author.toNat 0) i (b.Entries.getD i ⟨0, 0, [], ⟨[], [], []⟩⟩))) false true]
   ·simp only [Bool.if_true_left, Bool.if_false_right, Bool.and_true, Bool.decide_eq_true, Bool.or_false]
   ·intro i hi
    have he : b.Entries.getD i ⟨0, 0, [], ⟨[], [], []⟩⟩ = b.Entries[i] := by simp [hi]
    rw [ix_at hi, Option.bind_some, he, w]
    simp only [n_inB, n_winB, Option.bind_some]
    cases ha : inB 0 ((b.Keys.length : Int) - 1) b.Entries[i].Author with
    | false => rfl
    | true =>
     have ha := inB_t.1 ha
     have hal : b.Entries[i].Author.toNat < b.Keys.length := by omega
     have hx := List.all_eq_true.1 g2 _ (List.getElem_mem hal)
     have ha2 := n_accepts k hx (i := (i : Int)) (by omega) (l3 _ (List.getElem_mem hi))
     have hk : b.Keys.getD b.Entries[i].Author.toNat 0 = b.Keys[b.Entries[i].Author.toNat] := by simp [hal]
     rw [ix_to ha.1 (by omega), hk]
     simp only [Bool.not_true, Bool.false_eq_true, if_false, Option.bind_some, ha2.1, ha2.2, Bool.false_or, Bool.not_not]
     cases accB gr (b.Keys[b.Entries[i].Author.toNat]) (i : Int) b.Entries[i] <;> rfl
theorem brd_t {gr : Group} {b : Board} (h : brdB gr b = true) : b.Keys.length ≤ 40 ∧ b.Keys.all (hasB gr) = true ∧ b.Entries.length ≤ 64 ∧ ∀ i (hi : i < b.Entries.length), (0 ≤ b.Entries[i].Author ∧ b.Entries[i].Author < b.Keys.length) ∧ ∃ key, hasB gr key = true ∧ accB gr key i b.Entries[i] = true := by
 simp only [brdB, Bool.and_eq_true, Bool.not_eq_true', Bool.or_eq_false_iff, decide_eq_false_iff_not, Bool.not_eq_false', List.all_eq_true, List.mem_range] at h
 obtain ⟨⟨g1, g2, g3⟩, g4⟩ := h
 refine ⟨by omega, List.all_eq_true.2 g2, by omega, fun i hi => ?_⟩
 have he : b.Entries.getD i ⟨0, 0, [], ⟨[], [], []⟩⟩ = b.Entries[i] := by simp [hi]
 have := g4 i hi
 rw [he] at this
 obtain ⟨h1, h2⟩ := this
 have h1 := inB_t.1 h1
 have hal : b.Entries[i].Author.toNat < b.Keys.length := by omega
 have hk : b.Keys.getD b.Entries[i].Author.toNat 0 = b.Keys[b.Entries[i].Author.toNat] := by simp [hal]
 rw [hk] at h2
 exact ⟨by omega, _, g2 _ (List.getElem_mem hal), h2⟩
def leafE (i : Nat) (e : Entry) : Int := hshL leaS ([eD e.Kind e.Author i e.Data] ++ encP e.Sign)
def leaves (b : Board) : List Int := (List.range b.Entries.length).map fun i => leafE i (b.Entries.getD i ⟨0, 0, [], ⟨[], [], []⟩⟩)
theorem leaves_len (b : Board) : (leaves b).length = b.Entries.length := by simp [leaves]
theorem leaves_dig (b : Board) : (leaves b).all digB = true := by
 rw [List.all_eq_true]
 intro x hx
 obtain ⟨i, _, rfl⟩ := List.mem_map.1 hx
 exact hshL_dig _ _
theorem rl_rng {β γ : Type} {n : Nat} {f : Nat → β} {body : Int → List β → Option (Stp (List β) γ)} {stop : List β → γ} (hs : ∀ k (s : List β), k < n → s.length = k → body (k : Int) s = some (.go (s ++ [f k]))) :
 rloop body stop n 0 [] = some (stop ((List.range n).map f)) := by
 refine eq_of_rn (rn_rloop (fun k s => s = (List.range k).map f) rfl ?_ ?_)
 ·rintro k s hk rfl
  refine ⟨_, hs k _ hk (by simp), ?_⟩
  show _ = _
  rw [List.range_succ, List.map_append]; rfl
 ·rintro s rfl; rfl
theorem enc_form {a b c : Int} (ha : digB a = true) (hb : digB b = true) (hc : digB c = true) : (encP ⟨[a], [b], [c]⟩).all digB = true ∧ (encP ⟨[a], [b], [c]⟩).length = 6 := by
 simp [encP, cnt1, ha, hb, hc]
 decide
theorem n_leaves {gr : Group} (k : OkG gr) {b : Board} (hl : lensB b) (h : brdB gr b = true) : F_spec_oLeaves b = some (leaves b) ∧ F_impl_boardLeaves b = some (leaves b) := by
 obtain ⟨b1, b2, b3, b4⟩ := brd_t h
 unfold F_spec_oLeaves F_impl_boardLeaves
 have key : ∀ i (hi : i < b.Entries.length), plaB b.Entries[i].Kind b.Entries[i].Author b.Entries[i].Data = true ∧ (encP b.Entries[i].Sign).all digB = true ∧ (encP b.Entries[i].Sign).length = 6 := fun i hi => by
  obtain ⟨_, key, h1, h2⟩ := b4 i hi
  simp only [accB, Bool.and_eq_true] at h2
  obtain ⟨a, c, d, e, da, dc, dd⟩ := sgn_form k h2.2
  rw [e]
  exact ⟨h2.1, enc_form da dc dd⟩
 constructor
 ·rw [rl_rng (f := fun i => leafE i (b.Entries.getD i ⟨0, 0, [], ⟨[], [], []⟩⟩))]
  ·rfl
  ·intro i s hi hs
   obtain ⟨k1, k2, k3⟩ := key i hi
   have hd : digB (eD b.Entries[i].Kind b.Entries[i].Author i b.Entries[i].Data) = true := hshL_dig _ _
   have he : b.Entries.getD i ⟨0, 0, [], ⟨[], [], []⟩⟩ = b.Entries[i] := by simp [hi]
   obtain ⟨_, c1, c2, c3⟩ := hl.2.2 _ (List.getElem_mem hi)
   rw [ix_at hi, Option.bind_some, n_oDigest k1 (by omega), Option.bind_some, n_cProof c1 c2 c3, Option.bind_some, gd_t (by simp only [List.length_cons, List.length_nil]; omega), n_hLabelled (s := leaS) (by decide) (by simp only [List.length_append, List.length_cons, List.length_nil]; omega) (by rw [List.all_append, k2, Bool.and_true, List.all_cons, List.all_nil, Bool.and_true]; exact hd), Option.bind_some, gd_t (by omega), he]
   rfl
 ·rw [rl_rng (f := fun i => leafE i (b.Entries.getD i ⟨0, 0, [], ⟨[], [], []⟩⟩))]
  ·rfl
  ·intro i s hi hs
   obtain ⟨k1, k2, k3⟩ := key i hi
   have hd : digB (eD b.Entries[i].Kind b.Entries[i].Author i b.Entries[i].Data) = true := hshL_dig _ _
   have he : b.Entries.getD i ⟨0, 0, [], ⟨[], [], []⟩⟩ = b.Entries[i] := by simp [hi]
   obtain ⟨c0, c1, c2, c3⟩ := hl.2.2 _ (List.getElem_mem hi)
   have hr : recB (encP b.Entries[i].Sign) = true := by simp only [recB, k2, k3, Bool.and_true]; decide
   have hL : labB leaS ([eD b.Entries[i].Kind b.Entries[i].Author i b.Entries[i].Data] ++ encP b.Entries[i].Sign) = true := by
    simp only [labB, List.all_append, k2, Bool.and_true, List.length_append, k3, Bool.and_eq_true, decide_eq_true_eq]
    exact ⟨⟨by decide, by show 1 + 4 + (1 + 6) ≤ 400; omega⟩, by rw [List.all_cons, List.all_nil, Bool.and_true]; exact hd⟩
   rw [ix_at hi, Option.bind_some, n_EntryDigest _ _ _ c0, k1, inB_t.2 (by omega), Option.bind_some, n_EncodeProof c1 c2 c3, hr, Option.bind_some]
   simp only [Bool.and_self, if_true]
   rw [gd_t (by simp only [List.length_cons, List.length_nil]; omega)]
   unfold F_impl_LeafDigest
   rw [show F_impl_HashLabelled (⟨#[108, 101, 97, 102]⟩ : ByteArray) ([eD b.Entries[i].Kind b.Entries[i].Author i b.Entries[i].Data] ++ encP b.Entries[i].Sign) = some (hshL leaS _, true) from by rw [n_HashLabelled, show labB (⟨#[108, 101, 97, 102]⟩ : ByteArray) _ = true from hL]; rfl]
   simp only [Option.bind_some]
   rw [gd_t (by omega), he]
   rfl
def heaB (h : Head) : Bool := inB 0 39 h.Author && (inB 0 64 h.Size && digB h.Root)
def hdL (h : Head) : ByteArray := heaS' ++ hxT (hshL heaS [h.Author, h.Size, h.Root])
theorem n_oHead (h : Head) : F_spec_oHead h = some (heaB h) := by
 unfold F_spec_oHead heaB
 simp only [n_inB, n_l3Digest, Option.bind_some, ite_and]
theorem n_headI (h : Head) : F_impl_isPlainHead h.Author h.Size h.Root = some (heaB h) := by
 unfold F_impl_isPlainHead heaB
 simp only [n_winB, n_isDigest, Option.bind_some, ite_and]
def hdbB (gr : Group) (key : Int) (h : Head) : Bool := heaB h && sgnB gr (hdL h) key h.Sign
theorem n_headBy {gr : Group} (k : OkG gr) {key : Int} (hk : hasB gr key = true) {h : Head} (hl : lensP h.Sign) : F_spec_oHeadBy gr key h = some (hdbB gr key h) ∧ F_impl_Group_isHead gr key h = some (hdbB gr key h) := by
 unfold F_spec_oHeadBy F_impl_Group_isHead hdbB
 rw [n_oHead, n_headI]
 cases hh : heaB h with
 | false => exact ⟨rfl, rfl⟩
 | true =>
  simp only [heaB, Bool.and_eq_true, inB_t] at hh
  have hd : [h.Author, h.Size, h.Root].all digB = true := by
   simp only [List.all_cons, List.all_nil, Bool.and_true, Bool.and_eq_true]
   exact ⟨digB_t.2 (by omega), digB_t.2 (by omega), hh.2.2⟩
  have hd2 := hshL_dig heaS [h.Author, h.Size, h.Root]
  have hs : (hdL h).size ≤ 40 := by unfold hdL; rw [lab_size]; decide
  obtain ⟨s1, s2⟩ := n_signed k hs hk hl.1
  have e1 : F_spec_oHeadLabel h = some (hdL h) := by
   unfold F_spec_oHeadLabel
   rw [n_hLabelled (s := heaS) (by decide) (by simp) hd, Option.bind_some, n_oText hd2, Option.bind_some, gd_t (by rw [hxT_size]; decide)]
   rfl
  have e2 : F_impl_headLabel h.Author h.Size h.Root = some (hdL h) := by
   unfold F_impl_headLabel
   rw [show F_impl_HashLabelled (⟨#[104, 101, 97, 100]⟩ : ByteArray) [h.Author, h.Size, h.Root] = some (hshL heaS [h.Author, h.Size, h.Root], true) from by rw [n_HashLabelled, if_pos (by simp only [labB, hd, Bool.and_true]; rfl)], Option.bind_some]
   dsimp only
   rw [show F_impl_signLabel (⟨#[104, 101, 97, 100, 32]⟩ : ByteArray) _ = some (hdL h) from n_signLabel (by decide) hd2]; rfl
  simp only [Option.bind_some, if_true, e1, e2, s1, s2, Bool.true_and]
  exact ⟨trivial, trivial⟩
theorem n_checks {gr : Group} (k : OkG gr) {b : Board} (hl : lensB b) (hb : brdB gr b = true) {h : Head} (hh : lensP h.Sign) : ∃ t, F_spec_oChecks gr b h = some t ∧ F_impl_Group_fits gr b h = some t ∧ (t = true → 0 ≤ h.Size ∧ h.Size ≤ b.Entries.length) := by
 obtain ⟨b1, b2, b3, b4⟩ := brd_t hb
 have w : IntKind.i64.wrap ((b.Keys.length : Int) - 1) = (b.Keys.length : Int) - 1 := wr64 (by omega) (by omega)
 unfold F_spec_oChecks F_impl_Group_fits
 simp only [n_inB, n_winB, w, Option.bind_some]
 cases ha : inB 0 ((b.Keys.length : Int) - 1) h.Author with
 | false => exact ⟨false, rfl, rfl, fun h => by cases h⟩
 | true =>
  have ha := inB_t.1 ha
  have hal : h.Author.toNat < b.Keys.length := by omega
  have hx := List.all_eq_true.1 b2 _ (List.getElem_mem hal)
  obtain ⟨s1, s2⟩ := n_headBy k hx hh
  rw [ix_to ha.1 (by omega)]
  simp only [Bool.not_true, Bool.false_eq_true, if_false, if_true, Option.bind_some, s1, s2]
  cases hc : hdbB gr (b.Keys[h.Author.toNat]) h with
  | false => exact ⟨false, rfl, rfl, fun h => by cases h⟩
  | true =>
   simp only [hdbB, heaB, Bool.and_eq_true, inB_t] at hc
   by_cases hz : h.Size ≤ b.Entries.length
   ·have z1 : decide ((b.Entries.length : Int) < h.Size) = false := by simp; omega
    have z2 : decide (h.Size ≤ (b.Entries.length : Int)) = true := by simpa using hz
    have g2 : 0 ≤ h.Size.toNat ∧ h.Size.toNat ≤ (leaves b).length := by rw [leaves_len]; omega
    obtain ⟨v1, v2⟩ := n_leaves k hl hb
    obtain ⟨r, r1, r2, _⟩ := n_root (l := (leaves b).take h.Size.toNat) (by rw [List.length_take, leaves_len]; omega) (dig_take (leaves_dig b) _)
    simp only [Bool.not_true, Bool.false_eq_true, if_false, z1, z2, if_true, Option.bind_some, v1, v2, gd_t hc.1.2.1.1, gd_t g2, List.drop_zero, r1, r2]
    refine ⟨_, rfl, ?_, fun _ => ⟨hc.1.2.1.1, hz⟩⟩
    congr 1
    exact Bool.beq_comm
   ·have z1 : decide ((b.Entries.length : Int) < h.Size) = true := by simp; omega
    have z2 : decide (h.Size ≤ (b.Entries.length : Int)) = false := by simp; omega
    simp only [Bool.not_true, Bool.false_eq_true, if_false, z1, z2, if_true, Option.bind_some]
    exact ⟨false, rfl, rfl, fun h => by cases h⟩
theorem n_areBoard (gr : Group) {b : Board} (hl : lensB b) : F_impl_areBoard gr b = some (okG gr && (okG gr && brdB gr b)) := by
 unfold F_impl_areBoard
 rw [n_validG]
 cases hg : okG gr with
 | false => rfl
 | true => simp only [Option.bind_some, if_true, (n_board (okG_t.1 hg) hl).2, Bool.true_and]
theorem n_prefix (gr : Group) {b : Board} {a h : Head} (hl : lensB b) (ha : lensP a.Sign) (hh : lensP h.Sign) : ∃ l t, F_spec_ProvenPrefix gr b a h = some (l, t) ∧ F_impl_ProvenPrefix gr b a h = some (l, t) ∧ l.length ≤ 64 := by
 unfold F_spec_ProvenPrefix F_impl_ProvenPrefix
 rw [n_l2Good, n_areBoard gr hl]
 cases hg : okG gr with
 | false => exact ⟨[], false, rfl, rfl, by simp⟩
 | true =>
  have k := okG_t.1 hg
  simp only [Option.bind_some, Bool.not_true, Bool.false_eq_true, if_false, (n_board k hl).1, Bool.true_and]
  cases hb : brdB gr b with
  | false => exact ⟨[], false, rfl, rfl, by simp⟩
  | true =>
   obtain ⟨t, t1, t2, t3⟩ := n_checks k hl hb ha
   obtain ⟨u, u1, u2, u3⟩ := n_checks k hl hb hh
   obtain ⟨b1, b2, b3, b4⟩ := brd_t hb
   simp only [Bool.not_true, Bool.false_eq_true, if_false, t1, t2, u1, u2, n_inB, n_winB, Option.bind_some, ite_or]
   cases t with
   | false => exact ⟨[], false, rfl, rfl, by simp⟩
   | true =>
    cases u with
    | false => exact ⟨[], false, rfl, rfl, by simp⟩
    | true =>
     cases hi : inB 1 h.Size a.Size with
     | false => exact ⟨[], false, rfl, rfl, by simp⟩
     | true =>
      have hi := inB_t.1 hi
      obtain ⟨u4, u5⟩ := u3 rfl
      obtain ⟨v1, v2⟩ := n_leaves k hl hb
      have g2 : 0 ≤ h.Size.toNat ∧ h.Size.toNat ≤ (leaves b).length := by rw [leaves_len]; omega
      obtain ⟨m, hm⟩ : ∃ m : Nat, a.Size = (m : Int) := ⟨a.Size.toNat, by omega⟩
      have hlen : ((leaves b).take h.Size.toNat).length = h.Size.toNat := by rw [List.length_take, leaves_len]; omega
      obtain ⟨r, r1, r2, _, r3⟩ := n_path (m := m) (l := (leaves b).take h.Size.toNat) (by omega) (by omega) (by omega) (dig_take (leaves_dig b) _) true
      simp only [Bool.not_true, Bool.or_self, Bool.false_eq_true, if_false, v1, v2, Option.bind_some, gd_t u4, gd_t g2, List.drop_zero, hm, r1, r2]
      exact ⟨r, true, rfl, rfl, by omega⟩
theorem n_digestD {code c0 : List Int} {at_ seed n : Int} (hb : Bt code) (h : Cu code n (c0, at_, seed)) (hn : n ≤ 5000000000000000) : Rn (F_spec_l1Cur_digest__io0 c0 at_ seed) (fun z => Cu code (n + 4) z.2) := by
 unfold F_spec_l1Cur_digest__io0
 refine rn_then (n_pick hb h (by omega)) fun z1 ⟨_, _, _, _, y1⟩ => ?_
 refine rn_if (fun _ => rn_then (n_amongM hb y1 (by omega) (by simp)) fun z ⟨_, hz⟩ => rn_some (hz.mono (by omega))) fun _ => ?_
 refine rn_then (ψ := fun _ => True) (rn_if (fun _ => rn_some trivial) fun _ => rn_if (fun _ => rn_some trivial) fun _ => rn_some trivial) fun x6 _ => ?_
 refine rn_if (fun _ => ?_) fun _ => rn_then (n_pick hb y1 (by omega)) fun z ⟨_, _, _, _, hz⟩ => rn_some (hz.mono (by omega))
 refine rn_then (n_pick hb y1 (by omega)) fun z ⟨h0, _, _, h1, hz⟩ => ?_
 exact rn_call (n_hInts (by simp) (by simp [digB]; omega)) (rn_some (hz.mono (by omega)))
def sgnE (gr : Group) (s : ByteArray) (x w : Int) : Int := chG gr s ([[gr.G]].flatten ++ [powG gr gr.G x] ++ [powG gr gr.G w])
def sgnP (gr : Group) (s : ByteArray) (x w : Int) : Proof := ⟨[powG gr gr.G w], [sgnE gr s x w], [(w + sgnE gr s x w * x) % gr.Q]⟩
structure Gb (gr : Group) : Prop where
 p : 1 ≤ gr.P ∧ gr.P ≤ 2000000000
 q : 1 ≤ gr.Q ∧ gr.Q ≤ 2000000000
 g : 0 ≤ gr.G ∧ gr.G ≤ 2000000000
theorem OkG.gb {gr : Group} (k : OkG gr) : Gb gr := by
 have hp := k.p
 have hq := k.q
 have hg := k.g
 exact ⟨by omega, by omega, by omega⟩
theorem powG_b {gr : Group} (k : Gb gr) (x e : Int) : 0 ≤ powG gr x e ∧ powG gr x e ≤ gr.P - 1 := by
 have hp := k.p
 unfold powG
 have := Nat.mod_lt (x.toNat ^ (e % gr.Q).toNat) (show 0 < gr.P.toNat by omega)
 omega
theorem n_gExpB {gr : Group} (k : Gb gr) {x : Int} (h0 : 0 ≤ x) (h1 : x ≤ 2000000000) (e : Int) : F_spec_gExp gr x e = some (powG gr x e) := by
 have hp := k.p
 have hq := k.q
 have b1 := Int.emod_nonneg e (show gr.Q ≠ 0 by omega)
 have b2 := Int.emod_lt_of_pos e (show 0 < gr.Q by omega)
 unfold F_spec_gExp
 rw [n_nMod (by omega) hq.2, Option.bind_some, (n_powI h0 h1 hp.1 hp.2 b1 (by omega)).2]; rfl
theorem n_gProd1 {gr : Group} (k : Gb gr) (w : Int) : F_spec_gProd gr [gr.G] [w] = some (powG gr gr.G w) := by
 have hp := k.p
 have hg := k.g
 have hb := powG_b k gr.G w
 unfold F_spec_gProd
 refine eq_of_rn (rn_then (ψ := fun s => s = powG gr gr.G w) (rn_rloop (fun i s => s = if i = 0 then 1 else powG gr gr.G w) rfl ?_ fun s h => h) fun s h => rn_some h)
 rintro i s hi rfl
 have hi : i < 1 := hi
 obtain rfl : i = 0 := by omega
 refine rn_ix (l := [gr.G]) (by simp) (rn_ix (l := [w]) (by simp) (rn_call (n_gExpB k hg.1 hg.2 _) (rn_gd (by omega) (rn_some ?_))))
 show (IntKind.i64.wrap (1 * powG gr gr.G w)).tmod gr.P = powG gr gr.G w
 rw [Int.one_mul, wr64 (by omega) (by omega), Int.tmod_eq_emod_of_nonneg hb.1, Int.emod_eq_of_lt hb.1 (by omega)]
theorem n_images1 {gr : Group} (k : Gb gr) (w : Int) : F_spec_sImages gr [[gr.G]] [w] = some [powG gr gr.G w] := by
 unfold F_spec_sImages
 rw [rl_map (l := [[gr.G]]) (f := fun _ => powG gr gr.G w) []]
 ·rfl
 ·intro i hi s hs
  have hi : i < 1 := hi
  obtain rfl : i = 0 := by omega
  rw [ix_at (l := [[gr.G]]) (k := 0) (by simp), Option.bind_some]
  show (F_spec_gProd gr [gr.G] [w]).bind _ = _
  rw [n_gProd1 k, Option.bind_some, gd_t (by have := hs; simp only [List.length_nil] at this; omega)]
theorem dig_3 {gr : Group} (k : Gb gr) (x w : Int) : ([gr.P, gr.Q, gr.G] ++ ([[gr.G]].flatten ++ [powG gr gr.G x] ++ [powG gr gr.G w])).all digB = true := by
 have hp := k.p
 have hq := k.q
 have hg := k.g
 have b1 := powG_b k gr.G x
 have b2 := powG_b k gr.G w
 simp [digB]; omega
theorem sgnE_bd {gr : Group} (k : Gb gr) (s : ByteArray) (x w : Int) : 0 ≤ sgnE gr s x w ∧ sgnE gr s x w < gr.Q := by
 have hq := k.q
 exact ⟨Int.emod_nonneg _ (by omega), Int.emod_lt_of_pos _ (by omega)⟩
theorem n_oSign {gr : Group} (k : Gb gr) {s : ByteArray} (hs : s.size ≤ 1000) {x w : Int} (hx : 0 ≤ x ∧ x ≤ 2100000000) (hw : 0 ≤ w ∧ w ≤ 2100000000) : F_spec_oSign gr s x w = some (sgnP gr s x w) := by
 have hq := k.q
 have he := sgnE_bd k s x w
 have hc : F_spec_hChallenge gr s ([[gr.G]].flatten ++ [powG gr gr.G x] ++ [powG gr gr.G w]) = some (sgnE gr s x w) := by
  unfold F_spec_hChallenge
  rw [gd_t (by simp), n_hLabelled (by omega) (by simp) (dig_3 k x w), Option.bind_some, gd_t (by omega), Int.tmod_eq_emod_of_nonneg (digB_t.1 (hshL_dig s _)).1]; rfl
 unfold F_spec_oSign F_spec_sProve
 rw [show sgnP gr s x w = ⟨[powG gr gr.G w], [sgnE gr s x w], [(w + sgnE gr s x w * x) % gr.Q]⟩ from rfl]
 rw [n_images1 k, n_images1 k, Option.bind_some, Option.bind_some, n_stmt (by simp) (by simp) (by simp), Option.bind_some, hc, Option.bind_some]
 generalize sgnE gr s x w = c at he hc
 have hm : 0 ≤ c * x := Int.mul_nonneg he.1 hx.1
 have hm2 : c * x ≤ 2000000000 * 2100000000 := Int.mul_le_mul (by omega) hx.2 hx.1 (by omega)
 have hl : rloop (σ := List Int × List Int × List Int) (β := List Int × List Int × List Int) (fun i18 s17 => (ix [x] i18).bind fun x24 => (ix [w] i18).bind fun x25 => gd (gr.Q ≠ 0) <| gd ((s17.2.2.length + 1) * 8 ≤ 140737488355328 ∧ s17.2.2.length + 1 ≤ 4611686018427387904) <|
  some (.go (s17.1, s17.2.1, s17.2.2 ++ [(IntKind.i64.wrap (x25 + (IntKind.i64.wrap (c * x24)))).tmod gr.Q]))) (fun s17 => (s17.1, s17.2.1, s17.2.2)) ([x].length) 0 ([powG gr gr.G w], [c], []) = some ([powG gr gr.G w], [c], [(w + c * x) % gr.Q]) := by
  refine eq_of_rn (rn_rloop (fun i s => s = if i = 0 then ([powG gr gr.G w], [c], []) else ([powG gr gr.G w], [c], [(w + c * x) % gr.Q])) rfl ?_ fun s h => h)
  rintro i s hi rfl
  have hi : i < 1 := hi
  obtain rfl : i = 0 := by omega
  refine rn_ix (l := [x]) (by simp) (rn_ix (l := [w]) (by simp) (rn_gd (by omega) (rn_gd (by simp) (rn_some ?_))))
  show (_, _, [(IntKind.i64.wrap (w + IntKind.i64.wrap (c * x))).tmod gr.Q]) = _
  rw [wr64 (n := c * x) (by omega) (by omega), wr64 (by omega) (by omega), Int.tmod_eq_emod_of_nonneg (by omega)]; rfl
 rw [hl, Option.bind_some, Option.bind_some]
def sgE (gr : Group) (x kind author at_ : Int) (data : List Int) (w : Int) : Entry := ⟨kind, author, data, sgnP gr (entS' ++ hxT (eD kind author at_ data)) x w⟩
theorem n_oEntry {gr : Group} (k : Gb gr) {x w kind author i : Int} {data : List Int} (hx : 0 ≤ x ∧ x ≤ 2100000000) (hw : 0 ≤ w ∧ w ≤ 2100000000) (h : plaB kind author data = true) (hi : 0 ≤ i ∧ i ≤ 63) : F_spec_oEntry gr x kind author i data w = some (sgE gr x kind author i data w) := by
 have hd := (pla_dig h hi).2
 unfold F_spec_oEntry F_spec_oLabel
 rw [n_l1Own (by omega), Option.bind_some, n_oDigest h hi, Option.bind_some, n_oText (d := eD kind author i data) (hshL_dig _ _), Option.bind_some, gd_t (by rw [hxT_size]; decide), Option.bind_some, n_oSign k (by rw [ByteArray.size_append, hxT_size]; decide) hx hw]
 rfl
structure GdE (e : Entry) : Prop where
 p : plaB e.Kind e.Author e.Data = true
 l : e.Data.length ≤ 5
 s : ∃ a b c, e.Sign = ⟨[a], [b], [c]⟩ ∧ digB a = true ∧ digB b = true ∧ digB c = true
structure GdB (b : Board) (m : Nat) : Prop where
 k : b.Keys.length ≤ 4
 l : b.Entries.length ≤ m
 e : ∀ e ∈ b.Entries, GdE e
theorem sgE_gd {gr : Group} (k : Gb gr) {x w kind author i : Int} {data : List Int} (hx : 0 ≤ x) (hw : 0 ≤ w) (h : plaB kind author data = true) (hl : data.length ≤ 5) : GdE (sgE gr x kind author i data w) := by
 have hp := k.p
 have hq := k.q
 have b1 := powG_b k gr.G w
 have b2 := sgnE_bd k (entS' ++ hxT (eD kind author i data)) x w
 have b3 := Int.emod_nonneg (w + sgnE gr (entS' ++ hxT (eD kind author i data)) x w * x) (show gr.Q ≠ 0 by omega)
 have b4 := Int.emod_lt_of_pos (w + sgnE gr (entS' ++ hxT (eD kind author i data)) x w * x) (show 0 < gr.Q by omega)
 exact ⟨h, hl, _, _, _, rfl, digB_t.2 (by omega), digB_t.2 (by omega), digB_t.2 (by omega)⟩
theorem n_longer {code c0 : List Int} {at_ seed n : Int} {gr : Group} {b : Board} {ss : List Int} (hb : Bt code) (h : Cu code n (c0, at_, seed)) (hn : n ≤ 3000000000000000) (k : Gb gr) (h1 : 1 ≤ ss.length) (h4 : ss.length ≤ 4) (hs : ∀ x ∈ ss, 0 ≤ x ∧ x ≤ 2100000000) (hl : b.Entries.length ≤ 63) :
 Rn (F_spec_l1Cur_longer__io0 c0 at_ seed gr b ss) (fun z => (∃ e, GdE e ∧ z.1 = ⟨b.Keys, b.Entries ++ [e]⟩) ∧ Cu code (n + 20) z.2) := by
 have hq := k.q
 unfold F_spec_l1Cur_longer__io0
 refine rn_then (n_pick hb h (by omega)) fun z1 ⟨a0, a1, a2, _, y1⟩ => ?_
 have ha : z1.1 < (ss.length : Int) := by
  rcases Int.lt_or_le 1 (ss.length : Int) with g | g
  ·exact a2 g
  ·have := a1 g; omega
 refine rn_then (n_pick hb y1 (by omega)) fun z2 ⟨c0', _, c1, _, y2⟩ => ?_
 have c1 := c1 (by omega)
 refine rn_then (ψ := fun x => (x.2.length ≤ 4 ∧ x.2.all digB = true) ∧ Cu code (n + 14) x.1) (rn_wloop (fun s => 0 ≤ s.2.2 ∧ (s.2.1.length : Int) + s.2.2 ≤ 4 ∧ s.2.1.all digB = true ∧ Cu code (n + 4 + 2 * (s.2.1.length : Int)) s.1) (fun s => s.2.2.toNat) ⟨c0', by simp; omega, rfl, y2.mono (by simp; omega)⟩ ?_) fun x ⟨⟨x1, x2⟩, x3⟩ => ?_
 ·rintro s ⟨s1, s2, s3, s4⟩
  refine rn_if (fun g => ?_) fun _ => rn_some ⟨⟨by show s.2.1.length ≤ 4; omega, s3⟩, s4.mono (by omega)⟩
  have g : 0 < s.2.2 := by simpa using g
  refine rn_then (n_pick hb s4 (by omega)) fun z ⟨d0, _, d1, _, hz⟩ => rn_gd (by omega) (rn_some ?_)
  have d1 := d1 (by omega)
  have e : IntKind.i64.wrap (s.2.2 - 1) = s.2.2 - 1 := wr64 (by omega) (by omega)
  rw [e]
  refine ⟨⟨by show 0 ≤ s.2.2 - 1; omega, by show (((s.2.1 ++ [z.1]).length : Nat) : Int) + (s.2.2 - 1) ≤ 4; simp; omega, ?_, hz.mono (by show _ ≤ n + 4 + 2 * (((s.2.1 ++ [z.1]).length : Nat) : Int); simp; omega)⟩, by show (s.2.2 - 1).toNat < s.2.2.toNat; omega⟩
  show (s.2.1 ++ [z.1]).all digB = true
  rw [List.all_append, s3, List.all_cons, List.all_nil, digB_t.2 (by omega)]; rfl
 obtain ⟨i, hi⟩ := Int.eq_ofNat_of_zero_le a0
 have hi' : i < ss.length := by omega
 have hx := hs _ (List.getElem_mem hi')
 rw [hi]
 refine rn_ix hi' ?_
 refine rn_then (n_pick hb x3 (by omega)) fun z3 ⟨d0, _, d1, _, y3⟩ => ?_
 have d1 := d1 (by omega)
 refine rn_then (n_expo hb y3 (by omega) (by omega)) fun z4 ⟨e0, e1, _, y4⟩ => ?_
 rw [wr64 (n := 1 + z3.1) (by omega) (by omega)]
 have hp : plaB (1 + z3.1) (i : Int) x.2 = true := by
  simp only [plaB, Bool.and_eq_true, decide_eq_true_eq, inB_t]
  exact ⟨by omega, by omega, by omega, x2⟩
 refine rn_call (n_oEntry k hx ⟨e0, e1⟩ hp (by omega)) (rn_gd (by omega) (rn_gd (by omega) (rn_some ⟨⟨_, sgE_gd k hx.1 e0 hp (by omega), rfl⟩, y4.mono (by omega)⟩)))
theorem n_boardD {code c0 : List Int} {at_ seed n : Int} {gr : Group} (hb : Bt code) (h : Cu code n (c0, at_, seed)) (hn : n ≤ 2000000000000000) (k : Gb gr) :
 Rn (F_spec_l1Cur_board__io0 c0 at_ seed gr) (fun z => GdB z.1 4 ∧ z.1.Keys.length = z.2.1.length ∧ (1 ≤ z.2.1.length ∧ z.2.1.length ≤ 4 ∧ ∀ x ∈ z.2.1, 0 ≤ x ∧ x ≤ 2100000000) ∧ Cu code (n + 150) z.2.2) := by
 have hq := k.q
 have hp := k.p
 have hg := k.g
 unfold F_spec_l1Cur_board__io0
 refine rn_then (n_pick hb h (by omega)) fun z1 ⟨a0, _, a1, _, y1⟩ => ?_
 have a1 := a1 (by omega)
 obtain ⟨i, hi⟩ := Int.eq_ofNat_of_zero_le a0
 rw [hi, wr64 (n := 1 + (i : Int)) (by omega) (by omega), show 1 + (i : Int) = ((1 + i : Nat) : Int) by omega]
 refine rn_then (n_coins hb y1 (by omega) ⟨by omega, by omega, by omega⟩ (by omega)) fun z2 ⟨c1, c2, y2⟩ => ?_
 refine rn_then (ψ := fun x => x.1.length = z2.1.length ∧ x.2 = []) (rn_rloop (fun j s => s.1.length = j ∧ s.2 = []) ⟨rfl, rfl⟩ ?_ fun s h => h) fun x ⟨x1, x2⟩ => ?_
 ·rintro j s hj ⟨s1, s2⟩
  exact rn_ix hj (rn_call (n_gExpB k hg.1 hg.2 _) (rn_gd (by omega) (rn_some ⟨by show (s.1 ++ [_]).length = _; simp [s1], s2⟩)))
 refine rn_then (n_pick hb y2 (by omega)) fun z3 ⟨b0, _, b1, _, y3⟩ => ?_
 have b1 := b1 (by omega)
 refine rn_then (ψ := fun v => GdB ⟨v.2.1, v.2.2⟩ 4 ∧ v.2.1.length = z2.1.length ∧ Cu code (n + 150) v.1) (rn_wloop (fun s => 0 ≤ s.2.2.2 ∧ (s.2.2.1.length : Int) + s.2.2.2 ≤ 4 ∧ GdB ⟨s.2.1, s.2.2.1⟩ 4 ∧ s.2.1.length = z2.1.length ∧ Cu code (n + 30 + 20 * (s.2.2.1.length : Int)) s.1) (fun s => s.2.2.2.toNat) ?_ ?_) fun v ⟨v1, v2, v3⟩ => rn_some ⟨v1, v2, ⟨by show 1 ≤ z2.1.length; omega, by show z2.1.length ≤ 4; omega, fun x hx => by have := c2 x hx; omega⟩, v3⟩
 ·refine ⟨b0, ?_, ⟨by show x.1.length ≤ 4; omega, by show x.2.length ≤ 4; rw [x2]; simp, fun e he => ?_⟩, x1, y3.mono ?_⟩
  ·show (x.2.length : Int) + z3.1 ≤ 4
   rw [x2]; simp; omega
  ·have he : e ∈ x.2 := he
   rw [x2] at he; simp at he
  ·show _ ≤ n + 30 + 20 * (x.2.length : Int)
   rw [x2]; simp; omega
 ·rintro s ⟨s1, s2, s3, s4, s5⟩
  refine rn_if (fun g => ?_) fun _ => rn_some ⟨s3, s4, s5.mono (by omega)⟩
  have g : 0 < s.2.2.2 := by simpa using g
  refine rn_then (n_longer hb s5 (by omega) k (by omega) (by omega) (fun x hx => by have := c2 x hx; omega) (by show s.2.2.1.length ≤ 63; omega)) fun z ⟨⟨e, e1, e2⟩, hz⟩ => rn_some ?_
  have ew : IntKind.i64.wrap (s.2.2.2 - 1) = s.2.2.2 - 1 := wr64 (by omega) (by omega)
  rw [ew, e2]
  have hlen : (s.2.2.1 ++ [e]).length = s.2.2.1.length + 1 := by simp
  refine ⟨⟨by show 0 ≤ s.2.2.2 - 1; omega, by show (((s.2.2.1 ++ [e]).length : Nat) : Int) + (s.2.2.2 - 1) ≤ 4; omega, ⟨s3.k, by show (s.2.2.1 ++ [e]).length ≤ 4; omega, fun f hf => ?_⟩, s4, hz.mono (by show _ ≤ n + 30 + 20 * (((s.2.2.1 ++ [e]).length : Nat) : Int); omega)⟩, by show (s.2.2.2 - 1).toNat < s.2.2.2.toNat; omega⟩
  rcases List.mem_append.1 (show f ∈ s.2.2.1 ++ [e] from hf) with hf | hf
  ·exact s3.e f hf
  ·rw [List.mem_singleton.1 hf]; exact e1
def SmP (p : Proof) : Prop := p.Commits.length ≤ 1001 ∧ p.Challenges.length ≤ 1001 ∧ p.Responses.length ≤ 1001
def SmE (e : Entry) : Prop := e.Data.length ≤ 1001 ∧ SmP e.Sign
def SmB (b : Board) : Prop := b.Keys.length ≤ 10 ∧ b.Entries.length ≤ 10 ∧ ∀ e ∈ b.Entries, SmE e
theorem smP_l {p : Proof} (h : SmP p) : lensP p := ⟨by have := h.1; omega, by have := h.2.1; omega, by have := h.2.2; omega⟩
theorem SmP.l {p : Proof} (h : SmP p) : lensP p := ⟨by have := h.1; omega, by have := h.2.1; omega, by have := h.2.2; omega⟩
theorem SmE.l {e : Entry} (h : SmE e) : lensE e := ⟨by have := h.1; omega, h.2.l⟩
theorem SmB.l {b : Board} (h : SmB b) : lensB b := ⟨by have := h.1; omega, by have := h.2.1; omega, fun e he => (h.2.2 e he).l⟩
theorem GdE.sm {e : Entry} (h : GdE e) : e.Data.length ≤ 1000 ∧ e.Sign.Commits.length ≤ 1000 ∧ e.Sign.Challenges.length ≤ 1000 ∧ e.Sign.Responses.length ≤ 1000 := by
 obtain ⟨a, b, c, hs, _⟩ := h.s
 have := h.l
 rw [hs]
 exact ⟨by omega, by simp, by simp, by simp⟩
theorem GdE.sml {e : Entry} (h : GdE e) : SmE e := by
 have := h.sm
 exact ⟨by omega, by omega, by omega, by omega⟩
theorem GdB.s {b : Board} {m : Nat} (h : GdB b m) (hm : m ≤ 10) : SmB b := ⟨by have := h.k; omega, by have := h.l; omega, fun e he => (h.e e he).sml⟩
theorem n_spoiltP {code c0 : List Int} {at_ seed n : Int} {gr : Group} {p : Proof} (hb : Bt code) (h : Cu code n (c0, at_, seed)) (hn : n ≤ 3000000000000000) (k : Gw gr) (hp : p.Commits.length ≤ 1000 ∧ p.Challenges.length ≤ 1000 ∧ p.Responses.length ≤ 1000) :
 Rn (F_spec_l1Cur_spoiltProof__io0 c0 at_ seed gr p) (fun z => SmP z.1 ∧ Cu code (n + 12) z.2) := by
 unfold F_spec_l1Cur_spoiltProof__io0
 rw [n_l1Own (l := p.Commits) (by omega), n_l1Own (l := p.Challenges) (by omega), n_l1Own (l := p.Responses) (by omega)]
 simp only [Option.bind_some]
 refine rn_then (n_pick hb h (by omega)) fun z1 ⟨_, _, _, _, y1⟩ => ?_
 have sp : SmP p := ⟨by omega, by omega, by omega⟩
 have pk : ∀ l : List Int, 0 < l.length → Rn (F_spec_l1Cur_pick__io0 z1.2.1 z1.2.2.1 z1.2.2.2 (l.length : Int)) (fun z => (∃ i : Nat, z.1 = (i : Int) ∧ i < l.length) ∧ Cu code (n + 4) z.2) := fun l hl => by
  obtain ⟨v, v1, w0, w1, w2, _, w3⟩ := n_pick (m := (l.length : Int)) hb y1 (by omega)
  obtain ⟨i, hi⟩ := Int.eq_ofNat_of_zero_le w0
  refine ⟨v, v1, ⟨i, hi, ?_⟩, w3.mono (by omega)⟩
  rcases Int.lt_or_le 1 (l.length : Int) with g | g
  ·have := w2 g; omega
  ·have := w1 g; omega
 refine rn_then (ψ := fun x => match x with | .inl v => SmP ⟨v.2.1, v.2.2.1, v.2.2.2⟩ ∧ Cu code (n + 12) v.1 | .inr v => SmP v.1 ∧ Cu code (n + 12) v.2) ?_ ?_
 ·refine rn_if (fun _ => rn_if (fun g => ?_) fun _ => rn_some ⟨sp, y1.mono (by omega)⟩) fun _ => ?_
  ·have g : 0 < p.Responses.length := by simpa using g
   refine rn_then (pk _ g) fun z2 ⟨⟨i, e, hi⟩, y2⟩ => ?_
   refine rn_then (n_anyExpo hb y2 (by omega) k) fun z3 ⟨_, _, y3⟩ => ?_
   rw [e]
   exact rn_ix hi (rn_some ⟨⟨by show p.Commits.length ≤ 1001; omega, by show p.Challenges.length ≤ 1001; omega, by show (p.Responses.set _ _).length ≤ 1001; simp; omega⟩, y3.mono (by omega)⟩)
  refine rn_if (fun _ => rn_if (fun g => ?_) fun _ => rn_some ⟨sp, y1.mono (by omega)⟩) fun _ => ?_
  ·have g : 0 < p.Commits.length := by simpa using g
   refine rn_then (pk _ g) fun z2 ⟨⟨i, e, hi⟩, y2⟩ => ?_
   refine rn_then (n_anyElement hb y2 (by omega) k) fun z3 ⟨_, _, y3⟩ => ?_
   rw [e]
   exact rn_ix hi (rn_some ⟨⟨by show (p.Commits.set _ _).length ≤ 1001; simp; omega, by show p.Challenges.length ≤ 1001; omega, by show p.Responses.length ≤ 1001; omega⟩, y3.mono (by omega)⟩)
  refine rn_if (fun _ => rn_if (fun g => ?_) fun _ => rn_some ⟨sp, y1.mono (by omega)⟩) fun _ => ?_
  ·have g : 0 < p.Challenges.length := by simpa using g
   refine rn_then (pk _ g) fun z2 ⟨⟨i, e, hi⟩, y2⟩ => ?_
   refine rn_then (n_anyExpo hb y2 (by omega) k) fun z3 ⟨_, _, y3⟩ => ?_
   rw [e]
   exact rn_ix hi (rn_some ⟨⟨by show p.Commits.length ≤ 1001; omega, by show (p.Challenges.set _ _).length ≤ 1001; simp; omega, by show p.Responses.length ≤ 1001; omega⟩, y3.mono (by omega)⟩)
  refine rn_if (fun _ => rn_gd (by omega) (rn_some ⟨⟨by show p.Commits.length ≤ 1001; omega, by show p.Challenges.length ≤ 1001; omega, by show (p.Responses ++ [0]).length ≤ 1001; simp; omega⟩, y1.mono (by omega)⟩)) fun _ => ?_
  exact rn_if (fun _ => rn_some ⟨⟨by simp, by simp, by simp⟩, y1.mono (by omega)⟩) fun _ => rn_some ⟨sp, y1.mono (by omega)⟩
 ·intro x hx
  cases x with
  | inl v => exact rn_some hx
  | inr v => exact rn_some hx
theorem n_spoiltE {code c0 : List Int} {at_ seed n : Int} {gr : Group} {e : Entry} (hb : Bt code) (h : Cu code n (c0, at_, seed)) (hn : n ≤ 2000000000000000) (k : Gw gr) (hp : e.Data.length ≤ 1000 ∧ e.Sign.Commits.length ≤ 1000 ∧ e.Sign.Challenges.length ≤ 1000 ∧ e.Sign.Responses.length ≤ 1000) :
 Rn (F_spec_l1Cur_spoiltEntry__io0 c0 at_ seed gr e) (fun z => SmE z.1 ∧ Cu code (n + 20) z.2) := by
 unfold F_spec_l1Cur_spoiltEntry__io0
 rw [n_l1Own (l := e.Data) (by omega)]
 simp only [Option.bind_some]
 refine rn_then (n_pick hb h (by omega)) fun z1 ⟨_, _, _, _, y1⟩ => ?_
 have sd : e.Data.length ≤ 1001 := by omega
 have sp : SmP e.Sign := ⟨by omega, by omega, by omega⟩
 refine rn_then (ψ := fun v => SmE ⟨v.2.1, v.2.2.1, v.2.2.2.1, ⟨v.2.2.2.2.1, v.2.2.2.2.2.1, v.2.2.2.2.2.2⟩⟩ ∧ Cu code (n + 20) v.1) ?_ fun v hv => rn_some hv
 refine rn_if (fun _ => rn_then (n_amongM hb y1 (by omega) (by simp)) fun z2 ⟨_, y2⟩ => rn_some ⟨⟨sd, sp⟩, y2.mono (by omega)⟩) fun _ => ?_
 refine rn_if (fun _ => rn_then (n_amongM hb y1 (by omega) (by simp)) fun z2 ⟨_, y2⟩ => rn_some ⟨⟨sd, sp⟩, y2.mono (by omega)⟩) fun _ => ?_
 refine rn_if (fun _ => rn_then (n_digestD hb y1 (by omega)) fun z2 y2 => rn_gd (by omega) (rn_some ⟨⟨by show (e.Data ++ [_]).length ≤ 1001; simp; omega, sp⟩, y2.mono (by omega)⟩)) fun _ => ?_
 refine rn_if (fun _ => rn_then (n_spoiltP hb y1 (by omega) k ⟨by omega, by omega, by omega⟩) fun z2 ⟨s2, y2⟩ => rn_some ⟨⟨sd, s2⟩, y2.mono (by omega)⟩) fun _ => ?_
 exact rn_some ⟨⟨sd, sp⟩, y1.mono (by omega)⟩
theorem n_ownP {p : Proof} (h : lensP p) : F_spec_oOwnProof p = some p := by
 unfold F_spec_oOwnProof
 rw [n_l1Own h.1, n_l1Own h.2.1, n_l1Own h.2.2]; rfl
theorem n_ownF {b : Board} (h : lensB b) : F_spec_oOwn_flat b = some b := by
 unfold F_spec_oOwn_flat
 rw [n_l1Own h.1, Option.bind_some]
 refine eq_of_rn (rn_then (ψ := fun x => x = (b.Keys, b.Entries)) (rn_rloop (fun i s => s = (b.Keys, b.Entries.take i)) (by simp) ?_ ?_) ?_)
 ·rintro i s hi rfl
  obtain ⟨h1, h2⟩ := h.2.2 _ (List.getElem_mem hi)
  have hl := h.2.1
  refine rn_ix hi (rn_call (n_l1Own h1) (rn_call (n_ownP h2) (rn_gd (by simp; omega) (rn_some ?_))))
  show (_, _) = (_, _)
  rw [List.take_succ_eq_append_getElem hi]
 ·rintro s rfl
  rw [List.take_length]
 ·rintro _ rfl
  exact rn_some rfl
theorem n_anyBoard {code c0 : List Int} {at_ seed n : Int} {gr : Group} (hb : Bt code) (h : Cu code n (c0, at_, seed)) (hn : n ≤ 1000000000000000) (k : Gw gr) : Rn (F_spec_l1Cur_anyBoard__io0 c0 at_ seed gr) (fun z => SmB z.1 ∧ Cu code (n + 200) z.2) := by
 unfold F_spec_l1Cur_anyBoard__io0
 refine rn_call (n_l2Good gr) (rn_if (fun _ => rn_some ⟨⟨by simp, by simp, fun e he => by simp at he⟩, h.mono (by omega)⟩) fun g => ?_)
 have ko : OkG gr := okG_t.1 (by simpa using g)
 refine rn_then (n_boardD hb h (by omega) ko.gb) fun z1 ⟨b1, b2, ⟨b3, b4, _⟩, y1⟩ => ?_
 have hs := b1.s (by omega)
 refine rn_call (n_ownF hs.l) ?_
 refine rn_then (n_pick hb y1 (by omega)) fun z2 ⟨_, _, _, _, y2⟩ => ?_
 have pk : ∀ m : Nat, 0 < m → Rn (F_spec_l1Cur_pick__io0 z2.2.1 z2.2.2.1 z2.2.2.2 (m : Int)) (fun z => (∃ i : Nat, z.1 = (i : Int) ∧ i < m) ∧ Cu code (n + 154) z.2) := fun m hl => by
  obtain ⟨v, v1, w0, w1, w2, _, w3⟩ := n_pick (m := (m : Int)) hb y2 (by omega)
  obtain ⟨i, hi⟩ := Int.eq_ofNat_of_zero_le w0
  refine ⟨v, v1, ⟨i, hi, ?_⟩, w3.mono (by omega)⟩
  rcases Int.lt_or_le 1 (m : Int) with g | g
  ·have := w2 g; omega
  ·have := w1 g; omega
 have hs' : SmB ⟨z1.1.Keys, z1.1.Entries⟩ := hs
 refine rn_then (ψ := fun v => SmB ⟨v.2.1, v.2.2⟩ ∧ Cu code (n + 200) v.1) ?_ fun v hv => rn_some hv
 refine rn_if (fun _ => rn_if (fun g => ?_) fun _ => rn_some ⟨hs', y2.mono (by omega)⟩) fun _ => ?_
 ·have g : 0 < z1.1.Entries.length := by simpa using g
  refine rn_then (pk _ g) fun z3 ⟨⟨i, e, hi⟩, y3⟩ => ?_
  rw [e]
  refine rn_ix hi (rn_then (n_spoiltE hb y3 (by omega) k (b1.e _ (List.getElem_mem hi)).sm) fun z4 ⟨s4, y4⟩ => rn_some ⟨⟨hs.1, by show (z1.1.Entries.set _ _).length ≤ 10; rw [List.length_set]; exact hs.2.1, fun f hf => ?_⟩, y4.mono (by omega)⟩)
  rcases List.mem_or_eq_of_mem_set (show f ∈ z1.1.Entries.set _ _ from hf) with hf | rfl
  ·exact hs.2.2 f hf
  ·exact s4
 refine rn_if (fun _ => ?_) fun _ => ?_
 ·refine rn_then (pk z1.1.Keys.length (by omega)) fun z3 ⟨⟨i, e, hi⟩, y3⟩ => ?_
  refine rn_then (n_anyElement hb y3 (by omega) k) fun z4 ⟨_, _, y4⟩ => ?_
  rw [e]
  exact rn_ix hi (rn_some ⟨⟨by show (z1.1.Keys.set _ _).length ≤ 10; rw [List.length_set]; exact hs.1, hs.2⟩, y4.mono (by omega)⟩)
 refine rn_if (fun _ => rn_if (fun g => ?_) fun _ => rn_some ⟨hs', y2.mono (by omega)⟩) fun _ => rn_some ⟨hs', y2.mono (by omega)⟩
 have g' : (1 : Int) < (z1.1.Entries.length : Int) := by simpa using g
 have g : 1 < z1.1.Entries.length := by omega
 refine rn_gd (by omega) (rn_some ⟨⟨hs.1, ?_, fun f hf => hs.2.2 f (List.mem_of_mem_take (List.mem_of_mem_drop hf))⟩, y2.mono (by omega)⟩)
 have := hs.2.1
 show ((z1.1.Entries.take _).drop 1).length ≤ 10
 simp; omega
theorem n_sameIL {l : List Int} : F_laws_sameInts l l = some true := by
 unfold F_laws_sameInts
 refine eq_of_rn (rn_f (by simp) (rn_then (ψ := fun v => v = .inl ()) (rn_rloop (fun _ _ => True) trivial ?_ fun s _ => rfl) ?_))
 ·rintro k s hk _
  exact rn_ix hk (rn_ix hk (rn_f (by simp) (rn_some trivial)))
 ·rintro _ rfl
  exact rn_some rfl
theorem n_headLab {h : Head} (hh : heaB h = true) : F_spec_oHeadLabel h = some (hdL h) ∧ F_impl_headLabel h.Author h.Size h.Root = some (hdL h) ∧ (hdL h).size ≤ 40 := by
 simp only [heaB, Bool.and_eq_true, inB_t] at hh
 have hd : [h.Author, h.Size, h.Root].all digB = true := by
  simp only [List.all_cons, List.all_nil, Bool.and_true, Bool.and_eq_true]
  exact ⟨digB_t.2 (by omega), digB_t.2 (by omega), hh.2.2⟩
 have hd2 := hshL_dig heaS [h.Author, h.Size, h.Root]
 have hs : (hdL h).size ≤ 40 := by unfold hdL; rw [lab_size]; decide
 refine ⟨?_, ?_, hs⟩
 ·unfold F_spec_oHeadLabel
  rw [n_hLabelled (s := heaS) (by decide) (by simp) hd, Option.bind_some, n_oText hd2, Option.bind_some, gd_t (by rw [hxT_size]; decide)]
  rfl
 ·unfold F_impl_headLabel
  rw [show F_impl_HashLabelled (⟨#[104, 101, 97, 100]⟩ : ByteArray) [h.Author, h.Size, h.Root] = some (hshL heaS [h.Author, h.Size, h.Root], true) from by rw [n_HashLabelled, if_pos (by simp only [labB, hd, Bool.and_true]; rfl)], Option.bind_some]
  dsimp only
  rw [show F_impl_signLabel (⟨#[104, 101, 97, 100, 32]⟩ : ByteArray) _ = some (hdL h) from n_signLabel (by decide) hd2]; rfl
theorem n_SignHS (gr : Group) (x a s r w : Int) : ∃ h t, F_spec_SignHead gr x a s r w = some (h, t) ∧ (h.Sign.Commits.length ≤ 1000 ∧ h.Sign.Challenges.length ≤ 1000 ∧ h.Sign.Responses.length ≤ 1000) := by
 unfold F_spec_SignHead
 rw [n_l2Good, n_oHead]
 cases hg : okG gr with
 | false => exact ⟨_, _, rfl, by simp, by simp, by simp⟩
 | true =>
  have k := okG_t.1 hg
  have hq := k.q
  have hp := k.p
  have ea : F_spec_gExps gr [x, w] = some (expB gr x && expB gr w) := by rw [n_gExps (gr := gr) (by omega) (by omega)]; simp
  simp only [Option.bind_some, Bool.not_true, Bool.false_eq_true, if_false, ea]
  cases hx : (expB gr x && expB gr w) with
  | false => exact ⟨_, _, rfl, by simp, by simp, by simp⟩
  | true =>
   rw [Bool.and_eq_true] at hx
   have hx1 := hx.1
   have hx2 := hx.2
   simp only [expB, Bool.and_eq_true, decide_eq_true_eq] at hx1 hx2
   cases hh : heaB ⟨a, s, r, ⟨[], [], []⟩⟩ with
   | false => exact ⟨_, _, rfl, by simp, by simp, by simp⟩
   | true =>
    obtain ⟨e1, _, e3⟩ := n_headLab hh
    simp only [Bool.not_true, Bool.false_eq_true, if_false, Option.bind_some, e1, n_oSign k.gb (x := x) (w := w) (Nat.le_trans e3 (by decide)) ⟨hx1.1, by omega⟩ ⟨hx2.1, by omega⟩]
    exact ⟨_, _, rfl, by simp [sgnP], by simp [sgnP], by simp [sgnP]⟩
theorem n_leavesD {b : Board} {m : Nat} (h : GdB b m) (hm : m ≤ 60) : F_spec_oLeaves b = some (leaves b) := by
 have hl := h.l
 unfold F_spec_oLeaves
 rw [rl_rng (f := fun i => leafE i (b.Entries.getD i ⟨0, 0, [], ⟨[], [], []⟩⟩))]
 ·rfl
 ·intro i s hi hs
  have g := h.e _ (List.getElem_mem hi)
  obtain ⟨a, c, d, e, da, dc, dd⟩ := g.s
  have hd : digB (eD b.Entries[i].Kind b.Entries[i].Author i b.Entries[i].Data) = true := hshL_dig _ _
  have he : b.Entries.getD i ⟨0, 0, [], ⟨[], [], []⟩⟩ = b.Entries[i] := by simp [hi]
  have k2 : (encP b.Entries[i].Sign).all digB = true := by rw [e]; exact (enc_form da dc dd).1
  have k3 : (encP b.Entries[i].Sign).length = 6 := by rw [e]; exact (enc_form da dc dd).2
  obtain ⟨_, c1, c2, c3⟩ := g.sml.l
  rw [ix_at hi, Option.bind_some, n_oDigest g.p (by omega), Option.bind_some, n_cProof c1 c2 c3, Option.bind_some, gd_t (by simp only [List.length_cons, List.length_nil]; omega), n_hLabelled (s := leaS) (by decide) (by simp only [List.length_append, List.length_cons, List.length_nil]; omega) (by rw [List.all_append, k2, Bool.and_true, List.all_cons, List.all_nil, Bool.and_true]; exact hd), Option.bind_some, gd_t (by omega), he]
  rfl
theorem n_spoiltH {code c0 : List Int} {at_ seed n : Int} {gr : Group} {h : Head} (hb : Bt code) (hc : Cu code n (c0, at_, seed)) (hn : n ≤ 2000000000000000) (k : Gw gr) (hp : h.Sign.Commits.length ≤ 1000 ∧ h.Sign.Challenges.length ≤ 1000 ∧ h.Sign.Responses.length ≤ 1000) :
 Rn (F_spec_l1Cur_spoiltHead__io0 c0 at_ seed gr h) (fun z => SmP z.1.Sign ∧ Cu code (n + 20) z.2) := by
 unfold F_spec_l1Cur_spoiltHead__io0
 refine rn_then (n_pick hb hc (by omega)) fun z1 ⟨_, _, _, _, y1⟩ => ?_
 have sp : SmP h.Sign := ⟨by omega, by omega, by omega⟩
 refine rn_then (ψ := fun v => SmP ⟨v.2.2.2.2.1, v.2.2.2.2.2.1, v.2.2.2.2.2.2⟩ ∧ Cu code (n + 20) v.1) ?_ fun v hv => rn_some hv
 refine rn_if (fun _ => rn_some ⟨sp, y1.mono (by omega)⟩) fun _ => ?_
 refine rn_if (fun _ => rn_then (n_digestD hb y1 (by omega)) fun z2 y2 => rn_some ⟨sp, y2.mono (by omega)⟩) fun _ => ?_
 refine rn_if (fun _ => rn_then (n_spoiltP hb y1 (by omega) k hp) fun z2 ⟨s2, y2⟩ => rn_some ⟨s2, y2.mono (by omega)⟩) fun _ => ?_
 refine rn_if (fun _ => rn_then (n_pick hb y1 (by omega)) fun z2 ⟨_, _, _, _, y2⟩ => rn_some ⟨sp, y2.mono (by omega)⟩) fun _ => ?_
 exact rn_some ⟨sp, y1.mono (by omega)⟩
theorem consI_mono : ∀ (n : Nat) (a b c : Int) (w : Bool) (P : List Int), Ole (F_impl_consistent_r n a b c w P) (F_impl_consistent_r (n + 1) a b c w P)
 | 0, _, _, _, _, _ => fun r h => by cases h
 | n + 1, a, b, c, w, P => by
  have ih := consI_mono n
  rw [F_impl_consistent_r, F_impl_consistent_r]
  repeat' first | exact ole_refl _ | exact ih _ _ _ _ _ | apply ole_gd | apply ole_if | (refine ole_bind ?_ fun _ => ?_)
theorem n_split2 {n : Nat} (h1 : 2 ≤ n) (h2 : n ≤ 64) : ∃ s : Nat, F_impl_half (n : Int) = some (s : Int) ∧ Spl (n : Int) (s : Int) ∧ 1 ≤ s ∧ s < n ∧ n ≤ 2 * s := by
 obtain ⟨t, e, p⟩ := n_half (n := n) (by omega) (by omega)
 obtain ⟨⟨j, hj⟩, h3, h4⟩ := id p
 have hp : (0 : Int) < 2 ^ j := Int.pow_pos (by omega)
 obtain ⟨s, rfl⟩ := Int.eq_ofNat_of_zero_le (show 0 ≤ t by omega)
 exact ⟨s, e, p, by omega, by omega, by omega⟩
theorem half_of {m k : Nat} {n : Int} (h1 : 2 ≤ m) (h2 : m ≤ 64) (h : Spl n (k : Int)) (hk : k < m) (hm : m ≤ 2 * k) : F_impl_half (m : Int) = some (k : Int) := by
 obtain ⟨s, e, p, _⟩ := n_split2 h1 h2
 have := Spl_uniq p (show Spl (m : Int) (k : Int) from ⟨h.1, by omega, by omega⟩)
 rw [e, this]
theorem pow_half {s n d : Nat} (h : Spl (n : Int) (s : Int)) (hn : n ≤ 2 ^ (d + 1)) : s ≤ 2 ^ d := by
 obtain ⟨⟨j, hj⟩, h1, h2⟩ := h
 have e : s = 2 ^ j := by
  have : (s : Int) = ((2 ^ j : Nat) : Int) := by rw [hj, Int.natCast_pow]; rfl
  omega
 rcases Nat.lt_or_ge d j with h | h
 ·have := Nat.pow_le_pow_right (show 0 < 2 by decide) (show d + 1 ≤ j from h)
  omega
 ·rw [e]; exact Nat.pow_le_pow_right (by decide) h
def Rt (l : List Int) (r : Int) : Prop := F_impl_rootOf l = some r ∧ digB r = true
theorem rt_ex {l : List Int} (h : l.length ≤ 64) (hd : l.all digB = true) : ∃ r, Rt l r := by
 obtain ⟨r, _, h2, h3⟩ := n_root h hd
 exact ⟨r, h2, h3⟩
theorem rt_uniq {l : List Int} {a b : Int} (h : Rt l a) (h' : Rt l b) : a = b := by
 have := h.1
 rw [h'.1] at this
 injection this with this
 exact this.symm
theorem rt_split {l : List Int} {s : Nat} {a b : Int} (h2 : 2 ≤ l.length) (h64 : l.length ≤ 64) (hd : l.all digB = true) (hs : F_impl_half (l.length : Int) = some (s : Int)) (s2 : s < l.length) (ha : Rt (l.take s) a) (hb : Rt (l.drop s) b) : Rt l (hshL nodS [a, b]) := by
 have key : ∀ (x : List Int) (r : Int), x.length ≤ l.length → x.all digB = true → Rt x r → F_impl_rootOf_r (l.length + 1) x = some r := fun x r hx hxd hr => by
  obtain ⟨r', _, e, d⟩ := n_root_r l.length x hx (by omega) hxd
  have h : Rt x r' := ⟨frec_eq (f := fun n_ => F_impl_rootOf_r n_ x) e fun n b => rootI_mono n x b, d⟩
  rw [e, rt_uniq h hr]
 have e1 := key _ _ (by rw [List.length_take]; omega) (dig_take hd s) ha
 have e2 := key _ _ (by rw [List.length_drop]; omega) (dig_drop hd s) hb
 obtain ⟨c1, c2⟩ := n_node ha.2 hb.2
 refine ⟨frec_eq (f := fun n_ => F_impl_rootOf_r n_ l) (n := l.length + 1 + 1) ?_ fun n b => rootI_mono n l b, hshL_dig _ _⟩
 show F_impl_rootOf_r (l.length + 1 + 1) l = _
 rw [F_impl_rootOf_r]
 have z0 : ((l.length : Int) == 0) = false := beq_false_of_ne (by omega)
 have z1 : ((l.length : Int) == 1) = false := beq_false_of_ne (by omega)
 have g1 : (0 : Int) ≤ (s : Int) := by omega
 have g2 : 0 ≤ ((s : Nat) : Int).toNat ∧ ((s : Nat) : Int).toNat ≤ l.length := by simp; omega
 have g3 : ((s : Nat) : Int).toNat ≤ l.length ∧ l.length ≤ l.length := by simp; omega
 simp only [z0, z1, Bool.false_eq_true, if_false, hs, Option.bind_some, cut_l, cut_r, gd_t g1, gd_t g2, gd_t g3, e1, e2, c2]
theorem n_cons_r : ∀ (N m : Nat) (l : List Int) (w : Bool) (d : Nat) (f : Int), l.length ≤ N → 1 ≤ m → m ≤ l.length → l.length ≤ 64 → l.length ≤ 2 ^ d → l.all digB = true → (w = true → Rt (l.take m) f) →
 ∃ P, F_impl_prefixPath_r (N + 1) (m : Int) l w = some P ∧ P.length ≤ d + 1 ∧ ∃ a b, F_impl_consistent_r (N + 1) (m : Int) (l.length : Int) f w P = some (a, b, true) ∧ Rt (l.take m) a ∧ Rt l b
 | N, m, l, w, d, f, h, h1, hm, h64, hd2, hd, hf => by
  obtain ⟨q, q1⟩ := rt_ex h64 hd
  rcases Nat.eq_or_lt_of_le hm with e | e
  ·have z : ((m : Int) == (l.length : Int)) = true := by simp; omega
   have et : l.take m = l := by rw [e, List.take_length]
   rw [F_impl_prefixPath_r]
   simp only [z, if_true, q1.1, Option.bind_some]
   cases w with
   | true =>
    refine ⟨[], rfl, by simp, f, f, ?_, hf rfl, ?_⟩
    ·rw [F_impl_consistent_r]
     simp only [z, if_true]
     rfl
    ·have := hf rfl
     rw [et] at this
     exact this
   | false =>
    refine ⟨[q], rfl, by simp, q, q, ?_, by rw [et]; exact q1, q1⟩
    rw [F_impl_consistent_r]
    simp only [z, if_true, Bool.false_eq_true, if_false]
    rfl
  ·have z : ((m : Int) == (l.length : Int)) = false := by simp; omega
   obtain ⟨s, e2, sp, s1, s2, s3⟩ := n_split2 (n := l.length) (by omega) h64
   cases N with
   | zero => omega
   | succ N =>
   cases d with
   | zero => have : (2 : Nat) ^ 0 = 1 := rfl; omega
   | succ d =>
   have hsd := pow_half sp hd2
   have g1 : (0 : Int) ≤ (s : Int) := by omega
   have g2 : 0 ≤ ((s : Nat) : Int).toNat ∧ ((s : Nat) : Int).toNat ≤ l.length := by simp; omega
   have g3 : ((s : Nat) : Int).toNat ≤ l.length ∧ l.length ≤ l.length := by simp; omega
   have lt : (l.take s).length = s := by rw [List.length_take]; omega
   have ld : (l.drop s).length = l.length - s := by rw [List.length_drop]
   obtain ⟨u, u1⟩ := rt_ex (l := l.take s) (by omega) (dig_take hd s)
   obtain ⟨v, v1⟩ := rt_ex (l := l.drop s) (by omega) (dig_drop hd s)
   have ew : ∀ P : List Int, ∀ x : Int, P.length ≤ 100 → IntKind.i64.wrap (((P ++ [x]).length : Int) - 1) = (P.length : Int) := fun P x hp => by
    rw [List.length_append, List.length_singleton, wr64 (by omega) (by omega)]; omega
   have ec : ∀ P : List Int, ∀ x : Int, ((P ++ [x]).take ((P.length : Int)).toNat).drop 0 = P := fun P x => by simp
   have ei : ∀ P : List Int, ∀ x : Int, ix (P ++ [x]) (P.length : Int) = some x := fun P x => by
    rw [ix_at (by simp)]; simp
   have hd1 : d ≤ 63 ∨ 63 < d := by omega
   by_cases hs : m ≤ s
   ·obtain ⟨P, p1, p2, a, b, p3, p4, p5⟩ := n_cons_r N m (l.take s) w d f (by omega) h1 (by omega) (by omega) (by omega) (dig_take hd s) (fun hw => by
     rw [List.take_take, Nat.min_eq_left hs]; exact hf hw)
    rw [lt] at p3
    rw [List.take_take, Nat.min_eq_left hs] at p4
    obtain ⟨P0, pa, pb⟩ : ∃ r, F_impl_prefixPath_r (N + 1) (m : Int) (l.take s) w = some r ∧ r.length ≤ (l.take s).length := by
     obtain ⟨r, _, r2, _, r4⟩ := n_path_r N m (l.take s) w (by omega) h1 (by omega) (by omega) (dig_take hd s)
     exact ⟨r, r2, r4⟩
    rw [p1] at pa
    injection pa with pa
    subst pa
    have hP : P.length ≤ 64 := by omega
    have g4 : (P.length + 1) * 8 ≤ 140737488355328 ∧ P.length + 1 ≤ 4611686018427387904 := by omega
    have z2 : decide ((m : Int) ≤ (s : Int)) = true := by simp; omega
    refine ⟨P ++ [v], ?_, by simp; omega, a, hshL nodS [b, v], ?_, p4, rt_split (by omega) h64 hd e2 s2 (rt_uniq p5 u1 ▸ u1) v1⟩
    ·rw [F_impl_prefixPath_r]
     simp only [z, Bool.false_eq_true, if_false, e2, Option.bind_some, cut_l, cut_r, gd_t g1, gd_t g2, gd_t g3, z2, if_true, p1, v1.1, gd_t g4]
    ·rw [F_impl_consistent_r]
     have z3 : decide ((P.length : Int) < 0) = false := by simp
     have g5 : (0 : Int) ≤ (P.length : Int) := by omega
     have g6 : 0 ≤ ((P.length : Int)).toNat ∧ ((P.length : Int)).toNat ≤ (P ++ [v]).length := by simp
     simp only [z, Bool.false_eq_true, if_false, ew P v (by omega), z3, e2, Option.bind_some, z2, if_true, gd_t g5, gd_t g6, ec, p3, ei, (n_node p5.2 v1.2).2]
   ·have z3 : IntKind.i64.wrap ((m : Int) - (s : Int)) = ((m - s : Nat) : Int) := ceq (by omega) (by omega)
    have z4 : IntKind.i64.wrap ((l.length : Int) - (s : Int)) = ((l.length - s : Nat) : Int) := ceq (by omega) (by omega)
    obtain ⟨P, p1, p2, a, b, p3, p4, p5⟩ := n_cons_r N (m - s) (l.drop s) false d f (by omega) (by omega) (by omega) (by omega) (by omega) (dig_drop hd s) (fun hw => by cases hw)
    rw [ld] at p3
    obtain ⟨P0, pa, pb⟩ : ∃ r, F_impl_prefixPath_r (N + 1) ((m - s : Nat) : Int) (l.drop s) false = some r ∧ r.length ≤ (l.drop s).length := by
     obtain ⟨r, _, r2, _, r4⟩ := n_path_r N (m - s) (l.drop s) false (by omega) (by omega) (by omega) (by omega) (dig_drop hd s)
     exact ⟨r, r2, r4⟩
    rw [p1] at pa
    injection pa with pa
    subst pa
    have hP : P.length ≤ 64 := by omega
    have g4 : (P.length + 1) * 8 ≤ 140737488355328 ∧ P.length + 1 ≤ 4611686018427387904 := by omega
    have z2 : decide ((m : Int) ≤ (s : Int)) = false := by simp; omega
    have hmt : (l.take m).length = m := by rw [List.length_take]; omega
    have hr : Rt (l.take m) (hshL nodS [u, a]) := by
     refine rt_split (s := s) (by omega) (by omega) (dig_take hd m) ?_ (by omega) ?_ ?_
     ·rw [hmt]; exact half_of (by omega) (by omega) sp (by omega) (by omega)
     ·rw [List.take_take, Nat.min_eq_left (by omega)]; exact u1
     ·rw [List.drop_take]; exact p4
    refine ⟨P ++ [u], ?_, by simp; omega, hshL nodS [u, a], hshL nodS [u, b], ?_, hr, rt_split (by omega) h64 hd e2 s2 u1 p5⟩
    ·rw [F_impl_prefixPath_r]
     simp only [z, Bool.false_eq_true, if_false, e2, Option.bind_some, cut_l, cut_r, gd_t g1, gd_t g2, gd_t g3, z2, z3, p1, u1.1, gd_t g4]
    ·rw [F_impl_consistent_r]
     have z5 : decide ((P.length : Int) < 0) = false := by simp
     have g5 : (0 : Int) ≤ (P.length : Int) := by omega
     have g6 : 0 ≤ ((P.length : Int)).toNat ∧ ((P.length : Int)).toNat ≤ (P ++ [u]).length := by simp
     simp only [z, Bool.false_eq_true, if_false, ew P u (by omega), z5, e2, Option.bind_some, z2, z3, z4, gd_t g5, gd_t g6, ec, p3, ei, (n_node u1.2 p4.2).2, (n_node u1.2 p5.2).2]
theorem n_consist {m : Nat} {l P : List Int} {f g : Int} (h1 : 1 ≤ m) (hm : m ≤ l.length) (h64 : l.length ≤ 64) (hd : l.all digB = true) (hf : Rt (l.take m) f) (hg : Rt l g) (hP : F_impl_prefixPath (m : Int) l true = some P) :
 P.length ≤ 20 ∧ P.all digB = true ∧ F_impl_VerifyConsistency (m : Int) (l.length : Int) f g P = some (true, true) := by
 obtain ⟨P', p1, p2, a, b, p3, p4, p5⟩ := n_cons_r l.length m l true 6 f (Nat.le_refl _) h1 hm h64 (by show l.length ≤ 64; omega) hd fun _ => hf
 obtain ⟨r, _, r2, r3, _⟩ := n_path h1 hm h64 hd true
 have e := frec_eq (f := fun n_ => F_impl_prefixPath_r n_ m l true) p1 fun n b => pathI_mono n m l true b
 have hP' : F_impl_prefixPath (m : Int) l true = some P' := e
 rw [hP'] at hP r2
 injection hP with hP
 injection r2 with r2
 subst hP
 subst r2
 have ec : F_impl_consistent (m : Int) (l.length : Int) f true P' = some (a, b, true) := frec_eq (f := fun n_ => F_impl_consistent_r n_ (m : Int) (l.length : Int) f true P') p3 fun n b => consI_mono n _ _ _ _ _ b
 have ea := rt_uniq p4 hf
 have eb := rt_uniq p5 hg
 subst ea
 subst eb
 refine ⟨by omega, r3, ?_⟩
 unfold F_impl_VerifyConsistency
 simp only [n_winB, n_isDigest, n_allDig, p4.2, p5.2, r3, inB_t.2 (show 1 ≤ (l.length : Int) ∧ (l.length : Int) ≤ 64 by omega), inB_t.2 (show 1 ≤ (m : Int) ∧ (m : Int) ≤ (l.length : Int) by omega), Option.bind_some, Bool.not_true, Bool.false_eq_true, if_false, ec, if_true, beq_self_eq_true]
theorem fits_t {gr : Group} (k : OkG gr) {b : Board} (hl : lensB b) (hb : brdB gr b = true) {h : Head} (hh : lensP h.Sign) (hf : F_impl_Group_fits gr b h = some true) : heaB h = true ∧ (0 ≤ h.Size ∧ h.Size ≤ b.Entries.length) ∧ Rt ((leaves b).take h.Size.toNat) h.Root := by
 obtain ⟨b1, b2, b3, b4⟩ := brd_t hb
 have w : IntKind.i64.wrap ((b.Keys.length : Int) - 1) = (b.Keys.length : Int) - 1 := wr64 (by omega) (by omega)
 unfold F_impl_Group_fits at hf
 simp only [n_winB, w, Option.bind_some] at hf
 cases ha : inB 0 ((b.Keys.length : Int) - 1) h.Author with
 | false => rw [ha] at hf; cases hf
 | true =>
  have ha' := inB_t.1 ha
  have hal : h.Author.toNat < b.Keys.length := by omega
  have hx := List.all_eq_true.1 b2 _ (List.getElem_mem hal)
  obtain ⟨s1, s2⟩ := n_headBy k hx hh
  rw [ha, ix_to ha'.1 (by omega)] at hf
  simp only [if_true, Option.bind_some, s2] at hf
  cases hc : hdbB gr (b.Keys[h.Author.toNat]) h with
  | false => rw [hc] at hf; cases hf
  | true =>
   have hc' := hc
   simp only [hdbB, Bool.and_eq_true] at hc'
   have hsz := hc'.1
   simp only [heaB, Bool.and_eq_true, inB_t] at hsz
   by_cases hz : h.Size ≤ b.Entries.length
   ·have z2 : decide (h.Size ≤ (b.Entries.length : Int)) = true := by simpa using hz
    have g2 : 0 ≤ h.Size.toNat ∧ h.Size.toNat ≤ (leaves b).length := by rw [leaves_len]; omega
    obtain ⟨v1, v2⟩ := n_leaves k hl hb
    obtain ⟨r, r1, r2, r3⟩ := n_root (l := (leaves b).take h.Size.toNat) (by rw [List.length_take, leaves_len]; omega) (dig_take (leaves_dig b) _)
    rw [hc] at hf
    simp only [if_true, z2, Option.bind_some, v2, gd_t hsz.2.1.1, gd_t g2, List.drop_zero, r2] at hf
    injection hf with hf
    have hf : h.Root = r := by simpa using hf
    exact ⟨hc'.1, ⟨hsz.2.1.1, hz⟩, by rw [hf]; exact ⟨r2, r3⟩⟩
   ·have z2 : decide (h.Size ≤ (b.Entries.length : Int)) = false := by simp; omega
    rw [hc] at hf
    simp only [if_true, z2, Bool.false_eq_true, if_false] at hf
    cases hf
theorem n_prefix2 (gr : Group) {b : Board} {a h : Head} {l : List Int} (hl : lensB b) (ha : lensP a.Sign) (hh : lensP h.Sign) (e : F_impl_ProvenPrefix gr b a h = some (l, true)) :
 (1 ≤ a.Size ∧ a.Size ≤ h.Size) ∧ ∃ c, F_impl_CompareHeads a h l = some (c, true) ∧ (a.Size < h.Size → c = 1) ∧ (a.Size = h.Size → c = 0) := by
 unfold F_impl_ProvenPrefix at e
 rw [n_areBoard gr hl] at e
 cases hg : okG gr with
 | false => rw [hg] at e; cases e
 | true =>
  have k := okG_t.1 hg
  rw [hg] at e
  cases hb : brdB gr b with
  | false => rw [hb] at e; cases e
  | true =>
   obtain ⟨t, t1, t2, t3⟩ := n_checks k hl hb ha
   obtain ⟨u, u1, u2, u3⟩ := n_checks k hl hb hh
   obtain ⟨b1, b2, b3, b4⟩ := brd_t hb
   rw [hb] at e
   simp only [Option.bind_some, Bool.and_self, Bool.not_true, Bool.false_eq_true, if_false, t2, u2, n_winB] at e
   cases t with
   | false => cases e
   | true =>
    cases u with
    | false => cases e
    | true =>
     cases hi : inB 1 h.Size a.Size with
     | false => rw [hi] at e; cases e
     | true =>
      have hi' := inB_t.1 hi
      obtain ⟨f1, f2, f3⟩ := fits_t k hl hb ha t2
      obtain ⟨g1, g2, g3⟩ := fits_t k hl hb hh u2
      obtain ⟨v1, v2⟩ := n_leaves k hl hb
      have g4 : 0 ≤ h.Size.toNat ∧ h.Size.toNat ≤ (leaves b).length := by rw [leaves_len]; omega
      obtain ⟨m, hm⟩ : ∃ m : Nat, a.Size = (m : Int) := ⟨a.Size.toNat, by omega⟩
      have hlen : ((leaves b).take h.Size.toNat).length = h.Size.toNat := by rw [List.length_take, leaves_len]; omega
      rw [hi] at e
      simp only [Bool.not_true, Bool.false_eq_true, if_false, v2, Option.bind_some, gd_t g2.1, gd_t g4, List.drop_zero] at e
      obtain ⟨P, p1, p2⟩ := Option.bind_eq_some_iff.1 e
      injection p2 with p2
      injection p2 with p2 _
      subst p2
      rw [hm] at p1
      have hf : Rt (((leaves b).take h.Size.toNat).take m) a.Root := by
       rw [List.take_take, Nat.min_eq_left (by omega)]
       rw [hm] at f3
       exact f3
      obtain ⟨q1, q2, q3⟩ := n_consist (m := m) (l := (leaves b).take h.Size.toNat) (by omega) (by omega) (by omega) (dig_take (leaves_dig b) _) hf g3 p1
      rw [hlen, show ((h.Size.toNat : Nat) : Int) = h.Size by omega, ← hm] at q3
      refine ⟨⟨hi'.1, hi'.2⟩, ?_⟩
      have pl : ∀ x : Head, F_impl_Head_isPlain x = some (heaB x) := fun x => by
       unfold F_impl_Head_isPlain
       rw [n_headI]; rfl
      unfold F_impl_CompareHeads
      simp only [pl, f1, g1, n_allDig, q2, Option.bind_some, Bool.not_true, Bool.false_eq_true, if_false, decide_eq_false (show ¬ 20 < (P.length : Int) by omega)]
      rcases Int.lt_or_le a.Size h.Size with hlt | hle
      ·have z1 : (a.Size == h.Size) = false := beq_false_of_ne (by omega)
       simp only [z1, Bool.false_eq_true, if_false, Option.bind_some, decide_eq_true hi'.1, decide_eq_true hlt, if_true, q3]
       exact ⟨1, rfl, fun _ => rfl, fun h => by omega⟩
      ·have heq : a.Size = h.Size := by omega
       have z1 : (a.Size == h.Size) = true := by simp [heq]
       have er : a.Root = h.Root := by
        rw [heq] at f3
        exact rt_uniq f3 g3
       have z2 : (a.Root == h.Root) = true := by simp [er]
       simp only [z1, z2, if_true, Option.bind_some]
       exact ⟨0, rfl, fun h => by omega, fun _ => rfl⟩
theorem n_heads {l : List Head} : F_spec_fHeads l = some (l.all heaB && decide ((l.length : Int) ≤ 20)) ∧ F_impl_areHeads l = some (decide ((l.length : Int) ≤ 20) && l.all heaB) := by
 constructor
 ·unfold F_spec_fHeads
  rw [n_allN (fun i => heaB (l.getD i ⟨0, 0, 0, ⟨[], [], []⟩⟩)) false (decide ((l.length : Int) ≤ 20))]
  ·have e : ((List.range l.length).all fun i => heaB (l.getD i ⟨0, 0, 0, ⟨[], [], []⟩⟩)) = l.all heaB := by
    rw [Bool.eq_iff_iff, List.all_eq_true, List.all_eq_true]
    constructor
    ·intro h x hx
     obtain ⟨i, hi, rfl⟩ := List.getElem_of_mem hx
     have := h i (List.mem_range.2 hi)
     simpa [hi] using this
    ·intro h i hi
     have hi := List.mem_range.1 hi
     have := h _ (List.getElem_mem hi)
     simpa [hi] using this
   rw [e]
   cases l.all heaB <;> simp
  ·intro i hi
   rw [ix_at hi, Option.bind_some, n_oHead, Option.bind_some]
   simp only [List.getD_eq_getElem?_getD, List.getElem?_eq_getElem hi, Option.getD_some]
   cases heaB l[i] <;> rfl
 ·unfold F_impl_areHeads F_slices_ContainsFunc_impl_Head_impl_Head__impl_areHeads_1 F_slices_IndexFunc_impl_Head_impl_Head__impl_areHeads_1
  have hf : ∀ x ∈ l, F_impl_areHeads_1 x = some (!heaB x) := fun x _ => by
   unfold F_impl_areHeads_1 F_impl_Head_isPlain
   rw [n_headI]; rfl
  rw [cf_gen hf]
  have e : (!l.any fun x => !heaB x) = l.all heaB := by simp [List.any_eq_not_all_not]
  cases decide ((l.length : Int) ≤ 20) with
  | false => rfl
  | true =>
   show some (!l.any fun x => !heaB x) = _
   rw [e]; simp
theorem n_FWH (gr : Group) {b : Board} {l : List Head} (hl : lensB b) (hs : ∀ h ∈ l, lensP h.Sign) (hn : l.length ≤ 1000) : ∃ i t, F_impl_FirstWrongHead gr b l = some (i, t) ∧ F_spec_FirstWrongHead gr b l = some (i, t) := by
 unfold F_impl_FirstWrongHead F_spec_FirstWrongHead
 rw [n_areBoard gr hl, n_l2Good, n_heads.1, n_heads.2]
 cases hg : okG gr with
 | false => exact ⟨_, _, rfl, rfl⟩
 | true =>
  have k := okG_t.1 hg
  rw [(n_board k hl).1]
  cases hb : brdB gr b with
  | false => exact ⟨_, _, rfl, rfl⟩
  | true =>
   cases h1 : l.all heaB with
   | false => cases decide ((l.length : Int) ≤ 20) <;> exact ⟨_, _, rfl, rfl⟩
   | true =>
    cases h2 : decide ((l.length : Int) ≤ 20) with
    | false => exact ⟨_, _, rfl, rfl⟩
    | true =>
     have hc : ∀ i (hi : i < l.length), ∃ t, F_spec_oChecks gr b l[i] = some t ∧ F_impl_Group_fits gr b l[i] = some t := fun i hi => by
      obtain ⟨t, t1, t2, _⟩ := n_checks k hl hb (hs _ (List.getElem_mem hi))
      exact ⟨t, t1, t2⟩
     have el : rloop (σ := Unit) (β := Unit ⊕ (Int × Bool)) (fun i12 s11 => (ix l i12).bind fun x18 => (F_impl_Group_fits gr b x18).bind fun z19 => if (!z19) = true then (some (.out (.inr (i12, true)))) else (some (.go ()))) (fun s5 => .inl ()) (l.length) 0 () =
      rloop (σ := Unit) (β := Unit ⊕ (Int × Bool)) (fun i14 s13 => (ix l i14).bind fun x20 => (F_spec_oChecks gr b x20).bind fun z21 => if (!z21) = true then (some (.out (.inr (i14, true)))) else (some (.go ()))) (fun s5 => .inl ()) (l.length) 0 () := by
      refine rloop_congr _ _ _ fun i s hi => ?_
      obtain ⟨t, t1, t2⟩ := hc i hi
      rw [Int.zero_add, ix_at hi, Option.bind_some, Option.bind_some, t1, t2]
     have ex : ∃ v, rloop (σ := Unit) (β := Unit ⊕ (Int × Bool)) (fun i14 s13 => (ix l i14).bind fun x20 => (F_spec_oChecks gr b x20).bind fun z21 => if (!z21) = true then (some (.out (.inr (i14, true)))) else (some (.go ()))) (fun s5 => .inl ()) (l.length) 0 () = some v := by
      obtain ⟨v, e, _⟩ := rn_rloop (φ := fun _ => True) (stop := fun (s : Unit) => (Sum.inl () : Unit ⊕ (Int × Bool))) (s0 := ()) (m := l.length) (body := fun i14 s13 => (ix l i14).bind fun x20 => (F_spec_oChecks gr b x20).bind fun z21 => if (!z21) = true then (some (.out (.inr (i14, true)))) else (some (.go ()))) (fun _ _ => True) trivial (fun i s hi _ => by
       obtain ⟨t, t1, t2⟩ := hc i hi
       exact rn_ix hi (rn_call t1 (rn_if (fun _ => rn_some trivial) fun _ => rn_some trivial))) fun _ _ => trivial
      exact ⟨v, e⟩
     obtain ⟨v, ev⟩ := ex
     simp only [Option.bind_some, Bool.and_self, Bool.not_true, Bool.false_eq_true, if_false, el, ev]
     cases v with
     | inl u => exact ⟨_, _, rfl, rfl⟩
     | inr z => exact ⟨z.1, z.2, rfl, rfl⟩
theorem Pr_of {n b : Nat} (h2 : 2 ≤ n) (hb : n < b * b) (h : ((List.range b).all fun d => decide (d < 2) || n % d != 0) = true) : Pr n := ⟨h2, fun d hd hdd => by
 have hlt : d < b := by
  rcases Nat.lt_or_ge d b with h | h
  ·exact h
  ·have := Nat.mul_le_mul h h; omega
 have := List.all_eq_true.1 h d (List.mem_range.2 hlt)
 simp at this
 omega⟩
theorem mid_q {x : Int} (hx : x ∈ [(101 : Int), 1009, 1019, 65537, 999983]) : ∃ q k : Nat, x = (q : Int) ∧ q ≤ 1000000 ∧ 1 ≤ q ∧ 1 ≤ k ∧ Pr (1 + k * q) ∧ 1 + k * q ≤ 2000000000 ∧ Pr q := by
 simp only [List.mem_cons, List.not_mem_nil, or_false] at hx
 rcases hx with rfl | rfl | rfl | rfl | rfl
 ·exact ⟨101, 6, rfl, by decide, by decide, by decide, Pr_of (b := 30) (by decide) (by decide) (by decide +kernel), by decide, Pr_of (b := 30) (by decide) (by decide) (by decide +kernel)⟩
 ·exact ⟨1009, 10, rfl, by decide, by decide, by decide, Pr_of (b := 110) (by decide) (by decide) (by decide +kernel), by decide, Pr_of (b := 110) (by decide) (by decide) (by decide +kernel)⟩
 ·exact ⟨1019, 2, rfl, by decide, by decide, by decide, Pr_of (b := 50) (by decide) (by decide) (by decide +kernel), by decide, Pr_of (b := 50) (by decide) (by decide) (by decide +kernel)⟩
 ·exact ⟨65537, 14, rfl, by decide, by decide, by decide, Pr_of (b := 1000) (by decide) (by decide) (by decide +kernel), by decide, Pr_of (b := 1000) (by decide) (by decide) (by decide +kernel)⟩
 ·exact ⟨999983, 12, rfl, by decide, by decide, by decide, Pr_of (b := 3500) (by decide) (by decide) (by decide +kernel), by decide, Pr_of (b := 1001) (by decide) (by decide) (by decide +kernel)⟩
theorem n_groupB {code c0 : List Int} {at_ seed n : Int} (hb : Bt code) (h : Cu code n (c0, at_, seed)) (hn : n ≤ 6000000000000000) : Rn (F_spec_l1Cur_group__io0 c0 at_ seed) (fun z => Gb z.1 ∧ Cu code (n + 6) z.2) := by
 unfold F_spec_l1Cur_group__io0
 refine rn_then (n_pick hb h (by omega)) fun z1 ⟨_, _, _, _, y1⟩ => ?_
 refine rn_if (fun _ => rn_some ⟨show Gb ⟨1000000007, 500000003, 4⟩ from ⟨by decide, by decide, by decide⟩, y1.mono (by omega)⟩) fun _ => ?_
 refine rn_if (fun _ => ?_) fun _ => ?_
 ·refine rn_then (n_amongM hb y1 (by omega) (by simp)) fun z2 ⟨m2, y2⟩ => ?_
  obtain ⟨q, k, e, hq, q1, k1, hp, hpl, hqp⟩ := mid_q m2
  rw [e]
  refine rn_then (n_MakeGroup hq) fun z3 ⟨g3, t3, x3⟩ => rn_some ⟨?_, y2.mono (by omega)⟩
  obtain ⟨e1, e2⟩ := t3 (x3 k k1 hp hpl hqp)
  have a1 := g3.p
  have a2 := g3.g
  exact ⟨by show 1 ≤ z3.1.P ∧ z3.1.P ≤ _; omega, by show 1 ≤ z3.1.Q ∧ z3.1.Q ≤ _; omega, a2⟩
 ·refine rn_then (n_tiny hb y1 (by omega)) fun z2 ⟨g2, q1, q2, p1, y2⟩ => ?_
  refine rn_then (n_pick hb y2 (by omega)) fun z3 ⟨_, _, _, _, y3⟩ => ?_
  have a1 := g2.p
  refine rn_then (n_gExpT g2 (by omega) (by omega) g2.g _) fun v hv => rn_some ⟨⟨by show 1 ≤ z2.1.P ∧ z2.1.P ≤ _; omega, by show 1 ≤ z2.1.Q ∧ z2.1.Q ≤ _; omega, hv⟩, y3.mono (by omega)⟩
theorem Gb.w {gr : Group} (k : Gb gr) : Gw gr := by
 have a := k.p
 have b := k.q
 have c := k.g
 exact ⟨by omega, by omega, by omega⟩
theorem n_DFWH {code : List Int} (hb : Bt code) : Rn (F_spec_DrawFirstWrongHead code) (fun z => SmB z.2.1 ∧ z.2.2.length ≤ 3 ∧ ∀ h ∈ z.2.2, SmP h.Sign) := by
 unfold F_spec_DrawFirstWrongHead
 refine rn_then (n_groupB hb (cu0 code) (by omega)) fun z1 ⟨g1, y1⟩ => ?_
 have hq := g1.q
 refine rn_then (n_boardD hb y1 (by omega) g1) fun z2 ⟨b1, b2, ⟨b3, b4, b5⟩, y2⟩ => ?_
 have hl := b1.l
 refine rn_then (n_pick hb y2 (by omega)) fun z3 ⟨c0, _, c2, _, y3⟩ => ?_
 have c2 := c2 (by omega)
 refine rn_then (ψ := fun v => (v.2.length ≤ 3 ∧ ∀ h ∈ v.2, SmP h.Sign) ∧ Cu code 400 v.1) (rn_wloop (fun s => (0 ≤ s.2.2 ∧ (s.2.1.length : Int) + s.2.2 ≤ 3) ∧ (∀ h ∈ s.2.1, SmP h.Sign) ∧ Cu code (350 - 40 * s.2.2) s.1) (fun s => s.2.2.toNat) ⟨⟨c0, by simp; omega⟩, fun h hh => by simp at hh, y3.mono (by show _ ≤ 350 - 40 * z3.1; omega)⟩ ?_) fun v ⟨⟨v1, v2⟩, v3⟩ => ?_
 ·rintro s ⟨⟨s1, s2⟩, s3, s4⟩
  refine rn_if (fun g => ?_) fun _ => rn_some ⟨⟨by show s.2.1.length ≤ 3; omega, s3⟩, s4.mono (by omega)⟩
  have g : 0 < s.2.2 := by simpa using g
  rw [wr64 (n := (z2.1.Entries.length : Int) + 1) (by omega) (by omega)]
  refine rn_then (n_pick hb s4 (by omega)) fun z4 ⟨d0, d1, d2, _, y4⟩ => ?_
  have hc : z4.1 ≤ (z2.1.Entries.length : Int) := by
   rcases Int.lt_or_le 1 ((z2.1.Entries.length : Int) + 1) with g | g
   ·have := d2 g; omega
   ·have := d1 g; omega
  refine rn_then (n_pick hb y4 (by omega)) fun z5 ⟨e0, e1, e2, _, y5⟩ => ?_
  have hd : z5.1 < (z2.2.1.length : Int) := by
   rcases Int.lt_or_le 1 (z2.2.1.length : Int) with g | g
   ·exact e2 g
   ·have := e1 g; omega
  obtain ⟨i, hi⟩ := Int.eq_ofNat_of_zero_le e0
  rw [hi] at hd ⊢
  refine rn_ix (by omega) (rn_call (n_leavesD b1 (by omega)) (rn_gd d0 (rn_gd (by rw [leaves_len]; omega) ?_)))
  rw [List.drop_zero]
  obtain ⟨r, r1, _, _⟩ := n_root (l := (leaves z2.1).take z4.1.toNat) (by rw [List.length_take, leaves_len]; omega) (dig_take (leaves_dig _) _)
  refine rn_call r1 (rn_then (n_expo hb y5 (by omega) (by omega)) fun z6 ⟨_, _, _, y6⟩ => ?_)
  obtain ⟨h, t, f1, f3⟩ := n_SignHS z1.1 (z2.2.1[i]'(by omega)) (i : Int) z4.1 r z6.1
  refine rn_call f1 (rn_then (n_one hb y6 (by omega)) fun z7 y7 => ?_)
  refine rn_then (ψ := fun v => SmP ⟨v.2.2.2.2.1, v.2.2.2.2.2.1, v.2.2.2.2.2.2⟩ ∧ Cu code (350 - 40 * s.2.2 + 2 + 2 + 4 + 2 + 20) v.1) (rn_if (fun _ => rn_then (n_spoiltH hb y7 (by omega) g1.w f3) fun z8 ⟨s8, y8⟩ => rn_some ⟨s8, y8.mono (by omega)⟩) fun _ => rn_some ⟨⟨by show h.Sign.Commits.length ≤ 1001; omega, by show h.Sign.Challenges.length ≤ 1001; omega, by show h.Sign.Responses.length ≤ 1001; omega⟩, y7.mono (by omega)⟩) fun v ⟨v1, v2⟩ => rn_gd (by omega) (rn_some ?_)
  have ew : IntKind.i64.wrap (s.2.2 - 1) = s.2.2 - 1 := wr64 (by omega) (by omega)
  rw [ew]
  refine ⟨⟨⟨by show 0 ≤ s.2.2 - 1; omega, by show (((s.2.1 ++ [_]).length : Nat) : Int) + (s.2.2 - 1) ≤ 3; simp; omega⟩, fun f hf => ?_, v2.mono (by show _ ≤ 350 - 40 * (s.2.2 - 1); omega)⟩, by show (s.2.2 - 1).toNat < s.2.2.toNat; omega⟩
  rcases List.mem_append.1 (show f ∈ s.2.1 ++ [_] from hf) with hf | hf
  ·exact s3 f hf
  ·rw [List.mem_singleton.1 hf]; exact v1
 ·refine rn_then (n_one hb v3 (by omega)) fun z5 y5 => ?_
  refine rn_then (ψ := fun v => SmB ⟨v.1, v.2⟩) (rn_if (fun _ => rn_then (n_anyBoard hb y5 (by omega) g1.w) fun z6 ⟨s6, _⟩ => rn_some s6) fun _ => rn_some (b1.s (by omega))) fun w hw => rn_some ⟨hw, v1, v2⟩
theorem n_DPP {code : List Int} (hb : Bt code) : Rn (F_spec_DrawProvenPrefix code) (fun z => SmB z.2.1 ∧ SmP z.2.2.1.Sign ∧ SmP z.2.2.2.Sign) := by
 unfold F_spec_DrawProvenPrefix
 refine rn_then (n_DFWH hb) fun z1 ⟨b1, b2, b3⟩ => ?_
 refine rn_if (fun _ => rn_some ⟨b1, ⟨by simp, by simp, by simp⟩, ⟨by simp, by simp, by simp⟩⟩) fun g => ?_
 have g : ¬ ((z1.2.2.length : Int) < 2) := by simpa using g
 have l0 : 0 < z1.2.2.length := by omega
 have l1 : 1 < z1.2.2.length := by omega
 refine rn_ix (k := 0) l0 (rn_ix (k := 1) l1 ?_)
 have h0 := b3 _ (List.getElem_mem l0)
 have h1 := b3 _ (List.getElem_mem l1)
 exact rn_if (fun _ => rn_some ⟨b1, h1, h0⟩) fun _ => rn_some ⟨b1, h0, h1⟩
theorem law25 (a b : List Int) (h0 : ∀ x ∈ a, 0 ≤ x ∧ x ≤ 255) (h1 : ∀ x ∈ b, 0 ≤ x ∧ x ≤ 255) (hl0 : a.length ≤ 1048576) (hl1 : b.length ≤ 1048576) : F_laws_FnPrefixes a b = some true := by
 unfold F_laws_FnPrefixes F_laws_big
 refine eq_of_rn (rn_then (ψ := fun _ => True) ?_ fun v _ => ?_)
 ·exact rn_then (ψ := fun _ => True) (rn_if (fun _ => rn_some trivial) fun _ => rn_some trivial) fun _ _ => rn_some trivial
 refine rn_if (fun _ => rn_some rfl) fun _ => ?_
 refine rn_then (n_DPP ⟨h0, hl0⟩) fun z ⟨s1, s2, s3⟩ => ?_
 obtain ⟨l, t, e1, e2, _⟩ := n_prefix z.1 s1.l s2.l s3.l
 refine rn_call e2 (rn_call e1 ?_)
 refine rn_then (ψ := fun v => v = false) (rn_f (by simp) (rn_call n_sameIL (rn_some rfl))) ?_
 rintro _ rfl
 refine rn_f rfl ?_
 refine rn_then (ψ := fun v => v = .inl ()) (rn_if (fun g => ?_) fun _ => rn_some rfl) ?_
 ·have g : t = true := g
  subst g
  obtain ⟨⟨i1, i2⟩, c, c1, c2, c3⟩ := n_prefix2 z.1 s1.l s2.l s3.l e2
  refine rn_call c1 (rn_then (ψ := fun v => v = false) (rn_f rfl ?_) ?_)
  ·rcases Int.lt_or_le z.2.2.1.Size z.2.2.2.Size with h | h
   ·refine rn_t (decide_eq_true h) (rn_f (by rw [c2 h]; rfl) (rn_f (beq_false_of_ne (by omega)) (rn_some rfl)))
   ·refine rn_f (decide_eq_false (by omega)) (rn_t (by rw [show z.2.2.1.Size = z.2.2.2.Size by omega]; simp) (rn_some (by rw [c3 (by omega)]; rfl)))
  ·rintro _ rfl
   exact rn_f rfl (rn_some rfl)
 ·rintro _ rfl
  refine rn_then (n_DFWH ⟨h1, hl1⟩) fun y ⟨y1, y2, y3⟩ => ?_
  obtain ⟨i, u, f1, f2⟩ := n_FWH y.1 y1.l (fun h hh => smP_l (y3 h hh)) (by omega)
  refine rn_call f1 (rn_call f2 ?_)
  refine rn_then (ψ := fun v => v = true) (rn_t (by simp) (rn_some (by simp))) ?_
  rintro _ rfl
  exact rn_some rfl
end Go.Pm
