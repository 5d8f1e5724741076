/-
  FnForks: plain laws.
  No condition.
-/
import Derived.Test.YtnghbnplpfnpaaaGreatM21b
import Derived.Test.YtnghbnplpfnpaaaGreatPmZ
namespace Go.Pm
open Go.Am
set_option linter.unusedVariables false
set_option linter.unusedSimpArgs false
theorem take_step {l r : List Int} {k : Nat} (h1 : k < l.length) (h2 : k < r.length) (h : l.take k = r.take k) (he : l[k] = r[k]) : l.take (k + 1) = r.take (k + 1) := by
 rw [List.take_succ_eq_append_getElem h1, List.take_succ_eq_append_getElem h2, h, he]
theorem p_l1Same (a b : List Int) (ha : a.length ≤ 1048576) : F_spec_l1Same a b = some (decide (a = b)) := by
 unfold F_spec_l1Same
 by_cases hl : a.length = b.length
 ·have e : ((a.length : Int) != (b.length : Int)) = false := by simp [hl]
  simp only [e, Bool.false_eq_true, if_false]
  obtain ⟨r, hb, hp⟩ := rloop_post (σ := Unit) (β := Unit ⊕ Bool) (body := fun i16 s15 =>
   (ix a i16).bind fun x25 =>
   (ix b i16).bind fun x32 =>
   if (x25 != x32) = true then (
   some (.out (.inr false))) else (
   some (.go ()))) (stop := fun s15 => .inl ()) (m := a.length) (i0 := 0) (s0 := ()) (fun k _ => a.take k = b.take k)
   (fun r => Sum.elim (fun _ => a = b) (fun r => r = false ∧ a ≠ b) r) (by simp)
   (by
     rintro k s hk hI
     have hk2 : k < b.length := by omega
     rw [Int.zero_add]
     simp only [ix_at hk, ix_at hk2, Option.bind_some]
     by_cases he : a[k] = b[k]
     ·exact .inl ⟨(), by simp [he], take_step hk hk2 hI he⟩
     ·exact .inr ⟨.inr false, by simp [he], rfl, fun h => by subst h; exact he rfl⟩)
   (by
     rintro s hI
     rw [List.take_length, hl, List.take_length] at hI
     exact hI)
  rw [hb, Option.bind_some]
  cases r with
  | inl u => have hp : a = b := hp; simp [hp]
  | inr r =>
   obtain ⟨h1, h2⟩ : r = false ∧ a ≠ b := hp
   simp [h1, h2]
 ·have e : ((a.length : Int) != (b.length : Int)) = true := by simp; omega
  have : a ≠ b := fun h => hl (by rw [h])
  simp [e, this]
theorem p_Equal (a b : List Int) : F_slices_Equal_int_int a b = some (decide (a = b)) := by
 unfold F_slices_Equal_int_int
 by_cases hl : a.length = b.length
 ·have e : ((a.length : Int) != (b.length : Int)) = false := by simp [hl]
  simp only [e, Bool.false_eq_true, if_false]
  obtain ⟨r, hb, hp⟩ := rloop_post (σ := Unit) (β := Unit ⊕ Bool) (body := fun i16 s15 =>
   (ix a i16).bind fun x25 =>
   (ix b i16).bind fun x32 =>
   if (x25 != x32) = true then (
   some (.out (.inr false))) else (
   some (.go ()))) (stop := fun s15 => .inl ()) (m := a.length) (i0 := 0) (s0 := ()) (fun k _ => a.take k = b.take k)
   (fun r => Sum.elim (fun _ => a = b) (fun r => r = false ∧ a ≠ b) r) (by simp)
   (by
     rintro k s hk hI
     have hk2 : k < b.length := by omega
     rw [Int.zero_add]
     simp only [ix_at hk, ix_at hk2, Option.bind_some]
     by_cases he : a[k] = b[k]
     ·exact .inl ⟨(), by simp [he], take_step hk hk2 hI he⟩
     ·exact .inr ⟨.inr false, by simp [he], rfl, fun h => by subst h; exact he rfl⟩)
   (by
     rintro s hI
     rw [List.take_length, hl, List.take_length] at hI
     exact hI)
  rw [hb, Option.bind_some]
  cases r with
  | inl u => have hp : a = b := hp; simp [hp]
  | inr r =>
   obtain ⟨h1, h2⟩ : r = false ∧ a ≠ b := hp
   simp [h1, h2]
 ·have e : ((a.length : Int) != (b.length : Int)) = true := by simp; omega
  have : a ≠ b := fun h => hl (by rw [h])
  simp [e, this]
theorem n_within (a b c : Int) : F_impl_within a b c = some (decide (b ≤ a) && decide (a ≤ c)) := by
 unfold F_impl_within
 by_cases h : b ≤ a <;> simp [h]
theorem n_l1In (a b c : Int) : F_spec_l1In a b c = some (decide (b ≤ a) && decide (a ≤ c)) := by
 unfold F_spec_l1In
 by_cases h : b ≤ a <;> simp [h]
theorem n_isModulus (a : Int) : F_impl_isModulus a = some (decide (2 ≤ a) && decide (a ≤ 2000000000)) := by
 unfold F_impl_isModulus
 rw [n_within]; rfl
theorem tmod_cast (a b : Nat) : (a : Int).tmod (b : Int) = ((a % b : Nat) : Int) := by rw [Int.tmod_eq_emod_of_nonneg (by omega)]; exact (Int.natCast_emod _ _).symm
theorem tdiv_cast (a b : Nat) : (a : Int).tdiv (b : Int) = ((a / b : Nat) : Int) := by rw [Int.tdiv_eq_ediv_of_nonneg (by omega)]; exact (Int.natCast_ediv _ _).symm
theorem mul_cast (a b : Nat) : (a : Int) * (b : Int) = ((a * b : Nat) : Int) := (Int.natCast_mul _ _).symm
theorem and_one {e : Nat} (he : e ≤ 9223372036854775807) : IntKind.i64.wrap (BitVec.ofInt IntKind.i64.bits (e : Int) &&& BitVec.ofInt IntKind.i64.bits 1).toNat = ((e % 2 : Nat) : Int) := by
 have h1 : (BitVec.ofInt IntKind.i64.bits (e : Int) &&& BitVec.ofInt IntKind.i64.bits 1).toNat = e % 2 := by
  rw [BitVec.toNat_and]
  have a1 : (BitVec.ofInt IntKind.i64.bits (e : Int)).toNat = e := by
   rw [BitVec.toNat_ofInt]
   have : IntKind.i64.bits = 64 := rfl
   rw [this]
   omega
  have a2 : (BitVec.ofInt IntKind.i64.bits 1).toNat = 1 := by decide
  rw [a1, a2, Nat.and_one_is_mod]
 rw [h1, wr64 (by omega) (by omega)]
theorem n_power {a e m : Nat} (ha : a ≤ 2000000000) (hm : 1 ≤ m) (hm2 : m ≤ 2000000000) (he : e ≤ 9223372036854775807) : F_impl_power (a : Int) (e : Int) (m : Int) = some ((a ^ e % m : Nat) : Int) := by
 unfold F_impl_power
 refine eq_of_rn (rn_gd (by omega) (rn_then (φ := (· = ((a ^ e % m : Nat) : Int))) (rn_wloop (φ := (· = ((a ^ e % m : Nat) : Int))) (fun s => ∃ x y o : Nat, s = ((x : Int), (y : Int), (o : Int)) ∧ x ≤ 2000000000 ∧ y ≤ e ∧ o < m ∧ o * x ^ y % m = a ^ e % m) (fun s => s.2.1.toNat)
  ⟨a, e, 1 % m, by rw [show (1 : Int) = ((1 : Nat) : Int) from rfl, tmod_cast], ha, Nat.le_refl _, Nat.mod_lt _ (by omega), by rw [Nat.mod_mul_mod, Nat.one_mul]⟩ ?_) fun x hx => rn_some hx))
 rintro s ⟨x, y, o, rfl, hx, hy, ho, hi⟩
 refine rn_if (fun h0 => ?_) fun h0 => ?_
 ·have h0 : 0 < y := by simpa using h0
  have hox : o * x ≤ 4000000000000000000 := Nat.le_trans (Nat.mul_le_mul (show o ≤ 2000000000 by omega) hx) (by decide)
  have hxx : x * x ≤ 4000000000000000000 := Nat.le_trans (Nat.mul_le_mul hx hx) (by decide)
  refine rn_then (ψ := fun o' => ∃ k : Nat, o' = (k : Int) ∧ k < m ∧ k * (x * x) ^ (y / 2) % m = a ^ e % m) ?_ ?_
  ·simp only [and_one (show y ≤ 9223372036854775807 by omega)]
   refine rn_if (fun h1 => rn_gd (by omega) (rn_some ⟨o * x % m, ?_, Nat.mod_lt _ (by omega), ?_⟩)) fun h1 => rn_some ⟨o, rfl, ho, ?_⟩
   ·rw [mul_cast, wr64 (by omega) (by omega), tmod_cast]
   ·have h1 : y % 2 = 1 := by
     have : ((y % 2 : Nat) : Int) = 1 := by simpa using h1
     omega
    rw [Nat.mod_mul_mod, ← hi, ← Nat.pow_two, ← Nat.pow_mul, Nat.mul_assoc, ← Nat.pow_succ']
    congr 3; omega
   ·have h1 : y % 2 = 0 := by
     have : ¬ ((y % 2 : Nat) : Int) = 1 := by simpa using h1
     omega
    rw [← hi, ← Nat.pow_two, ← Nat.pow_mul]
    congr 3; omega
  ·rintro o' ⟨k, rfl, hk, hk2⟩
   refine rn_gd (by omega) (rn_some ⟨⟨x * x % m, y / 2, k, ?_, by have := Nat.mod_lt (x * x) (show 0 < m by omega); omega, by omega, hk, ?_⟩, ?_⟩)
   ·rw [mul_cast, wr64 (by omega) (by omega), tmod_cast]
    have e3 : (y : Int).fdiv 2 = ((y / 2 : Nat) : Int) := by rw [Int.fdiv_eq_ediv_of_nonneg _ (by omega)]; rfl
    show (_, (y : Int).fdiv 2, _) = _
    rw [e3]
   ·rw [Nat.mul_mod, ← Nat.pow_mod, ← Nat.mul_mod]
    exact hk2
   ·show ((y : Int).fdiv 2).toNat < (y : Int).toNat
    rw [Int.fdiv_eq_ediv_of_nonneg _ (by omega)]
    omega
 ·have h0 : y = 0 := by
   have : ¬ (0 < y) := by simpa using h0
   omega
  subst h0
  refine rn_some ?_
  show (o : Int) = _
  rw [Nat.pow_zero, Nat.mul_one, Nat.mod_eq_of_lt ho] at hi
  rw [hi]
theorem n_nPower {a e m : Nat} (ha : a ≤ 2000000000) (hm : 1 ≤ m) (hm2 : m ≤ 2000000000) (he : e ≤ 9223372036854775807) : F_spec_nPower (a : Int) (e : Int) (m : Int) = some ((a ^ e % m : Nat) : Int) := by
 unfold F_spec_nPower
 refine eq_of_rn (rn_gd (by omega) (rn_then (φ := (· = ((a ^ e % m : Nat) : Int))) (rn_wloop (φ := (· = ((a ^ e % m : Nat) : Int))) (fun s => ∃ x y o : Nat, s = ((x : Int), (y : Int), (o : Int)) ∧ x ≤ 2000000000 ∧ y ≤ e ∧ o < m ∧ o * x ^ y % m = a ^ e % m) (fun s => s.2.1.toNat)
  ⟨a, e, 1 % m, by rw [show (1 : Int) = ((1 : Nat) : Int) from rfl, tmod_cast], ha, Nat.le_refl _, Nat.mod_lt _ (by omega), by rw [Nat.mod_mul_mod, Nat.one_mul]⟩ ?_) fun x hx => rn_some hx))
 rintro s ⟨x, y, o, rfl, hx, hy, ho, hi⟩
 refine rn_if (fun h0 => ?_) fun h0 => ?_
 ·have h0 : 0 < y := by simpa using h0
  have hox : o * x ≤ 4000000000000000000 := Nat.le_trans (Nat.mul_le_mul (show o ≤ 2000000000 by omega) hx) (by decide)
  have hxx : x * x ≤ 4000000000000000000 := Nat.le_trans (Nat.mul_le_mul hx hx) (by decide)
  have e2 : (y : Int).tmod 2 = ((y % 2 : Nat) : Int) := tmod_cast y 2
  refine rn_then (ψ := fun o' => ∃ k : Nat, o' = (k : Int) ∧ k < m ∧ k * (x * x) ^ (y / 2) % m = a ^ e % m) ?_ ?_
  ·simp only [e2]
   refine rn_if (fun h1 => rn_gd (by omega) (rn_some ⟨o * x % m, ?_, Nat.mod_lt _ (by omega), ?_⟩)) fun h1 => rn_some ⟨o, rfl, ho, ?_⟩
   ·rw [mul_cast, wr64 (by omega) (by omega), tmod_cast]
   ·have h1 : y % 2 = 1 := by
     have : ((y % 2 : Nat) : Int) = 1 := by simpa using h1
     omega
    rw [Nat.mod_mul_mod, ← hi, ← Nat.pow_two, ← Nat.pow_mul, Nat.mul_assoc, ← Nat.pow_succ']
    congr 3; omega
   ·have h1 : y % 2 = 0 := by
     have : ¬ ((y % 2 : Nat) : Int) = 1 := by simpa using h1
     omega
    rw [← hi, ← Nat.pow_two, ← Nat.pow_mul]
    congr 3; omega
  ·rintro o' ⟨k, rfl, hk, hk2⟩
   have e3 : (y : Int).tdiv 2 = ((y / 2 : Nat) : Int) := tdiv_cast y 2
   refine rn_gd (by omega) (rn_some ⟨⟨x * x % m, y / 2, k, ?_, by have := Nat.mod_lt (x * x) (show 0 < m by omega); omega, by omega, hk, ?_⟩, ?_⟩)
   ·simp only [e3]
    rw [mul_cast, wr64 (n := ((x * x : Nat) : Int)) (by omega) (by omega), tmod_cast, wr64 (n := ((y / 2 : Nat) : Int)) (by omega) (by omega)]
   ·rw [Nat.mul_mod, ← Nat.pow_mod, ← Nat.mul_mod]
    exact hk2
   ·show (IntKind.i64.wrap ((y : Int).tdiv 2)).toNat < (y : Int).toNat
    rw [e3, wr64 (by omega) (by omega)]
    omega
 ·have h0 : y = 0 := by
   have : ¬ (0 < y) := by simpa using h0
   omega
  subst h0
  refine rn_some ?_
  show (o : Int) = _
  rw [Nat.pow_zero, Nat.mul_one, Nat.mod_eq_of_lt ho] at hi
  rw [hi]
theorem n_mod {a q : Int} (h0 : 0 < q) (h1 : q ≤ 2000000000) : F_impl_mod a q = some (a % q) := by
 unfold F_impl_mod
 rw [gd_t (by omega), gd_t (by omega)]
 have b1 : a.tmod q < q := Int.tmod_lt_of_pos a h0
 have b2 : -q < a.tmod q := by
  have := Int.lt_tmod_of_pos a h0
  omega
 rw [wr64 (by omega) (by omega), Int.tmod_eq_emod_of_nonneg (by omega)]
 congr 1
 rw [Int.add_emod_right]
 rw [Int.tmod_def, Int.sub_emod, Int.mul_emod_right, Int.sub_zero, Int.emod_emod]
theorem n_nMod {a q : Int} (h0 : 0 < q) (h1 : q ≤ 2000000000) : F_spec_nMod a q = some (a % q) := by
 unfold F_spec_nMod
 rw [gd_t (by omega), gd_t (by omega)]
 have b1 : a.tmod q < q := Int.tmod_lt_of_pos a h0
 have b2 : -q < a.tmod q := by
  have := Int.lt_tmod_of_pos a h0
  omega
 rw [wr64 (by omega) (by omega), Int.tmod_eq_emod_of_nonneg (by omega)]
 congr 1
 rw [Int.add_emod_right]
 rw [Int.tmod_def, Int.sub_emod, Int.mul_emod_right, Int.sub_zero, Int.emod_emod]
def Pr (n : Nat) : Prop := 2 ≤ n ∧ ∀ d, 2 ≤ d → d * d ≤ n → n % d ≠ 0
open Classical in
noncomputable def prB (n : Int) : Bool := decide (Pr n.toNat)
theorem prB_t {n : Nat} : prB (n : Int) = true ↔ Pr n := by simp [prB]
theorem n_nPrime (n : Int) (h : n ≤ 2000000000) : F_spec_nPrime n = some (prB n) := by
 unfold F_spec_nPrime
 refine eq_of_rn (rn_if (fun h0 => rn_some ?_) fun h0 => ?_)
 ·have h0 : n < 2 := by simpa using h0
  symm
  unfold prB
  rw [decide_eq_false_iff_not]
  intro hp
  have := hp.1
  omega
 ·have h0 : ¬ n < 2 := by simpa using h0
  obtain ⟨n, rfl⟩ := Int.eq_ofNat_of_zero_le (show 0 ≤ n by omega)
  refine rn_then (ψ := fun b => (b = .inl () ∧ Pr n) ∨ (b = .inr false ∧ ¬ Pr n)) (rn_wloop (fun s => ∃ d : Nat, s = (d : Int) ∧ 2 ≤ d ∧ d ≤ 44723 ∧ ∀ k, 2 ≤ k → k < d → k * k ≤ n → n % k ≠ 0) (fun s => 50000 - s.toNat) ⟨2, rfl, by omega, by omega, fun k h1 h2 => by omega⟩ ?_) ?_
  ·rintro s ⟨d, rfl, hd, hd2, hi⟩
   have hdd : d * d ≤ 2000146729 := Nat.le_trans (Nat.mul_le_mul hd2 hd2) (by decide)
   rw [mul_cast, wr64 (by omega) (by omega)]
   refine rn_if (fun h1 => rn_gd (by omega) (rn_if (fun h2 => rn_some (.inr ⟨rfl, ?_⟩)) fun h2 => rn_some ?_)) fun h1 => rn_some (.inl ⟨rfl, by omega, fun k hk hkn => ?_⟩)
   ·have h1 : d * d ≤ n := by have := of_decide_eq_true h1; omega
    rw [tmod_cast] at h2
    have h2 : n % d = 0 := by have : ((n % d : Nat) : Int) = 0 := by simpa using h2
                              omega
    exact fun hp => hp.2 d hd h1 h2
   ·have h1 : d * d ≤ n := by have := of_decide_eq_true h1; omega
    rw [tmod_cast] at h2
    have h2 : n % d ≠ 0 := by have : ¬ ((n % d : Nat) : Int) = 0 := by simpa using h2
                              omega
    have hd3 : d ≤ 44722 := by
     rcases Nat.lt_or_ge d 44723 with h | h
     ·omega
     ·have : 44723 * 44723 ≤ d * d := Nat.mul_le_mul h h
      omega
    rw [wr64 (by omega) (by omega)]
    refine ⟨⟨d + 1, rfl, by omega, by omega, fun k h3 h4 h5 => ?_⟩, by omega⟩
    rcases Nat.lt_or_ge k d with h | h
    ·exact hi k h3 h h5
    ·have : k = d := by omega
     subst this
     exact h2
   ·have h1 : n < d * d := by have := of_decide_eq_false h1; omega
    rcases Nat.lt_or_ge k d with h | h
    ·exact hi k hk h hkn
    ·have := Nat.mul_le_mul h h
     omega
  ·rintro b (⟨rfl, hp⟩ | ⟨rfl, hp⟩)
   ·exact rn_some (prB_t.2 hp).symm
   ·refine rn_some ?_
    symm
    unfold prB
    rw [decide_eq_false_iff_not]
    exact hp
theorem n_isPrime (n : Int) : F_impl_isPrime n = some (decide (n ≤ 2000000000) && prB n) := by
 unfold F_impl_isPrime
 by_cases h : 2 ≤ n ∧ n ≤ 2000000000
 ·obtain ⟨n, rfl⟩ := Int.eq_ofNat_of_zero_le (show 0 ≤ n by omega)
  have e2 : ((n : Int)).tmod 2 = ((n % 2 : Nat) : Int) := tmod_cast n 2
  have em : (decide (2 ≤ (n : Int)) && decide ((n : Int) ≤ 2000000000)) = true := by simp only [Bool.and_eq_true, decide_eq_true_eq]; exact h
  rw [show (decide ((n : Int) ≤ 2000000000) && prB (n : Int)) = prB (n : Int) by simp [h.2]]
  refine eq_of_rn (rn_then (ψ := fun b => b = decide (n % 2 = 0 ∧ n ≠ 2)) (rn_call (n_isModulus _) ?_) ?_)
  ·rw [em]
   refine rn_f rfl ?_
   rw [e2]
   refine rn_if (fun h1 => rn_some ?_) fun h1 => rn_some ?_
   ·have h1 : n % 2 = 0 := by have : ((n % 2 : Nat) : Int) = 0 := by simpa using h1
                              omega
    have : ((n : Int) != 2) = decide (n ≠ 2) := by
     by_cases hn : n = 2
     ·subst hn; rfl
     ·have hn' : ¬ (n : Int) = 2 := by omega
      simp [hn, hn']
    rw [this]; simp [h1]
   ·have h1 : n % 2 ≠ 0 := by have : ¬ ((n % 2 : Nat) : Int) = 0 := by simpa using h1
                              omega
    simp [h1]
  ·rintro b rfl
   refine rn_if (fun h1 => rn_some ?_) fun h1 => ?_
   ·have h1 := of_decide_eq_true h1
    symm
    unfold prB
    rw [decide_eq_false_iff_not]
    intro hp
    have hn : 4 ≤ n := by omega
    exact hp.2 2 (by omega) hn h1.1
   ·have h1 := of_decide_eq_false h1
    refine rn_then (ψ := fun b => (b = .inl () ∧ Pr n) ∨ (b = .inr false ∧ ¬ Pr n)) (rn_wloop (fun s => ∃ d : Nat, s = (d : Int) ∧ 3 ≤ d ∧ d % 2 = 1 ∧ d ≤ 44725 ∧ ∀ k, 2 ≤ k → k < d → k * k ≤ n → n % k ≠ 0) (fun s => 50000 - s.toNat) ⟨3, rfl, by omega, by omega, by omega, fun k h2 h3 h4 => ?_⟩ ?_) ?_
    ·have : k = 2 := by omega
     subst this
     intro h5
     exact h1 ⟨h5, by omega⟩
    ·rintro s ⟨d, rfl, hd, hodd, hd2, hi⟩
     have hdd : d * d ≤ 2000325625 := Nat.le_trans (Nat.mul_le_mul hd2 hd2) (by decide)
     rw [mul_cast, wr64 (by omega) (by omega)]
     refine rn_if (fun h1 => rn_gd (by omega) (rn_if (fun h2 => rn_some (.inr ⟨rfl, ?_⟩)) fun h2 => rn_some ?_)) fun h1 => rn_some (.inl ⟨rfl, by omega, fun k hk hkn => ?_⟩)
     ·have h1 : d * d ≤ n := by have := of_decide_eq_true h1; omega
      rw [tmod_cast] at h2
      have h2 : n % d = 0 := by have : ((n % d : Nat) : Int) = 0 := by simpa using h2
                                omega
      exact fun hp => hp.2 d (by omega) h1 h2
     ·have h3 : d * d ≤ n := by have := of_decide_eq_true h1; omega
      rw [tmod_cast] at h2
      have h2 : n % d ≠ 0 := by have : ¬ ((n % d : Nat) : Int) = 0 := by simpa using h2
                                omega
      have hd3 : d ≤ 44722 := by
       rcases Nat.lt_or_ge d 44723 with h | h
       ·omega
       ·have : 44723 * 44723 ≤ d * d := Nat.mul_le_mul h h
        omega
      rw [wr64 (by omega) (by omega)]
      refine ⟨⟨d + 2, rfl, by omega, by omega, by omega, fun k h4 h5 h6 h7 => ?_⟩, by omega⟩
      rcases Nat.lt_or_ge k d with h | h
      ·exact hi k h4 h h6 h7
      ·rcases (show k = d ∨ k = d + 1 by omega) with e | e
       ·subst e; exact h2 h7
       ·
        have h8 : n % 2 = 0 := by
         have a1 : k ∣ n := Nat.dvd_of_mod_eq_zero h7
         have a2 : 2 ∣ k := Nat.dvd_of_mod_eq_zero (by omega)
         exact Nat.mod_eq_zero_of_dvd (Nat.dvd_trans a2 a1)
        have h9 : 2 * 2 ≤ n := by
         have := Nat.mul_le_mul h4 h4
         omega
        exact hi 2 (by omega) (by omega) h9 h8
     ·have h1 : n < d * d := by have := of_decide_eq_false h1; omega
      rcases Nat.lt_or_ge k d with h | h
      ·exact hi k hk h hkn
      ·have := Nat.mul_le_mul h h
       omega
    ·rintro b (⟨rfl, hp⟩ | ⟨rfl, hp⟩)
     ·exact rn_some (prB_t.2 hp).symm
     ·refine rn_some ?_
      symm
      unfold prB
      rw [decide_eq_false_iff_not]
      exact hp
 ·have em : (decide (2 ≤ n) && decide (n ≤ 2000000000)) = false := by
   rw [Bool.and_eq_false_iff, decide_eq_false_iff_not, decide_eq_false_iff_not]; omega
  rw [n_isModulus, em]
  simp only [Option.bind_some, Bool.not_false, if_true]
  congr 1
  symm
  rw [Bool.and_eq_false_iff, decide_eq_false_iff_not]
  by_cases hn : n ≤ 2000000000
  ·right
   unfold prB
   rw [decide_eq_false_iff_not]
   intro hp
   have := hp.1
   omega
  ·exact .inl hn
structure OkG (gr : Group) : Prop where
 p : 3 ≤ gr.P ∧ gr.P ≤ 2000000000
 q : 2 ≤ gr.Q ∧ gr.Q ≤ gr.P - 1
 d : (gr.P.toNat - 1) % gr.Q.toNat = 0
 g : 2 ≤ gr.G ∧ gr.G ≤ gr.P - 1
 pp : Pr gr.P.toNat
 pq : Pr gr.Q.toNat
 o : gr.G.toNat ^ gr.Q.toNat % gr.P.toNat = 1
open Classical in
noncomputable def okG (gr : Group) : Bool := decide (OkG gr)
theorem okG_t {gr : Group} : okG gr = true ↔ OkG gr := by simp [okG]
theorem okG_f {gr : Group} (h : ¬ OkG gr) : okG gr = false := by simp [okG, h]
theorem okG_of {gr : Group} {b : Bool} (h1 : b = true → OkG gr) (h2 : OkG gr → b = true) : b = okG gr := by
 cases hb : b with
 | true => exact (okG_t.2 (h1 hb)).symm
 | false => exact (okG_f fun h => by rw [h2 h] at hb; cases hb).symm
theorem cast_eq {a : Int} (h : 0 ≤ a) : a = ((a.toNat : Nat) : Int) := by omega
theorem n_powI {a e m : Int} (ha : 0 ≤ a) (ha2 : a ≤ 2000000000) (hm : 1 ≤ m) (hm2 : m ≤ 2000000000) (he : 0 ≤ e) (he2 : e ≤ 9223372036854775807) : F_impl_power a e m = some ((a.toNat ^ e.toNat % m.toNat : Nat) : Int) ∧ F_spec_nPower a e m = some ((a.toNat ^ e.toNat % m.toNat : Nat) : Int) := by
 have h1 := n_power (a := a.toNat) (e := e.toNat) (m := m.toNat) (by omega) (by omega) (by omega) (by omega)
 have h2 := n_nPower (a := a.toNat) (e := e.toNat) (m := m.toNat) (by omega) (by omega) (by omega) (by omega)
 rw [← cast_eq ha, ← cast_eq he, ← cast_eq (show 0 ≤ m by omega)] at h1 h2
 exact ⟨h1, h2⟩
theorem and_iff_t {a b : Bool} : (a && b) = true ↔ a = true ∧ b = true := by simp
theorem n_validG (gr : Group) : F_impl_IsValidGroup gr = some (okG gr) := by
 unfold F_impl_IsValidGroup
 refine eq_of_rn (rn_then (ψ := fun b => b = okG gr) ?_ fun b hb => rn_some hb)
 refine rn_call (n_within _ _ _) (rn_if (fun h => ?_) fun h => ?_)
 ·have hp : 3 ≤ gr.P ∧ gr.P ≤ 2000000000 := by simpa using h
  rw [wr64 (n := gr.P - 1) (by omega) (by omega)]
  refine rn_call (n_within _ _ _) (rn_if (fun h => ?_) fun h => ?_)
  ·have hq : 2 ≤ gr.Q ∧ gr.Q ≤ gr.P - 1 := by simpa using h
   have ed : (gr.P - 1).tmod gr.Q = (((gr.P.toNat - 1) % gr.Q.toNat : Nat) : Int) := by
    rw [cast_eq (show 0 ≤ gr.P - 1 by omega), cast_eq (show 0 ≤ gr.Q by omega), tmod_cast]
    simp only [Int.toNat_natCast]
    congr 2; omega
   refine rn_gd (by omega) ?_
   rw [ed]
   refine rn_if (fun h => ?_) fun h => ?_
   ·have hd : (gr.P.toNat - 1) % gr.Q.toNat = 0 := by
     have : (((gr.P.toNat - 1) % gr.Q.toNat : Nat) : Int) = 0 := by simpa using h
     omega
    refine rn_call (n_within _ _ _) (rn_if (fun h => ?_) fun h => ?_)
    ·have hg : 2 ≤ gr.G ∧ gr.G ≤ gr.P - 1 := by simpa using h
     refine rn_call (n_isPrime _) (rn_if (fun h => ?_) fun h => ?_)
     ·have hpp : Pr gr.P.toNat := by
       rw [and_iff_t, cast_eq (show 0 ≤ gr.P by omega), prB_t] at h
       exact h.2
      refine rn_call (n_isPrime _) (rn_if (fun h => ?_) fun h => ?_)
      ·have hpq : Pr gr.Q.toNat := by
        rw [and_iff_t, cast_eq (show 0 ≤ gr.Q by omega), prB_t] at h
        exact h.2
       refine rn_call (n_powI (a := gr.G) (e := gr.Q) (m := gr.P) (by omega) (by omega) (by omega) (by omega) (by omega) (by omega)).1 (rn_some (okG_of (fun h => ⟨hp, hq, hd, hg, hpp, hpq, ?_⟩) fun h => ?_))
       ·have : ((gr.G.toNat ^ gr.Q.toNat % gr.P.toNat : Nat) : Int) = 1 := by simpa using h
        omega
       ·rw [h.o]; rfl
      ·refine rn_some (okG_f fun hk => ?_).symm
       have : (decide (gr.Q ≤ 2000000000) && prB gr.Q) = true := by
        rw [and_iff_t, cast_eq (show 0 ≤ gr.Q by omega), prB_t]
        exact ⟨by simp; omega, hk.pq⟩
       rw [this] at h; cases h
     ·refine rn_some (okG_f fun hk => ?_).symm
      have : (decide (gr.P ≤ 2000000000) && prB gr.P) = true := by
       rw [and_iff_t, cast_eq (show 0 ≤ gr.P by omega), prB_t]
       exact ⟨by simp; omega, hk.pp⟩
      rw [this] at h; cases h
    ·refine rn_some (okG_f fun hk => ?_).symm
     have := hk.g
     simp at h; omega
   ·refine rn_some (okG_f fun hk => ?_).symm
    rw [hk.d] at h; cases h
  ·refine rn_some (okG_f fun hk => ?_).symm
   have := hk.q
   simp at h; omega
 ·refine rn_some (okG_f fun hk => ?_).symm
  have := hk.p
  simp at h; omega
theorem n_l2Good (gr : Group) : F_spec_l2Good gr = some (okG gr) := by
 unfold F_spec_l2Good
 refine eq_of_rn (rn_then (ψ := fun b => b = okG gr) ?_ fun b hb => rn_some hb)
 refine rn_call (n_l1In _ _ _) (rn_if (fun h => ?_) fun h => ?_)
 ·have hp : 3 ≤ gr.P ∧ gr.P ≤ 2000000000 := by simpa using h
  rw [wr64 (n := gr.P - 1) (by omega) (by omega)]
  refine rn_call (n_l1In _ _ _) (rn_if (fun h => ?_) fun h => ?_)
  ·have hq : 2 ≤ gr.Q ∧ gr.Q ≤ gr.P - 1 := by simpa using h
   have ed : (gr.P - 1).tmod gr.Q = (((gr.P.toNat - 1) % gr.Q.toNat : Nat) : Int) := by
    rw [cast_eq (show 0 ≤ gr.P - 1 by omega), cast_eq (show 0 ≤ gr.Q by omega), tmod_cast]
    simp only [Int.toNat_natCast]
    congr 2; omega
   refine rn_gd (by omega) ?_
   rw [ed]
   refine rn_if (fun h => ?_) fun h => ?_
   ·have hd : (gr.P.toNat - 1) % gr.Q.toNat = 0 := by
     have : (((gr.P.toNat - 1) % gr.Q.toNat : Nat) : Int) = 0 := by simpa using h
     omega
    refine rn_call (n_l1In _ _ _) (rn_if (fun h => ?_) fun h => ?_)
    ·have hg : 2 ≤ gr.G ∧ gr.G ≤ gr.P - 1 := by simpa using h
     refine rn_call (n_powI (a := gr.G) (e := gr.Q) (m := gr.P) (by omega) (by omega) (by omega) (by omega) (by omega) (by omega)).2 (rn_if (fun h => ?_) fun h => ?_)
     ·have ho : gr.G.toNat ^ gr.Q.toNat % gr.P.toNat = 1 := by
       have : ((gr.G.toNat ^ gr.Q.toNat % gr.P.toNat : Nat) : Int) = 1 := by simpa using h
       omega
      refine rn_call (n_nPrime _ (by omega)) (rn_if (fun h => ?_) fun h => ?_)
      ·have hpq : Pr gr.Q.toNat := by
        rw [cast_eq (show 0 ≤ gr.Q by omega), prB_t] at h
        exact h
       refine rn_call (n_nPrime _ (by omega)) (rn_some (okG_of (fun h => ⟨hp, hq, hd, hg, ?_, hpq, ho⟩) fun h => ?_))
       ·rw [cast_eq (show 0 ≤ gr.P by omega), prB_t] at h
        exact h
       ·rw [cast_eq (show 0 ≤ gr.P by omega), prB_t]
        exact h.pp
      ·refine rn_some (okG_f fun hk => ?_).symm
       have : prB gr.Q = true := by
        rw [cast_eq (show 0 ≤ gr.Q by omega), prB_t]
        exact hk.pq
       rw [this] at h; cases h
     ·refine rn_some (okG_f fun hk => ?_).symm
      rw [hk.o] at h; cases h
    ·refine rn_some (okG_f fun hk => ?_).symm
     have := hk.g
     simp at h; omega
   ·refine rn_some (okG_f fun hk => ?_).symm
    rw [hk.d] at h; cases h
  ·refine rn_some (okG_f fun hk => ?_).symm
   have := hk.q
   simp at h; omega
 ·refine rn_some (okG_f fun hk => ?_).symm
  have := hk.p
  simp at h; omega
def hasB (gr : Group) (x : Int) : Bool := decide (1 ≤ x) && decide (x ≤ gr.P - 1) && decide (x.toNat ^ gr.Q.toNat % gr.P.toNat = 1)
def expB (gr : Group) (x : Int) : Bool := decide (0 ≤ x) && decide (x ≤ gr.Q - 1)
theorem n_has {gr : Group} (k : OkG gr) (x : Int) : F_impl_Group_has gr x = some (hasB gr x) := by
 have hp := k.p
 have hq := k.q
 unfold F_impl_Group_has hasB
 rw [wr64 (n := gr.P - 1) (by omega) (by omega), n_within]
 refine eq_of_rn (rn_then (ψ := fun b => b = _) ?_ fun b hb => rn_some hb)
 refine rn_call rfl (rn_if (fun h => ?_) fun h => ?_)
 ·have hx : 1 ≤ x ∧ x ≤ gr.P - 1 := by simpa using h
  refine rn_call (n_powI (a := x) (e := gr.Q) (m := gr.P) (by omega) (by omega) (by omega) (by omega) (by omega) (by omega)).1 (rn_some ?_)
  rw [h, Bool.true_and]
  by_cases h1 : x.toNat ^ gr.Q.toNat % gr.P.toNat = 1
  ·simp [h1]
  ·have : ¬ ((x.toNat ^ gr.Q.toNat % gr.P.toNat : Nat) : Int) = 1 := by omega
   rw [beq_false_of_ne this, decide_eq_false h1]
 ·rw [h]; exact rn_some rfl
theorem n_gIs {gr : Group} (k : OkG gr) (l : List Int) : F_spec_gIs gr l = some (l.all (hasB gr)) := by
 have hp := k.p
 have hq := k.q
 unfold F_spec_gIs
 rw [wr64 (n := gr.P - 1) (by omega) (by omega)]
 refine eq_of_rn (rn_then (ψ := fun b => (b = .inl () ∧ l.all (hasB gr) = true) ∨ (b = .inr false ∧ l.all (hasB gr) = false)) (rn_rloop (fun i s => (l.take i).all (hasB gr) = true) rfl ?_ ?_) ?_)
 ·rintro i s hi hI
  refine rn_ix hi (rn_then (ψ := fun b => b = !hasB gr l[i]) ?_ ?_)
  ·refine rn_call (n_l1In _ _ _) (rn_if (fun h => rn_some ?_) fun h => ?_)
   ·have h : (decide (1 ≤ l[i]) && decide (l[i] ≤ gr.P - 1)) = false := by rwa [Bool.not_eq_true'] at h
    simp [hasB, h]
   ·have h : (decide (1 ≤ l[i]) && decide (l[i] ≤ gr.P - 1)) = true := by simpa using h
    have hx : 1 ≤ l[i] ∧ l[i] ≤ gr.P - 1 := by simpa using h
    refine rn_call (n_powI (a := l[i]) (e := gr.Q) (m := gr.P) (by omega) (by omega) (by omega) (by omega) (by omega) (by omega)).2 (rn_some ?_)
    simp only [hasB, h, Bool.true_and]
    by_cases h1 : l[i].toNat ^ gr.Q.toNat % gr.P.toNat = 1
    ·simp [h1]
    ·have : ¬ ((l[i].toNat ^ gr.Q.toNat % gr.P.toNat : Nat) : Int) = 1 := by omega
     simp only [bne, beq_false_of_ne this, decide_eq_false h1]
  ·rintro b rfl
   refine rn_if (fun h => rn_some (.inr ⟨rfl, ?_⟩)) fun h => rn_some ?_
   ·have h : hasB gr l[i] = false := by simpa using h
    rw [List.all_eq_false]
    exact ⟨l[i], List.getElem_mem hi, by simp [h]⟩
   ·have h : hasB gr l[i] = true := by simpa using h
    show (l.take (i + 1)).all (hasB gr) = true
    rw [List.take_succ_eq_append_getElem hi, List.all_append, hI]
    simp [h]
 ·rintro s hI
  rw [List.take_length] at hI
  exact .inl ⟨rfl, hI⟩
 ·rintro b (⟨rfl, h⟩ | ⟨rfl, h⟩)
  ·exact rn_some h.symm
  ·exact rn_some h.symm
theorem n_l1All (l : List Int) (a b : Int) : F_spec_l1All l a b = some (l.all fun x => decide (a ≤ x) && decide (x ≤ b)) := by
 unfold F_spec_l1All
 refine eq_of_rn (rn_then (ψ := fun c => (c = .inl () ∧ (l.all fun x => decide (a ≤ x) && decide (x ≤ b)) = true) ∨ (c = .inr false ∧ (l.all fun x => decide (a ≤ x) && decide (x ≤ b)) = false)) (rn_rloop (fun i s => ((l.take i).all fun x => decide (a ≤ x) && decide (x ≤ b)) = true) rfl ?_ ?_) ?_)
 ·rintro i s hi hI
  refine rn_ix hi (rn_call (n_l1In _ _ _) (rn_if (fun h => rn_some (.inr ⟨rfl, ?_⟩)) fun h => rn_some ?_))
  ·rw [List.all_eq_false]
   exact ⟨l[i], List.getElem_mem hi, by rw [Bool.not_eq_true'] at h; rw [h]; simp⟩
  ·show ((l.take (i + 1)).all fun x => decide (a ≤ x) && decide (x ≤ b)) = true
   rw [List.take_succ_eq_append_getElem hi, List.all_append, hI]
   simpa using h
 ·rintro s hI
  rw [List.take_length] at hI
  exact .inl ⟨rfl, hI⟩
 ·rintro c (⟨rfl, h⟩ | ⟨rfl, h⟩)
  ·exact rn_some h.symm
  ·exact rn_some h.symm
theorem n_gExps {gr : Group} (h : 0 ≤ gr.Q) (h2 : gr.Q ≤ 2000000000) (l : List Int) : F_spec_gExps gr l = some (l.all (expB gr)) := by
 unfold F_spec_gExps
 rw [wr64 (by omega) (by omega), n_l1All]; rfl
theorem n_isExp {gr : Group} (h : 0 ≤ gr.Q) (h2 : gr.Q ≤ 2000000000) (x : Int) : F_impl_Group_isExp gr x = some (expB gr x) := by
 unfold F_impl_Group_isExp
 rw [wr64 (by omega) (by omega), n_within]; rfl
def powG (gr : Group) (x e : Int) : Int := ((x.toNat ^ (e % gr.Q).toNat % gr.P.toNat : Nat) : Int)
theorem powG_bd {gr : Group} (k : OkG gr) (x e : Int) : 0 ≤ powG gr x e ∧ powG gr x e ≤ gr.P - 1 := by
 have hp := k.p
 unfold powG
 have := Nat.mod_lt (x.toNat ^ (e % gr.Q).toNat) (y := gr.P.toNat) (by omega)
 omega
theorem n_pow {gr : Group} (k : OkG gr) {x : Int} (h0 : 0 ≤ x) (h1 : x ≤ 2000000000) (e : Int) : F_impl_Group_pow gr x e = some (powG gr x e) ∧ F_spec_gExp gr x e = some (powG gr x e) := by
 have hp := k.p
 have hq := k.q
 have b1 : 0 ≤ e % gr.Q := Int.emod_nonneg _ (by omega)
 have b2 : e % gr.Q < gr.Q := Int.emod_lt_of_pos _ (by omega)
 have hw := n_powI (a := x) (e := e % gr.Q) (m := gr.P) (by omega) (by omega) (by omega) (by omega) b1 (by omega)
 unfold F_impl_Group_pow F_spec_gExp
 rw [n_mod (by omega) (by omega), n_nMod (by omega) (by omega), Option.bind_some, Option.bind_some, hw.1, hw.2]
 exact ⟨rfl, rfl⟩
theorem n_gExp {gr : Group} (k : OkG gr) {x : Int} (h0 : 0 ≤ x) (h1 : x ≤ 2000000000) (e : Int) : F_spec_gExp gr x e = some (powG gr x e) := by
 have hp := k.p
 have hq := k.q
 have b1 : 0 ≤ e % gr.Q := Int.emod_nonneg _ (by omega)
 have b2 : e % gr.Q < gr.Q := Int.emod_lt_of_pos _ (by omega)
 have hw := n_powI (a := x) (e := e % gr.Q) (m := gr.P) (by omega) (by omega) (by omega) (by omega) b1 (by omega)
 unfold F_spec_gExp
 rw [n_nMod (by omega) (by omega), Option.bind_some, hw.2]
 rfl
def mulG (gr : Group) (l : List Int) : Int := l.foldl (fun o x => o * x % gr.P) 1
theorem foldG_bd {gr : Group} (h : 1 ≤ gr.P) : ∀ (l : List Int) (o : Int), 0 ≤ o → o ≤ gr.P → (∀ x ∈ l, 0 ≤ x) → 0 ≤ l.foldl (fun o x => o * x % gr.P) o ∧ l.foldl (fun o x => o * x % gr.P) o ≤ gr.P := by
 intro l
 induction l with
 | nil => intro o h0 h1 _; exact ⟨h0, h1⟩
 | cons x l ih =>
  intro o h0 h1 h2
  exact ih _ (Int.emod_nonneg _ (by omega)) (Int.le_of_lt (Int.emod_lt_of_pos (o * x) (show 0 < gr.P by omega))) fun y hy => h2 y (List.mem_cons_of_mem _ hy)
theorem mul_eq (gr : Group) (l : List Int) : F_spec_gMul gr l = F_impl_Group_mul gr l := rfl
theorem n_mul {gr : Group} (k : OkG gr) {l : List Int} (hl : ∀ x ∈ l, 0 ≤ x ∧ x ≤ 2000000000) : F_impl_Group_mul gr l = some (mulG gr l) := by
 have hp := k.p
 unfold F_impl_Group_mul
 refine eq_of_rn (rn_then (ψ := fun b => b = mulG gr l) (rn_rloop (fun i s => s = (l.take i).foldl (fun o x => o * x % gr.P) 1) rfl ?_ ?_) fun b hb => rn_some hb)
 ·rintro i s hi rfl
  have hb := foldG_bd (gr := gr) (by omega) (l.take i) 1 (by omega) (by omega) fun x hx => (hl x (List.mem_of_mem_take hx)).1
  have hx := hl l[i] (List.getElem_mem hi)
  refine rn_ix hi (rn_gd (by omega) (rn_some ?_))
  show _ = (l.take (i + 1)).foldl _ _
  rw [List.take_succ_eq_append_getElem hi, List.foldl_append]
  generalize (l.take i).foldl (fun o x => o * x % gr.P) 1 = o at hb ⊢
  have b1 : 0 ≤ o * l[i] := Int.mul_nonneg hb.1 hx.1
  have b2 : o * l[i] ≤ 2000000000 * 2000000000 := Int.mul_le_mul (by omega) hx.2 hx.1 (by omega)
  show (IntKind.i64.wrap (o * l[i])).tmod gr.P = o * l[i] % gr.P
  rw [wr64 (by omega) (by omega), Int.tmod_eq_emod_of_nonneg b1]
 ·rintro s rfl
  rw [List.take_length]; rfl
theorem n_gMul {gr : Group} (k : OkG gr) {l : List Int} (hl : ∀ x ∈ l, 0 ≤ x ∧ x ≤ 2000000000) : F_spec_gMul gr l = some (mulG gr l) := by rw [mul_eq]; exact n_mul k hl
theorem n_hasAll {gr : Group} (k : OkG gr) (l : List Int) : F_impl_Group_hasAll gr l = some (l.all (hasB gr)) := by
 unfold F_impl_Group_hasAll F_impl_areAll__impl_Group_has F_slices_ContainsFunc_int_int__impl_areAll_1_impl_Group_has F_slices_IndexFunc_int_int__impl_areAll_1_impl_Group_has
 refine eq_of_rn (rn_then (ψ := fun b => b = l.all (hasB gr)) (rn_then (ψ := fun b => b = !l.all (hasB gr)) (rn_then (ψ := fun j => (j = -1 ∧ l.all (hasB gr) = true) ∨ (0 ≤ j ∧ l.all (hasB gr) = false)) (rn_then (ψ := fun b => (b = .inl () ∧ l.all (hasB gr) = true) ∨ (∃ j, b = .inr j ∧ 0 ≤ j ∧ l.all (hasB gr) = false)) (rn_rloop (fun i s => (l.take i).all (hasB gr) = true) rfl ?_ ?_) ?_) ?_) ?_) ?_)
 ·rintro i s hi hI
  have hc : F_impl_areAll_1__impl_Group_has l[i] gr = some (!hasB gr l[i]) := by
   unfold F_impl_areAll_1__impl_Group_has
   rw [n_has k]; rfl
  refine rn_ix hi (rn_call hc (rn_if (fun h => rn_some (.inr ⟨i, rfl, by omega, ?_⟩)) fun h => rn_some ?_))
  ·rw [List.all_eq_false]
   exact ⟨l[i], List.getElem_mem hi, by rw [Bool.not_eq_true'] at h; rw [h]; simp⟩
  ·show (l.take (i + 1)).all (hasB gr) = true
   rw [List.take_succ_eq_append_getElem hi, List.all_append, hI]
   simpa using h
 ·rintro s hI
  rw [List.take_length] at hI
  exact .inl ⟨rfl, hI⟩
 ·rintro b (⟨rfl, h⟩ | ⟨j, rfl, h0, h⟩)
  ·exact rn_some (.inl ⟨rfl, h⟩)
  ·exact rn_some (.inr ⟨h0, h⟩)
 ·rintro j (⟨rfl, h⟩ | ⟨h0, h⟩)
  ·exact rn_some (by rw [h]; rfl)
  ·exact rn_some (by rw [h]; simpa using h0)
 ·rintro b rfl
  exact rn_some (by simp)
 ·rintro b rfl
  exact rn_some rfl
theorem has_bd {gr : Group} {x : Int} (h : hasB gr x = true) : 1 ≤ x ∧ x ≤ gr.P - 1 := by
 simp only [hasB, Bool.and_eq_true, decide_eq_true_eq] at h
 exact h.1
theorem ite_n {α : Type} (b : Bool) (u v : α) : (if b = true then some u else some v) = some (if (!b) = true then v else u) := by cases b <;> rfl
theorem ite_m {α : Type} (b : Bool) (u v : α) : (if (!b) = true then some u else some v) = some (if b = true then v else u) := by cases b <;> rfl
theorem n_first {β : Type} {body : Int → Unit → Option (Stp Unit (Unit ⊕ β))} (m : Nat) (p : Nat → Bool) (val : Nat → β) (h : ∀ k, k < m → body (k : Int) () = some (if p k = true then .go () else .out (.inr (val k)))) :
 (rloop body (fun _ => .inl ()) m 0 () = some (.inl ()) ∧ ∀ k, k < m → p k = true) ∨ ∃ k, k < m ∧ p k = false ∧ (∀ j, j < k → p j = true) ∧ rloop body (fun _ => .inl ()) m 0 () = some (.inr (val k)) := by
 have key : Rn (rloop body (fun _ => Sum.inl ()) m 0 ()) (fun b => (b = .inl () ∧ ∀ k, k < m → p k = true) ∨ ∃ k, k < m ∧ p k = false ∧ (∀ j, j < k → p j = true) ∧ b = .inr (val k)) := by
  refine rn_rloop (fun k _ => ∀ j, j < k → p j = true) (fun j hj => by omega) ?_ fun s hs => .inl ⟨rfl, hs⟩
  intro k s hk hI
  refine ⟨_, h k hk, ?_⟩
  cases hp : p k with
  | true =>
   intro j hj
   rcases Nat.lt_or_ge j k with h | h
   ·exact hI j h
   ·have : j = k := by omega
    rw [this]; exact hp
  | false => exact .inr ⟨k, hk, hp, hI, rfl⟩
 obtain ⟨b, e, h1 | ⟨k, h1, h2, h3, h4⟩⟩ := key
 ·exact .inl ⟨by rw [e, h1.1], h1.2⟩
 ·exact .inr ⟨k, h1, h2, h3, by rw [e, h4]⟩
theorem areAll_gen {l : List Int} {p : Int → Bool} {f : Int → Option Bool} (hf : ∀ x ∈ l, f x = some (!p x)) :
 ((((rloop (σ := Unit) (β := Unit ⊕ Int) (fun i8 s7 => (ix l i8).bind fun x17 => (f x17).bind fun z20 => if z20 = true then (some (.out (.inr i8))) else (some (.go ()))) (fun s7 => .inl ()) (l.length) 0 () : Option (Unit ⊕ Int)).bind (Sum.elim (fun (x5 : Unit) => some (-1)) some)).bind fun z1 => some (decide (0 ≤ z1))).bind fun z1 => some (!z1)) = some (l.all p) := by
 rcases n_first l.length (fun k => (l[k]?).any p) (fun k => (k : Int)) (body := fun i8 s7 => (ix l i8).bind fun x17 => (f x17).bind fun z20 => if z20 = true then (some (.out (.inr i8))) else (some (.go ()))) (fun k hk => by
  rw [ix_at hk, Option.bind_some, hf _ (List.getElem_mem hk), Option.bind_some, List.getElem?_eq_getElem hk]
  exact ite_m _ _ _) with ⟨e, h1⟩ | ⟨k, h1, h2, h3, e⟩
 ·rw [e]
  have : l.all p = true := by
   rw [List.all_eq_true]
   intro x hx
   obtain ⟨k, hk, rfl⟩ := List.mem_iff_getElem.1 hx
   have := h1 k hk
   rw [List.getElem?_eq_getElem hk] at this
   exact this
  rw [this]; rfl
 ·rw [e]
  have : l.all p = false := by
   rw [List.all_eq_false]
   refine ⟨l[k], List.getElem_mem h1, ?_⟩
   rw [List.getElem?_eq_getElem h1] at h2
   simpa using h2
  rw [this]
  simp
def dg (q : Nat) : Nat → Nat → List Int
 | 0, _ => []
 | k + 1, n => ((n % q : Nat) : Int) :: dg q k (n / q)
theorem n_areExps {gr : Group} (h : 0 ≤ gr.Q) (h2 : gr.Q ≤ 2000000000) (l : List Int) : F_impl_Group_areExps gr l = some (l.all (expB gr)) := by
 have h1 : F_impl_areAll__impl_Group_isExp l gr = some (l.all (expB gr)) := areAll_gen (f := fun x => F_impl_areAll_1__impl_Group_isExp x gr) fun x _ => by
  unfold F_impl_areAll_1__impl_Group_isExp
  rw [n_isExp h h2]; rfl
 unfold F_impl_Group_areExps
 rw [h1]; rfl
structure Bt (code : List Int) : Prop where
 b : ∀ x ∈ code, 0 ≤ x ∧ x ≤ 255
 l : code.length ≤ 1048576
structure Cu (code : List Int) (n : Int) (c : List Int × Int × Int) : Prop where
 e : c.1 = code
 lo : 0 ≤ c.2.1
 hi : c.2.1 ≤ n
theorem Cu.mono {code : List Int} {n m : Int} {c : List Int × Int × Int} (h : Cu code n c) (hn : n ≤ m) : Cu code m c := ⟨h.e, h.lo, Int.le_trans h.hi hn⟩
theorem low8 (x : BitVec IntKind.u64.bits) : 0 ≤ IntKind.i64.wrap (IntKind.u64.wrap ((x &&& BitVec.ofInt IntKind.u64.bits 255).toNat : Int)) ∧ IntKind.i64.wrap (IntKind.u64.wrap ((x &&& BitVec.ofInt IntKind.u64.bits 255).toNat : Int)) ≤ 255 := by
 have hy : (x &&& BitVec.ofInt IntKind.u64.bits 255).toNat ≤ 255 := by
  rw [BitVec.toNat_and]
  exact Nat.le_trans Nat.and_le_right (by decide)
 generalize (x &&& BitVec.ofInt IntKind.u64.bits 255).toNat = y at hy ⊢
 rw [wrU (by omega) (by omega), wr64 (by omega) (by omega)]
 omega
theorem n_next {code c0 : List Int} {at_ seed n : Int} (hb : Bt code) (h : Cu code n (c0, at_, seed)) (hn : n ≤ 9000000000000000) : Rn (F_spec_l1Cur_next__io0 c0 at_ seed) (fun z => 0 ≤ z.1 ∧ z.1 ≤ 255 ∧ Cu code (n + 1) z.2) := by
 obtain ⟨h1, h2, h3⟩ := h
 have h1 : c0 = code := h1
 have h2 : 0 ≤ at_ := h2
 have h3 : at_ ≤ n := h3
 subst h1
 have hw : IntKind.i64.wrap (at_ + 1) = at_ + 1 := wr64 (by omega) (by omega)
 unfold F_spec_l1Cur_next__io0
 refine rn_then (ψ := fun v => 0 ≤ v ∧ v ≤ 255) ?_ fun v hv => ?_
 ·refine rn_if (fun g => ?_) fun g => rn_some (by omega)
  obtain ⟨k, rfl⟩ := Int.eq_ofNat_of_zero_le h2
  have hk : k < c0.length := by simp at g; omega
  have := hb.b _ (List.getElem_mem hk)
  exact rn_ix hk (rn_some (by rw [wr64 (by omega) (by omega)]; exact this))
 ·simp only [hw]
  refine rn_if (fun g => rn_some ⟨hv.1, hv.2, rfl, by show 0 ≤ at_ + 1; omega, by show at_ + 1 ≤ n + 1; omega⟩) fun g => rn_some ?_
  exact ⟨(low8 _).1, (low8 _).2, rfl, by show 0 ≤ at_ + 1; omega, by show at_ + 1 ≤ n + 1; omega⟩
theorem n_pick {code c0 : List Int} {at_ seed n m : Int} (hb : Bt code) (h : Cu code n (c0, at_, seed)) (hn : n ≤ 8000000000000000) : Rn (F_spec_l1Cur_pick__io0 c0 at_ seed m) (fun z => 0 ≤ z.1 ∧ (m ≤ 1 → z.1 = 0) ∧ (1 < m → z.1 < m) ∧ z.1 ≤ 65535 ∧ Cu code (n + 2) z.2) := by
 unfold F_spec_l1Cur_pick__io0
 refine rn_if (fun g => rn_some ⟨Int.le_refl 0, fun _ => rfl, fun h => by simp at g; omega, by show (0 : Int) ≤ _; omega, h.mono (by omega)⟩) fun g => ?_
 have g : 1 < m := by simpa using g
 refine rn_then (n_next hb h (by omega)) fun z ⟨z1, z2, z3⟩ => ?_
 refine rn_then (ψ := fun x => 0 ≤ x.2 ∧ x.2 ≤ 65535 ∧ Cu code (n + 2) x.1) ?_ fun x ⟨x1, x2, x3⟩ => ?_
 ·refine rn_if (fun _ => rn_then (n_next hb z3 (by omega)) fun y ⟨y1, y2, y3⟩ => rn_some ?_) fun _ => rn_some ⟨z1, by show z.1 ≤ _; omega, z3.mono (by omega)⟩
  rw [wr64 (n := z.1 * 256) (by omega) (by omega), wr64 (by omega) (by omega)]
  exact ⟨by show 0 ≤ z.1 * 256 + y.1; omega, by show z.1 * 256 + y.1 ≤ _; omega, y3.mono (by omega)⟩
 ·refine rn_gd (by omega) (rn_some ?_)
  rw [Int.tmod_eq_emod_of_nonneg x1]
  have b1 := Int.emod_nonneg x.2 (show m ≠ 0 by omega)
  have b2 := Int.emod_lt_of_pos x.2 (show 0 < m by omega)
  have b3 : x.2 % m ≤ x.2 := by
   rcases Int.lt_or_le x.2 m with h | h
   ·rw [Int.emod_eq_of_lt x1 h]; exact Int.le_refl _
   ·omega
  exact ⟨b1, fun h => by omega, fun _ => b2, by show x.2 % m ≤ _; omega, x3⟩
theorem n_one {code c0 : List Int} {at_ seed n m : Int} (hb : Bt code) (h : Cu code n (c0, at_, seed)) (hn : n ≤ 8000000000000000) : Rn (F_spec_l1Cur_one__io0 c0 at_ seed m) (fun z => Cu code (n + 2) z.2) := by
 unfold F_spec_l1Cur_one__io0
 exact rn_then (n_pick hb h hn) fun z hz => rn_some hz.2.2.2.2
theorem n_amongM {code c0 : List Int} {at_ seed n : Int} {l : List Int} (hb : Bt code) (h : Cu code n (c0, at_, seed)) (hn : n ≤ 8000000000000000) (hl : l ≠ []) : Rn (F_spec_l1Cur_among__io0_mv1 c0 at_ seed l) (fun z => z.1 ∈ l ∧ Cu code (n + 2) z.2) := by
 unfold F_spec_l1Cur_among__io0_mv1
 refine rn_then (n_pick hb h hn) fun z ⟨z1, z2, z3, z4, z5⟩ => ?_
 have h0 : 0 < l.length := List.length_pos_iff.2 hl
 obtain ⟨k, hk⟩ := Int.eq_ofNat_of_zero_le z1
 have hlt : k < l.length := by
  rcases Nat.lt_or_ge 1 l.length with h | h
  ·have := z3 (by omega); omega
  ·have := z2 (by omega); omega
 rw [hk]
 exact rn_ix hlt (rn_some ⟨List.getElem_mem hlt, z5⟩)
theorem Pr_gcd {n d : Nat} (h : Pr n) (hd : d % n ≠ 0) : Nat.gcd n d = 1 := by
 obtain ⟨k, hk⟩ := Nat.gcd_dvd_left n d
 have hn := h.1
 have h0 : 0 < Nat.gcd n d := Nat.gcd_pos_of_pos_left d (by omega)
 have hdv := Nat.gcd_dvd_right n d
 generalize Nat.gcd n d = g at hk h0 hdv
 apply Classical.byContradiction
 intro hg
 have hg2 : 2 ≤ g := by omega
 have hk2 : 2 ≤ k := by
  rcases Nat.lt_or_ge k 2 with h | h
  ·have : k = 0 ∨ k = 1 := by omega
   rcases this with rfl | rfl
   ·omega
   ·rw [Nat.mul_one] at hk
    rw [← hk] at hdv
    exact absurd (Nat.mod_eq_zero_of_dvd hdv) hd
  ·exact h
 rcases Nat.le_total g k with h' | h'
 ·exact h.2 g hg2 (by rw [hk]; exact Nat.mul_le_mul_left g h') (by rw [hk]; exact Nat.mul_mod_right g k)
 ·exact h.2 k hk2 (by rw [hk]; exact Nat.mul_le_mul_right k h') (by rw [hk]; exact Nat.mul_mod_left g k)
theorem Pr_mul {n : Nat} (h : Pr n) {a b : Int} (hab : (a * b) % (n : Int) = 0) : a % (n : Int) = 0 ∨ b % (n : Int) = 0 := by
 have h1 : n ∣ a.natAbs * b.natAbs := by
  rw [← Int.natAbs_mul]
  exact Int.ofNat_dvd_left.1 (Int.dvd_of_emod_eq_zero hab)
 by_cases ha : a.natAbs % n = 0
 ·exact .inl (Int.emod_eq_zero_of_dvd (Int.ofNat_dvd_left.2 (Nat.dvd_of_mod_eq_zero ha)))
 ·exact .inr (Int.emod_eq_zero_of_dvd (Int.ofNat_dvd_left.2 (Nat.Coprime.dvd_of_dvd_mul_left (Pr_gcd h ha) h1)))
def evP (f : List Int) (x : Int) : Int := f.foldr (fun c a => a * x + c) 0
theorem evP_cons (c : Int) (f : List Int) (x : Int) : evP (c :: f) x = evP f x * x + c := rfl
def dvP (r : Int) : List Int → List Int
 | [] => []
 | [_] => []
 | _ :: c :: f => evP (c :: f) r :: dvP r (c :: f)
theorem dvP_len (r : Int) : ∀ f : List Int, (dvP r f).length = f.length - 1
 | [] => rfl
 | [_] => rfl
 | _ :: c :: f => by
  show (dvP r (c :: f)).length + 1 = _
  rw [dvP_len r (c :: f)]; simp
theorem dvP_ev (r x : Int) : ∀ f : List Int, evP f x = evP (dvP r f) x * (x - r) + evP f r
 | [] => by simp [dvP, evP]
 | [c] => by simp [dvP, evP]
 | d :: c :: f => by
  have ih := dvP_ev r x (c :: f)
  show evP (c :: f) x * x + d = (evP (dvP r (c :: f)) x * x + evP (c :: f) r) * (x - r) + (evP (c :: f) r * r + d)
  rw [ih]
  grind
theorem dvP_last (r : Int) : ∀ f : List Int, 2 ≤ f.length → (dvP r f).getLastD 0 = f.getLastD 0
 | [], h => absurd h (by simp)
 | [_], h => absurd h (by simp)
 | [d, c], _ => by simp [dvP, evP]
 | e :: d :: c :: f, _ => by
  have ih := dvP_last r (d :: c :: f) (by simp)
  show (evP (d :: c :: f) r :: evP (c :: f) r :: dvP r (c :: f)).getLastD 0 = _
  have : dvP r (d :: c :: f) = evP (c :: f) r :: dvP r (c :: f) := rfl
  rw [this] at ih
  simpa [List.getLastD] using ih
theorem rootsP {p : Nat} (hp : Pr p) : ∀ (n : Nat) (f : List Int), f.length = n + 1 → f.getLastD 0 % (p : Int) ≠ 0 → ∀ rs : List Int, rs.Pairwise (fun a b => (b - a) % (p : Int) ≠ 0) → (∀ r ∈ rs, evP f r % (p : Int) = 0) → rs.length ≤ n
 | 0, f, hl, hf, rs, hd, hr => by
  match f, hl with
  | [c], _ =>
   cases rs with
   | nil => simp
   | cons r rs =>
    have := hr r (List.mem_cons_self ..)
    simp [evP] at this
    exact absurd (by first | exact this | exact Int.emod_eq_zero_of_dvd this) (by simpa [List.getLastD] using hf)
 | n + 1, f, hl, hf, rs, hd, hr => by
  cases rs with
  | nil => simp
  | cons r rs =>
   have h1 := List.pairwise_cons.1 hd
   have := rootsP hp n (dvP r f) (by rw [dvP_len]; omega) (by rw [dvP_last r f (by omega)]; exact hf) rs h1.2 fun s hs => by
    have e := dvP_ev r s f
    have hs0 := hr s (List.mem_cons_of_mem _ hs)
    have hr0 := hr r (List.mem_cons_self ..)
    have hm : (evP (dvP r f) s * (s - r)) % (p : Int) = 0 := by
     rw [show evP (dvP r f) s * (s - r) = evP f s - evP f r by omega, Int.sub_emod, hs0, hr0]; simp
    rcases Pr_mul hp hm with h | h
    ·exact h
    ·exact absurd h (h1.1 s hs)
   simpa using this
theorem evP_mono (k : Nat) (x : Int) : evP (List.replicate k 0 ++ [1]) x = x ^ k := by
 induction k with
 | zero => simp [evP]
 | succ k ih => rw [List.replicate_succ, List.cons_append, evP_cons, ih, Int.pow_succ]; omega
theorem unity_roots {p n : Nat} (hp : Pr p) (hn : 1 ≤ n) (rs : List Int) (hd : rs.Pairwise (fun a b => (b - a) % (p : Int) ≠ 0)) (hr : ∀ r ∈ rs, r ^ n % (p : Int) = 1) : rs.length ≤ n := by
 have h2 := hp.1
 have hone : (1 : Int) % (p : Int) = 1 := Int.emod_eq_of_lt (by omega) (by omega)
 obtain ⟨k, rfl⟩ : ∃ k, n = k + 1 := ⟨n - 1, by omega⟩
 refine rootsP hp (k + 1) (-1 :: (List.replicate k 0 ++ [1])) (by simp) ?_ rs hd fun r hr' => ?_
 ·have : (-1 :: (List.replicate k (0 : Int) ++ [1])).getLastD 0 = 1 := by
   rw [← List.cons_append, List.getLastD_concat]
  rw [this, hone]; omega
 ·rw [evP_cons, evP_mono, ← Int.pow_succ, Int.add_emod, hr r hr']
  have : ((-1 : Int) % (p : Int)) = p - 1 := by
   have := Int.add_mul_emod_self_left (-1) (p : Int) 1
   rw [← this, Int.mul_one, Int.emod_eq_of_lt (by omega) (by omega)]; omega
  rw [this, show 1 + ((p : Int) - 1) = p by omega, Int.emod_self]
theorem not_unity {p n : Nat} (hp : Pr p) (hn : 1 ≤ n) (hnp : n < p - 1) : ∃ h : Nat, 2 ≤ h ∧ h < p ∧ h ^ n % p ≠ 1 := by
 apply Classical.byContradiction
 intro hc
 have h2 := hp.1
 have h1 : ∀ h : Nat, 1 ≤ h → h < p → h ^ n % p = 1 := fun h a b => by
  rcases Nat.lt_or_ge h 2 with c | c
  ·have : h = 1 := by omega
   subst this
   rw [Nat.one_pow, Nat.mod_eq_of_lt (by omega)]
  ·exact Classical.byContradiction fun d => hc ⟨h, c, b, d⟩
 have := unity_roots hp hn ((List.range (p - 1)).map fun k => ((k + 1 : Nat) : Int)) ?_ ?_
 ·simp at this; omega
 ·rw [List.pairwise_map]
  refine List.Pairwise.imp_of_mem ?_ List.pairwise_lt_range
  intro a b ha hb hab
  have hb := List.mem_range.1 hb
  rw [show ((b + 1 : Nat) : Int) - ((a + 1 : Nat) : Int) = ((b - a : Nat) : Int) by omega, ← Int.natCast_emod, Nat.mod_eq_of_lt (by omega)]
  omega
 ·intro r hr
  obtain ⟨k, hk, rfl⟩ := List.mem_map.1 hr
  have hk := List.mem_range.1 hk
  rw [← Int.natCast_pow, ← Int.natCast_emod, h1 (k + 1) (by omega) (by omega)]; rfl
structure Gs (gr : Group) : Prop where
 p : 0 ≤ gr.P ∧ gr.P ≤ 2000000000
 q : 0 ≤ gr.Q ∧ gr.Q ≤ 1000000000
 g : 0 ≤ gr.G ∧ gr.G ≤ 2000000000
theorem mg_dvd {q k : Nat} (hq : 2 ≤ q) : ((1 + (k : Int) * (q : Int)) - 1).tdiv (q : Int) = (k : Int) := by
 rw [show (1 + (k : Int) * (q : Int)) - 1 = (k : Int) * (q : Int) by omega, Int.mul_tdiv_cancel _ (by omega)]
theorem n_MakeGroup {q : Nat} (hq2 : q ≤ 1000000) : Rn (F_spec_MakeGroup (q : Int)) (fun z => Gs z.1 ∧ (z.2 = true → z.1.Q = q ∧ 3 ≤ z.1.P) ∧ (∀ k : Nat, 1 ≤ k → Pr (1 + k * q) → 1 + k * q ≤ 2000000000 → Pr q → z.2 = true)) := by
 unfold F_spec_MakeGroup
 refine rn_then (ψ := fun b => b = !(decide (2 ≤ q) && prB (q : Int))) ?_ ?_
 ·refine rn_call (n_l1In _ _ _) ?_
  by_cases h : 2 ≤ q
  ·refine rn_f (by simp; omega) (rn_call (n_nPrime _ (by omega)) (rn_some ?_))
   simp [h]
  ·refine rn_t (by simp; omega) (rn_some ?_)
   simp [h]
 ·rintro _ rfl
  cases hc : (decide (2 ≤ q) && prB (q : Int))
  ·refine rn_t rfl (rn_some ⟨⟨⟨by decide, by decide⟩, ⟨by decide, by decide⟩, by decide, by decide⟩, fun h => (by cases h), fun k h1 h2 h3 h4 => ?_⟩)
   rw [prB_t.2 h4] at hc
   have := h4.1
   simp at hc; omega
  ·have hq : 2 ≤ q := by simp at hc; exact hc.1
   have hpq : Pr q := by simp at hc; exact prB_t.1 hc.2
   refine rn_f rfl ?_
   refine rn_then (ψ := fun b => (b = .inl () ∧ ∀ k : Nat, 1 ≤ k → Pr (1 + k * q) → ¬ 1 + k * q ≤ 2000000000) ∨ ∃ z : Group × Bool, b = .inr z ∧ Gs z.1 ∧ z.2 = true ∧ z.1.Q = q ∧ 3 ≤ z.1.P) ?_ ?_
   ·rw [wr64 (by omega) (by omega)]
    refine rn_wloop (fun s => ∃ k : Nat, 1 ≤ k ∧ s = 1 + (k : Int) * (q : Int) ∧ s ≤ 2001000001 ∧ ∀ j : Nat, 1 ≤ j → j < k → ¬ Pr (1 + j * q)) (fun s => (2001000001 - s).toNat) ⟨1, by omega, by omega, by omega, fun j h1 h2 => by omega⟩ ?_
    rintro s ⟨k, hk, rfl, hs, hn⟩
    have hkq : k * 2 ≤ k * q := Nat.mul_le_mul_left k hq
    have hkc : (k : Int) * (q : Int) = ((k * q : Nat) : Int) := mul_cast k q
    refine rn_if (fun g => ?_) fun g => ?_
    ·have g : 1 + (k : Int) * (q : Int) ≤ 2000000000 := by simpa using g
     refine rn_call (n_nPrime _ (by omega)) ?_
     have hcast : 1 + (k : Int) * (q : Int) = ((1 + k * q : Nat) : Int) := by omega
     cases hp : prB (1 + (k : Int) * (q : Int))
     ·refine rn_t rfl (rn_some ?_)
      have e : IntKind.i64.wrap (1 + (k : Int) * (q : Int) + (q : Int)) = 1 + ((k + 1 : Nat) : Int) * (q : Int) := by
       rw [wr64 (by omega) (by omega)]; grind
      refine ⟨⟨k + 1, by omega, e, by rw [wr64 (by omega) (by omega)]; omega, fun j h1 h2 => ?_⟩, ?_⟩
      ·rcases Nat.lt_or_ge j k with h | h
       ·exact hn j h1 h
       ·have : j = k := by omega
        subst this
        intro hpr
        rw [hcast, prB_t.2 hpr] at hp
        cases hp
      ·rw [wr64 (by omega) (by omega)]; omega
     ·refine rn_f rfl ?_
      have hpr : Pr (1 + k * q) := by rw [hcast] at hp; exact prB_t.1 hp
      obtain ⟨h0, a1, a2, a3⟩ := not_unity hpr hk (by omega)
      have hdv : IntKind.i64.wrap ((IntKind.i64.wrap (1 + (k : Int) * (q : Int) - 1)).tdiv (q : Int)) = (k : Int) := by
       rw [wr64 (n := 1 + (k : Int) * (q : Int) - 1) (by omega) (by omega), mg_dvd hq, wr64 (by omega) (by omega)]
      simp only [hdv]
      simp only [hcast]
      refine rn_then (ψ := fun h => 2 ≤ h ∧ h ≤ (h0 : Int)) (rn_wloop (fun s => 2 ≤ s ∧ s ≤ (h0 : Int)) (fun s => (h0 - s).toNat) (by omega) ?_) ?_
      ·rintro s ⟨s1, s2⟩
       have hpw := (n_powI (a := s) (e := (k : Int)) (m := ((1 + k * q : Nat) : Int)) (by omega) (by omega) (by omega) (by omega) (by omega) (by omega)).2
       refine rn_gd (by omega) (rn_call hpw ?_)
       refine rn_if (fun g => rn_some ?_) fun g => rn_some ⟨s1, s2⟩
       rw [wr64 (by omega) (by omega)]
       have hne : s ≠ (h0 : Int) := fun e => by
        subst e
        apply a3
        have g : ((((h0 : Int).toNat ^ (k : Int).toNat % ((1 + k * q : Nat) : Int).toNat : Nat)) : Int) = 1 := by simpa only [beq_iff_eq] using g
        rw [Int.toNat_natCast, Int.toNat_natCast, Int.toNat_natCast] at g
        omega
       refine ⟨⟨by omega, by omega⟩, ?_⟩
       omega
      ·rintro h ⟨s1, s2⟩
       have hpw := (n_powI (a := h) (e := (k : Int)) (m := ((1 + k * q : Nat) : Int)) (by omega) (by omega) (by omega) (by omega) (by omega) (by omega)).2
       refine rn_gd (by omega) (rn_call hpw (rn_some ?_))
       have hlt : h.toNat ^ (k : Int).toNat % ((1 + k * q : Nat) : Int).toNat < 1 + k * q := by
        rw [Int.toNat_natCast (1 + k * q)]
        exact Nat.mod_lt _ (by omega)
       refine .inr ⟨_, rfl, ⟨⟨by show (0 : Int) ≤ ((1 + k * q : Nat) : Int); omega, by show ((1 + k * q : Nat) : Int) ≤ _; omega⟩, ⟨by show (0 : Int) ≤ (q : Int); omega, by show (q : Int) ≤ _; omega⟩, ?_, ?_⟩, rfl, rfl, by show (3 : Int) ≤ ((1 + k * q : Nat) : Int); omega⟩
       ·show (0 : Int) ≤ ((_ : Nat) : Int); omega
       ·show ((_ : Nat) : Int) ≤ 2000000000; omega
    ·refine rn_some (.inl ⟨rfl, fun j h1 h2 h3 => ?_⟩)
     have g : ¬ 1 + (k : Int) * (q : Int) ≤ 2000000000 := by simpa using g
     rcases Nat.lt_or_ge j k with h | h
     ·exact hn j h1 h h2
     ·have : k * q ≤ j * q := Nat.mul_le_mul_right q h
      omega
   ·rintro b (⟨rfl, h⟩ | ⟨z, rfl, h1, h2, h3, h4⟩)
    ·exact rn_some ⟨⟨⟨by decide, by decide⟩, ⟨by decide, by decide⟩, by decide, by decide⟩, fun h => (by cases h), fun k h1 h2 h3 h4 => absurd h3 (h k h1 h2)⟩
    ·exact rn_some ⟨h1, fun _ => ⟨h3, h4⟩, fun _ _ _ _ _ => h2⟩
theorem Pr64 {n : Nat} (hn : n < 64) (h2 : 2 ≤ n) (h : ∀ d, d < 8 → 2 ≤ d → d * d ≤ n → n % d ≠ 0) : Pr n := by
 refine ⟨h2, fun d h1 h3 => ?_⟩
 rcases Nat.lt_or_ge d 8 with h8 | h8
 ·exact h d h8 h1 h3
 ·have : 8 * 8 ≤ d * d := Nat.mul_le_mul h8 h8
  omega
structure Gw (gr : Group) : Prop where
 p : -10 ≤ gr.P ∧ gr.P ≤ 2100000000
 q : -10 ≤ gr.Q ∧ gr.Q ≤ 2100000000
 g : -10 ≤ gr.G ∧ gr.G ≤ 2100000000
theorem Gs.w {gr : Group} (h : Gs gr) : Gw gr := ⟨by have := h.p; omega, by have := h.q; omega, by have := h.g; omega⟩
theorem tiny_q {x : Int} (hx : x ∈ [(3 : Int), 5, 5, 7, 11, 11, 13, 23]) : ∃ q k : Nat, x = (q : Int) ∧ 3 ≤ q ∧ q ≤ 23 ∧ 1 ≤ k ∧ Pr (1 + k * q) ∧ 1 + k * q ≤ 2000000000 ∧ Pr q := by
 simp only [List.mem_cons, List.not_mem_nil, or_false] at hx
 rcases hx with rfl | rfl | rfl | rfl | rfl | rfl | rfl | rfl
 ·exact ⟨3, 2, rfl, by decide, by decide, by decide, Pr64 (by decide) (by decide) (by decide), by decide, Pr64 (by decide) (by decide) (by decide)⟩
 ·exact ⟨5, 2, rfl, by decide, by decide, by decide, Pr64 (by decide) (by decide) (by decide), by decide, Pr64 (by decide) (by decide) (by decide)⟩
 ·exact ⟨5, 2, rfl, by decide, by decide, by decide, Pr64 (by decide) (by decide) (by decide), by decide, Pr64 (by decide) (by decide) (by decide)⟩
 ·exact ⟨7, 4, rfl, by decide, by decide, by decide, Pr64 (by decide) (by decide) (by decide), by decide, Pr64 (by decide) (by decide) (by decide)⟩
 ·exact ⟨11, 2, rfl, by decide, by decide, by decide, Pr64 (by decide) (by decide) (by decide), by decide, Pr64 (by decide) (by decide) (by decide)⟩
 ·exact ⟨11, 2, rfl, by decide, by decide, by decide, Pr64 (by decide) (by decide) (by decide), by decide, Pr64 (by decide) (by decide) (by decide)⟩
 ·exact ⟨13, 4, rfl, by decide, by decide, by decide, Pr64 (by decide) (by decide) (by decide), by decide, Pr64 (by decide) (by decide) (by decide)⟩
 ·exact ⟨23, 2, rfl, by decide, by decide, by decide, Pr64 (by decide) (by decide) (by decide), by decide, Pr64 (by decide) (by decide) (by decide)⟩
theorem n_tiny {code c0 : List Int} {at_ seed n : Int} (hb : Bt code) (h : Cu code n (c0, at_, seed)) (hn : n ≤ 7000000000000000) : Rn (F_spec_l1Cur_tiny__io0 c0 at_ seed) (fun z => Gs z.1 ∧ 3 ≤ z.1.Q ∧ z.1.Q ≤ 23 ∧ 3 ≤ z.1.P ∧ Cu code (n + 2) z.2) := by
 unfold F_spec_l1Cur_tiny__io0
 refine rn_then (n_amongM hb h (by omega) (by simp)) fun z ⟨z1, z2⟩ => ?_
 obtain ⟨q, k, e, q1, q2, k1, k2, k3, k4⟩ := tiny_q z1
 rw [e]
 refine rn_then (n_MakeGroup (by omega)) fun y ⟨y1, y2, y3⟩ => rn_some ?_
 have y4 := y2 (y3 k k1 k2 k3 k4)
 exact ⟨y1, by show 3 ≤ y.1.Q; omega, by show y.1.Q ≤ 23; omega, y4.2, z2⟩
theorem n_gExpT {gr : Group} (h : Gs gr) (hq : 1 ≤ gr.Q) (hp : 1 ≤ gr.P) {x : Int} (hx : 0 ≤ x ∧ x ≤ 2000000000) (e : Int) : Rn (F_spec_gExp gr x e) (fun v => 0 ≤ v ∧ v ≤ 2000000000) := by
 have h1 := h.p
 have h2 := h.q
 have b1 : 0 ≤ e % gr.Q := Int.emod_nonneg _ (by omega)
 have b2 : e % gr.Q < gr.Q := Int.emod_lt_of_pos _ (by omega)
 have hw := (n_powI (a := x) (e := e % gr.Q) (m := gr.P) (by omega) (by omega) (by omega) (by omega) b1 (by omega)).2
 unfold F_spec_gExp
 refine rn_call (n_nMod (by omega) (by omega)) (rn_call hw (rn_some ?_))
 have hlt : x.toNat ^ (e % gr.Q).toNat % gr.P.toNat < gr.P.toNat := Nat.mod_lt _ (by omega)
 omega
theorem big_q {x : Int} (hx : x ∈ [(101 : Int), 1009, 1019, 65537, 999983]) : ∃ q : Nat, x = (q : Int) ∧ q ≤ 1000000 := by
 simp only [List.mem_cons, List.not_mem_nil, or_false] at hx
 rcases hx with rfl | rfl | rfl | rfl | rfl
 ·exact ⟨101, rfl, by decide⟩
 ·exact ⟨1009, rfl, by decide⟩
 ·exact ⟨1019, rfl, by decide⟩
 ·exact ⟨65537, rfl, by decide⟩
 ·exact ⟨999983, rfl, by decide⟩
theorem gs_big : Gs (Group.mk 1000000007 500000003 4) := ⟨⟨by decide, by decide⟩, ⟨by decide, by decide⟩, by decide, by decide⟩
theorem cu0 (code : List Int) : Cu code 0 (code, 0, 0) := ⟨rfl, Int.le_refl 0, Int.le_refl 0⟩
theorem n_group {code c0 : List Int} {at_ seed n : Int} (hb : Bt code) (h : Cu code n (c0, at_, seed)) (hn : n ≤ 6000000000000000) : Rn (F_spec_l1Cur_group__io0 c0 at_ seed) (fun z => Gs z.1 ∧ Cu code (n + 6) z.2) := by
 unfold F_spec_l1Cur_group__io0
 refine rn_then (n_pick hb h (by omega)) fun z ⟨z1, z2, z3, z4, z5⟩ => ?_
 refine rn_if (fun _ => rn_some ⟨gs_big, z5.mono (by omega)⟩) fun _ => rn_if (fun _ => ?_) fun _ => ?_
 ·refine rn_then (n_amongM hb z5 (by omega) (by simp)) fun y ⟨y1, y2⟩ => ?_
  obtain ⟨q, e, hq⟩ := big_q y1
  rw [e]
  exact rn_then (n_MakeGroup hq) fun x ⟨x1, _, _⟩ => rn_some ⟨x1, y2.mono (by omega)⟩
 ·refine rn_then (n_tiny hb z5 (by omega)) fun y ⟨y1, y2, y3, y4, y5⟩ => ?_
  refine rn_then (n_pick hb y5 (by omega)) fun x ⟨x1, x2, x3, x4, x5⟩ => ?_
  have hg := y1.g
  refine rn_then (n_gExpT y1 (by omega) (by omega) hg _) fun v hv => rn_some ⟨⟨y1.p, y1.q, hv⟩, x5.mono (by omega)⟩
theorem n_anyGroup {code c0 : List Int} {at_ seed n : Int} (hb : Bt code) (h : Cu code n (c0, at_, seed)) (hn : n ≤ 5000000000000000) : Rn (F_spec_l1Cur_anyGroup__io0 c0 at_ seed) (fun z => Gw z.1 ∧ Cu code (n + 10) z.2) := by
 unfold F_spec_l1Cur_anyGroup__io0
 refine rn_then (n_group hb h (by omega)) fun z ⟨z1, z2⟩ => ?_
 have g1 := z1.p
 have g2 := z1.q
 have g3 := z1.g
 refine rn_then (n_pick hb z2 (by omega)) fun y ⟨_, _, _, _, y5⟩ => ?_
 rw [wr64 (n := z.1.P + 2) (by omega) (by omega), wr64 (n := z.1.Q + 1) (by omega) (by omega), wr64 (n := z.1.P - 1) (by omega) (by omega), wr64 (n := z.1.G + 1) (by omega) (by omega)]
 refine rn_then (ψ := fun x => Gw (Group.mk x.2.1 x.2.2.1 x.2.2.2) ∧ Cu code (n + 10) x.1) ?_ fun x hx => rn_some hx
 refine rn_if (fun _ => ?_) fun _ => rn_if (fun _ => ?_) fun _ => rn_if (fun _ => ?_) fun _ => rn_some ⟨z1.w, y5.mono (by omega)⟩
 ·refine rn_then (n_amongM hb y5 (by omega) (by simp)) fun x ⟨x1, x2⟩ => rn_some ⟨?_, x2.mono (by omega)⟩
  simp only [List.mem_cons, List.not_mem_nil, or_false] at x1
  exact ⟨by show -10 ≤ x.1 ∧ x.1 ≤ _; omega, by show -10 ≤ z.1.Q ∧ z.1.Q ≤ _; omega, by show -10 ≤ z.1.G ∧ z.1.G ≤ _; omega⟩
 ·refine rn_then (n_amongM hb y5 (by omega) (by simp)) fun x ⟨x1, x2⟩ => rn_some ⟨?_, x2.mono (by omega)⟩
  simp only [List.mem_cons, List.not_mem_nil, or_false] at x1
  exact ⟨by show -10 ≤ z.1.P ∧ z.1.P ≤ _; omega, by show -10 ≤ x.1 ∧ x.1 ≤ _; omega, by show -10 ≤ z.1.G ∧ z.1.G ≤ _; omega⟩
 ·refine rn_then (n_amongM hb y5 (by omega) (by simp)) fun x ⟨x1, x2⟩ => rn_some ⟨?_, x2.mono (by omega)⟩
  simp only [List.mem_cons, List.not_mem_nil, or_false] at x1
  exact ⟨by show -10 ≤ z.1.P ∧ z.1.P ≤ _; omega, by show -10 ≤ z.1.Q ∧ z.1.Q ≤ _; omega, by show -10 ≤ x.1 ∧ x.1 ≤ _; omega⟩
theorem n_expo {code c0 : List Int} {at_ seed n : Int} {gr : Group} (hb : Bt code) (h : Cu code n (c0, at_, seed)) (hn : n ≤ 7000000000000000) (hg : gr.Q ≤ 2100000000) : Rn (F_spec_l1Cur_expo__io0 c0 at_ seed gr) (fun z => 0 ≤ z.1 ∧ z.1 ≤ 2100000000 ∧ (2 ≤ gr.Q → z.1 < gr.Q) ∧ Cu code (n + 4) z.2) := by
 unfold F_spec_l1Cur_expo__io0
 refine rn_if (fun g => rn_some ⟨Int.le_refl 0, by show (0 : Int) ≤ _; omega, fun h => by simp at g; omega, h.mono (by omega)⟩) fun g => ?_
 have g : 2 ≤ gr.Q := by simp at g; omega
 refine rn_then (n_pick hb h (by omega)) fun z ⟨z1, z2, z3, z4, z5⟩ => ?_
 refine rn_then (n_pick hb z5 (by omega)) fun y ⟨y1, y2, y3, y4, y5⟩ => rn_gd (by omega) (rn_some ?_)
 rw [wr64 (n := z.1 * 60000) (by omega) (by omega), wr64 (by omega) (by omega), Int.tmod_eq_emod_of_nonneg (by omega)]
 have b1 := Int.emod_nonneg (z.1 * 60000 + y.1) (show gr.Q ≠ 0 by omega)
 have b2 := Int.emod_lt_of_pos (z.1 * 60000 + y.1) (show 0 < gr.Q by omega)
 exact ⟨b1, by show _ % gr.Q ≤ _; omega, fun _ => b2, y5.mono (by omega)⟩
theorem n_anyExpo {code c0 : List Int} {at_ seed n : Int} {gr : Group} (hb : Bt code) (h : Cu code n (c0, at_, seed)) (hn : n ≤ 6000000000000000) (hg : Gw gr) : Rn (F_spec_l1Cur_anyExpo__io0 c0 at_ seed gr) (fun z => -100 ≤ z.1 ∧ z.1 ≤ 2100000000 ∧ Cu code (n + 6) z.2) := by
 have g2 := hg.q
 unfold F_spec_l1Cur_anyExpo__io0
 refine rn_then (n_one hb h (by omega)) fun z z1 => ?_
 rw [wr64 (by omega) (by omega)]
 refine rn_if (fun _ => ?_) fun _ => ?_
 ·refine rn_then (n_amongM hb z1 (by omega) (by simp)) fun y ⟨y1, y2⟩ => rn_some ?_
  simp only [List.mem_cons, List.not_mem_nil, or_false] at y1
  exact ⟨by show -100 ≤ y.1; omega, by show y.1 ≤ _; omega, y2.mono (by omega)⟩
 ·exact rn_then (n_expo hb z1 (by omega) (by omega)) fun y ⟨y1, y2, _, y3⟩ => rn_some ⟨by show -100 ≤ y.1; omega, y2, y3.mono (by omega)⟩
theorem n_coins {code c0 : List Int} {at_ seed n : Int} {gr : Group} {k : Nat} (hb : Bt code) (h : Cu code n (c0, at_, seed)) (hn : n ≤ 5000000000000000) (hg : Gw gr) (hk : k ≤ 1000000) : Rn (F_spec_l1Cur_coins__io0 c0 at_ seed gr (k : Int)) (fun z => z.1.length = k ∧ (∀ x ∈ z.1, 0 ≤ x ∧ x ≤ 2100000000 ∧ (2 ≤ gr.Q → x < gr.Q)) ∧ Cu code (n + 4 * k) z.2) := by
 unfold F_spec_l1Cur_coins__io0
 refine rn_then (ψ := fun r => r.2.length = k ∧ (∀ x ∈ r.2, 0 ≤ x ∧ x ≤ 2100000000 ∧ (2 ≤ gr.Q → x < gr.Q)) ∧ Cu code (n + 4 * k) r.1) (rn_cloop k (fun j s => s.2.1 = (k : Int) - j ∧ s.2.2.length = j ∧ (∀ x ∈ s.2.2, 0 ≤ x ∧ x ≤ 2100000000 ∧ (2 ≤ gr.Q → x < gr.Q)) ∧ Cu code (n + 4 * j) s.1) ⟨by show (k : Int) = _; omega, rfl, by simp, h.mono (by omega)⟩ ?_ ?_) fun r hr => rn_some hr
 ·rintro j s hj ⟨h1, h2, h3, h4⟩
  refine rn_t (by rw [h1]; simp; omega) (rn_then (n_expo hb h4 (by omega) hg.q.2) fun z ⟨z1, z2, z3, z4⟩ => rn_gd (by omega) (rn_some ⟨?_, by simp [h2], fun x hx => ?_, z4.mono (by omega)⟩))
  ·show IntKind.i64.wrap (s.2.1 - 1) = _
   rw [h1, wr64 (by omega) (by omega)]; omega
  ·rcases List.mem_append.1 hx with h | h
   ·exact h3 x h
   ·rw [List.mem_singleton.1 h]; exact ⟨z1, z2, z3⟩
 ·rintro s ⟨h1, h2, h3, h4⟩
  exact rn_f (by rw [h1]; simp) (rn_some ⟨h2, h3, h4⟩)
theorem n_nModW {a q : Int} (h0 : 0 < q) (h1 : q ≤ 4000000000000000000) : F_spec_nMod a q = some (a % q) := by
 unfold F_spec_nMod
 rw [gd_t (by omega), gd_t (by omega)]
 have b1 : a.tmod q < q := Int.tmod_lt_of_pos a h0
 have b2 : -q < a.tmod q := by
  have := Int.lt_tmod_of_pos a h0
  omega
 rw [wr64 (by omega) (by omega), Int.tmod_eq_emod_of_nonneg (by omega)]
 congr 1
 rw [Int.add_emod_right]
 rw [Int.tmod_def, Int.sub_emod, Int.mul_emod_right, Int.sub_zero, Int.emod_emod]
theorem tmod_bd (a : Int) {m : Int} (h : 0 < m) : -m < a.tmod m ∧ a.tmod m < m := by
 have h1 := Int.tmod_lt_of_pos a h
 have h2 := Int.lt_tmod_of_pos a h
 omega
theorem n_nPowerT (a : Int) {e m : Int} (h1 : 1 ≤ m) (h2 : 0 ≤ e) (h3 : e ≤ 4000000000000000000) : Rn (F_spec_nPower a e m) (fun v => -m < v ∧ v < m) := by
 unfold F_spec_nPower
 refine rn_gd (by omega) (rn_then (ψ := fun v => -m < v ∧ v < m) (rn_wloop (fun s => (-m < s.2.2 ∧ s.2.2 < m) ∧ 0 ≤ s.2.1 ∧ s.2.1 ≤ e) (fun s => s.2.1.toNat) ⟨tmod_bd _ (by omega), h2, Int.le_refl _⟩ ?_) fun x hx => rn_some hx)
 rintro s ⟨hs, h4, h5⟩
 refine rn_if (fun g => ?_) fun _ => rn_some hs
 have g : 0 < s.2.1 := by simpa using g
 refine rn_then (ψ := fun v => -m < v ∧ v < m) (rn_if (fun _ => rn_gd (by omega) (rn_some (tmod_bd _ (by omega)))) fun _ => rn_some hs) fun x hx => rn_gd (by omega) (rn_some ?_)
 have e1 : s.2.1.tdiv 2 = s.2.1 / 2 := Int.tdiv_eq_ediv_of_nonneg (by omega)
 have e2 : IntKind.i64.wrap (s.2.1.tdiv 2) = s.2.1 / 2 := by rw [e1, wr64 (by omega) (by omega)]
 exact ⟨⟨hx, by show 0 ≤ IntKind.i64.wrap _; rw [e2]; omega, by show IntKind.i64.wrap _ ≤ e; rw [e2]; omega⟩, by show (IntKind.i64.wrap _).toNat < _; rw [e2]; omega⟩
theorem n_gExpW {gr : Group} (hq : 1 ≤ gr.Q ∧ gr.Q ≤ 4000000000000000000) (hp : 1 ≤ gr.P) (x e : Int) : Rn (F_spec_gExp gr x e) (fun v => -gr.P < v ∧ v < gr.P) := by
 unfold F_spec_gExp
 refine rn_call (n_nModW (by omega) hq.2) (rn_then (n_nPowerT x hp (Int.emod_nonneg _ (by omega)) ?_) fun v hv => rn_some hv)
 have := Int.emod_lt_of_pos e (show 0 < gr.Q by omega)
 omega
theorem n_element {code c0 : List Int} {at_ seed n : Int} {gr : Group} (hb : Bt code) (h : Cu code n (c0, at_, seed)) (hn : n ≤ 6000000000000000) (hg : Gw gr) : Rn (F_spec_l1Cur_element__io0 c0 at_ seed gr) (fun z => -2200000000 ≤ z.1 ∧ z.1 ≤ 2200000000 ∧ Cu code (n + 4) z.2) := by
 have g1 := hg.p
 have g2 := hg.q
 unfold F_spec_l1Cur_element__io0
 refine rn_then (ψ := fun b => b = false → 3 ≤ gr.P ∧ 1 ≤ gr.Q) (rn_if (fun _ => rn_some fun h => by cases h) fun a => rn_some fun b => by simp at a b; omega) fun b hb' => rn_if (fun _ => rn_some ⟨by show -2200000000 ≤ (1 : Int); decide, by show (1 : Int) ≤ _; decide, h.mono (by omega)⟩) fun e => ?_
 obtain ⟨k1, k2⟩ := hb' e
 refine rn_call (n_nModW (by omega) (by omega)) (rn_then (n_expo hb h (by omega) (by omega)) fun z ⟨z1, z2, _, z3⟩ => rn_then (n_gExpW ⟨k2, by omega⟩ (by omega) _ _) fun v hv => rn_some ⟨by show _ ≤ v; omega, by show v ≤ _; omega, z3⟩)
theorem n_anyElement {code c0 : List Int} {at_ seed n : Int} {gr : Group} (hb : Bt code) (h : Cu code n (c0, at_, seed)) (hn : n ≤ 5000000000000000) (hg : Gw gr) : Rn (F_spec_l1Cur_anyElement__io0 c0 at_ seed gr) (fun z => -2200000000 ≤ z.1 ∧ z.1 ≤ 2200000000 ∧ Cu code (n + 6) z.2) := by
 have g1 := hg.p
 unfold F_spec_l1Cur_anyElement__io0
 refine rn_then (n_one hb h (by omega)) fun z z1 => rn_if (fun _ => ?_) fun _ => rn_then (n_element hb z1 (by omega) hg) fun y ⟨y1, y2, y3⟩ => rn_some ⟨y1, y2, y3.mono (by omega)⟩
 rw [wr64 (n := gr.P - 1) (by omega) (by omega)]
 refine rn_then (n_amongM hb z1 (by omega) (by simp)) fun y ⟨y1, y2⟩ => rn_some ?_
 simp only [List.mem_cons, List.not_mem_nil, or_false] at y1
 exact ⟨by show -2200000000 ≤ y.1; omega, by show y.1 ≤ _; omega, y2.mono (by omega)⟩
def byL (s : ByteArray) : List Int := s.data.toList.map fun b => (b.toNat : Int)
theorem byL_len (s : ByteArray) : (byL s).length = s.size := by
 show (s.data.toList.map _).length = s.data.size
 rw [List.length_map, Array.length_toList]
theorem byL_bd (s : ByteArray) : ∀ x ∈ byL s, 0 ≤ x ∧ x ≤ 255 := by
 intro x hx
 obtain ⟨b, _, rfl⟩ := List.mem_map.1 hx
 have := b.toNat_lt
 omega
theorem ixs_at {s : ByteArray} {k : Nat} (h : k < s.size) : ixs s (k : Int) = some ((byL s)[k]'(by rw [byL_len]; exact h)) := by
 have h2 : k < s.data.size := h
 simp [ixs, byL, h]
 rfl
theorem n_with (s : ByteArray) (l : List Int) (hs : s.size ≤ 1000000) (hl : l.length ≤ 1000000000000) : F_spec_l3With s l = some ((s.size : Int) :: byL s ++ l) := by
 unfold F_spec_l3With
 refine eq_of_rn (rn_then (ψ := fun x => x = (s.size : Int) :: byL s) (rn_cloop s.size (fun n p => n ≤ s.size ∧ p = ((s.size : Int) :: (byL s).take n, (n : Int))) ⟨by omega, by simp⟩ ?_ ?_) ?_)
 ·rintro n p hn ⟨_, rfl⟩
  have hn2 : n < (byL s).length := by rw [byL_len]; exact hn
  have hb := byL_bd s _ (List.getElem_mem hn2)
  refine rn_if (fun _ => ?_) fun h => absurd h (by simp; omega)
  refine rn_call (ixs_at hn) (rn_gd ?_ (rn_some ⟨by omega, ?_⟩))
  ·simp only [List.length_cons, List.length_take, byL_len]; omega
  ·show ((s.size : Int) :: (byL s).take n ++ [_], _) = _
   rw [wr64 (by omega) (by omega), wr64 (by omega) (by omega), List.cons_append, List.take_append_getElem hn2]
   rfl
 ·rintro p ⟨_, rfl⟩
  refine rn_if (fun h => absurd h (by simp)) fun _ => rn_some ?_
  show (s.size : Int) :: (byL s).take s.size = _
  rw [List.take_of_length_le (by rw [byL_len]; omega)]
 ·rintro _ rfl
  refine rn_gd ?_ (rn_some rfl)
  simp only [List.length_cons, byL_len]; omega
theorem n_labelled (s : ByteArray) (l : List Int) (hs : s.size ≤ 1000000) (hl : l.length ≤ 1000000000000) : F_impl_labelled s l = some ((s.size : Int) :: byL s ++ l) := n_with s l hs hl
def digB (x : Int) : Bool := decide (0 ≤ x) && decide (x ≤ 4611686018427387903)
theorem digB_t {x : Int} : digB x = true ↔ 0 ≤ x ∧ x ≤ 4611686018427387903 := by simp [digB]
theorem n_isDigest (x : Int) : F_impl_isDigest x = some (digB x) := by
 unfold F_impl_isDigest
 rw [n_within]; rfl
theorem n_l3Digest (x : Int) : F_spec_l3Digest x = some (digB x) := by
 unfold F_spec_l3Digest
 rw [n_l1In]; rfl
theorem byL_dig (s : ByteArray) : (byL s).all digB = true := by
 rw [List.all_eq_true]
 intro x hx
 have := byL_bd s x hx
 exact digB_t.2 ⟨by omega, by omega⟩
def hs1 (c s k : Int) : Int := (c * s + k + 1) % 2147483647
def absH (p : Int × Int) (x : Int) : Int × Int := (hs1 48271 (hs1 48271 p.1 (x % 2147483648)) (x / 2147483648), hs1 69621 (hs1 69621 p.2 (x % 2147483648)) (x / 2147483648))
def hashN (l : List Int) : Int := let p := (((l.length : Int) :: l).foldl absH (1, 2)); p.1 * 2147483648 + p.2
theorem hs1_bd (c s k : Int) : 0 ≤ hs1 c s k ∧ hs1 c s k ≤ 2147483646 := by unfold hs1; omega
theorem hs1_eq {c s k : Int} (hc : c = 48271 ∨ c = 69621) (hs : 0 ≤ s ∧ s ≤ 2147483646) (hk : 0 ≤ k ∧ k ≤ 2147483648) : (IntKind.i64.wrap ((IntKind.i64.wrap ((IntKind.i64.wrap (c * s)) + k)) + 1)).tmod 2147483647 = hs1 c s k := by
 rcases hc with rfl | rfl
 ·rw [wr64 (n := 48271 * s) (by omega) (by omega), wr64 (n := 48271 * s + k) (by omega) (by omega), wr64 (by omega) (by omega), Int.tmod_eq_emod_of_nonneg (by omega)]; rfl
 ·rw [wr64 (n := 69621 * s) (by omega) (by omega), wr64 (n := 69621 * s + k) (by omega) (by omega), wr64 (by omega) (by omega), Int.tmod_eq_emod_of_nonneg (by omega)]; rfl
def okP (p : Int × Int) : Prop := (0 ≤ p.1 ∧ p.1 ≤ 2147483646) ∧ (0 ≤ p.2 ∧ p.2 ≤ 2147483646)
theorem absH_ok (p : Int × Int) (x : Int) : okP (absH p x) := ⟨hs1_bd _ _ _, hs1_bd _ _ _⟩
theorem fold_ok : ∀ (l : List Int) (p : Int × Int), okP p → okP (l.foldl absH p)
 | [], _, h => h
 | x :: l, p, _ => fold_ok l _ (absH_ok p x)
theorem hashN_dig (l : List Int) : digB (hashN l) = true := by
 obtain ⟨h1, h2⟩ := fold_ok ((l.length : Int) :: l) (1, 2) ⟨by decide, by decide⟩
 refine digB_t.2 ?_
 unfold hashN
 dsimp only
 omega
theorem n_absorb {p : Int × Int} {x : Int} (hp : okP p) (hx : digB x = true) : F_spec_l3State_absorb__io0 p.1 p.2 x = some (absH p x) := by
 obtain ⟨h1, h2⟩ := hp
 have hx := digB_t.1 hx
 have e1 : x.tmod 2147483648 = x % 2147483648 := Int.tmod_eq_emod_of_nonneg hx.1
 have e2 : IntKind.i64.wrap (x.tdiv 2147483648) = x / 2147483648 := by
  rw [Int.tdiv_eq_ediv_of_nonneg hx.1, wr64 (by omega) (by omega)]
 have b1 : 0 ≤ x % 2147483648 ∧ x % 2147483648 ≤ 2147483648 := by omega
 have b2 : 0 ≤ x / 2147483648 ∧ x / 2147483648 ≤ 2147483648 := by omega
 have h0 : ix [x % 2147483648, x / 2147483648] 0 = some (x % 2147483648) := rfl
 have h1' : ix [x % 2147483648, x / 2147483648] 1 = some (x / 2147483648) := rfl
 unfold F_spec_l3State_absorb__io0
 rw [e1, e2, Option.bind_some, wloop_eq]
 simp only [List.length_cons, List.length_nil, show decide ((0 : Int) < ((0 + 1 + 1 : Nat) : Int)) = true from rfl, if_true, h0, Option.bind_some, hs1_eq (.inl rfl) h1 b1, hs1_eq (.inr rfl) h2 b1]
 rw [wloop_eq]
 simp only [show IntKind.i64.wrap (0 + 1) = 1 from rfl, show decide ((1 : Int) < ((0 + 1 + 1 : Nat) : Int)) = true from rfl, if_true, h1', Option.bind_some, hs1_eq (.inl rfl) (hs1_bd _ _ _) b2, hs1_eq (.inr rfl) (hs1_bd _ _ _) b2]
 rw [wloop_eq]
 simp only [show IntKind.i64.wrap (1 + 1) = 2 from rfl, show decide ((2 : Int) < ((0 + 1 + 1 : Nat) : Int)) = false from rfl, Bool.false_eq_true, if_false, Option.bind_some]
 rfl
theorem all_dig {l : List Int} (h : l.all digB = true) {k : Nat} (hk : k < l.length) : digB l[k] = true := List.all_eq_true.1 h _ (List.getElem_mem hk)
theorem n_hInts {l : List Int} (hl : l.length ≤ 1000000000000) (hd : l.all digB = true) : F_spec_hInts l = some (hashN l) := by
 unfold F_spec_hInts
 have e0 := n_absorb (p := (1, 2)) (x := (l.length : Int)) ⟨by decide, by decide⟩ (digB_t.2 ⟨by omega, by omega⟩)
 refine eq_of_rn (rn_call e0 (rn_then (ψ := fun p => p = ((l.length : Int) :: l).foldl absH (1, 2)) (rn_rloop (fun n p => p = ((l.length : Int) :: l.take n).foldl absH (1, 2)) rfl ?_ ?_) ?_))
 ·rintro n p hn rfl
  refine rn_ix hn (rn_call (n_absorb (fold_ok _ _ ⟨by decide, by decide⟩) (all_dig hd hn)) (rn_some ?_))
  show absH _ _ = _
  rw [← List.take_append_getElem hn, ← List.cons_append, List.foldl_append]
  rfl
 ·rintro p rfl
  show (((l.length : Int) :: l.take l.length).foldl absH (1, 2)) = _
  rw [List.take_length]
 ·rintro p rfl
  obtain ⟨h1, h2⟩ := fold_ok ((l.length : Int) :: l) (1, 2) ⟨by decide, by decide⟩
  refine rn_some ?_
  rw [wr64 (n := _ * 2147483648) (by omega) (by omega), wr64 (by omega) (by omega)]
  rfl
theorem and_mask {x : Int} (hx : digB x = true) : IntKind.i64.wrap (BitVec.ofInt IntKind.i64.bits x &&& BitVec.ofInt IntKind.i64.bits 2147483647).toNat = x % 2147483648 := by
 have hx := digB_t.1 hx
 obtain ⟨n, rfl⟩ := Int.eq_ofNat_of_zero_le hx.1
 have h1 : (BitVec.ofInt IntKind.i64.bits ((n : Nat) : Int) &&& BitVec.ofInt IntKind.i64.bits 2147483647).toNat = n % 2147483648 := by
  rw [BitVec.toNat_and]
  have a1 : (BitVec.ofInt IntKind.i64.bits (n : Int)).toNat = n := by
   rw [BitVec.toNat_ofInt]
   have : IntKind.i64.bits = 64 := rfl
   rw [this]
   omega
  have a2 : (BitVec.ofInt IntKind.i64.bits 2147483647).toNat = 2 ^ 31 - 1 := by decide
  rw [a1, a2, Nat.and_two_pow_sub_one_eq_mod]
 rw [h1, wr64 (by omega) (by omega)]
 omega
theorem n_hash {l : List Int} (hl : l.length ≤ 1000000000000) (hd : l.all digB = true) : F_impl_hash l = some (hashN l) := by
 unfold F_impl_hash
 have hd2 : ((l.length : Int) :: l).all digB = true := by
  rw [List.all_cons, hd, Bool.and_true]
  exact digB_t.2 ⟨by omega, by omega⟩
 refine eq_of_rn (rn_gd (by simp only [List.length_cons, List.length_nil]; omega) (rn_call rfl (rn_then (ψ := fun p => p = ((l.length : Int) :: l).foldl absH (1, 2)) (rn_rloop (fun n p => p = (((l.length : Int) :: l).take n).foldl absH (1, 2)) rfl ?_ ?_) ?_)))
 ·rintro n p hn rfl
  have ok := fold_ok ((((l.length : Int) :: l)).take n) (1, 2) ⟨by decide, by decide⟩
  have dg := all_dig hd2 hn
  have b := digB_t.1 dg
  have ef : (((l.length : Int) :: l)[n]).fdiv 2147483648 = ((l.length : Int) :: l)[n] / 2147483648 := Int.fdiv_eq_ediv_of_nonneg _ (by omega)
  have hn' : n < ((l.length : Int) :: l).length := hn
  refine rn_ix hn (rn_some ?_)
  show (_, _) = _
  simp only [List.singleton_append]
  rw [and_mask dg, ef, hs1_eq (.inl rfl) ok.1 (by omega), hs1_eq (.inr rfl) ok.2 (by omega), hs1_eq (.inl rfl) (hs1_bd _ _ _) (by omega), hs1_eq (.inr rfl) (hs1_bd _ _ _) (by omega),
   ← List.take_append_getElem hn', List.foldl_append]
  rfl
 ·rintro p rfl
  show ((((l.length : Int) :: l).take ([(l.length : Int)] ++ l).length).foldl absH (1, 2)) = _
  rw [List.singleton_append, List.take_length]
 ·rintro p rfl
  obtain ⟨h1, h2⟩ := fold_ok ((l.length : Int) :: l) (1, 2) ⟨by decide, by decide⟩
  refine rn_some ?_
  rw [wr64 (n := _ * 2147483648) (by omega) (by omega), wr64 (by omega) (by omega)]
  rfl
def hshL (s : ByteArray) (l : List Int) : Int := hashN ((s.size : Int) :: byL s ++ l)
theorem hshL_dig (s : ByteArray) (l : List Int) : digB (hshL s l) = true := hashN_dig _
def labB (s : ByteArray) (l : List Int) : Bool := decide (s.size ≤ 40) && decide (1 + s.size + l.length ≤ 400) && l.all digB
theorem lab_all {s : ByteArray} {l : List Int} (hs : s.size ≤ 1000000) : ((s.size : Int) :: byL s ++ l).all digB = l.all digB := by
 rw [List.cons_append, List.all_cons, List.all_append, byL_dig, digB_t.2 ⟨by omega, by omega⟩, Bool.true_and, Bool.true_and]
theorem n_hLabelled {s : ByteArray} {l : List Int} (hs : s.size ≤ 1000000) (hl : l.length ≤ 100000000000) (hd : l.all digB = true) : F_spec_hLabelled s l = some (hshL s l) := by
 unfold F_spec_hLabelled
 rw [n_with s l hs (by omega), Option.bind_some, n_hInts (by simp [byL_len]; omega) (by rw [lab_all hs]; exact hd)]
 rfl
theorem n_areDigests (l : List Int) : F_impl_areDigests l = some (decide (l.length ≤ 400) && l.all digB) := by
 unfold F_impl_areDigests
 have h1 : F_impl_areAll__impl_isDigest l = some (l.all digB) := areAll_gen (f := F_impl_areAll_1__impl_isDigest) fun x _ => by
  unfold F_impl_areAll_1__impl_isDigest
  rw [n_isDigest]; rfl
 rw [h1]
 by_cases h : l.length ≤ 400
 ·rw [if_pos (by simp; omega)]; simp [h]
 ·rw [if_neg (by simp; omega)]; simp [h]
theorem n_HashInts (l : List Int) : F_impl_HashInts l = some (if (decide (l.length ≤ 400) && l.all digB) = true then (hashN l, true) else (0, false)) := by
 unfold F_impl_HashInts
 rw [n_areDigests, Option.bind_some]
 cases h : (decide (l.length ≤ 400) && l.all digB) with
 | true =>
  simp only [Bool.and_eq_true, decide_eq_true_eq] at h
  rw [n_hash (by omega) h.2]; rfl
 | false => rfl
theorem n_HashLabelled (s : ByteArray) (l : List Int) : F_impl_HashLabelled s l = some (if labB s l = true then (hshL s l, true) else (0, false)) := by
 unfold F_impl_HashLabelled
 by_cases h1 : s.size ≤ 40
 ·by_cases h2 : l.length ≤ 400
  ·rw [if_neg (by simp; omega), Option.bind_some, if_neg (by simp; omega), n_labelled s l (by omega) (by omega), Option.bind_some, n_HashInts, lab_all (by omega)]
   have e : ((s.size : Int) :: byL s ++ l).length = 1 + s.size + l.length := by simp [byL_len]; omega
   rw [e]
   have e2 : labB s l = (decide (1 + s.size + l.length ≤ 400) && l.all digB) := by simp [labB, h1]
   rw [e2]
   cases decide (1 + s.size + l.length ≤ 400) <;> cases l.all digB <;> rfl
  ·rw [if_neg (by simp; omega), Option.bind_some, if_pos (by simp; omega)]
   have : labB s l = false := by
    have : ¬ 1 + s.size + l.length ≤ 400 := by omega
    simp [labB, this]
   rw [this]; rfl
 ·rw [if_pos (by simp; omega), Option.bind_some, if_pos rfl]
  have : labB s l = false := by simp [labB, h1]
  rw [this]; rfl
theorem rl_map {α β γ : Type} {l : List α} {f : α → β} {body : Int → List β → Option (Stp (List β) γ)} {stop : List β → γ} (a0 : List β) (hs : ∀ k (h : k < l.length) (s : List β), s.length = a0.length + k → body (k : Int) s = some (.go (s ++ [f l[k]]))) :
 rloop body stop l.length 0 a0 = some (stop (a0 ++ l.map f)) := by
 refine eq_of_rn (rn_rloop (fun k s => s = a0 ++ (l.take k).map f ∧ k ≤ l.length) ⟨by simp, by omega⟩ ?_ ?_)
 ·rintro k s hk ⟨rfl, _⟩
  refine ⟨_, hs k hk _ (by simp; omega), ?_, hk⟩
  rw [List.take_succ_eq_append_getElem hk, List.map_append, List.append_assoc]; rfl
 ·rintro s ⟨rfl, _⟩
  simp
theorem n_allN {γ : Type} {m : Nat} (p : Nat → Bool) (c d : γ) {body : Int → Unit → Option (Stp Unit (Unit ⊕ γ))} (h : ∀ k, k < m → body (k : Int) () = some (if p k = true then .go () else .out (.inr c))) :
 (rloop body (fun _ => .inl ()) m 0 ()).bind (Sum.elim (fun _ => some d) some) = some (if (List.range m).all p = true then d else c) := by
 rcases n_first (body := body) m p (fun _ => c) h with ⟨e, h1⟩ | ⟨k, h1, h2, h3, e⟩
 ·have : (List.range m).all p = true := by
   rw [List.all_eq_true]; intro x hx; exact h1 x (List.mem_range.1 hx)
  rw [e, this]; rfl
 ·have : (List.range m).all p = false := by
   rw [List.all_eq_false]; exact ⟨k, List.mem_range.2 h1, by simp [h2]⟩
  rw [e, this]; rfl
theorem cf_gen {α : Type} {l : List α} {p : α → Bool} {f : α → Option Bool} (hf : ∀ x ∈ l, f x = some (p x)) :
 ((((rloop (σ := Unit) (β := Unit ⊕ Int) (fun i8 s7 => (ix l i8).bind fun x17 => (f x17).bind fun z20 => if z20 = true then (some (.out (.inr i8))) else (some (.go ()))) (fun s7 => .inl ()) (l.length) 0 () : Option (Unit ⊕ Int)).bind (Sum.elim (fun (x5 : Unit) => some (-1)) some)).bind fun z1 => some (decide (0 ≤ z1)))) = some (l.any p) := by
 rcases n_first l.length (fun k => !(l[k]?).any p) (fun k => (k : Int)) (body := fun i8 s7 => (ix l i8).bind fun x17 => (f x17).bind fun z20 => if z20 = true then (some (.out (.inr i8))) else (some (.go ()))) (fun k hk => by
  rw [ix_at hk, Option.bind_some, hf _ (List.getElem_mem hk), Option.bind_some, List.getElem?_eq_getElem hk]
  cases h : p l[k] <;> simp [h]) with ⟨e, h1⟩ | ⟨k, h1, h2, h3, e⟩
 ·rw [e]
  have : l.any p = false := by
   rw [List.any_eq_false]
   intro x hx
   obtain ⟨k, hk, rfl⟩ := List.mem_iff_getElem.1 hx
   have := h1 k hk
   rw [List.getElem?_eq_getElem hk] at this
   simpa using this
  rw [this]; rfl
 ·rw [e]
  have : l.any p = true := by
   rw [List.any_eq_true]
   refine ⟨l[k], List.getElem_mem h1, ?_⟩
   rw [List.getElem?_eq_getElem h1] at h2
   simpa using h2
  rw [this]
  simp
def inB (a b x : Int) : Bool := decide (a ≤ x) && decide (x ≤ b)
theorem inB_t {a b x : Int} : inB a b x = true ↔ a ≤ x ∧ x ≤ b := by simp [inB]
theorem ite_and (a b : Bool) : (if a = true then some b else some false) = some (a && b) := by cases a <;> rfl
theorem ite_or (a b : Bool) : (if a = true then some true else some b) = some (a || b) := by cases a <;> rfl
theorem n_inB (x a b : Int) : F_spec_l1In x a b = some (inB a b x) := n_l1In x a b
theorem n_winB (x a b : Int) : F_impl_within x a b = some (inB a b x) := n_within x a b
theorem n_l1Own {l : List Int} (h : l.length ≤ 1048576) : F_spec_l1Own l = some l := gd_t (by omega)
theorem n_clone {l : List Int} (h : l.length ≤ 1048576) : F_slices_Clone_int_int l = some l := gd_t (by omega)
theorem flatI_take {α : Type} {L : List (List α)} {i : Nat} (h : i < L.length) : (L.take (i + 1)).flatten = (L.take i).flatten ++ L[i] := by
 rw [List.take_succ_eq_append_getElem h, List.flatten_append]; simp
theorem flatI_le {α : Type} (L : List (List α)) (i : Nat) : (L.take i).flatten.length ≤ L.flatten.length := by
 have e : L.flatten = (L.take i).flatten ++ (L.drop i).flatten := by rw [← List.flatten_append, List.take_append_drop]
 rw [e, List.length_append]; omega
theorem n_concatI (L : List (List Int)) (h : L.flatten.length ≤ 1000000000000) : F_slices_Concat_int_int L = some L.flatten := by
 unfold F_slices_Concat_int_int
 refine eq_of_rn (rn_then (ψ := fun n => n = (L.flatten.length : Int)) (rn_rloop (fun i s => s = ((L.take i).flatten.length : Int)) rfl ?_ ?_) ?_)
 ·rintro i s hi rfl
  have e := congrArg List.length (flatI_take hi)
  rw [List.length_append] at e
  have hl := flatI_le L (i + 1)
  refine rn_ix hi ?_
  rw [wr64 (by omega) (by omega)]
  refine rn_f (by simp only [decide_eq_false_iff_not]; omega) (rn_some ?_)
  show _ = _
  omega
 ·rintro s rfl
  rw [List.take_length]
 ·rintro n rfl
  refine rn_gd (by omega) (rn_then (ψ := fun r => r = L.flatten) (rn_rloop (fun i s => s = (L.take i).flatten) rfl ?_ ?_) fun r hr => rn_some hr)
  ·rintro i s hi rfl
   have e := congrArg List.length (flatI_take hi)
   rw [List.length_append] at e
   have hl := flatI_le L (i + 1)
   refine rn_ix hi (rn_gd (by omega) (rn_some ?_))
   show _ = _
   rw [flatI_take hi]
  ·rintro s rfl
   rw [List.take_length]
def chG (gr : Group) (s : ByteArray) (l : List Int) : Int := hshL s ([gr.P, gr.Q, gr.G] ++ l) % gr.Q
theorem grp_dig {gr : Group} (k : OkG gr) {l : List Int} : ([gr.P, gr.Q, gr.G] ++ l).all digB = l.all digB := by
 have hp := k.p
 have hq := k.q
 have hg := k.g
 rw [List.all_append]
 have : [gr.P, gr.Q, gr.G].all digB = true := by
  simp only [List.all_cons, List.all_nil, Bool.and_true, Bool.and_eq_true]
  exact ⟨digB_t.2 (by omega), digB_t.2 (by omega), digB_t.2 (by omega)⟩
 rw [this, Bool.true_and]
theorem n_hChallenge {gr : Group} (k : OkG gr) {s : ByteArray} {l : List Int} (hs : s.size ≤ 1000000) (hl : l.length ≤ 10000000000) (hd : l.all digB = true) : F_spec_hChallenge gr s l = some (chG gr s l) := by
 have hq := k.q
 have hb := digB_t.1 (hshL_dig s ([gr.P, gr.Q, gr.G] ++ l))
 unfold F_spec_hChallenge
 rw [gd_t (by simp only [List.length_cons, List.length_nil]; omega), n_hLabelled hs (by simp only [List.length_append, List.length_cons, List.length_nil]; omega) (by rw [grp_dig k]; exact hd), Option.bind_some, gd_t (by omega), Int.tmod_eq_emod_of_nonneg hb.1]
 rfl
theorem n_chlI {gr : Group} (k : OkG gr) (s : ByteArray) {l : List Int} (hl : l.length ≤ 10000000000) : F_impl_Group_challenge gr s l = some (if labB s ([gr.P, gr.Q, gr.G] ++ l) = true then (chG gr s l, true) else (0, false)) := by
 have hq := k.q
 have hb := digB_t.1 (hshL_dig s ([gr.P, gr.Q, gr.G] ++ l))
 unfold F_impl_Group_challenge
 rw [gd_t (by simp only [List.length_cons, List.length_nil]; omega), n_HashLabelled, Option.bind_some]
 cases labB s ([gr.P, gr.Q, gr.G] ++ l) with
 | false => rfl
 | true =>
  simp only [if_true, Bool.not_true, Bool.false_eq_true, if_false]
  rw [gd_t (by omega), Int.tmod_eq_emod_of_nonneg hb.1]
  rfl
theorem lab_t {gr : Group} (k : OkG gr) {s : ByteArray} {l : List Int} (hs : s.size ≤ 40) (hl : 4 + s.size + l.length ≤ 400) (hd : l.all digB = true) : labB s ([gr.P, gr.Q, gr.G] ++ l) = true := by
 unfold labB
 rw [grp_dig k, hd, Bool.and_true, Bool.and_eq_true, decide_eq_true_eq, decide_eq_true_eq]
 simp only [List.length_append, List.length_cons, List.length_nil]
 omega
theorem has_dig {gr : Group} (k : OkG gr) {l : List Int} (h : l.all (hasB gr) = true) : l.all digB = true := by
 have hp := k.p
 rw [List.all_eq_true] at h ⊢
 intro x hx
 have := has_bd (h x hx)
 exact digB_t.2 (by omega)
def prdG (gr : Group) : List Int → List Int → Int → Int
 | x :: l, e :: m, o => prdG gr l m (o * powG gr x e % gr.P)
 | _, _, o => o
theorem prdG_snoc (gr : Group) : ∀ (l m : List Int) (x e o : Int), l.length = m.length → prdG gr (l ++ [x]) (m ++ [e]) o = prdG gr l m o * powG gr x e % gr.P
 | [], [], x, e, o, _ => rfl
 | y :: l, f :: m, x, e, o, h => prdG_snoc gr l m x e _ (by simpa using h)
theorem prdG_cut (gr : Group) : ∀ (l m : List Int) (o : Int), prdG gr l (m.take l.length) o = prdG gr l m o
 | [], m, o => by cases m <;> rfl
 | y :: l, [], o => rfl
 | y :: l, f :: m, o => prdG_cut gr l m _
theorem prdG_bd {gr : Group} (h : 0 < gr.P) : ∀ (l m : List Int) (o : Int), 0 ≤ o ∧ o < gr.P → 0 ≤ prdG gr l m o ∧ prdG gr l m o < gr.P
 | x :: l, e :: m, o, _ => prdG_bd h l m _ ⟨Int.emod_nonneg _ (by omega), Int.emod_lt_of_pos _ h⟩
 | [], _, o, ho => ho
 | _ :: _, [], o, ho => ho
theorem mul_two {gr : Group} (k : OkG gr) {x y : Int} (hx : 0 ≤ x ∧ x < gr.P) (hy : 0 ≤ y) : mulG gr [x, y] = x * y % gr.P := by
 have hp := k.p
 simp only [mulG, List.foldl_cons, List.foldl_nil, Int.one_mul]
 rw [Int.emod_eq_of_lt hx.1 hx.2]
theorem n_gProd {gr : Group} (k : OkG gr) {l m : List Int} (hl : ∀ x ∈ l, 0 ≤ x ∧ x ≤ 2000000000) (hm : l.length ≤ m.length) : F_spec_gProd gr l m = some (prdG gr l m 1) := by
 have hp := k.p
 unfold F_spec_gProd
 refine eq_of_rn (rn_then (ψ := fun b => b = prdG gr l m 1) (rn_rloop (fun i s => s = prdG gr (l.take i) (m.take i) 1) rfl ?_ ?_) fun b hb => rn_some hb)
 ·rintro i s hi rfl
  have bd := prdG_bd (gr := gr) (by omega) (l.take i) (m.take i) 1 (by omega)
  have hx := hl l[i] (List.getElem_mem hi)
  have pb := powG_bd k l[i] (m[i]'(by omega))
  refine rn_ix hi (rn_ix (show i < m.length by omega) (rn_call (n_gExp k hx.1 hx.2 _) (rn_gd (by omega) (rn_some ?_))))
  show _ = prdG gr (l.take (i + 1)) (m.take (i + 1)) 1
  rw [List.take_succ_eq_append_getElem hi, List.take_succ_eq_append_getElem (show i < m.length by omega), prdG_snoc _ _ _ _ _ _ (by simp; omega)]
  have b1 := Int.mul_nonneg bd.1 pb.1
  have b2 : prdG gr (l.take i) (m.take i) 1 * powG gr l[i] (m[i]'(by omega)) ≤ 2000000000 * 2000000000 := Int.mul_le_mul (by omega) (by omega) pb.1 (by omega)
  rw [wr64 (by omega) (by omega), Int.tmod_eq_emod_of_nonneg b1]
 ·rintro s rfl
  rw [List.take_length, prdG_cut]
theorem n_powersI {gr : Group} (k : OkG gr) {l m : List Int} (hl : ∀ x ∈ l, 0 ≤ x ∧ x ≤ 2000000000) (hm : l.length ≤ m.length) : F_impl_Group_powers gr l m = some (prdG gr l m 1) := by
 have hp := k.p
 unfold F_impl_Group_powers
 refine eq_of_rn (rn_then (ψ := fun b => b = prdG gr l m 1) (rn_rloop (fun i s => s = prdG gr (l.take i) (m.take i) 1) rfl ?_ ?_) fun b hb => rn_some hb)
 ·rintro i s hi rfl
  have bd := prdG_bd (gr := gr) (by omega) (l.take i) (m.take i) 1 (by omega)
  have hx := hl l[i] (List.getElem_mem hi)
  have pb := powG_bd k l[i] (m[i]'(by omega))
  refine rn_ix hi (rn_ix (show i < m.length by omega) (rn_call (n_pow k hx.1 hx.2 _).1 (rn_call (n_mul k ?_) (rn_some ?_))))
  ·intro y hy
   simp only [List.mem_cons, List.not_mem_nil, or_false] at hy
   rcases hy with rfl | rfl <;> omega
  ·show _ = prdG gr (l.take (i + 1)) (m.take (i + 1)) 1
   rw [List.take_succ_eq_append_getElem hi, List.take_succ_eq_append_getElem (show i < m.length by omega), prdG_snoc _ _ _ _ _ _ (by simp; omega), mul_two k bd pb.1]
 ·rintro s rfl
  rw [List.take_length, prdG_cut]
structure LinS (gr : Group) (bs : List (List Int)) : Prop where
 n : 1 ≤ bs.length ∧ bs.length ≤ 8
 m : 1 ≤ (bs.headD []).length ∧ (bs.headD []).length ≤ 8
 r : ∀ r ∈ bs, r.length = (bs.headD []).length ∧ r.all (hasB gr) = true
theorem flatI_len : ∀ {bs : List (List Int)} {c : Nat}, (∀ r ∈ bs, r.length ≤ c) → bs.flatten.length ≤ bs.length * c
 | [], _, _ => by simp
 | r :: bs, c, h => by
  have h1 := h r (List.mem_cons_self ..)
  have h2 := flatI_len fun x hx => h x (List.mem_cons_of_mem r hx)
  rw [List.flatten_cons, List.length_append, List.length_cons, Nat.add_mul]
  omega
theorem LinS.flat {gr : Group} {bs : List (List Int)} (h : LinS gr bs) : bs.flatten.length ≤ 64 := by
 have := flatI_len (bs := bs) (c := 8) fun r hr => by rw [(h.r r hr).1]; exact h.m.2
 have := h.n
 omega
theorem LinS.dig {gr : Group} (k : OkG gr) {bs : List (List Int)} (h : LinS gr bs) : bs.flatten.all digB = true := by
 rw [List.all_eq_true]
 intro x hx
 obtain ⟨r, hr, hx⟩ := List.mem_flatten.1 hx
 exact List.all_eq_true.1 (has_dig k (h.r r hr).2) x hx
theorem LinS.hd {gr : Group} {bs : List (List Int)} (h : LinS gr bs) : ix bs 0 = some (bs.headD []) := by
 cases bs with
 | nil => have := h.n; simp at this
 | cons r l => rfl
theorem has_rng {gr : Group} (k : OkG gr) {l : List Int} (h : l.all (hasB gr) = true) : ∀ x ∈ l, 0 ≤ x ∧ x ≤ 2000000000 := fun x hx => by
 have hp := k.p
 have := has_bd (List.all_eq_true.1 h x hx)
 omega
theorem n_stmt {bs : List (List Int)} {im cs : List Int} (h1 : bs.flatten.length ≤ 1000000) (h2 : im.length ≤ 1048576) (h3 : cs.length ≤ 1048576) : F_spec_sStatement bs im cs = some (bs.flatten ++ im ++ cs) := by
 unfold F_spec_sStatement
 refine eq_of_rn (rn_then (ψ := fun r => r = bs.flatten) (rn_rloop (fun i s => s = (bs.take i).flatten) rfl ?_ ?_) ?_)
 ·rintro i s hi rfl
  have e := congrArg List.length (flatI_take hi)
  rw [List.length_append] at e
  have hl := flatI_le bs (i + 1)
  refine rn_ix hi (rn_gd (by omega) (rn_some ?_))
  show _ = _
  rw [flatI_take hi]
 ·rintro s rfl
  rw [List.take_length]
 ·rintro r rfl
  exact rn_gd (by omega) (rn_gd (by rw [List.length_append]; omega) (rn_some rfl))
theorem n_images {gr : Group} (k : OkG gr) {bs : List (List Int)} {es : List Int} (hb : LinS gr bs) (he : es.length = (bs.headD []).length) : F_impl_Group_images gr bs es = some (bs.map fun r => prdG gr r es 1) := by
 unfold F_impl_Group_images
 have hn := hb.n
 rw [rl_map (f := fun r => prdG gr r es 1) []]
 ·rfl
 ·intro i hi s hs
  have hr := hb.r _ (List.getElem_mem hi)
  rw [ix_at hi, Option.bind_some, n_powersI k (has_rng k hr.2) (by omega), Option.bind_some, gd_t (by simp at hs; omega)]
def verB (gr : Group) (s : ByteArray) (bs : List (List Int)) (im : List Int) (p : Proof) : Bool :=
 !(((p.Commits.length : Int) != (bs.length : Int)) || (((p.Challenges.length : Int) != 1) || (((p.Responses.length : Int) != ((bs.headD []).length : Int)) || (!p.Commits.all (hasB gr) || !p.Responses.all (expB gr))))) &&
 (!(p.Challenges.headD 0 != chG gr s (bs.flatten ++ im ++ p.Commits)) &&
 (List.range bs.length).all fun i => !(prdG gr (bs.getD i []) p.Responses 1 != mulG gr [p.Commits.getD i 0, powG gr (im.getD i 0) (p.Challenges.headD 0)]))
theorem n_sVerify {gr : Group} (k : OkG gr) {s : ByteArray} (hs : s.size ≤ 40) {bs : List (List Int)} {im : List Int} {p : Proof} (hb : LinS gr bs) (hi : im.length = bs.length) (hd : im.all (hasB gr) = true) (hc : p.Commits.length ≤ 1048576) :
 F_spec_sVerify gr s bs im p = some (verB gr s bs im p) := by
 have hp := k.p
 have hq := k.q
 unfold F_spec_sVerify verB
 simp only [hb.hd, n_gIs k, n_gExps (gr := gr) (by omega) (by omega), Option.bind_some, ite_or]
 cases hg : (((p.Commits.length : Int) != (bs.length : Int)) || (((p.Challenges.length : Int) != 1) || (((p.Responses.length : Int) != ((bs.headD []).length : Int)) || (!p.Commits.all (hasB gr) || !p.Responses.all (expB gr))))) with
 | true => rfl
 | false =>
  simp only [Bool.or_eq_false_iff, bne_eq_false_iff_eq, Bool.not_eq_false'] at hg
  obtain ⟨g1, g2, g3, g4, g5⟩ := hg
  have hf := hb.flat
  have hn := hb.n
  obtain ⟨c, hce⟩ : ∃ c, p.Challenges = [c] := by
   match h : p.Challenges, g2 with
   | [c], _ => exact ⟨c, rfl⟩
  have hdig : (bs.flatten ++ im ++ p.Commits).all digB = true := by
   rw [List.all_append, List.all_append, hb.dig k, has_dig k hd, has_dig k g4]; rfl
  simp only [Bool.false_eq_true, if_false, hce, show ix [c] 0 = some c from rfl, Option.bind_some, n_stmt (bs := bs) (im := im) (cs := p.Commits) (by omega) (by omega) hc]
  rw [n_hChallenge k (by omega) (by simp only [List.length_append]; omega) hdig, Option.bind_some]
  show _ = some (!false && (!(c != _) && _))
  by_cases hcc : c = chG gr s (bs.flatten ++ im ++ p.Commits)
  ·have e1 : (c != chG gr s (bs.flatten ++ im ++ p.Commits)) = false := by simpa using hcc
   rw [e1]
   simp only [Bool.false_eq_true, if_false, Bool.not_false, Bool.true_and]
   rw [n_allN (fun i => !(prdG gr (bs.getD i []) p.Responses 1 != mulG gr [p.Commits.getD i 0, powG gr (im.getD i 0) c])) false true]
   ·simp only [Bool.if_true_left, Bool.if_false_right, Bool.and_true, Bool.decide_eq_true, Bool.or_false]
    rfl
   ·intro i hi
    have hr := hb.r _ (List.getElem_mem hi)
    have h1 : i < p.Commits.length := by omega
    have h2 : i < im.length := by omega
    have ic := has_rng k g4 _ (List.getElem_mem h1)
    have ii := has_rng k hd _ (List.getElem_mem h2)
    have pb := powG_bd k im[i] c
    rw [ix_at hi, Option.bind_some, ix_at h1, Option.bind_some, ix_at h2, Option.bind_some, n_gProd k (has_rng k hr.2) (by omega), Option.bind_some, n_gExp k ii.1 ii.2, Option.bind_some, n_gMul k ?_, Option.bind_some]
    ·simp only [List.getD_eq_getElem?_getD, List.getElem?_eq_getElem hi, List.getElem?_eq_getElem h1, List.getElem?_eq_getElem h2, Option.getD_some]
     exact ite_n _ _ _
    ·intro y hy
     simp only [List.mem_cons, List.not_mem_nil, or_false] at hy
     rcases hy with rfl | rfl <;> omega
  ·have e1 : (c != chG gr s (bs.flatten ++ im ++ p.Commits)) = true := by simpa using hcc
   rw [e1]; rfl
theorem n_verifyI {gr : Group} (k : OkG gr) {s : ByteArray} (hs : s.size ≤ 40) {bs : List (List Int)} {im : List Int} {p : Proof} (hb : LinS gr bs) (hi : im.length = bs.length) (hd : im.all (hasB gr) = true) (hc : p.Commits.length ≤ 1048576) :
 F_impl_Group_verifyLinear gr s bs im p = some (verB gr s bs im p) := by
 have hp := k.p
 have hq := k.q
 unfold F_impl_Group_verifyLinear verB
 simp only [hb.hd, n_hasAll k, n_areExps (gr := gr) (by omega) (by omega), Option.bind_some, ite_or]
 cases hg : (((p.Commits.length : Int) != (bs.length : Int)) || (((p.Challenges.length : Int) != 1) || (((p.Responses.length : Int) != ((bs.headD []).length : Int)) || (!p.Commits.all (hasB gr) || !p.Responses.all (expB gr))))) with
 | true => rfl
 | false =>
  simp only [Bool.or_eq_false_iff, bne_eq_false_iff_eq, Bool.not_eq_false'] at hg
  obtain ⟨g1, g2, g3, g4, g5⟩ := hg
  have hf := hb.flat
  have hn := hb.n
  obtain ⟨c, hce⟩ : ∃ c, p.Challenges = [c] := by
   match h : p.Challenges, g2 with
   | [c], _ => exact ⟨c, rfl⟩
  have hdig : (bs.flatten ++ im ++ p.Commits).all digB = true := by
   rw [List.all_append, List.all_append, hb.dig k, has_dig k hd, has_dig k g4]; rfl
  have hfl : [bs.flatten, im, p.Commits].flatten = bs.flatten ++ im ++ p.Commits := by simp
  have hl : (bs.flatten ++ im ++ p.Commits).length ≤ 80 := by simp only [List.length_append]; omega
  simp only [Bool.false_eq_true, if_false, hce, show ix [c] 0 = some c from rfl, Option.bind_some, n_concatI bs (by omega), n_concatI [bs.flatten, im, p.Commits] (by rw [hfl]; omega), hfl]
  rw [n_chlI k s (by omega), if_pos (lab_t k hs (by omega) hdig), Option.bind_some]
  simp only [Bool.not_true, Bool.false_eq_true, if_false, Option.bind_some]
  show _ = some (!false && (!(c != _) && _))
  by_cases hcc : c = chG gr s (bs.flatten ++ im ++ p.Commits)
  ·have e1 : (c != chG gr s (bs.flatten ++ im ++ p.Commits)) = false := by simpa using hcc
   rw [e1, ← hcc]
   simp only [Bool.false_eq_true, if_false, Bool.not_false, Bool.true_and]
   rw [n_images k hb (by omega), Option.bind_some, n_allN (fun i => !(prdG gr (bs.getD i []) p.Responses 1 != mulG gr [p.Commits.getD i 0, powG gr (im.getD i 0) c])) false true]
   ·simp only [Bool.if_true_left, Bool.if_false_right, Bool.and_true, Bool.decide_eq_true, Bool.or_false, List.length_map]
    rfl
   ·intro i hi
    have hi' : i < bs.length := by simpa using hi
    have h1 : i < p.Commits.length := by omega
    have h2 : i < im.length := by omega
    have ic := has_rng k g4 _ (List.getElem_mem h1)
    have ii := has_rng k hd _ (List.getElem_mem h2)
    have pb := powG_bd k im[i] c
    rw [ix_at hi, Option.bind_some, ix_at h1, Option.bind_some, ix_at h2, Option.bind_some, (n_pow k ii.1 ii.2 _).1, Option.bind_some, n_mul k ?_, Option.bind_some]
    ·simp only [List.getElem_map, List.getD_eq_getElem?_getD, List.getElem?_eq_getElem hi', List.getElem?_eq_getElem h1, List.getElem?_eq_getElem h2, Option.getD_some]
     exact ite_n _ _ _
    ·intro y hy
     simp only [List.mem_cons, List.not_mem_nil, or_false] at hy
     rcases hy with rfl | rfl <;> omega
  ·have e1 : (c != chG gr s (bs.flatten ++ im ++ p.Commits)) = true := by simpa using hcc
   rw [e1]; rfl
theorem gen_has {gr : Group} (k : OkG gr) : hasB gr gr.G = true := by
 have hg := k.g
 simp only [hasB, Bool.and_eq_true, decide_eq_true_eq]
 exact ⟨by omega, k.o⟩
theorem rows_one {gr : Group} {x : Int} (h : hasB gr x = true) : LinS gr [[x]] := ⟨by simp, by simp, fun r hr => by
 rw [List.mem_singleton.1 hr]
 simp [h]⟩
def sgnB (gr : Group) (s : ByteArray) (key : Int) (p : Proof) : Bool := verB gr s [[gr.G]] [key] p
theorem n_signed {gr : Group} (k : OkG gr) {s : ByteArray} (hs : s.size ≤ 40) {key : Int} (hk : hasB gr key = true) {p : Proof} (hc : p.Commits.length ≤ 1048576) : F_spec_oSigned gr s key p = some (sgnB gr s key p) ∧ F_impl_Group_isSigned gr s key p = some (sgnB gr s key p) := by
 have hr := rows_one (gen_has k)
 have hd : [key].all (hasB gr) = true := by simp [hk]
 unfold F_spec_oSigned F_impl_Group_isSigned
 rw [n_sVerify k hs hr rfl hd hc, n_verifyI k hs hr rfl hd hc]
 exact ⟨rfl, rfl⟩
def hxS : ByteArray := ⟨#[48, 49, 50, 51, 52, 53, 54, 55, 56, 57, 97, 98, 99, 100, 101, 102]⟩
def hxC (n : Int) : Int := (ixs hxS n).getD 0
theorem hx_at {n : Int} (h : 0 ≤ n ∧ n < 16) : ixs hxS n = some (hxC n) := by
 obtain ⟨k, rfl⟩ := Int.eq_ofNat_of_zero_le h.1
 have : ∀ k : Fin 16, ixs hxS (k.val : Int) = some (hxC (k.val : Int)) := by decide
 exact this ⟨k, by omega⟩
def hxD (d : Int) (k : Nat) : Int := d / 16 ^ k % 16
theorem hxD_bd (d : Int) (k : Nat) : 0 ≤ hxD d k ∧ hxD d k < 16 := by unfold hxD; omega
def hxL (d : Int) : List Int := (List.range 16).map fun i => hxC (hxD d (15 - i))
theorem bytes_size (l : List Int) : (bytesOf l).size = l.length := by
 show ((l.map fun n => UInt8.ofNat n.toNat).toArray).size = _
 simp
def hxT (d : Int) : ByteArray := bytesOf (hxL d)
theorem hxT_size (d : Int) : (hxT d).size = 16 := by unfold hxT; rw [bytes_size]; simp [hxL]
theorem n_textS {d : Int} (h : digB d = true) : F_spec_DigestText d = some (hxT d, true) := by
 have hd := digB_t.1 h
 unfold F_spec_DigestText
 rw [n_l3Digest, h, Option.bind_some]
 simp only [Bool.not_true, Bool.false_eq_true, if_false]
 rw [gd_t (by omega), Option.bind_some]
 have key := rn_cloop (σ := Int × List Int × Int) (β := List Int) (step := fun s17 =>
  if decide (0 ≤ s17.2.2) = true then (
  (ixs (⟨#[48, 49, 50, 51, 52, 53, 54, 55, 56, 57, 97, 98, 99, 100, 101, 102]⟩ : ByteArray) (s17.1.tmod 16)).bind fun x23 =>
  (ix s17.2.1 s17.2.2).bind fun x24 =>
  some (.go (IntKind.i64.wrap (s17.1.tdiv 16), s17.2.1.set s17.2.2.toNat x23, IntKind.i64.wrap (s17.2.2 - 1)))) else (
  some (.out s17.2.1))) (s0 := (d, List.replicate 16 0, 15)) (φ := fun l => l = hxL d) 16
  (fun j p => p.1 = d / 16 ^ j ∧ p.2.1.length = 16 ∧ p.2.2 = 15 - (j : Int) ∧ ∀ i (h : i < p.2.1.length), 15 < i + j → p.2.1[i] = hxC (hxD d (15 - i))) ⟨by simp, by simp, rfl, fun i h1 h2 => by simp at h1; omega⟩ ?_ ?_
 ·obtain ⟨l, e, rfl⟩ := key
  rw [e]; rfl
 ·rintro j ⟨a, l, c⟩ hj ⟨rfl, h2, rfl, h4⟩
  simp only at h2 h4
  have hp : (0 : Int) < 16 ^ j := Int.pow_pos (by omega)
  have h0 : 0 ≤ d / 16 ^ j := Int.ediv_nonneg hd.1 (by omega)
  have h1 : d / 16 ^ j ≤ d := Int.ediv_le_self _ hd.1
  obtain ⟨i, hi, e1⟩ : ∃ i : Nat, i < 16 ∧ 15 - (j : Int) = (i : Int) := ⟨15 - j, by omega, by omega⟩
  have hil : i < l.length := by omega
  have e2 : (d / 16 ^ j).tmod 16 = hxD d j := Int.tmod_eq_emod_of_nonneg h0
  have e3 : IntKind.i64.wrap ((d / 16 ^ j).tdiv 16) = d / 16 ^ (j + 1) := by
   rw [Int.tdiv_eq_ediv_of_nonneg h0, wr64 (by omega) (by omega), Int.ediv_ediv_of_nonneg (by omega), Int.pow_succ]
  dsimp only
  rw [e1]
  refine rn_t (by simp) (rn_call (by rw [e2]; exact hx_at (hxD_bd d j)) (rn_call (ix_at hil) (rn_some ⟨e3, by simpa using h2, ?_, fun t ht h5 => ?_⟩)))
  ·show IntKind.i64.wrap ((i : Int) - 1) = _
   rw [wr64 (by omega) (by omega)]; omega
  ·simp only [Int.toNat_natCast, List.getElem_set]
   split
   ·rename_i e; subst e
    have : 15 - i = j := by omega
    rw [this]
   ·exact h4 t (by simpa using ht) (by omega)
 ·rintro ⟨a, l, c⟩ ⟨rfl, h2, rfl, h4⟩
  simp only at h2 h4
  refine ⟨.out l, rfl, ?_⟩
  refine List.ext_getElem (by simp [hxL, h2]) fun i h5 h6 => ?_
  rw [h4 i h5 (by omega)]
  simp [hxL]
theorem and15 {x : Int} (hx : 0 ≤ x ∧ x ≤ 9223372036854775807) : IntKind.i64.wrap (BitVec.ofInt IntKind.i64.bits x &&& BitVec.ofInt IntKind.i64.bits 15).toNat = x % 16 := by
 obtain ⟨n, rfl⟩ := Int.eq_ofNat_of_zero_le hx.1
 have h1 : (BitVec.ofInt IntKind.i64.bits ((n : Nat) : Int) &&& BitVec.ofInt IntKind.i64.bits 15).toNat = n % 16 := by
  rw [BitVec.toNat_and]
  have a1 : (BitVec.ofInt IntKind.i64.bits (n : Int)).toNat = n := by
   rw [BitVec.toNat_ofInt]
   have : IntKind.i64.bits = 64 := rfl
   rw [this]
   omega
  have a2 : (BitVec.ofInt IntKind.i64.bits 15).toNat = 2 ^ 4 - 1 := by decide
  rw [a1, a2, Nat.and_two_pow_sub_one_eq_mod]
 rw [h1, wr64 (by omega) (by omega)]
 omega
theorem n_textI {d : Int} (h : digB d = true) : F_impl_DigestText d = some (hxT d, true) := by
 have hd := digB_t.1 h
 unfold F_impl_DigestText
 rw [n_isDigest, h, Option.bind_some]
 simp only [Bool.not_true, Bool.false_eq_true, if_false]
 refine eq_of_rn (rn_then (ψ := fun l => l = hxL d) (rn_cloop 16 (fun j p => p = ((List.range j).map fun i => hxC (hxD d (15 - i)), 15 - (j : Int))) rfl ?_ ?_) ?_)
 ·rintro j p hj rfl
  obtain ⟨i, hi, e1⟩ : ∃ i : Nat, i < 16 ∧ 15 - (j : Int) = (i : Int) := ⟨15 - j, by omega, by omega⟩
  have ei : 15 - j = i := by omega
  have e4 : (IntKind.u64.wrap (IntKind.i64.wrap (4 * (i : Int)))) = ((4 * i : Nat) : Int) := by
   rw [wr64 (by omega) (by omega), wrU (by omega) (by omega)]; omega
  have hm : min (4 * i) IntKind.i64.bits = 4 * i := Nat.min_eq_left (by show 4 * i ≤ 64; omega)
  have e16 : (2 : Int) ^ (4 * i) = 16 ^ i := by rw [Int.pow_mul]; rfl
  have hp : (0 : Int) < 16 ^ i := Int.pow_pos (by omega)
  have h0 : 0 ≤ d / 16 ^ i := Int.ediv_nonneg hd.1 (by omega)
  have h1 : d / 16 ^ i ≤ d := Int.ediv_le_self _ hd.1
  have ed : d.fdiv (16 ^ i) = d / 16 ^ i := Int.fdiv_eq_ediv_of_nonneg _ (by omega)
  rw [e1]
  refine rn_t (by simp) ?_
  dsimp only
  rw [e4, Int.toNat_natCast, hm, e16, ed, and15 (by omega)]
  refine rn_gd (by omega) (rn_call (hx_at (hxD_bd d i)) (rn_gd (by simp; omega) (rn_some ?_)))
  show (_, _) = _
  rw [List.range_succ, List.map_append, wr64 (by omega) (by omega)]
  have e5 : (i : Int) - 1 = 15 - ((j + 1 : Nat) : Int) := by omega
  rw [e5, ← ei]; rfl
 ·rintro p rfl
  exact rn_f rfl (rn_some rfl)
 ·rintro l rfl; exact rn_some rfl
theorem n_oText {d : Int} (h : digB d = true) : F_spec_oText d = some (hxT d) := by
 unfold F_spec_oText
 rw [n_textS h]; rfl
theorem n_signLabel {s : ByteArray} {d : Int} (hs : s.size ≤ 1000) (h : digB d = true) : F_impl_signLabel s d = some (s ++ hxT d) := by
 unfold F_impl_signLabel
 rw [n_textI h, Option.bind_some, gd_t (by rw [hxT_size]; omega)]
theorem n_allDig (l : List Int) : F_impl_areAll__impl_isDigest l = some (l.all digB) := areAll_gen (f := F_impl_areAll_1__impl_isDigest) fun x _ => by
 unfold F_impl_areAll_1__impl_isDigest
 rw [n_isDigest]; rfl
abbrev heaS : ByteArray := ⟨#[104, 101, 97, 100]⟩
abbrev heaS' : ByteArray := ⟨#[104, 101, 97, 100, 32]⟩
def lensP (p : Proof) : Prop := p.Commits.length ≤ 1048576 ∧ p.Challenges.length ≤ 1048576 ∧ p.Responses.length ≤ 1048576
theorem lab_size (s : ByteArray) (d : Int) : (s ++ hxT d).size = s.size + 16 := by rw [ByteArray.size_append, hxT_size]
theorem ix_to {α : Type} {l : List α} {i : Int} (h0 : 0 ≤ i) (h : i < l.length) : ix l i = some (l[i.toNat]'(by omega)) := by
 obtain ⟨k, rfl⟩ := Int.eq_ofNat_of_zero_le h0
 exact ix_at (by omega)
def heaB (h : Head) : Bool := inB 0 39 h.Author && (inB 0 64 h.Size && digB h.Root)
def hdL (h : Head) : ByteArray := heaS' ++ hxT (hshL heaS [h.Author, h.Size, h.Root])
theorem n_oHead (h : Head) : F_spec_oHead h = some (heaB h) := by
 unfold F_spec_oHead heaB
 simp only [n_inB, n_l3Digest, Option.bind_some, ite_and]
theorem n_headI (h : Head) : F_impl_isPlainHead h.Author h.Size h.Root = some (heaB h) := by
 unfold F_impl_isPlainHead heaB
 simp only [n_winB, n_isDigest, Option.bind_some, ite_and]
def hdbB (gr : Group) (key : Int) (h : Head) : Bool := heaB h && sgnB gr (hdL h) key h.Sign
theorem n_headBy {gr : Group} (k : OkG gr) {key : Int} (hk : hasB gr key = true) {h : Head} (hl : lensP h.Sign) : F_spec_oHeadBy gr key h = some (hdbB gr key h) ∧ F_impl_Group_isHead gr key h = some (hdbB gr key h) := by
 unfold F_spec_oHeadBy F_impl_Group_isHead hdbB
 rw [n_oHead, n_headI]
 cases hh : heaB h with
 | false => exact ⟨rfl, rfl⟩
 | true =>
  simp only [heaB, Bool.and_eq_true, inB_t] at hh
  have hd : [h.Author, h.Size, h.Root].all digB = true := by
   simp only [List.all_cons, List.all_nil, Bool.and_true, Bool.and_eq_true]
   exact ⟨digB_t.2 (by omega), digB_t.2 (by omega), hh.2.2⟩
  have hd2 := hshL_dig heaS [h.Author, h.Size, h.Root]
  have hs : (hdL h).size ≤ 40 := by unfold hdL; rw [lab_size]; decide
  obtain ⟨s1, s2⟩ := n_signed k hs hk hl.1
  have e1 : F_spec_oHeadLabel h = some (hdL h) := by
   unfold F_spec_oHeadLabel
   rw [n_hLabelled (s := heaS) (by decide) (by simp) hd, Option.bind_some, n_oText hd2, Option.bind_some, gd_t (by rw [hxT_size]; decide)]
   rfl
  have e2 : F_impl_headLabel h.Author h.Size h.Root = some (hdL h) := by
   unfold F_impl_headLabel
   rw [show F_impl_HashLabelled (⟨#[104, 101, 97, 100]⟩ : ByteArray) [h.Author, h.Size, h.Root] = some (hshL heaS [h.Author, h.Size, h.Root], true) from by rw [n_HashLabelled, if_pos (by simp only [labB, hd, Bool.and_true]; rfl)], Option.bind_some]
   dsimp only
   rw [show F_impl_signLabel (⟨#[104, 101, 97, 100, 32]⟩ : ByteArray) _ = some (hdL h) from n_signLabel (by decide) hd2]; rfl
  simp only [Option.bind_some, if_true, e1, e2, s1, s2, Bool.true_and]
  exact ⟨trivial, trivial⟩
theorem n_least (a b : Int) : F_spec_l1Least a b = some (if a < b then a else b) := by unfold F_spec_l1Least; by_cases h : a < b <;> simp [h]
theorem n_digestD {code c0 : List Int} {at_ seed n : Int} (hb : Bt code) (h : Cu code n (c0, at_, seed)) (hn : n ≤ 5000000000000000) : Rn (F_spec_l1Cur_digest__io0 c0 at_ seed) (fun z => Cu code (n + 4) z.2) := by
 unfold F_spec_l1Cur_digest__io0
 refine rn_then (n_pick hb h (by omega)) fun z1 ⟨_, _, _, _, y1⟩ => ?_
 refine rn_if (fun _ => rn_then (n_amongM hb y1 (by omega) (by simp)) fun z ⟨_, hz⟩ => rn_some (hz.mono (by omega))) fun _ => ?_
 refine rn_then (ψ := fun _ => True) (rn_if (fun _ => rn_some trivial) fun _ => rn_if (fun _ => rn_some trivial) fun _ => rn_some trivial) fun x6 _ => ?_
 refine rn_if (fun _ => ?_) fun _ => rn_then (n_pick hb y1 (by omega)) fun z ⟨_, _, _, _, hz⟩ => rn_some (hz.mono (by omega))
 refine rn_then (n_pick hb y1 (by omega)) fun z ⟨h0, _, _, h1, hz⟩ => ?_
 exact rn_call (n_hInts (by simp) (by simp [digB]; omega)) (rn_some (hz.mono (by omega)))
def sgnE (gr : Group) (s : ByteArray) (x w : Int) : Int := chG gr s ([[gr.G]].flatten ++ [powG gr gr.G x] ++ [powG gr gr.G w])
def sgnP (gr : Group) (s : ByteArray) (x w : Int) : Proof := ⟨[powG gr gr.G w], [sgnE gr s x w], [(w + sgnE gr s x w * x) % gr.Q]⟩
structure Gb (gr : Group) : Prop where
 p : 1 ≤ gr.P ∧ gr.P ≤ 2000000000
 q : 1 ≤ gr.Q ∧ gr.Q ≤ 2000000000
 g : 0 ≤ gr.G ∧ gr.G ≤ 2000000000
theorem OkG.gb {gr : Group} (k : OkG gr) : Gb gr := by
 have hp := k.p
 have hq := k.q
 have hg := k.g
 exact ⟨by omega, by omega, by omega⟩
theorem powG_b {gr : Group} (k : Gb gr) (x e : Int) : 0 ≤ powG gr x e ∧ powG gr x e ≤ gr.P - 1 := by
 have hp := k.p
 unfold powG
 have := Nat.mod_lt (x.toNat ^ (e % gr.Q).toNat) (show 0 < gr.P.toNat by omega)
 omega
theorem n_gExpB {gr : Group} (k : Gb gr) {x : Int} (h0 : 0 ≤ x) (h1 : x ≤ 2000000000) (e : Int) : F_spec_gExp gr x e = some (powG gr x e) := by
 have hp := k.p
 have hq := k.q
 have b1 := Int.emod_nonneg e (show gr.Q ≠ 0 by omega)
 have b2 := Int.emod_lt_of_pos e (show 0 < gr.Q by omega)
 unfold F_spec_gExp
 rw [n_nMod (by omega) hq.2, Option.bind_some, (n_powI h0 h1 hp.1 hp.2 b1 (by omega)).2]; rfl
theorem n_gProd1 {gr : Group} (k : Gb gr) (w : Int) : F_spec_gProd gr [gr.G] [w] = some (powG gr gr.G w) := by
 have hp := k.p
 have hg := k.g
 have hb := powG_b k gr.G w
 unfold F_spec_gProd
 refine eq_of_rn (rn_then (ψ := fun s => s = powG gr gr.G w) (rn_rloop (fun i s => s = if i = 0 then 1 else powG gr gr.G w) rfl ?_ fun s h => h) fun s h => rn_some h)
 rintro i s hi rfl
 have hi : i < 1 := hi
 obtain rfl : i = 0 := by omega
 refine rn_ix (l := [gr.G]) (by simp) (rn_ix (l := [w]) (by simp) (rn_call (n_gExpB k hg.1 hg.2 _) (rn_gd (by omega) (rn_some ?_))))
 show (IntKind.i64.wrap (1 * powG gr gr.G w)).tmod gr.P = powG gr gr.G w
 rw [Int.one_mul, wr64 (by omega) (by omega), Int.tmod_eq_emod_of_nonneg hb.1, Int.emod_eq_of_lt hb.1 (by omega)]
theorem n_images1 {gr : Group} (k : Gb gr) (w : Int) : F_spec_sImages gr [[gr.G]] [w] = some [powG gr gr.G w] := by
 unfold F_spec_sImages
 rw [rl_map (l := [[gr.G]]) (f := fun _ => powG gr gr.G w) []]
 ·rfl
 ·intro i hi s hs
  have hi : i < 1 := hi
  obtain rfl : i = 0 := by omega
  rw [ix_at (l := [[gr.G]]) (k := 0) (by simp), Option.bind_some]
  show (F_spec_gProd gr [gr.G] [w]).bind _ = _
  rw [n_gProd1 k, Option.bind_some, gd_t (by have := hs; simp only [List.length_nil] at this; omega)]
theorem dig_3 {gr : Group} (k : Gb gr) (x w : Int) : ([gr.P, gr.Q, gr.G] ++ ([[gr.G]].flatten ++ [powG gr gr.G x] ++ [powG gr gr.G w])).all digB = true := by
 have hp := k.p
 have hq := k.q
 have hg := k.g
 have b1 := powG_b k gr.G x
 have b2 := powG_b k gr.G w
 simp [digB]; omega
theorem sgnE_bd {gr : Group} (k : Gb gr) (s : ByteArray) (x w : Int) : 0 ≤ sgnE gr s x w ∧ sgnE gr s x w < gr.Q := by
 have hq := k.q
 exact ⟨Int.emod_nonneg _ (by omega), Int.emod_lt_of_pos _ (by omega)⟩
theorem n_oSign {gr : Group} (k : Gb gr) {s : ByteArray} (hs : s.size ≤ 1000) {x w : Int} (hx : 0 ≤ x ∧ x ≤ 2100000000) (hw : 0 ≤ w ∧ w ≤ 2100000000) : F_spec_oSign gr s x w = some (sgnP gr s x w) := by
 have hq := k.q
 have he := sgnE_bd k s x w
 have hc : F_spec_hChallenge gr s ([[gr.G]].flatten ++ [powG gr gr.G x] ++ [powG gr gr.G w]) = some (sgnE gr s x w) := by
  unfold F_spec_hChallenge
  rw [gd_t (by simp), n_hLabelled (by omega) (by simp) (dig_3 k x w), Option.bind_some, gd_t (by omega), Int.tmod_eq_emod_of_nonneg (digB_t.1 (hshL_dig s _)).1]; rfl
 unfold F_spec_oSign F_spec_sProve
 rw [show sgnP gr s x w = ⟨[powG gr gr.G w], [sgnE gr s x w], [(w + sgnE gr s x w * x) % gr.Q]⟩ from rfl]
 rw [n_images1 k, n_images1 k, Option.bind_some, Option.bind_some, n_stmt (by simp) (by simp) (by simp), Option.bind_some, hc, Option.bind_some]
 generalize sgnE gr s x w = c at he hc
 have hm : 0 ≤ c * x := Int.mul_nonneg he.1 hx.1
 have hm2 : c * x ≤ 2000000000 * 2100000000 := Int.mul_le_mul (by omega) hx.2 hx.1 (by omega)
 have hl : rloop (σ := List Int × List Int × List Int) (β := List Int × List Int × List Int) (fun i18 s17 => (ix [x] i18).bind fun x24 => (ix [w] i18).bind fun x25 => gd (gr.Q ≠ 0) <| gd ((s17.2.2.length + 1) * 8 ≤ 140737488355328 ∧ s17.2.2.length + 1 ≤ 4611686018427387904) <|
  some (.go (s17.1, s17.2.1, s17.2.2 ++ [(IntKind.i64.wrap (x25 + (IntKind.i64.wrap (c * x24)))).tmod gr.Q]))) (fun s17 => (s17.1, s17.2.1, s17.2.2)) ([x].length) 0 ([powG gr gr.G w], [c], []) = some ([powG gr gr.G w], [c], [(w + c * x) % gr.Q]) := by
  refine eq_of_rn (rn_rloop (fun i s => s = if i = 0 then ([powG gr gr.G w], [c], []) else ([powG gr gr.G w], [c], [(w + c * x) % gr.Q])) rfl ?_ fun s h => h)
  rintro i s hi rfl
  have hi : i < 1 := hi
  obtain rfl : i = 0 := by omega
  refine rn_ix (l := [x]) (by simp) (rn_ix (l := [w]) (by simp) (rn_gd (by omega) (rn_gd (by simp) (rn_some ?_))))
  show (_, _, [(IntKind.i64.wrap (w + IntKind.i64.wrap (c * x))).tmod gr.Q]) = _
  rw [wr64 (n := c * x) (by omega) (by omega), wr64 (by omega) (by omega), Int.tmod_eq_emod_of_nonneg (by omega)]; rfl
 rw [hl, Option.bind_some, Option.bind_some]
def SmP (p : Proof) : Prop := p.Commits.length ≤ 1001 ∧ p.Challenges.length ≤ 1001 ∧ p.Responses.length ≤ 1001
theorem smP_l {p : Proof} (h : SmP p) : lensP p := ⟨by have := h.1; omega, by have := h.2.1; omega, by have := h.2.2; omega⟩
theorem n_spoiltP {code c0 : List Int} {at_ seed n : Int} {gr : Group} {p : Proof} (hb : Bt code) (h : Cu code n (c0, at_, seed)) (hn : n ≤ 3000000000000000) (k : Gw gr) (hp : p.Commits.length ≤ 1000 ∧ p.Challenges.length ≤ 1000 ∧ p.Responses.length ≤ 1000) :
 Rn (F_spec_l1Cur_spoiltProof__io0 c0 at_ seed gr p) (fun z => SmP z.1 ∧ Cu code (n + 12) z.2) := by
 unfold F_spec_l1Cur_spoiltProof__io0
 rw [n_l1Own (l := p.Commits) (by omega), n_l1Own (l := p.Challenges) (by omega), n_l1Own (l := p.Responses) (by omega)]
 simp only [Option.bind_some]
 refine rn_then (n_pick hb h (by omega)) fun z1 ⟨_, _, _, _, y1⟩ => ?_
 have sp : SmP p := ⟨by omega, by omega, by omega⟩
 have pk : ∀ l : List Int, 0 < l.length → Rn (F_spec_l1Cur_pick__io0 z1.2.1 z1.2.2.1 z1.2.2.2 (l.length : Int)) (fun z => (∃ i : Nat, z.1 = (i : Int) ∧ i < l.length) ∧ Cu code (n + 4) z.2) := fun l hl => by
  obtain ⟨v, v1, w0, w1, w2, _, w3⟩ := n_pick (m := (l.length : Int)) hb y1 (by omega)
  obtain ⟨i, hi⟩ := Int.eq_ofNat_of_zero_le w0
  refine ⟨v, v1, ⟨i, hi, ?_⟩, w3.mono (by omega)⟩
  rcases Int.lt_or_le 1 (l.length : Int) with g | g
  ·have := w2 g; omega
  ·have := w1 g; omega
 refine rn_then (ψ := fun x => match x with | .inl v => SmP ⟨v.2.1, v.2.2.1, v.2.2.2⟩ ∧ Cu code (n + 12) v.1 | .inr v => SmP v.1 ∧ Cu code (n + 12) v.2) ?_ ?_
 ·refine rn_if (fun _ => rn_if (fun g => ?_) fun _ => rn_some ⟨sp, y1.mono (by omega)⟩) fun _ => ?_
  ·have g : 0 < p.Responses.length := by simpa using g
   refine rn_then (pk _ g) fun z2 ⟨⟨i, e, hi⟩, y2⟩ => ?_
   refine rn_then (n_anyExpo hb y2 (by omega) k) fun z3 ⟨_, _, y3⟩ => ?_
   rw [e]
   exact rn_ix hi (rn_some ⟨⟨by show p.Commits.length ≤ 1001; omega, by show p.Challenges.length ≤ 1001; omega, by show (p.Responses.set _ _).length ≤ 1001; simp; omega⟩, y3.mono (by omega)⟩)
  refine rn_if (fun _ => rn_if (fun g => ?_) fun _ => rn_some ⟨sp, y1.mono (by omega)⟩) fun _ => ?_
  ·have g : 0 < p.Commits.length := by simpa using g
   refine rn_then (pk _ g) fun z2 ⟨⟨i, e, hi⟩, y2⟩ => ?_
   refine rn_then (n_anyElement hb y2 (by omega) k) fun z3 ⟨_, _, y3⟩ => ?_
   rw [e]
   exact rn_ix hi (rn_some ⟨⟨by show (p.Commits.set _ _).length ≤ 1001; simp; omega, by show p.Challenges.length ≤ 1001; omega, by show p.Responses.length ≤ 1001; omega⟩, y3.mono (by omega)⟩)
  refine rn_if (fun _ => rn_if (fun g => ?_) fun _ => rn_some ⟨sp, y1.mono (by omega)⟩) fun _ => ?_
  ·have g : 0 < p.Challenges.length := by simpa using g
   refine rn_then (pk _ g) fun z2 ⟨⟨i, e, hi⟩, y2⟩ => ?_
   refine rn_then (n_anyExpo hb y2 (by omega) k) fun z3 ⟨_, _, y3⟩ => ?_
   rw [e]
   exact rn_ix hi (rn_some ⟨⟨by show p.Commits.length ≤ 1001; omega, by show (p.Challenges.set _ _).length ≤ 1001; simp; omega, by show p.Responses.length ≤ 1001; omega⟩, y3.mono (by omega)⟩)
  refine rn_if (fun _ => rn_gd (by omega) (rn_some ⟨⟨by show p.Commits.length ≤ 1001; omega, by show p.Challenges.length ≤ 1001; omega, by show (p.Responses ++ [0]).length ≤ 1001; simp; omega⟩, y1.mono (by omega)⟩)) fun _ => ?_
  exact rn_if (fun _ => rn_some ⟨⟨by simp, by simp, by simp⟩, y1.mono (by omega)⟩) fun _ => rn_some ⟨sp, y1.mono (by omega)⟩
 ·intro x hx
  cases x with
  | inl v => exact rn_some hx
  | inr v => exact rn_some hx
theorem n_ownP {p : Proof} (h : lensP p) : F_spec_oOwnProof p = some p := by
 unfold F_spec_oOwnProof
 rw [n_l1Own h.1, n_l1Own h.2.1, n_l1Own h.2.2]; rfl
def sameP (p q : Proof) : Bool := decide (p.Commits = q.Commits) && (decide (p.Challenges = q.Challenges) && decide (p.Responses = q.Responses))
theorem n_samePI (p q : Proof) : F_impl_sameProof p q = some (sameP p q) := by
 unfold F_impl_sameProof sameP
 rw [p_Equal, p_Equal, p_Equal]
 cases decide (p.Commits = q.Commits) <;> cases decide (p.Challenges = q.Challenges) <;> cases decide (p.Responses = q.Responses) <;> rfl
theorem n_samePS {p : Proof} (q : Proof) (h : lensP p) : F_spec_oSameProof p q = some (sameP p q) := by
 unfold F_spec_oSameProof sameP
 rw [p_l1Same _ _ h.1, p_l1Same _ _ h.2.1, p_l1Same _ _ h.2.2]
 cases decide (p.Commits = q.Commits) <;> cases decide (p.Challenges = q.Challenges) <;> cases decide (p.Responses = q.Responses) <;> rfl
theorem n_copyP {p : Proof} (h : lensP p) : F_impl_copyProof p = some p := by
 unfold F_impl_copyProof
 rw [n_clone h.1, n_clone h.2.1, n_clone h.2.2]; rfl
theorem n_headLab {h : Head} (hh : heaB h = true) : F_spec_oHeadLabel h = some (hdL h) ∧ F_impl_headLabel h.Author h.Size h.Root = some (hdL h) ∧ (hdL h).size ≤ 40 := by
 simp only [heaB, Bool.and_eq_true, inB_t] at hh
 have hd : [h.Author, h.Size, h.Root].all digB = true := by
  simp only [List.all_cons, List.all_nil, Bool.and_true, Bool.and_eq_true]
  exact ⟨digB_t.2 (by omega), digB_t.2 (by omega), hh.2.2⟩
 have hd2 := hshL_dig heaS [h.Author, h.Size, h.Root]
 have hs : (hdL h).size ≤ 40 := by unfold hdL; rw [lab_size]; decide
 refine ⟨?_, ?_, hs⟩
 ·unfold F_spec_oHeadLabel
  rw [n_hLabelled (s := heaS) (by decide) (by simp) hd, Option.bind_some, n_oText hd2, Option.bind_some, gd_t (by rw [hxT_size]; decide)]
  rfl
 ·unfold F_impl_headLabel
  rw [show F_impl_HashLabelled (⟨#[104, 101, 97, 100]⟩ : ByteArray) [h.Author, h.Size, h.Root] = some (hshL heaS [h.Author, h.Size, h.Root], true) from by rw [n_HashLabelled, if_pos (by simp only [labB, hd, Bool.and_true]; rfl)], Option.bind_some]
  dsimp only
  rw [show F_impl_signLabel (⟨#[104, 101, 97, 100, 32]⟩ : ByteArray) _ = some (hdL h) from n_signLabel (by decide) hd2]; rfl
theorem n_SignHS (gr : Group) (x a s r w : Int) : ∃ h t, F_spec_SignHead gr x a s r w = some (h, t) ∧ (h.Sign.Commits.length ≤ 1000 ∧ h.Sign.Challenges.length ≤ 1000 ∧ h.Sign.Responses.length ≤ 1000) := by
 unfold F_spec_SignHead
 rw [n_l2Good, n_oHead]
 cases hg : okG gr with
 | false => exact ⟨_, _, rfl, by simp, by simp, by simp⟩
 | true =>
  have k := okG_t.1 hg
  have hq := k.q
  have hp := k.p
  have ea : F_spec_gExps gr [x, w] = some (expB gr x && expB gr w) := by rw [n_gExps (gr := gr) (by omega) (by omega)]; simp
  simp only [Option.bind_some, Bool.not_true, Bool.false_eq_true, if_false, ea]
  cases hx : (expB gr x && expB gr w) with
  | false => exact ⟨_, _, rfl, by simp, by simp, by simp⟩
  | true =>
   rw [Bool.and_eq_true] at hx
   have hx1 := hx.1
   have hx2 := hx.2
   simp only [expB, Bool.and_eq_true, decide_eq_true_eq] at hx1 hx2
   cases hh : heaB ⟨a, s, r, ⟨[], [], []⟩⟩ with
   | false => exact ⟨_, _, rfl, by simp, by simp, by simp⟩
   | true =>
    obtain ⟨e1, _, e3⟩ := n_headLab hh
    simp only [Bool.not_true, Bool.false_eq_true, if_false, Option.bind_some, e1, n_oSign k.gb (x := x) (w := w) (Nat.le_trans e3 (by decide)) ⟨hx1.1, by omega⟩ ⟨hx2.1, by omega⟩]
    exact ⟨_, _, rfl, by simp [sgnP], by simp [sgnP], by simp [sgnP]⟩
theorem n_spoiltH {code c0 : List Int} {at_ seed n : Int} {gr : Group} {h : Head} (hb : Bt code) (hc : Cu code n (c0, at_, seed)) (hn : n ≤ 2000000000000000) (k : Gw gr) (hp : h.Sign.Commits.length ≤ 1000 ∧ h.Sign.Challenges.length ≤ 1000 ∧ h.Sign.Responses.length ≤ 1000) :
 Rn (F_spec_l1Cur_spoiltHead__io0 c0 at_ seed gr h) (fun z => SmP z.1.Sign ∧ Cu code (n + 20) z.2) := by
 unfold F_spec_l1Cur_spoiltHead__io0
 refine rn_then (n_pick hb hc (by omega)) fun z1 ⟨_, _, _, _, y1⟩ => ?_
 have sp : SmP h.Sign := ⟨by omega, by omega, by omega⟩
 refine rn_then (ψ := fun v => SmP ⟨v.2.2.2.2.1, v.2.2.2.2.2.1, v.2.2.2.2.2.2⟩ ∧ Cu code (n + 20) v.1) ?_ fun v hv => rn_some hv
 refine rn_if (fun _ => rn_some ⟨sp, y1.mono (by omega)⟩) fun _ => ?_
 refine rn_if (fun _ => rn_then (n_digestD hb y1 (by omega)) fun z2 y2 => rn_some ⟨sp, y2.mono (by omega)⟩) fun _ => ?_
 refine rn_if (fun _ => rn_then (n_spoiltP hb y1 (by omega) k hp) fun z2 ⟨s2, y2⟩ => rn_some ⟨s2, y2.mono (by omega)⟩) fun _ => ?_
 refine rn_if (fun _ => rn_then (n_pick hb y1 (by omega)) fun z2 ⟨_, _, _, _, y2⟩ => rn_some ⟨sp, y2.mono (by omega)⟩) fun _ => ?_
 exact rn_some ⟨sp, y1.mono (by omega)⟩
theorem n_heads {l : List Head} : F_spec_fHeads l = some (l.all heaB && decide ((l.length : Int) ≤ 20)) ∧ F_impl_areHeads l = some (decide ((l.length : Int) ≤ 20) && l.all heaB) := by
 constructor
 ·unfold F_spec_fHeads
  rw [n_allN (fun i => heaB (l.getD i ⟨0, 0, 0, ⟨[], [], []⟩⟩)) false (decide ((l.length : Int) ≤ 20))]
  ·have e : ((List.range l.length).all fun i => heaB (l.getD i ⟨0, 0, 0, ⟨[], [], []⟩⟩)) = l.all heaB := by
    rw [Bool.eq_iff_iff, List.all_eq_true, List.all_eq_true]
    constructor
    ·intro h x hx
     obtain ⟨i, hi, rfl⟩ := List.getElem_of_mem hx
     have := h i (List.mem_range.2 hi)
     simpa [hi] using this
    ·intro h i hi
     have hi := List.mem_range.1 hi
     have := h _ (List.getElem_mem hi)
     simpa [hi] using this
   rw [e]
   cases l.all heaB <;> simp
  ·intro i hi
   rw [ix_at hi, Option.bind_some, n_oHead, Option.bind_some]
   simp only [List.getD_eq_getElem?_getD, List.getElem?_eq_getElem hi, Option.getD_some]
   cases heaB l[i] <;> rfl
 ·unfold F_impl_areHeads F_slices_ContainsFunc_impl_Head_impl_Head__impl_areHeads_1 F_slices_IndexFunc_impl_Head_impl_Head__impl_areHeads_1
  have hf : ∀ x ∈ l, F_impl_areHeads_1 x = some (!heaB x) := fun x _ => by
   unfold F_impl_areHeads_1 F_impl_Head_isPlain
   rw [n_headI]; rfl
  rw [cf_gen hf]
  have e : (!l.any fun x => !heaB x) = l.all heaB := by simp [List.any_eq_not_all_not]
  cases decide ((l.length : Int) ≤ 20) with
  | false => rfl
  | true =>
   show some (!l.any fun x => !heaB x) = _
   rw [e]; simp
theorem Gb.w {gr : Group} (k : Gb gr) : Gw gr := by
 have a := k.p
 have b := k.q
 have c := k.g
 exact ⟨by omega, by omega, by omega⟩
def sameH (x y : Head) : Bool := (x.Author == y.Author) && ((x.Size == y.Size) && ((x.Root == y.Root) && sameP x.Sign y.Sign))
theorem sameH_t {x y : Head} : sameH x y = true ↔ x = y := by
 obtain ⟨a, b, c, ⟨d, e, f⟩⟩ := x
 obtain ⟨a', b', c', ⟨d', e', f'⟩⟩ := y
 simp [sameH, sameP]
def mrg1 (o : List Head) (h : Head) : List Head := if (o.any fun x => sameH x h) = true then o else o ++ [h]
def mrg (a b : List Head) : List Head := b.foldl mrg1 a
theorem mrg1_has {o : List Head} {h : Head} (hm : h ∈ o) : mrg1 o h = o := by
 unfold mrg1
 exact if_pos (show (o.any fun x => sameH x h) = true from List.any_eq_true.2 ⟨h, hm, sameH_t.2 rfl⟩)
theorem mrg1_mem {o : List Head} {h x : Head} : x ∈ mrg1 o h ↔ x ∈ o ∨ x = h := by
 unfold mrg1
 split
 ·rename_i e
  obtain ⟨y, hy, hs⟩ := List.any_eq_true.1 e
  have := sameH_t.1 hs
  subst this
  constructor
  ·exact .inl
  ·rintro (h | rfl)
   ·exact h
   ·exact hy
 ·simp
theorem mrg1_len (o : List Head) (h : Head) : o.length ≤ (mrg1 o h).length ∧ (mrg1 o h).length ≤ o.length + 1 := by
 unfold mrg1
 split
 ·omega
 ·simp
theorem mrg_mem : ∀ {b a : List Head} {x : Head}, x ∈ mrg a b ↔ x ∈ a ∨ x ∈ b
 | [], a, x => by simp [mrg]
 | h :: b, a, x => by
  show x ∈ mrg (mrg1 a h) b ↔ _
  rw [mrg_mem, mrg1_mem]
  simp [or_assoc]
theorem mrg_len : ∀ (b a : List Head), a.length ≤ (mrg a b).length ∧ (mrg a b).length ≤ a.length + b.length
 | [], a => by simp [mrg]
 | h :: b, a => by
  have h1 := mrg1_len a h
  have h2 := mrg_len b (mrg1 a h)
  show a.length ≤ (mrg (mrg1 a h) b).length ∧ (mrg (mrg1 a h) b).length ≤ a.length + (b.length + 1)
  omega
theorem mrg_has : ∀ {b a : List Head}, (∀ x ∈ b, x ∈ a) → mrg a b = a
 | [], a, _ => rfl
 | h :: b, a, hb => by
  show mrg (mrg1 a h) b = a
  rw [mrg1_has (hb h (by simp))]
  exact mrg_has fun x hx => hb x (List.mem_cons_of_mem _ hx)
theorem mrg_again (a b : List Head) : mrg (mrg a b) b = mrg a b := mrg_has fun x hx => mrg_mem.2 (.inr hx)
theorem mrg_take {a b : List Head} {i : Nat} (h : i < b.length) : mrg a (b.take (i + 1)) = mrg1 (mrg a (b.take i)) b[i] := by
 unfold mrg
 rw [List.take_succ_eq_append_getElem h, List.foldl_append]; rfl
noncomputable def fkB (gr : Group) (ks : List Int) (a b : Head) : Bool := (a.Author == b.Author) && ((a.Size == b.Size) && (!(a.Root == b.Root) && (inB 0 ((ks.length : Int) - 1) a.Author && (hdbB gr (ks.getD a.Author.toNat 0) a && hdbB gr (ks.getD a.Author.toNat 0) b))))
theorem fkB_t {gr : Group} {ks : List Int} {a b : Head} : fkB gr ks a b = true ↔ a.Author = b.Author ∧ a.Size = b.Size ∧ a.Root ≠ b.Root ∧ (0 ≤ a.Author ∧ a.Author < ks.length) ∧ hdbB gr (ks.getD a.Author.toNat 0) a = true ∧ hdbB gr (ks.getD a.Author.toNat 0) b = true := by
 unfold fkB
 simp only [Bool.and_eq_true, beq_iff_eq, Bool.not_eq_true', beq_eq_false_iff_ne, inB_t]
 constructor
 ·rintro ⟨h1, h2, h3, h4, h5, h6⟩; exact ⟨h1, h2, h3, ⟨h4.1, by omega⟩, h5, h6⟩
 ·rintro ⟨h1, h2, h3, h4, h5, h6⟩; exact ⟨h1, h2, h3, ⟨h4.1, by omega⟩, h5, h6⟩
theorem fkB_symm {gr : Group} {ks : List Int} {a b : Head} (h : fkB gr ks a b = true) : fkB gr ks b a = true := by
 obtain ⟨h1, h2, h3, h4, h5, h6⟩ := fkB_t.1 h
 refine fkB_t.2 ⟨h1.symm, h2.symm, fun e => h3 e.symm, by rw [← h1]; exact h4, ?_, ?_⟩
 ·rw [← h1]; exact h6
 ·rw [← h1]; exact h5
theorem hdb_hea {gr : Group} {key : Int} {h : Head} (e : hdbB gr key h = true) : heaB h = true := by
 unfold hdbB at e
 rw [Bool.and_eq_true] at e
 exact e.1
def hd0 : Head := ⟨0, 0, 0, ⟨[], [], []⟩⟩
noncomputable def fkP (gr : Group) (ks : List Int) (l : List Head) (i j : Nat) : Bool := fkB gr ks (l.getD i hd0) (l.getD j hd0)
def Fork (gr : Group) (ks : List Int) (l : List Head) : Prop := ∃ i j, i < j ∧ j < l.length ∧ fkP gr ks l i j = true
def FF (gr : Group) (ks : List Int) (l : List Head) (z : ForkEvidence × Bool) : Prop := (z.2 = true ∧ Fork gr ks l ∧ ∃ i j, i < j ∧ j < l.length ∧ fkP gr ks l i j = true ∧ z.1 = ⟨l.getD i hd0, l.getD j hd0⟩) ∨ (z.2 = false ∧ ¬ Fork gr ks l)
theorem n_plainH (x : Head) : F_impl_Head_isPlain x = some (heaB x) := by
 unfold F_impl_Head_isPlain
 rw [n_headI]; rfl
theorem n_isFork {gr : Group} (k : OkG gr) {ks : List Int} (hk : ks.all (hasB gr) = true) (hl : ks.length ≤ 40) {a b : Head} (ha : lensP a.Sign) (hb : lensP b.Sign) : F_impl_Group_isFork gr ks a b = some (fkB gr ks a b) ∧ F_spec_fEvidence gr ks ⟨a, b⟩ = some (fkB gr ks a b) := by
 have w : IntKind.i64.wrap ((ks.length : Int) - 1) = (ks.length : Int) - 1 := wr64 (by omega) (by omega)
 unfold F_impl_Group_isFork F_spec_fEvidence fkB
 simp only [n_plainH, n_winB, n_inB, w, Option.bind_some]
 cases e1 : (a.Author == b.Author) with
 | false =>
  constructor
  ·cases heaB a <;> cases heaB b <;> rfl
  ·simp [bne, e1]
 | true =>
  have e1' : b.Author = a.Author := by
   rw [beq_iff_eq] at e1; exact e1.symm
  cases e2 : (a.Size == b.Size) with
  | false =>
   constructor
   ·cases heaB a <;> cases heaB b <;> cases inB 0 ((ks.length : Int) - 1) a.Author <;> rfl
   ·simp [bne, e1, e2]
  | true =>
   cases e3 : (a.Root == b.Root) with
   | true =>
    constructor
    ·cases heaB a <;> cases heaB b <;> cases inB 0 ((ks.length : Int) - 1) a.Author <;> simp [bne, e3]
    ·simp [bne, e1, e2]
   | false =>
    cases e4 : inB 0 ((ks.length : Int) - 1) a.Author with
    | false =>
     constructor
     ·cases heaB a <;> cases heaB b <;> rfl
     ·simp [bne, e1, e2]
    | true =>
     have e4' := inB_t.1 e4
     have hal : a.Author.toNat < ks.length := by omega
     have hx := List.all_eq_true.1 hk _ (List.getElem_mem hal)
     obtain ⟨s1, s2⟩ := n_headBy k hx ha
     obtain ⟨t1, t2⟩ := n_headBy k hx hb
     have eg : ks.getD a.Author.toNat 0 = ks[a.Author.toNat] := by simp [hal]
     rw [eg]
     have ei : ix ks a.Author = some ks[a.Author.toNat] := ix_to e4'.1 (by omega)
     constructor
     ·simp only [bne, e3, Bool.not_false, if_true, ei, Option.bind_some, s2, t2, Bool.true_and]
      cases h1 : hdbB gr ks[a.Author.toNat] a with
      | false => cases heaB a <;> cases heaB b <;> rfl
      | true =>
       rw [hdb_hea h1]
       cases h2 : hdbB gr ks[a.Author.toNat] b with
       | false => cases heaB b <;> rfl
       | true => rw [hdb_hea h2]; rfl
     ·simp only [bne, e1, e2, e1', Bool.not_true, Bool.false_eq_true, if_false, ei, Option.bind_some, s1, t1, Bool.true_and, Bool.not_false]
      cases h1 : hdbB gr ks[a.Author.toNat] a <;> cases h2 : hdbB gr ks[a.Author.toNat] b <;> simp
theorem find_gen {gr : Group} {ks : List Int} {l : List Head} {E : Head → Head → Option Bool} {C : Head → Option Head} (hE : ∀ a ∈ l, ∀ b ∈ l, E a b = some (fkB gr ks a b)) (hC : ∀ a ∈ l, C a = some a) (hn : l.length ≤ 1000) :
 Rn ((rloop (σ := Unit) (fun i5 s4 => (((ix l i5).bind fun x14 => gd (0 ≤ (IntKind.i64.wrap (i5 + 1))) <| gd ((IntKind.i64.wrap (i5 + 1)).toNat ≤ l.length ∧ l.length ≤ l.length) <|
  rloop (σ := Unit) (fun i16 s15 => (ix ((l.take l.length).drop ((IntKind.i64.wrap (i5 + 1)).toNat)) i16).bind fun x22 => (E x14 x22).bind fun z23 => if z23 = true then ((C x14).bind fun z25 => (C x22).bind fun z26 => some (.out (.inr (.out (.inr ((ForkEvidence.mk z25 z26), true)))))) else (some (.go ())))
   (fun s15 => .inl ()) (((l.take l.length).drop ((IntKind.i64.wrap (i5 + 1)).toNat)).length) 0 () : Option (Unit ⊕ (Stp Unit (Unit ⊕ (ForkEvidence × Bool))))).bind (Sum.elim (fun x13 => some (.go ())) some))) (fun s4 => .inl ()) (l.length) 0 () : Option (Unit ⊕ (ForkEvidence × Bool))).bind
  (Sum.elim (fun x3 => some ((ForkEvidence.mk (Head.mk 0 0 0 (Proof.mk [] [] [])) (Head.mk 0 0 0 (Proof.mk [] [] []))), false)) some)) (FF gr ks l) := by
 have gt : ∀ i (hi : i < l.length), l.getD i hd0 = l[i] := fun i hi => by simp [hi]
 refine rn_then (ψ := fun v => match v with | .inl _ => ¬ Fork gr ks l | .inr z => FF gr ks l z) (rn_rloop (fun i _ => ∀ p, p < i → ∀ q, p < q → q < l.length → fkP gr ks l p q = false) (fun p hp => by omega) ?_ ?_) ?_
 ·rintro i s hi hI
  rw [wr64 (n := (i : Int) + 1) (by omega) (by omega), List.take_length, show ((i : Int) + 1).toNat = i + 1 by omega]
  have hm := List.getElem_mem hi
  refine rn_then (ψ := fun v => match v with | .inl _ => ∀ q, i < q → q < l.length → fkP gr ks l i q = false | .inr w => ∃ z, w = .out (.inr z) ∧ FF gr ks l z) (rn_ix hi (rn_gd (by omega) (rn_gd (by omega) (rn_rloop (fun j _ => ∀ q, i < q → q < i + 1 + j → fkP gr ks l i q = false) (fun q h1 h2 => by omega) ?_ ?_)))) ?_
  ·rintro j s hj hJ
   rw [List.length_drop] at hj
   have hij : i + 1 + j < l.length := by omega
   have e : (l.drop (i + 1))[j]'(by rw [List.length_drop]; omega) = l[i + 1 + j] := by simp
   refine rn_ix (by rw [List.length_drop]; omega) ?_
   rw [e]
   have hm2 := List.getElem_mem hij
   have hp : fkP gr ks l i (i + 1 + j) = fkB gr ks l[i] l[i + 1 + j] := by unfold fkP; rw [gt i hi, gt _ hij]
   refine rn_call (hE _ hm _ hm2) (rn_if (fun g => ?_) fun g => rn_some fun q h1 h2 => ?_)
   ·rw [← hp] at g
    refine rn_call (hC _ hm) (rn_call (hC _ hm2) (rn_some ⟨_, rfl, .inl ⟨rfl, ⟨i, i + 1 + j, by omega, hij, g⟩, i, i + 1 + j, by omega, hij, g, ?_⟩⟩))
    rw [gt i hi, gt _ hij]
   ·rcases Nat.lt_or_ge q (i + 1 + j) with h | h
    ·exact hJ q h1 h
    ·rw [show q = i + 1 + j by omega, hp]; exact g
  ·intro s hJ q h1 h2
   rw [List.length_drop] at hJ
   exact hJ q h1 (by omega)
  ·rintro v hv
   cases v with
   | inl u =>
    refine rn_some fun p hp q h1 h2 => ?_
    rcases Nat.lt_or_ge p i with h | h
    ·exact hI p h q h1 h2
    ·rw [show p = i by omega] at h1 ⊢
     exact hv q h1 h2
   | inr w =>
    obtain ⟨z, rfl, hz⟩ := hv
    exact rn_some hz
 ·rintro s hI ⟨i, j, h1, h2, h3⟩
  rw [hI i (by omega) j h1 h2] at h3
  cases h3
 ·rintro v hv
  cases v with
  | inl u => exact rn_some (.inr ⟨rfl, hv⟩)
  | inr z => exact rn_some hv
def SmH (l : List Head) : Prop := ∀ h ∈ l, lensP h.Sign
theorem n_copyH {h : Head} (hh : lensP h.Sign) : F_impl_copyHead h = some h := by
 unfold F_impl_copyHead
 rw [n_copyP hh]; rfl
theorem n_ownH {h : Head} (hh : lensP h.Sign) : F_spec_fOwn h = some h := by
 unfold F_spec_fOwn
 rw [n_ownP hh]; rfl
theorem n_keysI {gr : Group} (k : OkG gr) (ks : List Int) : F_impl_Group_areKeys gr ks = some (decide ((ks.length : Int) ≤ 40) && ks.all (hasB gr)) := by
 unfold F_impl_Group_areKeys
 rw [n_hasAll k]
 cases decide ((ks.length : Int) ≤ 40) <;> rfl
theorem n_keysS (gr : Group) (ks : List Int) : F_spec_fKeys gr ks = some (okG gr && (decide ((ks.length : Int) ≤ 40) && ks.all (hasB gr))) := by
 unfold F_spec_fKeys
 rw [n_l2Good]
 cases hg : okG gr with
 | false => rfl
 | true =>
  rw [n_gIs (okG_t.1 hg)]
  cases decide ((ks.length : Int) ≤ 40) <;> rfl
theorem n_FindFork (gr : Group) (ks : List Int) {l : List Head} (hl : SmH l) (hn : l.length ≤ 1000) : ∃ t, Rn (F_impl_FindFork gr ks l) (fun z => z.2 = t ∧ (t = true → okG gr = true ∧ (decide ((ks.length : Int) ≤ 40) && ks.all (hasB gr)) = true ∧ ∃ a b, fkB gr ks a b = true ∧ lensP a.Sign ∧ lensP b.Sign ∧ z.1 = ⟨a, b⟩)) ∧ Rn (F_spec_FindFork gr ks l) (fun z => z.2 = t) := by
 unfold F_impl_FindFork F_spec_FindFork
 rw [n_validG, n_keysS, n_heads.1, n_heads.2]
 cases hg : okG gr with
 | false => exact ⟨false, ⟨_, rfl, rfl, fun h => by cases h⟩, ⟨_, rfl, rfl⟩⟩
 | true =>
  have k := okG_t.1 hg
  rw [n_keysI k]
  cases hk : (decide ((ks.length : Int) ≤ 40) && ks.all (hasB gr)) with
  | false => exact ⟨false, ⟨_, rfl, rfl, fun h => by cases h⟩, ⟨_, rfl, rfl⟩⟩
  | true =>
   have hk' := hk
   rw [Bool.and_eq_true, decide_eq_true_eq] at hk'
   rw [Bool.and_comm (l.all heaB)]
   cases hh : (decide ((l.length : Int) ≤ 20) && l.all heaB) with
   | false => exact ⟨false, ⟨_, rfl, rfl, fun h => by cases h⟩, ⟨_, rfl, rfl⟩⟩
   | true =>
    have f1 : Rn (F_impl_Group_findFork gr ks l) (FF gr ks l) := find_gen (fun a ha b hb => (n_isFork k hk'.2 (by omega) (hl a ha) (hl b hb)).1) (fun a ha => n_copyH (hl a ha)) hn
    have f2 : Rn (F_spec_fFind gr ks l) (FF gr ks l) := find_gen (E := fun a b => F_spec_fEvidence gr ks ⟨a, b⟩) (fun a ha b hb => (n_isFork k hk'.2 (by omega) (hl a ha) (hl b hb)).2) (fun a ha => n_ownH (hl a ha)) hn
    obtain ⟨z, z1, z2⟩ := f1
    obtain ⟨y, y1, y2⟩ := f2
    have ezy : y.2 = z.2 := by
     rcases z2 with ⟨a1, a2, _⟩ | ⟨a1, a2⟩ <;> rcases y2 with ⟨b1, b2, _⟩ | ⟨b1, b2⟩
     ·rw [a1, b1]
     ·exact absurd a2 b2
     ·exact absurd b2 a2
     ·rw [a1, b1]
    refine ⟨z.2, ?_, ?_⟩
    ·refine rn_then (ψ := fun v => v = false) ⟨_, rfl, rfl⟩ ?_
     rintro _ rfl
     refine rn_f rfl (rn_call z1 (rn_some ⟨rfl, fun ht => ⟨by first | rfl | trivial, by first | rfl | trivial | exact hk, ?_⟩⟩))
     rcases z2 with ⟨_, _, i, j, i1, i2, i3, i4⟩ | ⟨h1, _⟩
     ·have hi : i < l.length := by omega
      refine ⟨_, _, i3, ?_, ?_, i4⟩
      ·have : l.getD i hd0 = l[i] := by simp [hi]
       rw [this]; exact hl _ (List.getElem_mem hi)
      ·have : l.getD j hd0 = l[j] := by simp [i2]
       rw [this]; exact hl _ (List.getElem_mem i2)
     ·rw [h1] at ht; cases ht
    ·refine rn_then (ψ := fun v => v = false) ⟨_, rfl, rfl⟩ ?_
     rintro _ rfl
     exact rn_f rfl (rn_call y1 (rn_some ezy))
theorem n_IsFE {gr : Group} (hg : okG gr = true) {ks : List Int} (hk : (decide ((ks.length : Int) ≤ 40) && ks.all (hasB gr)) = true) {a b : Head} (ha : lensP a.Sign) (hb : lensP b.Sign) (h : fkB gr ks a b = true) : F_impl_IsForkEvidence gr ks ⟨a, b⟩ = some (true, true) := by
 have k := okG_t.1 hg
 have hk' := hk
 rw [Bool.and_eq_true, decide_eq_true_eq] at hk'
 unfold F_impl_IsForkEvidence
 simp only [n_validG, hg, n_keysI k, hk, (n_isFork k hk'.2 (by omega) ha hb).1, h, Option.bind_some, Bool.not_true, Bool.false_eq_true, if_false]
theorem n_CompF {gr : Group} {ks : List Int} {a b : Head} (h : fkB gr ks a b = true) : F_impl_CompareHeads a b [] = some (2, true) := by
 obtain ⟨h1, h2, h3, h4, h5, h6⟩ := fkB_t.1 h
 have e1 : (a.Size == b.Size) = true := by simp [h2]
 have e2 : (a.Root == b.Root) = false := beq_false_of_ne h3
 unfold F_impl_CompareHeads
 simp only [n_plainH, hdb_hea h5, hdb_hea h6, n_allDig, Option.bind_some, Bool.not_true, Bool.false_eq_true, if_false, List.all_nil, e1, e2, if_true]
 rfl
theorem n_sameHI (x h : Head) : F_impl_mergeHeads_1_ x h.Author h.Size h.Root h.Sign.Commits h.Sign.Challenges h.Sign.Responses = some (sameH x h) := by
 unfold F_impl_mergeHeads_1_ F_impl_sameHead sameH
 rw [show (⟨h.Sign.Commits, h.Sign.Challenges, h.Sign.Responses⟩ : Proof) = h.Sign from rfl, n_samePI]
 cases (x.Author == h.Author) <;> cases (x.Size == h.Size) <;> cases (x.Root == h.Root) <;> cases sameP x.Sign h.Sign <;> rfl
theorem n_sameHS {x : Head} (h : Head) (hx : lensP x.Sign) : F_spec_fSame x h = some (sameH x h) := by
 unfold F_spec_fSame sameH
 rw [n_samePS _ hx]
 cases (x.Author == h.Author) <;> cases (x.Size == h.Size) <;> cases (x.Root == h.Root) <;> cases sameP x.Sign h.Sign <;> rfl
theorem n_mergeI {a b : List Head} (ha : SmH a) (hb : SmH b) (la : a.length ≤ 1000) (lb : b.length ≤ 1000) : F_impl_mergeHeads a b = some (if 20 < (mrg a b).length then ([], false) else (mrg a b, true)) := by
 unfold F_impl_mergeHeads
 refine eq_of_rn (rn_then (ψ := fun s => a = s) (rn_rloop (fun i s => s = a.take i) (by simp) ?_ ?_) ?_)
 ·rintro i s hi rfl
  refine rn_ix hi (rn_call (n_copyH (ha _ (List.getElem_mem hi))) (rn_gd (by simp; omega) (rn_some ?_)))
  show _ = _
  rw [List.take_succ_eq_append_getElem hi]
 ·rintro s rfl
  exact List.take_length.symm
 ·rintro _ rfl
  refine rn_then (ψ := fun s => s = mrg a b) (rn_rloop (fun i s => s = mrg a (b.take i)) (by simp [mrg]) ?_ ?_) ?_
  ·rintro i s hi rfl
   have hlen := (mrg_len (b.take i) a).2
   have htl : (b.take i).length ≤ b.length := by simp; omega
   have hcf : F_slices_ContainsFunc_impl_Head_impl_Head__impl_mergeHeads_1 (mrg a (b.take i)) b[i].Author b[i].Size b[i].Root b[i].Sign.Commits b[i].Sign.Challenges b[i].Sign.Responses = some ((mrg a (b.take i)).any fun x => sameH x b[i]) := cf_gen fun x _ => n_sameHI x b[i]
   refine rn_then (ψ := fun v => v = mrg a (b.take (i + 1))) (rn_ix hi (rn_call hcf ?_)) fun v hv => rn_some hv
   rw [mrg_take hi]
   unfold mrg1
   cases hh : ((mrg a (b.take i)).any fun x => sameH x b[i]) with
   | true => exact rn_f rfl (rn_some (by simp))
   | false => exact rn_t rfl (rn_call (n_copyH (hb _ (List.getElem_mem hi))) (rn_gd (by omega) (rn_some (by simp))))
  ·rintro s rfl
   rw [List.take_length]
  ·rintro _ rfl
   refine rn_if (fun g => rn_some ?_) fun g => rn_some ?_
   ·have g : (20 : Int) < ((mrg a b).length : Int) := by simpa using g
    rw [if_pos (by omega)]
   ·have g : ¬ (20 : Int) < ((mrg a b).length : Int) := by simpa using g
    rw [if_neg (by omega)]
theorem n_mergeS {a b : List Head} (ha : SmH a) (hb : SmH b) (la : a.length ≤ 1000) (lb : b.length ≤ 1000) : F_spec_fMerge a b = some (mrg a b, decide (((mrg a b).length : Int) ≤ 20)) := by
 unfold F_spec_fMerge
 refine eq_of_rn (rn_then (ψ := fun s => a = s) (rn_rloop (fun i s => s = a.take i) (by simp) ?_ ?_) ?_)
 ·rintro i s hi rfl
  refine rn_ix hi (rn_call (n_ownH (ha _ (List.getElem_mem hi))) (rn_gd (by simp; omega) (rn_some ?_)))
  show _ = _
  rw [List.take_succ_eq_append_getElem hi]
 ·rintro s rfl
  exact List.take_length.symm
 ·rintro _ rfl
  refine rn_then (ψ := fun s => s = mrg a b) (rn_rloop (fun i s => s = mrg a (b.take i)) (by simp [mrg]) ?_ ?_) ?_
  ·rintro i s hi rfl
   have hlen := (mrg_len (b.take i) a).2
   have htl : (b.take i).length ≤ b.length := by simp; omega
   have hsm : SmH (mrg a (b.take i)) := fun x hx => by
    rcases mrg_mem.1 hx with h | h
    ·exact ha x h
    ·exact hb x (List.mem_of_mem_take h)
   refine rn_then (ψ := fun v => v = mrg a (b.take (i + 1))) (rn_ix hi ?_) fun v hv => rn_some hv
   refine rn_then (ψ := fun v => v = (mrg a (b.take i)).any fun x => sameH x b[i]) (rn_rloop (fun j s => s = ((mrg a (b.take i)).take j).any fun x => sameH x b[i]) (by simp) ?_ ?_) ?_
   ·rintro j s hj rfl
    refine rn_then (ψ := fun v => v = ((mrg a (b.take i)).take (j + 1)).any fun x => sameH x b[i]) (rn_ix hj ?_) fun v hv => rn_some hv
    rw [List.take_succ_eq_append_getElem hj, List.any_append]
    refine rn_if (fun g => rn_some (by rw [g]; rfl)) fun g => rn_call (n_sameHS _ (hsm _ (List.getElem_mem hj))) (rn_some (by rw [g]; simp))
   ·rintro s rfl
    rw [List.take_length]
   ·rintro _ rfl
    rw [mrg_take hi]
    unfold mrg1
    cases hh : ((mrg a (b.take i)).any fun x => sameH x b[i]) with
    | true => exact rn_f rfl (rn_some (by simp))
    | false => exact rn_t rfl (rn_call (n_ownH (hb _ (List.getElem_mem hi))) (rn_gd (by omega) (rn_some (by simp))))
  ·rintro s rfl
   rw [List.take_length]
  ·rintro _ rfl
   exact rn_some rfl
theorem n_MH {a b : List Head} (ha : SmH a) (hb : SmH b) (la : a.length ≤ 1000) (lb : b.length ≤ 1000) : ∃ m t, F_impl_MergeHeads a b = some (m, t) ∧ F_spec_MergeHeads a b = some (m, t) ∧ (t = true → m = mrg a b ∧ m.length ≤ 20 ∧ a.all heaB = true ∧ b.all heaB = true ∧ b.length ≤ 20) := by
 unfold F_impl_MergeHeads F_spec_MergeHeads
 rw [n_heads.1, n_heads.2, n_heads.1, n_heads.2, n_mergeI ha hb la lb, n_mergeS ha hb la lb, Bool.and_comm (a.all heaB), Bool.and_comm (b.all heaB)]
 cases h1 : (decide ((a.length : Int) ≤ 20) && a.all heaB) with
 | false => exact ⟨_, _, rfl, rfl, fun h => by cases h⟩
 | true =>
  cases h2 : (decide ((b.length : Int) ≤ 20) && b.all heaB) with
  | false => exact ⟨_, _, rfl, rfl, fun h => by cases h⟩
  | true =>
   rw [Bool.and_eq_true, decide_eq_true_eq] at h1 h2
   by_cases hm : 20 < (mrg a b).length
   ·rw [if_pos hm, decide_eq_false (show ¬ ((mrg a b).length : Int) ≤ 20 by omega)]
    exact ⟨_, _, rfl, rfl, fun h => by cases h⟩
   ·rw [if_neg hm, decide_eq_true (show ((mrg a b).length : Int) ≤ 20 by omega)]
    exact ⟨_, _, rfl, rfl, fun _ => ⟨rfl, by show (mrg a b).length ≤ 20; omega, h1.2, h2.2, by omega⟩⟩
theorem n_again {a b : List Head} (ha : SmH a) (hb : SmH b) (hm : (mrg a b).length ≤ 20) (h1 : a.all heaB = true) (h2 : b.all heaB = true) (lb : b.length ≤ 20) : F_impl_MergeHeads (mrg a b) b = some (mrg a b, true) := by
 have hs : SmH (mrg a b) := fun x hx => by
  rcases mrg_mem.1 hx with h | h
  ·exact ha x h
  ·exact hb x h
 have h3 : (mrg a b).all heaB = true := by
  rw [List.all_eq_true] at h1 h2 ⊢
  intro x hx
  rcases mrg_mem.1 hx with h | h
  ·exact h1 x h
  ·exact h2 x h
 unfold F_impl_MergeHeads
 rw [n_heads.2, n_heads.2, n_mergeI hs hb (by omega) (by omega), mrg_again, h3, h2, decide_eq_true (show ((mrg a b).length : Int) ≤ 20 by omega), decide_eq_true (show (b.length : Int) ≤ 20 by omega), if_neg (show ¬ 20 < (mrg a b).length by omega)]
 rfl
theorem n_headsD {code c0 : List Int} {at_ seed n : Int} {gr : Group} (hb : Bt code) (h : Cu code n (c0, at_, seed)) (hn : n ≤ 1500000000000000) (k : OkG gr) (g : Gw gr) :
 Rn (F_spec_l1Cur_heads__io0 c0 at_ seed gr) (fun z => z.1.length ≤ 3 ∧ (z.2.1.length ≤ 5 ∧ ∀ h ∈ z.2.1, SmP h.Sign) ∧ Cu code (n + 220) z.2.2) := by
 have hq := k.q
 have hp := k.p
 have hg := k.g
 unfold F_spec_l1Cur_heads__io0
 refine rn_then (n_pick hb h (by omega)) fun z1 ⟨a0, _, a1, _, y1⟩ => ?_
 have a1 := a1 (by omega)
 obtain ⟨i, hi⟩ := Int.eq_ofNat_of_zero_le a0
 rw [hi, wr64 (n := 1 + (i : Int)) (by omega) (by omega), show 1 + (i : Int) = ((1 + i : Nat) : Int) by omega]
 refine rn_then (n_coins hb y1 (by omega) g (by omega)) fun z2 ⟨c1, c2, y2⟩ => ?_
 refine rn_then (ψ := fun x => x.length = z2.1.length) (rn_rloop (fun j s => s.length = j) rfl ?_ fun s h => h) fun x x1 => ?_
 ·rintro j s hj s1
  exact rn_ix hj (rn_call (n_gExp k (by omega) (by omega) _) (rn_gd (by omega) (rn_some (by show (s ++ [_]).length = _; simp [s1]))))
 refine rn_then (n_pick hb y2 (by omega)) fun z3 ⟨b0, _, b1, _, y3⟩ => ?_
 have b1 := b1 (by omega)
 refine rn_then (ψ := fun v => (v.2.length ≤ 5 ∧ ∀ h ∈ v.2, SmP h.Sign) ∧ Cu code (n + 220) v.1) (rn_wloop (fun s => (0 ≤ s.2.2 ∧ (s.2.1.length : Int) + s.2.2 ≤ 5) ∧ (∀ h ∈ s.2.1, SmP h.Sign) ∧ Cu code (n + 200 - 32 * s.2.2) s.1) (fun s => s.2.2.toNat) ⟨⟨b0, by simp; omega⟩, fun h hh => by simp at hh, y3.mono (by show _ ≤ n + 200 - 32 * z3.1; omega)⟩ ?_) fun v ⟨v1, v2⟩ => rn_some ⟨by show x.length ≤ 3; omega, v1, v2⟩
 rintro s ⟨⟨s1, s2⟩, s3, s4⟩
 refine rn_if (fun g => ?_) fun _ => rn_some ⟨⟨by show s.2.1.length ≤ 5; omega, s3⟩, s4.mono (by omega)⟩
 have g0 : 0 < s.2.2 := by simpa using g
 refine rn_then (n_pick hb s4 (by omega)) fun z5 ⟨e0, e1, e2, _, y5⟩ => ?_
 have hd : z5.1 < (z2.1.length : Int) := by
  rcases Int.lt_or_le 1 (x.length : Int) with g | g
  ·have := e2 g; omega
  ·have := e1 g; omega
 obtain ⟨i, hi⟩ := Int.eq_ofNat_of_zero_le e0
 rw [hi] at hd ⊢
 refine rn_ix (by omega) ?_
 refine rn_then (n_pick hb y5 (by omega)) fun z6 ⟨_, _, _, _, y6⟩ => ?_
 refine rn_then (n_pick hb y6 (by omega)) fun z7 ⟨_, _, _, _, y7⟩ => ?_
 refine rn_then (n_pick hb y7 (by omega)) fun z8 ⟨_, _, _, _, y8⟩ => ?_
 obtain ⟨h, t, f1, f3⟩ := n_SignHS gr (z2.1[i]'(by omega)) (i : Int) z6.1 z7.1 (z8.1.tmod gr.Q)
 refine rn_gd (by omega) (rn_call f1 (rn_then (n_one hb y8 (by omega)) fun z9 y9 => ?_))
 refine rn_then (ψ := fun v => SmP ⟨v.2.2.2.2.1, v.2.2.2.2.2.1, v.2.2.2.2.2.2⟩ ∧ Cu code (n + 200 - 32 * s.2.2 + 30) v.1) (rn_if (fun _ => rn_then (n_spoiltH hb y9 (by omega) ‹Gw gr› f3) fun w ⟨s8, y8⟩ => rn_some ⟨s8, y8.mono (by omega)⟩) fun _ => rn_some ⟨⟨by show h.Sign.Commits.length ≤ 1001; omega, by show h.Sign.Challenges.length ≤ 1001; omega, by show h.Sign.Responses.length ≤ 1001; omega⟩, y9.mono (by omega)⟩) fun v ⟨v1, v2⟩ => rn_gd (by omega) (rn_some ?_)
 have ew : IntKind.i64.wrap (s.2.2 - 1) = s.2.2 - 1 := wr64 (by omega) (by omega)
 rw [ew]
 refine ⟨⟨⟨by show 0 ≤ s.2.2 - 1; omega, by show (((s.2.1 ++ [_]).length : Nat) : Int) + (s.2.2 - 1) ≤ 5; simp; omega⟩, fun f hf => ?_, v2.mono (by show _ ≤ n + 200 - 32 * (s.2.2 - 1); omega)⟩, by show (s.2.2 - 1).toNat < s.2.2.toNat; omega⟩
 rcases List.mem_append.1 (show f ∈ s.2.1 ++ [_] from hf) with hf | hf
 ·exact s3 f hf
 ·rw [List.mem_singleton.1 hf]; exact v1
theorem n_anyHeads {code c0 : List Int} {at_ seed n : Int} (hb : Bt code) (h : Cu code n (c0, at_, seed)) (hn : n ≤ 1000000000000000) : Rn (F_spec_l1Cur_anyHeads__io0 c0 at_ seed) (fun z => z.2.1.length ≤ 4 ∧ (z.2.2.1.length ≤ 21 ∧ ∀ h ∈ z.2.2.1, SmP h.Sign) ∧ Cu code (n + 250) z.2.2.2) := by
 unfold F_spec_l1Cur_anyHeads__io0
 refine rn_then (n_anyGroup hb h (by omega)) fun z1 ⟨g1, y1⟩ => ?_
 refine rn_call (n_l2Good z1.1) (rn_if (fun _ => rn_some ⟨by simp, ⟨by simp, fun h hh => by simp at hh⟩, y1.mono (by omega)⟩) fun g => ?_)
 have ko : OkG z1.1 := okG_t.1 (by simpa using g)
 refine rn_then (n_headsD hb y1 (by omega) ko g1) fun z2 ⟨a1, ⟨a2, a3⟩, y2⟩ => ?_
 refine rn_then (n_pick hb y2 (by omega)) fun z3 ⟨_, _, _, _, y3⟩ => ?_
 refine rn_then (ψ := fun v => v.2.1.length ≤ 4 ∧ (v.2.2.length ≤ 21 ∧ ∀ h ∈ v.2.2, SmP h.Sign) ∧ Cu code (n + 250) v.1) ?_ fun v hv => rn_some hv
 refine rn_if (fun _ => rn_then (n_anyElement hb y3 (by omega) g1) fun z4 ⟨_, _, y4⟩ => rn_gd (by omega) (rn_some ⟨by show (z2.1 ++ [_]).length ≤ 4; simp; omega, ⟨by show z2.2.1.length ≤ 21; omega, a3⟩, y4.mono (by omega)⟩)) fun _ => ?_
 refine rn_if (fun _ => ?_) fun _ => rn_some ⟨by show z2.1.length ≤ 4; omega, ⟨by show z2.2.1.length ≤ 21; omega, a3⟩, y3.mono (by omega)⟩
 refine rn_then (n_pick hb y3 (by omega)) fun z4 ⟨b0, _, b1, _, y4⟩ => ?_
 have b1 := b1 (by omega)
 refine rn_wloop (fun s => s.length ≤ 21 ∧ ∀ h ∈ s, SmP h.Sign) (fun s => 21 - s.length) ⟨by omega, a3⟩ ?_
 rintro s ⟨s1, s2⟩
 rw [wr64 (n := 20 + z4.1) (by omega) (by omega)]
 refine rn_if (fun g => ?_) fun _ => rn_some ⟨by show z2.1.length ≤ 4; omega, ⟨s1, s2⟩, y4.mono (by omega)⟩
 have g : (s.length : Int) < 20 + z4.1 := by simpa using g
 refine rn_gd (by omega) (rn_some ⟨⟨by show (s ++ [_]).length ≤ 21; simp; omega, fun f hf => ?_⟩, by show 21 - (s ++ [_]).length < 21 - s.length; simp; omega⟩)
 rcases List.mem_append.1 (show f ∈ s ++ [_] from hf) with hf | hf
 ·exact s2 f hf
 ·rw [List.mem_singleton.1 hf]; exact ⟨by simp, by simp, by simp⟩
theorem n_mostL (a b : Int) : F_spec_l1Most a b = some (if b < a then a else b) := by unfold F_spec_l1Most; by_cases h : b < a <;> simp [h]
theorem n_DFF {code : List Int} (hb : Bt code) : Rn (F_spec_DrawFindFork code) (fun z => z.2.2.length ≤ 21 ∧ ∀ h ∈ z.2.2, SmP h.Sign) := by
 unfold F_spec_DrawFindFork
 exact rn_then (n_anyHeads hb (cu0 code) (by omega)) fun z1 ⟨_, h2, _⟩ => rn_some h2
theorem n_DMH {code : List Int} (hb : Bt code) : Rn (F_spec_DrawMergeHeads code) (fun z => (z.1.length ≤ 100 ∧ ∀ h ∈ z.1, SmP h.Sign) ∧ z.2.length ≤ 100 ∧ ∀ h ∈ z.2, SmP h.Sign) := by
 unfold F_spec_DrawMergeHeads
 refine rn_then (n_anyHeads hb (cu0 code) (by omega)) fun z1 ⟨_, ⟨h1, h2⟩, y1⟩ => ?_
 generalize z1.2.2.1 = l at h1 h2 ⊢
 rw [wr64 (n := (l.length : Int) + 1) (by omega) (by omega)]
 refine rn_then (n_pick hb y1 (by omega)) fun z2 ⟨c0, c1, c2, _, _⟩ => ?_
 have hc : z2.1 ≤ (l.length : Int) := by
  rcases Int.lt_or_le 1 ((l.length : Int) + 1) with g | g
  ·have := c2 g; omega
  ·have := c1 g; omega
 obtain ⟨k, hk⟩ := Int.eq_ofNat_of_zero_le c0
 rw [hk] at hc ⊢
 rw [n_mostL, wr64 (n := (k : Int) - 1) (by omega) (by omega), wr64 (n := 2 * (l.length : Int)) (by omega) (by omega)]
 obtain ⟨m, hm, hml⟩ : ∃ m : Nat, (if (k : Int) - 1 < 0 then 0 else (k : Int) - 1) = (m : Int) ∧ m ≤ l.length := by
  by_cases h : (k : Int) - 1 < 0
  ·exact ⟨0, if_pos h, by omega⟩
  ·exact ⟨k - 1, by rw [if_neg h]; omega, by omega⟩
 rw [hm]
 have e1 : ((l.take l.length).drop ((m : Int)).toNat).length = l.length - m := by simp
 refine rn_gd (by omega) (rn_gd (by omega) (rn_call rfl (rn_gd (by omega) (rn_gd (by omega) (rn_gd (by omega) (rn_gd (by omega) (rn_call rfl ?_)))))))
 rw [wr64 (n := 2 * (l.length : Int) - m) (by omega) (by omega), n_least]
 refine rn_call rfl ?_
 obtain ⟨q, hq, hql⟩ : ∃ q : Nat, (if (20 : Int) < 2 * (l.length : Int) - m then 20 else 2 * (l.length : Int) - m) = (q : Int) ∧ q ≤ 2 * l.length - m := by
  by_cases h : (20 : Int) < 2 * (l.length : Int) - m
  ·exact ⟨20, if_pos h, by omega⟩
  ·exact ⟨2 * l.length - m, by rw [if_neg h]; omega, by omega⟩
 rw [hq]
 have e2 : ((l.take l.length).drop ((m : Int)).toNat ++ l).length = l.length - m + l.length := by rw [List.length_append, e1]
 refine rn_gd (by omega) (rn_gd (by omega) (rn_some ⟨⟨?_, fun h hh => h2 h (List.mem_of_mem_take hh)⟩, ?_, fun h hh => ?_⟩))
 ·show (l.take _).length ≤ 100
  simp; omega
 ·show (((l.take l.length).drop ((m : Int)).toNat ++ l).take _).length ≤ 100
  rw [List.length_take]; omega
 ·have hh := List.mem_of_mem_take hh
  rcases List.mem_append.1 hh with h | h
  ·exact h2 _ (List.mem_of_mem_take (List.mem_of_mem_drop h))
  ·exact h2 _ h
theorem law21 (a b : List Int) (h0 : ∀ x ∈ a, 0 ≤ x ∧ x ≤ 255) (h1 : ∀ x ∈ b, 0 ≤ x ∧ x ≤ 255) (hl0 : a.length ≤ 1048576) (hl1 : b.length ≤ 1048576) : F_laws_FnForks a b = some true := by
 unfold F_laws_FnForks F_laws_big
 refine eq_of_rn (rn_then (ψ := fun _ => True) ?_ fun v _ => ?_)
 ·exact rn_then (ψ := fun _ => True) (rn_if (fun _ => rn_some trivial) fun _ => rn_some trivial) fun _ _ => rn_some trivial
 refine rn_if (fun _ => rn_some rfl) fun _ => ?_
 refine rn_then (n_DFF ⟨h0, hl0⟩) fun z ⟨s1, s2⟩ => ?_
 obtain ⟨t, f1, f2⟩ := n_FindFork z.1 z.2.1 (l := z.2.2) (fun h hh => smP_l (s2 h hh)) (by omega)
 refine rn_then f1 fun p ⟨p1, p2⟩ => rn_then f2 fun q q1 => ?_
 refine rn_f (by rw [p1, q1]; simp) ?_
 refine rn_then (ψ := fun v => v = .inl ()) (rn_if (fun g => ?_) fun _ => rn_some rfl) ?_
 ·rw [p1] at g
  obtain ⟨hg, hk, x, y, e1, e2, e3, e4⟩ := p2 g
  rw [e4]
  refine rn_call (n_IsFE hg hk e2 e3 e1) (rn_call (n_IsFE hg hk e3 e2 (fkB_symm e1)) (rn_call (n_CompF e1) ?_))
  refine rn_then (ψ := fun v => v = false) (rn_f rfl (rn_f rfl (rn_f rfl (rn_f rfl (rn_f rfl (rn_some rfl)))))) ?_
  rintro _ rfl
  exact rn_f rfl (rn_some rfl)
 ·rintro _ rfl
  refine rn_then (n_DMH ⟨h1, hl1⟩) fun y ⟨⟨y1, y2⟩, y3, y4⟩ => ?_
  obtain ⟨m, u, m1, m2, m3⟩ := n_MH (a := y.1) (b := y.2) (fun h hh => smP_l (y2 h hh)) (fun h hh => smP_l (y4 h hh)) (by omega) (by omega)
  refine rn_call m1 (rn_call m2 ?_)
  refine rn_then (ψ := fun v => v = false) (rn_f (by simp) (rn_some (by simp))) ?_
  rintro _ rfl
  refine rn_f rfl (rn_if (fun g => ?_) fun _ => rn_some rfl)
  obtain ⟨rfl, n1, n2, n3, n4⟩ := m3 g
  refine rn_call (n_again (fun h hh => smP_l (y2 h hh)) (fun h hh => smP_l (y4 h hh)) n1 n2 n3 n4) ?_
  refine rn_then (ψ := fun v => v = true) (rn_t rfl (rn_t (by simp) (rn_some (decide_eq_true (by have := (mrg_len y.2 y.1).1; show (y.1.length : Int) ≤ ((mrg y.1 y.2).length : Int); omega))))) ?_
  rintro _ rfl
  exact rn_some rfl
end Go.Pm
